/- Contracts: a book as the document's. -/
import Derived.Test.YtbhjjheefdilbaaPayC11
import Derived.Test.YtbhjjheefdilbaaPaySh0
import Derived.Test.YtbhjjheefdilbaaPaySh1
set_option linter.unusedSimpArgs false
set_option linter.unusedVariables false
namespace Pay
open Go
attribute [local irreducible] wpB opsB treeB drawB

def smallE (e : Ent) : Bool := decide (e.fixes.length ≤ 40) && (decide (e.lines.length ≤ 70) && (decide (e.paid.length ≤ 40) && (decide (e.owed.length ≤ 40) && decide (e.garn.length ≤ 40))))
def refsB (l : List Ent) : Bool := decide (l.length ≤ 40) && l.all smallE
def refsR (l : List Ent) : List Ent := if refsB l = true then l else []

theorem refs_loop {C : Ctx} (hRef : ∀ e : Ent, e.lines.length < 1000 → e.fixes.length < 1000 → SoundAt C 12 ⟨[vEnt e], looko []⟩ ⟨vEnt e, looko []⟩) {I : Nat → Prop} (hI : ∀ n, ¬ I n) {Q : Ex → St → Prop} {l : List Ent} (hl : l.length ≤ 40)
    (hT : l.all smallE = true → ∀ s, s 4 = ownV 54 l → Q (.exit 0) (St.mk s (looko [(54, ownO 22 enc l)])))
    (hF : l.all smallE = false → ∀ o, Q .ret (St.mk (look [(2, .cap0), (3, vB false)]) o)) :
    ∀ (n k : Nat) (acc : List Ent), k + n = l.length → acc = l.take k → acc.all smallE = true →
      wpB C I g_law17_refs.l0 (St.mk (look [(4, ownV 54 acc), (12, vEnts l), (13, vI l.length), (14, vI k)]) (looko [(54, ownO 22 enc acc)])) Q := by
  intro n
  induction n with
  | zero =>
    intro k acc hk ha hs
    refine g_law17_refs_l0_sh rfl ?_
    have hk' : k = l.length := by omega
    subst hk'
    rw [List.take_length] at ha
    subst ha
    simp only [go_sem, ↓reduceIte, Nat.reduceEqDiff, Nat.reduceAdd, Nat.reduceSub, Nat.reduceMul, Nat.reduceLeDiff, Nat.reduceBEq, reduceCtorEq, Nat.reduceEqDiff, Int.reduceEq, Int.reduceLT, Int.reduceLE, Int.reduceNeg, Int.reduceBEq, Int.reduceBNe, Int.reduceToNat, Int.reducePow, Int.lt_irrefl, decide_false]
    exact hT hs _ rfl
  | succ n ih =>
    intro k acc hk ha hs
    refine g_law17_refs_l0_sh rfl ?_
    have hlt : k < l.length := by omega
    have he := List.getElem?_eq_getElem hlt
    have hlt' : ((k : Int) < (l.length : Int)) := by omega
    have hw1 : IntKind.i64.wrap ((k : Int) + 1) = (k : Int) + 1 := wrapI (by omega) (by omega)
    have hal : acc.length ≤ 39 := by rw [ha]; simp; omega
    have bad : smallE l[k] = false → ∀ o, Q .ret (St.mk (look [(2, .cap0), (3, vB false)]) o) := fun h => hF (by
      rw [List.all_eq_false]; exact ⟨l[k], List.getElem_mem hlt, by simp [h]⟩)
    have hr4 : ∀ nm, (54 == nm) = false → V.refs nm (ownV 54 acc) = false := fun nm h => ownV_refs h acc
    by_cases b1 : (l[k].fixes.length : Int) > 40
    · repeat (first | simp only [go_sem, ↓reduceIte, Nat.reduceEqDiff, Nat.reduceAdd, Nat.reduceSub, Nat.reduceMul, Nat.reduceLeDiff, Nat.reduceBEq, reduceCtorEq, Nat.reduceEqDiff, Int.reduceEq, Int.reduceLT, Int.reduceLE, Int.reduceNeg, Int.reduceBEq, Int.reduceBNe, Int.reduceToNat, Int.reducePow, ownO_fresh, hr4, hI, hlt', Int.natCast_nonneg, Int.toNat_natCast, getMap enc he, List.getElem?_map, enc_g21, List.length_map, b1] | refine g_law17_refs_o7_sh.mpr ?_ | refine g_law17_refs_o6_sh.mpr ?_ | refine g_law17_refs_o5_sh.mpr ?_ | refine g_law17_refs_o4_sh.mpr ?_ | refine g_law17_refs_o3_sh.mpr ?_ | refine g_law17_refs_o2_sh.mpr ?_ | refine g_law17_refs_o1_sh.mpr ?_ | refine g_law17_refs_o0_sh.mpr ?_ | refine g_law17_refs_c0_sh.mpr ?_ | refine g_law17_refs_c1_sh.mpr ?_ | refine g_law17_refs_c2_sh.mpr ?_ | refine g_law17_refs_c3_sh.mpr ?_ | refine g_law17_refs_c4_sh.mpr ?_ | refine g_law17_refs_c5_sh.mpr ?_ | refine g_law17_refs_c6_sh.mpr ?_ | refine g_law17_refs_code_sh.mpr ?_)
      exact bad (by simp [smallE]; omega) _
    by_cases b2 : (l[k].lines.length : Int) > 70
    · repeat (first | simp only [go_sem, ↓reduceIte, Nat.reduceEqDiff, Nat.reduceAdd, Nat.reduceSub, Nat.reduceMul, Nat.reduceLeDiff, Nat.reduceBEq, reduceCtorEq, Nat.reduceEqDiff, Int.reduceEq, Int.reduceLT, Int.reduceLE, Int.reduceNeg, Int.reduceBEq, Int.reduceBNe, Int.reduceToNat, Int.reducePow, ownO_fresh, hr4, hI, hlt', Int.natCast_nonneg, Int.toNat_natCast, getMap enc he, List.getElem?_map, enc_g21, enc_g5, List.length_map, b1, b2] | refine g_law17_refs_o7_sh.mpr ?_ | refine g_law17_refs_o6_sh.mpr ?_ | refine g_law17_refs_o5_sh.mpr ?_ | refine g_law17_refs_o4_sh.mpr ?_ | refine g_law17_refs_o3_sh.mpr ?_ | refine g_law17_refs_o2_sh.mpr ?_ | refine g_law17_refs_o1_sh.mpr ?_ | refine g_law17_refs_o0_sh.mpr ?_ | refine g_law17_refs_c0_sh.mpr ?_ | refine g_law17_refs_c1_sh.mpr ?_ | refine g_law17_refs_c2_sh.mpr ?_ | refine g_law17_refs_c3_sh.mpr ?_ | refine g_law17_refs_c4_sh.mpr ?_ | refine g_law17_refs_c5_sh.mpr ?_ | refine g_law17_refs_c6_sh.mpr ?_ | refine g_law17_refs_code_sh.mpr ?_)
      exact bad (by simp [smallE]; omega) _
    by_cases b3 : (l[k].paid.length : Int) > 40
    · repeat (first | simp only [go_sem, ↓reduceIte, Nat.reduceEqDiff, Nat.reduceAdd, Nat.reduceSub, Nat.reduceMul, Nat.reduceLeDiff, Nat.reduceBEq, reduceCtorEq, Nat.reduceEqDiff, Int.reduceEq, Int.reduceLT, Int.reduceLE, Int.reduceNeg, Int.reduceBEq, Int.reduceBNe, Int.reduceToNat, Int.reducePow, ownO_fresh, hr4, hI, hlt', Int.natCast_nonneg, Int.toNat_natCast, getMap enc he, List.getElem?_map, enc_g21, enc_g5, enc_g18, List.length_map, b1, b2, b3] | refine g_law17_refs_o7_sh.mpr ?_ | refine g_law17_refs_o6_sh.mpr ?_ | refine g_law17_refs_o5_sh.mpr ?_ | refine g_law17_refs_o4_sh.mpr ?_ | refine g_law17_refs_o3_sh.mpr ?_ | refine g_law17_refs_o2_sh.mpr ?_ | refine g_law17_refs_o1_sh.mpr ?_ | refine g_law17_refs_o0_sh.mpr ?_ | refine g_law17_refs_c0_sh.mpr ?_ | refine g_law17_refs_c1_sh.mpr ?_ | refine g_law17_refs_c2_sh.mpr ?_ | refine g_law17_refs_c3_sh.mpr ?_ | refine g_law17_refs_c4_sh.mpr ?_ | refine g_law17_refs_c5_sh.mpr ?_ | refine g_law17_refs_c6_sh.mpr ?_ | refine g_law17_refs_code_sh.mpr ?_)
      exact bad (by simp [smallE]; omega) _
    by_cases b4 : (l[k].owed.length : Int) > 40
    · repeat (first | simp only [go_sem, ↓reduceIte, Nat.reduceEqDiff, Nat.reduceAdd, Nat.reduceSub, Nat.reduceMul, Nat.reduceLeDiff, Nat.reduceBEq, reduceCtorEq, Nat.reduceEqDiff, Int.reduceEq, Int.reduceLT, Int.reduceLE, Int.reduceNeg, Int.reduceBEq, Int.reduceBNe, Int.reduceToNat, Int.reducePow, ownO_fresh, hr4, hI, hlt', Int.natCast_nonneg, Int.toNat_natCast, getMap enc he, List.getElem?_map, enc_g21, enc_g5, enc_g18, enc_g19, List.length_map, b1, b2, b3, b4] | refine g_law17_refs_o7_sh.mpr ?_ | refine g_law17_refs_o6_sh.mpr ?_ | refine g_law17_refs_o5_sh.mpr ?_ | refine g_law17_refs_o4_sh.mpr ?_ | refine g_law17_refs_o3_sh.mpr ?_ | refine g_law17_refs_o2_sh.mpr ?_ | refine g_law17_refs_o1_sh.mpr ?_ | refine g_law17_refs_o0_sh.mpr ?_ | refine g_law17_refs_c0_sh.mpr ?_ | refine g_law17_refs_c1_sh.mpr ?_ | refine g_law17_refs_c2_sh.mpr ?_ | refine g_law17_refs_c3_sh.mpr ?_ | refine g_law17_refs_c4_sh.mpr ?_ | refine g_law17_refs_c5_sh.mpr ?_ | refine g_law17_refs_c6_sh.mpr ?_ | refine g_law17_refs_code_sh.mpr ?_)
      exact bad (by simp [smallE]; omega) _
    by_cases b5 : (l[k].garn.length : Int) > 40
    · repeat (first | simp only [go_sem, ↓reduceIte, Nat.reduceEqDiff, Nat.reduceAdd, Nat.reduceSub, Nat.reduceMul, Nat.reduceLeDiff, Nat.reduceBEq, reduceCtorEq, Nat.reduceEqDiff, Int.reduceEq, Int.reduceLT, Int.reduceLE, Int.reduceNeg, Int.reduceBEq, Int.reduceBNe, Int.reduceToNat, Int.reducePow, ownO_fresh, hr4, hI, hlt', Int.natCast_nonneg, Int.toNat_natCast, getMap enc he, List.getElem?_map, enc_g21, enc_g5, enc_g18, enc_g19, enc_g20, List.length_map, b1, b2, b3, b4, b5] | refine g_law17_refs_o7_sh.mpr ?_ | refine g_law17_refs_o6_sh.mpr ?_ | refine g_law17_refs_o5_sh.mpr ?_ | refine g_law17_refs_o4_sh.mpr ?_ | refine g_law17_refs_o3_sh.mpr ?_ | refine g_law17_refs_o2_sh.mpr ?_ | refine g_law17_refs_o1_sh.mpr ?_ | refine g_law17_refs_o0_sh.mpr ?_ | refine g_law17_refs_c0_sh.mpr ?_ | refine g_law17_refs_c1_sh.mpr ?_ | refine g_law17_refs_c2_sh.mpr ?_ | refine g_law17_refs_c3_sh.mpr ?_ | refine g_law17_refs_c4_sh.mpr ?_ | refine g_law17_refs_c5_sh.mpr ?_ | refine g_law17_refs_c6_sh.mpr ?_ | refine g_law17_refs_code_sh.mpr ?_)
      exact bad (by simp [smallE]; omega) _
    have good : smallE l[k] = true := by simp [smallE]; omega
    have next := ih (k + 1) (acc ++ [l[k]]) (by omega) (by rw [ha, List.take_add_one, he]; rfl) (by rw [List.all_append, hs]; simp [good])
    rw [ownV_snoc, ownO_snoc] at next
    repeat (first | simp only [go_sem, ↓reduceIte, Nat.reduceEqDiff, Nat.reduceAdd, Nat.reduceSub, Nat.reduceMul, Nat.reduceLeDiff, Nat.reduceBEq, reduceCtorEq, Nat.reduceEqDiff, Int.reduceEq, Int.reduceLT, Int.reduceLE, Int.reduceNeg, Int.reduceBEq, Int.reduceBNe, Int.reduceToNat, Int.reducePow, ownO_fresh, hr4, hI, hlt', Int.natCast_nonneg, Int.toNat_natCast, getMap enc he, List.getElem?_map, enc_g21, enc_g5, enc_g18, enc_g19, enc_g20, List.length_map, b1, b2, b3, b4, b5] | refine g_law17_refs_o7_sh.mpr ?_ | refine g_law17_refs_o6_sh.mpr ?_ | refine g_law17_refs_o5_sh.mpr ?_ | refine g_law17_refs_o4_sh.mpr ?_ | refine g_law17_refs_o3_sh.mpr ?_ | refine g_law17_refs_o2_sh.mpr ?_ | refine g_law17_refs_o1_sh.mpr ?_ | refine g_law17_refs_o0_sh.mpr ?_ | refine g_law17_refs_c0_sh.mpr ?_ | refine g_law17_refs_c1_sh.mpr ?_ | refine g_law17_refs_c2_sh.mpr ?_ | refine g_law17_refs_c3_sh.mpr ?_ | refine g_law17_refs_c4_sh.mpr ?_ | refine g_law17_refs_c5_sh.mpr ?_ | refine g_law17_refs_c6_sh.mpr ?_ | refine g_law17_refs_code_sh.mpr ?_)
    refine callK_plain (hRef l[k] (by omega) (by omega)) (fun n => by simp only [go_sem, ↓reduceIte, Nat.reduceEqDiff, Nat.reduceAdd, Nat.reduceSub, Nat.reduceMul, Nat.reduceLeDiff, Nat.reduceBEq, reduceCtorEq, Nat.reduceEqDiff, Int.reduceEq, Int.reduceLT, Int.reduceLE, Int.reduceNeg, Int.reduceBEq, Int.reduceBNe, Int.reduceToNat, Int.reducePow]) ?_
    cases acc with
    | nil =>
      repeat (first | simp only [go_sem, ↓reduceIte, Nat.reduceEqDiff, Nat.reduceAdd, Nat.reduceSub, Nat.reduceMul, Nat.reduceLeDiff, Nat.reduceBEq, reduceCtorEq, Nat.reduceEqDiff, Int.reduceEq, Int.reduceLT, Int.reduceLE, Int.reduceNeg, Int.reduceBEq, Int.reduceBNe, Int.reduceToNat, Int.reducePow, ownV, ownO, hI, hw1] | refine g_law17_refs_o7_sh.mpr ?_ | refine g_law17_refs_o6_sh.mpr ?_ | refine g_law17_refs_o5_sh.mpr ?_ | refine g_law17_refs_o4_sh.mpr ?_ | refine g_law17_refs_o3_sh.mpr ?_ | refine g_law17_refs_o2_sh.mpr ?_ | refine g_law17_refs_o1_sh.mpr ?_ | refine g_law17_refs_o0_sh.mpr ?_ | refine g_law17_refs_c0_sh.mpr ?_ | refine g_law17_refs_c1_sh.mpr ?_ | refine g_law17_refs_c2_sh.mpr ?_ | refine g_law17_refs_c3_sh.mpr ?_ | refine g_law17_refs_c4_sh.mpr ?_ | refine g_law17_refs_c5_sh.mpr ?_ | refine g_law17_refs_c6_sh.mpr ?_ | refine g_law17_refs_code_sh.mpr ?_)
      exact next
    | cons a r =>
      repeat (first | simp only [go_sem, ↓reduceIte, Nat.reduceEqDiff, Nat.reduceAdd, Nat.reduceSub, Nat.reduceMul, Nat.reduceLeDiff, Nat.reduceBEq, reduceCtorEq, Nat.reduceEqDiff, Int.reduceEq, Int.reduceLT, Int.reduceLE, Int.reduceNeg, Int.reduceBEq, Int.reduceBNe, Int.reduceToNat, Int.reducePow, ownV, ownO, hI, hw1] | refine g_law17_refs_o7_sh.mpr ?_ | refine g_law17_refs_o6_sh.mpr ?_ | refine g_law17_refs_o5_sh.mpr ?_ | refine g_law17_refs_o4_sh.mpr ?_ | refine g_law17_refs_o3_sh.mpr ?_ | refine g_law17_refs_o2_sh.mpr ?_ | refine g_law17_refs_o1_sh.mpr ?_ | refine g_law17_refs_o0_sh.mpr ?_ | refine g_law17_refs_c0_sh.mpr ?_ | refine g_law17_refs_c1_sh.mpr ?_ | refine g_law17_refs_c2_sh.mpr ?_ | refine g_law17_refs_c3_sh.mpr ?_ | refine g_law17_refs_c4_sh.mpr ?_ | refine g_law17_refs_c5_sh.mpr ?_ | refine g_law17_refs_c6_sh.mpr ?_ | refine g_law17_refs_code_sh.mpr ?_)
      refine ⟨by simp at hal ⊢; omega, by simp at hal ⊢; omega, ?_⟩
      repeat (first | simp only [go_sem, ↓reduceIte, Nat.reduceEqDiff, Nat.reduceAdd, Nat.reduceSub, Nat.reduceMul, Nat.reduceLeDiff, Nat.reduceBEq, reduceCtorEq, Nat.reduceEqDiff, Int.reduceEq, Int.reduceLT, Int.reduceLE, Int.reduceNeg, Int.reduceBEq, Int.reduceBNe, Int.reduceToNat, Int.reducePow, hw1] | refine g_law17_refs_o7_sh.mpr ?_ | refine g_law17_refs_o6_sh.mpr ?_ | refine g_law17_refs_o5_sh.mpr ?_ | refine g_law17_refs_o4_sh.mpr ?_ | refine g_law17_refs_o3_sh.mpr ?_ | refine g_law17_refs_o2_sh.mpr ?_ | refine g_law17_refs_o1_sh.mpr ?_ | refine g_law17_refs_o0_sh.mpr ?_ | refine g_law17_refs_c0_sh.mpr ?_ | refine g_law17_refs_c1_sh.mpr ?_ | refine g_law17_refs_c2_sh.mpr ?_ | refine g_law17_refs_c3_sh.mpr ?_ | refine g_law17_refs_c4_sh.mpr ?_ | refine g_law17_refs_c5_sh.mpr ?_ | refine g_law17_refs_c6_sh.mpr ?_ | refine g_law17_refs_code_sh.mpr ?_)
      exact next

theorem refs0 {C : Ctx} (h3 : okFn C.P C.φ 3 g_law17_refs = true) (hRef : ∀ e : Ent, e.lines.length < 1000 → e.fixes.length < 1000 → SoundAt C 12 ⟨[vEnt e], looko []⟩ ⟨vEnt e, looko []⟩) (l : List Ent) :
    SoundAt C 3 ⟨[vBook l], looko []⟩ ⟨.tup [slV enc (refsR l), vB (refsB l)], looko []⟩ := by
  refine SoundAt.of_run h3 rfl (fun Q hR _ => ?_)
  rw [entry1]
  by_cases h1 : (l.length : Int) > 40
  · have hb : refsB l = false := by simp [refsB]; omega
    have hr : refsR l = [] := by simp [refsR, hb]
    repeat (first | simp only [go_sem, ↓reduceIte, Nat.reduceEqDiff, Nat.reduceAdd, Nat.reduceSub, Nat.reduceMul, Nat.reduceLeDiff, Nat.reduceBEq, reduceCtorEq, Nat.reduceEqDiff, Int.reduceEq, Int.reduceLT, Int.reduceLE, Int.reduceNeg, Int.reduceBEq, Int.reduceBNe, Int.reduceToNat, Int.reducePow, List.length_map, h1] | refine g_law17_refs_o7_sh.mpr ?_ | refine g_law17_refs_o6_sh.mpr ?_ | refine g_law17_refs_o5_sh.mpr ?_ | refine g_law17_refs_o4_sh.mpr ?_ | refine g_law17_refs_o3_sh.mpr ?_ | refine g_law17_refs_o2_sh.mpr ?_ | refine g_law17_refs_o1_sh.mpr ?_ | refine g_law17_refs_o0_sh.mpr ?_ | refine g_law17_refs_c0_sh.mpr ?_ | refine g_law17_refs_c1_sh.mpr ?_ | refine g_law17_refs_c2_sh.mpr ?_ | refine g_law17_refs_c3_sh.mpr ?_ | refine g_law17_refs_c4_sh.mpr ?_ | refine g_law17_refs_c5_sh.mpr ?_ | refine g_law17_refs_c6_sh.mpr ?_ | refine g_law17_refs_code_sh.mpr ?_)
    refine hR _ ?_
    simp only [go_sem, ↓reduceIte, Nat.reduceEqDiff, Nat.reduceAdd, Nat.reduceSub, Nat.reduceMul, Nat.reduceLeDiff, Nat.reduceBEq, reduceCtorEq, Nat.reduceEqDiff, Int.reduceEq, Int.reduceLT, Int.reduceLE, Int.reduceNeg, Int.reduceBEq, Int.reduceBNe, Int.reduceToNat, Int.reducePow, hb, hr, slV]
  · repeat (first | simp only [go_sem, ↓reduceIte, Nat.reduceEqDiff, Nat.reduceAdd, Nat.reduceSub, Nat.reduceMul, Nat.reduceLeDiff, Nat.reduceBEq, reduceCtorEq, Nat.reduceEqDiff, Int.reduceEq, Int.reduceLT, Int.reduceLE, Int.reduceNeg, Int.reduceBEq, Int.reduceBNe, Int.reduceToNat, Int.reducePow, List.length_map, h1] | refine g_law17_refs_o7_sh.mpr ?_ | refine g_law17_refs_o6_sh.mpr ?_ | refine g_law17_refs_o5_sh.mpr ?_ | refine g_law17_refs_o4_sh.mpr ?_ | refine g_law17_refs_o3_sh.mpr ?_ | refine g_law17_refs_o2_sh.mpr ?_ | refine g_law17_refs_o1_sh.mpr ?_ | refine g_law17_refs_o0_sh.mpr ?_ | refine g_law17_refs_c0_sh.mpr ?_ | refine g_law17_refs_c1_sh.mpr ?_ | refine g_law17_refs_c2_sh.mpr ?_ | refine g_law17_refs_c3_sh.mpr ?_ | refine g_law17_refs_c4_sh.mpr ?_ | refine g_law17_refs_c5_sh.mpr ?_ | refine g_law17_refs_c6_sh.mpr ?_ | refine g_law17_refs_code_sh.mpr ?_)
    refine refs_loop hRef (fun _ h => h) (by omega) (fun hs s h4 => ?_) (fun hs o => ?_) l.length 0 [] (by omega) rfl rfl
    · have hb : refsB l = true := by simp [refsB] at hs ⊢; exact ⟨by omega, hs⟩
      have hr : refsR l = l := by simp [refsR, hb]
      cases l with
      | nil =>
        repeat (first | simp only [go_sem, ↓reduceIte, Nat.reduceEqDiff, Nat.reduceAdd, Nat.reduceSub, Nat.reduceMul, Nat.reduceLeDiff, Nat.reduceBEq, reduceCtorEq, Nat.reduceEqDiff, Int.reduceEq, Int.reduceLT, Int.reduceLE, Int.reduceNeg, Int.reduceBEq, Int.reduceBNe, Int.reduceToNat, Int.reducePow, h4, ownV, ownO] | refine g_law17_refs_o7_sh.mpr ?_ | refine g_law17_refs_o6_sh.mpr ?_ | refine g_law17_refs_o5_sh.mpr ?_ | refine g_law17_refs_o4_sh.mpr ?_ | refine g_law17_refs_o3_sh.mpr ?_ | refine g_law17_refs_o2_sh.mpr ?_ | refine g_law17_refs_o1_sh.mpr ?_ | refine g_law17_refs_o0_sh.mpr ?_ | refine g_law17_refs_c0_sh.mpr ?_ | refine g_law17_refs_c1_sh.mpr ?_ | refine g_law17_refs_c2_sh.mpr ?_ | refine g_law17_refs_c3_sh.mpr ?_ | refine g_law17_refs_c4_sh.mpr ?_ | refine g_law17_refs_c5_sh.mpr ?_ | refine g_law17_refs_c6_sh.mpr ?_ | refine g_law17_refs_code_sh.mpr ?_)
        refine hR _ ?_
        simp only [go_sem, ↓reduceIte, Nat.reduceEqDiff, Nat.reduceAdd, Nat.reduceSub, Nat.reduceMul, Nat.reduceLeDiff, Nat.reduceBEq, reduceCtorEq, Nat.reduceEqDiff, Int.reduceEq, Int.reduceLT, Int.reduceLE, Int.reduceNeg, Int.reduceBEq, Int.reduceBNe, Int.reduceToNat, Int.reducePow, hb, hr, slV]
      | cons a r =>
        repeat (first | simp only [go_sem, ↓reduceIte, Nat.reduceEqDiff, Nat.reduceAdd, Nat.reduceSub, Nat.reduceMul, Nat.reduceLeDiff, Nat.reduceBEq, reduceCtorEq, Nat.reduceEqDiff, Int.reduceEq, Int.reduceLT, Int.reduceLE, Int.reduceNeg, Int.reduceBEq, Int.reduceBNe, Int.reduceToNat, Int.reducePow, h4, ownV, ownO] | refine g_law17_refs_o7_sh.mpr ?_ | refine g_law17_refs_o6_sh.mpr ?_ | refine g_law17_refs_o5_sh.mpr ?_ | refine g_law17_refs_o4_sh.mpr ?_ | refine g_law17_refs_o3_sh.mpr ?_ | refine g_law17_refs_o2_sh.mpr ?_ | refine g_law17_refs_o1_sh.mpr ?_ | refine g_law17_refs_o0_sh.mpr ?_ | refine g_law17_refs_c0_sh.mpr ?_ | refine g_law17_refs_c1_sh.mpr ?_ | refine g_law17_refs_c2_sh.mpr ?_ | refine g_law17_refs_c3_sh.mpr ?_ | refine g_law17_refs_c4_sh.mpr ?_ | refine g_law17_refs_c5_sh.mpr ?_ | refine g_law17_refs_c6_sh.mpr ?_ | refine g_law17_refs_code_sh.mpr ?_)
        refine hR _ ?_
        simp only [go_sem, ↓reduceIte, Nat.reduceEqDiff, Nat.reduceAdd, Nat.reduceSub, Nat.reduceMul, Nat.reduceLeDiff, Nat.reduceBEq, reduceCtorEq, Nat.reduceEqDiff, Int.reduceEq, Int.reduceLT, Int.reduceLE, Int.reduceNeg, Int.reduceBEq, Int.reduceBNe, Int.reduceToNat, Int.reducePow, hb, hr, slV]
    · have hb : refsB l = false := by simp [refsB, hs]
      have hr : refsR l = [] := by simp [refsR, hb]
      repeat (first | simp only [go_sem, ↓reduceIte, Nat.reduceEqDiff, Nat.reduceAdd, Nat.reduceSub, Nat.reduceMul, Nat.reduceLeDiff, Nat.reduceBEq, reduceCtorEq, Nat.reduceEqDiff, Int.reduceEq, Int.reduceLT, Int.reduceLE, Int.reduceNeg, Int.reduceBEq, Int.reduceBNe, Int.reduceToNat, Int.reducePow] | refine g_law17_refs_o7_sh.mpr ?_ | refine g_law17_refs_o6_sh.mpr ?_ | refine g_law17_refs_o5_sh.mpr ?_ | refine g_law17_refs_o4_sh.mpr ?_ | refine g_law17_refs_o3_sh.mpr ?_ | refine g_law17_refs_o2_sh.mpr ?_ | refine g_law17_refs_o1_sh.mpr ?_ | refine g_law17_refs_o0_sh.mpr ?_ | refine g_law17_refs_c0_sh.mpr ?_ | refine g_law17_refs_c1_sh.mpr ?_ | refine g_law17_refs_c2_sh.mpr ?_ | refine g_law17_refs_c3_sh.mpr ?_ | refine g_law17_refs_c4_sh.mpr ?_ | refine g_law17_refs_c5_sh.mpr ?_ | refine g_law17_refs_c6_sh.mpr ?_ | refine g_law17_refs_code_sh.mpr ?_)
      refine hR _ ?_
      simp only [go_sem, ↓reduceIte, Nat.reduceEqDiff, Nat.reduceAdd, Nat.reduceSub, Nat.reduceMul, Nat.reduceLeDiff, Nat.reduceBEq, reduceCtorEq, Nat.reduceEqDiff, Int.reduceEq, Int.reduceLT, Int.reduceLE, Int.reduceNeg, Int.reduceBEq, Int.reduceBNe, Int.reduceToNat, Int.reducePow, hb, hr, slV]

theorem refs {C : Ctx} (h3 : okFn C.P C.φ 3 g_law17_refs = true) (hRef : ∀ e : Ent, e.lines.length < 1000 → e.fixes.length < 1000 → SoundAt C 12 ⟨[vEnt e], looko []⟩ ⟨vEnt e, looko []⟩) (l : List Ent) :
    SoundAt C 3 ⟨[vBook l], looko []⟩ ⟨.tup [vEnts (refsR l), vB (refsB l)], looko []⟩ := by
  have := SoundAt.res_up (refs0 h3 hRef l)
  simpa only [V.up, V.ups, slV_up] using this

def okE (e : Ent) : Prop := e.lines.length < 1000 ∧ e.paid.length < 1000 ∧ e.owed.length < 1000 ∧ e.garn.length < 1000 ∧ e.fixes.length < 1000
theorem okE_of {e : Ent} (h : smallE e = true) : okE e := by
  simp only [smallE, Bool.and_eq_true, decide_eq_true_eq] at h
  exact ⟨by omega, by omega, by omega, by omega, by omega⟩
end Pay
