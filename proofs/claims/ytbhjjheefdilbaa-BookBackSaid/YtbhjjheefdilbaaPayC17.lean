/- Contracts: what a period is put down with. -/
import Derived.Test.YtbhjjheefdilbaaPayC6
import Derived.Test.YtbhjjheefdilbaaPaySh0
import Derived.Test.YtbhjjheefdilbaaPaySh1
set_option linter.unusedSimpArgs false
set_option linter.unusedVariables false
namespace Pay
open Go
attribute [local irreducible] wpB opsB treeB drawB

def encS (s : Sums) : List D := [dI s.gross, dI s.pretax, dI s.post]
abbrev vSums (s : Sums) : V := .agg ((encS s).map V.d)
abbrev boxS (s : Sums) : Ob := .box ((encS s).map V.d)
def plusS (a b : Sums) : Sums := ⟨w64 (a.gross + b.gross), w64 (a.pretax + b.pretax), w64 (a.post + b.post)⟩

theorem known1 {C : Ctx} (h32 : okFn C.P C.φ 32 g_book_Known_1 = true) (s x : Sums) :
    SoundAt C 32 ⟨[vSums x, .ptr 7 0], looko [(7, some (boxS s))]⟩ ⟨.tup [], looko [(7, some (boxS (plusS s x)))]⟩ := by
  refine SoundAt.of_run h32 rfl (fun Q hR hN => ?_)
  rw [entry2]
  repeat (first | simp only [go_sem, ↓reduceIte, Nat.reduceEqDiff, Nat.reduceAdd, Nat.reduceSub, Nat.reduceMul, Nat.reduceLeDiff, Nat.reduceBEq, reduceCtorEq, Nat.reduceEqDiff, Int.reduceEq, Int.reduceLT, Int.reduceLE, Int.reduceNeg, Int.reduceBEq, Int.reduceBNe, Int.reduceToNat, Int.reducePow, encS] | refine g_book_Known_1_code_sh.mpr ?_)
  refine hN _ ?_
  simp only [go_sem, ↓reduceIte, Nat.reduceEqDiff, Nat.reduceAdd, Nat.reduceSub, Nat.reduceMul, Nat.reduceLeDiff, Nat.reduceBEq, reduceCtorEq, Nat.reduceEqDiff, Int.reduceEq, Int.reduceLT, Int.reduceLE, Int.reduceNeg, Int.reduceBEq, Int.reduceBNe, Int.reduceToNat, Int.reducePow, plusS, encS]
  rfl

def fixStep (per : Int) (s : Sums) (f : Int × Sums) : Sums := if f.1 = per then plusS s f.2 else s
def knownStep (per : Int) (s : Sums) (e : Ent) : Sums := e.fixes.foldl (fixStep per) (if e.per = per then plusS s e.raw else s)
def knownS (l : List Ent) (id per : Int) : Sums := (aliveS l id).foldl (knownStep per) ⟨0, 0, 0⟩

abbrev zero3 : Ob := .box [vI 0, vI 0, vI 0]
theorem known_loop1 {C : Ctx} (hK : ∀ s x : Sums, SoundAt C 32 ⟨[vSums x, .ptr 7 0], looko [(7, some (boxS s))]⟩ ⟨.tup [], looko [(7, some (boxS (plusS s x)))]⟩)
    {I : Nat → Prop} (hI : ∀ n, ¬ I n) {Q : Ex → St → Prop} {al : List Ent} {j : Nat} {per : Int} {fs : List (Int × Sums)} (hf : fs.length < 1000) {s0 : Sums}
    (hT : Q (.exit 2) (St.mk (look [(2, vI per), (6, .ptr 6 0), (7, .ptr 7 0), (8, .fn 32 [.ptr 7 0]), (16, vEnts al), (17, vI al.length), (18, vI j), (32, .d (.sl (fs.map encFix))), (33, vI fs.length), (34, vI fs.length), (35, vB false)])
      (looko [(6, some zero3), (7, some (boxS (fs.foldl (fixStep per) s0)))]))) :
    ∀ (n k : Nat) (s : Sums), k + n = fs.length → fs.foldl (fixStep per) s0 = (fs.drop k).foldl (fixStep per) s →
      wpB C I g_book_Known.l1 (St.mk (look [(2, vI per), (6, .ptr 6 0), (7, .ptr 7 0), (8, .fn 32 [.ptr 7 0]), (16, vEnts al), (17, vI al.length), (18, vI j), (32, .d (.sl (fs.map encFix))), (33, vI fs.length), (34, vI k)])
        (looko [(6, some zero3), (7, some (boxS s))])) Q := by
  intro n
  induction n with
  | zero =>
    intro k s hk hi
    refine g_book_Known_l1_sh rfl ?_
    have hk' : k = fs.length := by omega
    subst hk'
    have hi' : fs.foldl (fixStep per) s0 = s := by rw [hi]; simp
    rw [hi'] at hT
    simp only [go_sem, ↓reduceIte, Nat.reduceEqDiff, Nat.reduceAdd, Nat.reduceSub, Nat.reduceMul, Nat.reduceLeDiff, Nat.reduceBEq, reduceCtorEq, Nat.reduceEqDiff, Int.reduceEq, Int.reduceLT, Int.reduceLE, Int.reduceNeg, Int.reduceBEq, Int.reduceBNe, Int.reduceToNat, Int.reducePow, Int.lt_irrefl, decide_false]
    exact hT
  | succ n ih =>
    intro k s hk hi
    refine g_book_Known_l1_sh rfl ?_
    have hlt : k < fs.length := by omega
    have hlt' : ((k : Int) < (fs.length : Int)) := by omega
    have he := List.getElem?_eq_getElem hlt
    have hw : IntKind.i64.wrap ((k : Int) + 1) = (k : Int) + 1 := wrapI (by omega) (by omega)
    rw [List.drop_eq_getElem_cons hlt, List.foldl_cons] at hi
    have next := ih (k + 1) _ (by omega) hi
    by_cases h1 : fs[k].1 = per
    · have h1' : (fs[k].1 == per) = true := by simp [h1]
      have hst : fixStep per s fs[k] = plusS s fs[k].2 := by simp [fixStep, h1]
      rw [hst] at next
      repeat (first | simp only [go_sem, ↓reduceIte, Nat.reduceEqDiff, Nat.reduceAdd, Nat.reduceSub, Nat.reduceMul, Nat.reduceLeDiff, Nat.reduceBEq, reduceCtorEq, Nat.reduceEqDiff, Int.reduceEq, Int.reduceLT, Int.reduceLE, Int.reduceNeg, Int.reduceBEq, Int.reduceBNe, Int.reduceToNat, Int.reducePow, hI, hlt', Int.natCast_nonneg, Int.toNat_natCast, getMap encFix he, encFix, h1', hw] | refine g_book_Known_c0_sh.mpr ?_ | refine g_book_Known_c1_sh.mpr ?_ | refine g_book_Known_c2_sh.mpr ?_ | refine g_book_Known_c3_sh.mpr ?_ | refine g_book_Known_c4_sh.mpr ?_ | refine g_book_Known_c5_sh.mpr ?_ | refine g_book_Known_c6_sh.mpr ?_ | refine g_book_Known_c7_sh.mpr ?_ | refine g_book_Known_code_sh.mpr ?_)
      refine callK_ob (m := 7) rfl (fun _ => rfl) (hK s fs[k].2) (fun _ => rfl) ?_
      repeat (first | simp only [go_sem, ↓reduceIte, Nat.reduceEqDiff, Nat.reduceAdd, Nat.reduceSub, Nat.reduceMul, Nat.reduceLeDiff, Nat.reduceBEq, reduceCtorEq, Nat.reduceEqDiff, Int.reduceEq, Int.reduceLT, Int.reduceLE, Int.reduceNeg, Int.reduceBEq, Int.reduceBNe, Int.reduceToNat, Int.reducePow, hI, hw] | refine g_book_Known_c0_sh.mpr ?_ | refine g_book_Known_c1_sh.mpr ?_ | refine g_book_Known_c2_sh.mpr ?_ | refine g_book_Known_c3_sh.mpr ?_ | refine g_book_Known_c4_sh.mpr ?_ | refine g_book_Known_c5_sh.mpr ?_ | refine g_book_Known_c6_sh.mpr ?_ | refine g_book_Known_c7_sh.mpr ?_ | refine g_book_Known_code_sh.mpr ?_)
      exact next
    · have h1' : (fs[k].1 == per) = false := by simp [h1]
      have hst : fixStep per s fs[k] = s := by simp [fixStep, h1]
      rw [hst] at next
      repeat (first | simp only [go_sem, ↓reduceIte, Nat.reduceEqDiff, Nat.reduceAdd, Nat.reduceSub, Nat.reduceMul, Nat.reduceLeDiff, Nat.reduceBEq, reduceCtorEq, Nat.reduceEqDiff, Int.reduceEq, Int.reduceLT, Int.reduceLE, Int.reduceNeg, Int.reduceBEq, Int.reduceBNe, Int.reduceToNat, Int.reducePow, hI, hlt', Int.natCast_nonneg, Int.toNat_natCast, getMap encFix he, encFix, h1', hw] | refine g_book_Known_c0_sh.mpr ?_ | refine g_book_Known_c1_sh.mpr ?_ | refine g_book_Known_c2_sh.mpr ?_ | refine g_book_Known_c3_sh.mpr ?_ | refine g_book_Known_c4_sh.mpr ?_ | refine g_book_Known_c5_sh.mpr ?_ | refine g_book_Known_c6_sh.mpr ?_ | refine g_book_Known_c7_sh.mpr ?_ | refine g_book_Known_code_sh.mpr ?_)
      exact next

theorem known_loop0 {C : Ctx} (hK : ∀ s x : Sums, SoundAt C 32 ⟨[vSums x, .ptr 7 0], looko [(7, some (boxS s))]⟩ ⟨.tup [], looko [(7, some (boxS (plusS s x)))]⟩)
    {I : Nat → Prop} (hI : ∀ n, ¬ I n) {Q : Ex → St → Prop} {al : List Ent} {per : Int} (hl : al.length < 1000) (hf : ∀ e ∈ al, e.fixes.length < 1000) {s0 : Sums}
    (hT : ∀ st, st 6 = .ptr 6 0 → st 7 = .ptr 7 0 → Q (.exit 0) (St.mk st (looko [(6, some zero3), (7, some (boxS (al.foldl (knownStep per) s0)))]))) :
    ∀ (n k : Nat) (s : Sums), k + n = al.length → al.foldl (knownStep per) s0 = (al.drop k).foldl (knownStep per) s →
      wpB C I g_book_Known.l0 (St.mk (look [(2, vI per), (6, .ptr 6 0), (7, .ptr 7 0), (8, .fn 32 [.ptr 7 0]), (16, vEnts al), (17, vI al.length), (18, vI k)])
        (looko [(6, some zero3), (7, some (boxS s))])) Q := by
  intro n
  induction n with
  | zero =>
    intro k s hk hi
    refine g_book_Known_l0_sh rfl ?_
    have hk' : k = al.length := by omega
    subst hk'
    have hi' : al.foldl (knownStep per) s0 = s := by rw [hi]; simp
    rw [hi'] at hT
    simp only [go_sem, ↓reduceIte, Nat.reduceEqDiff, Nat.reduceAdd, Nat.reduceSub, Nat.reduceMul, Nat.reduceLeDiff, Nat.reduceBEq, reduceCtorEq, Nat.reduceEqDiff, Int.reduceEq, Int.reduceLT, Int.reduceLE, Int.reduceNeg, Int.reduceBEq, Int.reduceBNe, Int.reduceToNat, Int.reducePow, Int.lt_irrefl, decide_false]
    exact hT _ rfl rfl
  | succ n ih =>
    intro k s hk hi
    refine g_book_Known_l0_sh rfl ?_
    have hlt : k < al.length := by omega
    have hlt' : ((k : Int) < (al.length : Int)) := by omega
    have he := List.getElem?_eq_getElem hlt
    have hw : IntKind.i64.wrap ((k : Int) + 1) = (k : Int) + 1 := wrapI (by omega) (by omega)
    rw [List.drop_eq_getElem_cons hlt, List.foldl_cons] at hi
    have next := ih (k + 1) _ (by omega) hi
    have hf1 := hf _ (List.getElem_mem hlt)
    by_cases h1 : al[k].per = per
    · have h1' : (al[k].per == per) = true := by simp [h1]
      have hst : knownStep per s al[k] = al[k].fixes.foldl (fixStep per) (plusS s al[k].raw) := by simp [knownStep, h1]
      rw [hst] at next
      repeat (first | simp only [go_sem, ↓reduceIte, Nat.reduceEqDiff, Nat.reduceAdd, Nat.reduceSub, Nat.reduceMul, Nat.reduceLeDiff, Nat.reduceBEq, reduceCtorEq, Nat.reduceEqDiff, Int.reduceEq, Int.reduceLT, Int.reduceLE, Int.reduceNeg, Int.reduceBEq, Int.reduceBNe, Int.reduceToNat, Int.reducePow, hI, hlt', Int.natCast_nonneg, Int.toNat_natCast, getMap enc he, List.getElem?_map, enc_g1, h1', hw] | refine g_book_Known_c0_sh.mpr ?_ | refine g_book_Known_c1_sh.mpr ?_ | refine g_book_Known_c2_sh.mpr ?_ | refine g_book_Known_c3_sh.mpr ?_ | refine g_book_Known_c4_sh.mpr ?_ | refine g_book_Known_c5_sh.mpr ?_ | refine g_book_Known_c6_sh.mpr ?_ | refine g_book_Known_c7_sh.mpr ?_ | refine g_book_Known_code_sh.mpr ?_)
      refine callK_ob (m := 7) rfl (fun _ => rfl) (hK s al[k].raw) (fun _ => rfl) ?_
      repeat (first | simp only [go_sem, ↓reduceIte, Nat.reduceEqDiff, Nat.reduceAdd, Nat.reduceSub, Nat.reduceMul, Nat.reduceLeDiff, Nat.reduceBEq, reduceCtorEq, Nat.reduceEqDiff, Int.reduceEq, Int.reduceLT, Int.reduceLE, Int.reduceNeg, Int.reduceBEq, Int.reduceBNe, Int.reduceToNat, Int.reducePow, hI, List.getElem?_map, enc_g21, List.length_map] | refine g_book_Known_c0_sh.mpr ?_ | refine g_book_Known_c1_sh.mpr ?_ | refine g_book_Known_c2_sh.mpr ?_ | refine g_book_Known_c3_sh.mpr ?_ | refine g_book_Known_c4_sh.mpr ?_ | refine g_book_Known_c5_sh.mpr ?_ | refine g_book_Known_c6_sh.mpr ?_ | refine g_book_Known_c7_sh.mpr ?_ | refine g_book_Known_code_sh.mpr ?_)
      refine known_loop1 hK hI (fs := al[k].fixes) (s0 := plusS s al[k].raw) hf1 ?_ al[k].fixes.length 0 _ (by omega) rfl
      repeat (first | simp only [go_sem, ↓reduceIte, Nat.reduceEqDiff, Nat.reduceAdd, Nat.reduceSub, Nat.reduceMul, Nat.reduceLeDiff, Nat.reduceBEq, reduceCtorEq, Nat.reduceEqDiff, Int.reduceEq, Int.reduceLT, Int.reduceLE, Int.reduceNeg, Int.reduceBEq, Int.reduceBNe, Int.reduceToNat, Int.reducePow, hw] | refine g_book_Known_c0_sh.mpr ?_ | refine g_book_Known_c1_sh.mpr ?_ | refine g_book_Known_c2_sh.mpr ?_ | refine g_book_Known_c3_sh.mpr ?_ | refine g_book_Known_c4_sh.mpr ?_ | refine g_book_Known_c5_sh.mpr ?_ | refine g_book_Known_c6_sh.mpr ?_ | refine g_book_Known_c7_sh.mpr ?_ | refine g_book_Known_code_sh.mpr ?_)
      exact next
    · have h1' : (al[k].per == per) = false := by simp [h1]
      have hst : knownStep per s al[k] = al[k].fixes.foldl (fixStep per) s := by simp [knownStep, h1]
      rw [hst] at next
      repeat (first | simp only [go_sem, ↓reduceIte, Nat.reduceEqDiff, Nat.reduceAdd, Nat.reduceSub, Nat.reduceMul, Nat.reduceLeDiff, Nat.reduceBEq, reduceCtorEq, Nat.reduceEqDiff, Int.reduceEq, Int.reduceLT, Int.reduceLE, Int.reduceNeg, Int.reduceBEq, Int.reduceBNe, Int.reduceToNat, Int.reducePow, hI, hlt', Int.natCast_nonneg, Int.toNat_natCast, getMap enc he, List.getElem?_map, enc_g1, enc_g21, List.length_map, h1', hw] | refine g_book_Known_c0_sh.mpr ?_ | refine g_book_Known_c1_sh.mpr ?_ | refine g_book_Known_c2_sh.mpr ?_ | refine g_book_Known_c3_sh.mpr ?_ | refine g_book_Known_c4_sh.mpr ?_ | refine g_book_Known_c5_sh.mpr ?_ | refine g_book_Known_c6_sh.mpr ?_ | refine g_book_Known_c7_sh.mpr ?_ | refine g_book_Known_code_sh.mpr ?_)
      refine known_loop1 hK hI (fs := al[k].fixes) (s0 := s) hf1 ?_ al[k].fixes.length 0 _ (by omega) rfl
      repeat (first | simp only [go_sem, ↓reduceIte, Nat.reduceEqDiff, Nat.reduceAdd, Nat.reduceSub, Nat.reduceMul, Nat.reduceLeDiff, Nat.reduceBEq, reduceCtorEq, Nat.reduceEqDiff, Int.reduceEq, Int.reduceLT, Int.reduceLE, Int.reduceNeg, Int.reduceBEq, Int.reduceBNe, Int.reduceToNat, Int.reducePow, hw] | refine g_book_Known_c0_sh.mpr ?_ | refine g_book_Known_c1_sh.mpr ?_ | refine g_book_Known_c2_sh.mpr ?_ | refine g_book_Known_c3_sh.mpr ?_ | refine g_book_Known_c4_sh.mpr ?_ | refine g_book_Known_c5_sh.mpr ?_ | refine g_book_Known_c6_sh.mpr ?_ | refine g_book_Known_c7_sh.mpr ?_ | refine g_book_Known_code_sh.mpr ?_)
      exact next

theorem bookKnown {C : Ctx} (h28 : okFn C.P C.φ 28 g_book_Known = true) (hK : ∀ s x : Sums, SoundAt C 32 ⟨[vSums x, .ptr 7 0], looko [(7, some (boxS s))]⟩ ⟨.tup [], looko [(7, some (boxS (plusS s x)))]⟩)
    (hAlive : ∀ (l : List Ent) (id : Int), l.length < 1000 → SoundAt C 18 ⟨[vBook l, vI id], looko []⟩ ⟨vEnts (aliveS l id), looko []⟩)
    (l : List Ent) (id per : Int) (hl : l.length < 1000) (hf : ∀ e ∈ aliveS l id, e.fixes.length < 1000) :
    SoundAt C 28 ⟨[vBook l, vI id, vI per], looko []⟩ ⟨vSums (knownS l id per), looko []⟩ := by
  refine SoundAt.of_run h28 rfl (fun Q hR _ => ?_)
  rw [entry3]
  repeat (first | simp only [go_sem, ↓reduceIte, Nat.reduceEqDiff, Nat.reduceAdd, Nat.reduceSub, Nat.reduceMul, Nat.reduceLeDiff, Nat.reduceBEq, reduceCtorEq, Nat.reduceEqDiff, Int.reduceEq, Int.reduceLT, Int.reduceLE, Int.reduceNeg, Int.reduceBEq, Int.reduceBNe, Int.reduceToNat, Int.reducePow] | refine g_book_Known_c0_sh.mpr ?_ | refine g_book_Known_c1_sh.mpr ?_ | refine g_book_Known_c2_sh.mpr ?_ | refine g_book_Known_c3_sh.mpr ?_ | refine g_book_Known_c4_sh.mpr ?_ | refine g_book_Known_c5_sh.mpr ?_ | refine g_book_Known_c6_sh.mpr ?_ | refine g_book_Known_c7_sh.mpr ?_ | refine g_book_Known_code_sh.mpr ?_)
  refine callK_plain (hAlive l id hl) (fun _ => rfl) ?_
  repeat (first | simp only [go_sem, ↓reduceIte, Nat.reduceEqDiff, Nat.reduceAdd, Nat.reduceSub, Nat.reduceMul, Nat.reduceLeDiff, Nat.reduceBEq, reduceCtorEq, Nat.reduceEqDiff, Int.reduceEq, Int.reduceLT, Int.reduceLE, Int.reduceNeg, Int.reduceBEq, Int.reduceBNe, Int.reduceToNat, Int.reducePow, List.length_map] | refine g_book_Known_c0_sh.mpr ?_ | refine g_book_Known_c1_sh.mpr ?_ | refine g_book_Known_c2_sh.mpr ?_ | refine g_book_Known_c3_sh.mpr ?_ | refine g_book_Known_c4_sh.mpr ?_ | refine g_book_Known_c5_sh.mpr ?_ | refine g_book_Known_c6_sh.mpr ?_ | refine g_book_Known_c7_sh.mpr ?_ | refine g_book_Known_code_sh.mpr ?_)
  have hal : (aliveS l id).length < 1000 := Nat.lt_of_le_of_lt (filtFrom_len _ l 0) hl
  refine known_loop0 hK (al := aliveS l id) (s0 := ⟨0, 0, 0⟩) (fun _ h => h) hal hf (fun s h6 h7 => ?_) (aliveS l id).length 0 ⟨0, 0, 0⟩ (by omega) rfl
  have hks : (aliveS l id).foldl (knownStep per) ⟨0, 0, 0⟩ = knownS l id per := rfl
  rw [hks]
  generalize knownS l id per = y at hR ⊢
  repeat (first | simp only [go_sem, ↓reduceIte, Nat.reduceEqDiff, Nat.reduceAdd, Nat.reduceSub, Nat.reduceMul, Nat.reduceLeDiff, Nat.reduceBEq, reduceCtorEq, Nat.reduceEqDiff, Int.reduceEq, Int.reduceLT, Int.reduceLE, Int.reduceNeg, Int.reduceBEq, Int.reduceBNe, Int.reduceToNat, Int.reducePow, h6, h7, encS] | refine g_book_Known_c0_sh.mpr ?_ | refine g_book_Known_c1_sh.mpr ?_ | refine g_book_Known_c2_sh.mpr ?_ | refine g_book_Known_c3_sh.mpr ?_ | refine g_book_Known_c4_sh.mpr ?_ | refine g_book_Known_c5_sh.mpr ?_ | refine g_book_Known_c6_sh.mpr ?_ | refine g_book_Known_c7_sh.mpr ?_ | refine g_book_Known_code_sh.mpr ?_)
  refine hR _ ?_
  simp only [go_sem, ↓reduceIte, Nat.reduceEqDiff, Nat.reduceAdd, Nat.reduceSub, Nat.reduceMul, Nat.reduceLeDiff, Nat.reduceBEq, reduceCtorEq, Nat.reduceEqDiff, Int.reduceEq, Int.reduceLT, Int.reduceLE, Int.reduceNeg, Int.reduceBEq, Int.reduceBNe, Int.reduceToNat, Int.reducePow, encS]
  rfl
end Pay
