/- Contracts: an entry as the document's. -/
import Derived.Test.YtbhjjheefdilbaaPayW
import Derived.Test.YtbhjjheefdilbaaPaySh0
import Derived.Test.YtbhjjheefdilbaaPaySh1
set_option linter.unusedSimpArgs false
set_option linter.unusedVariables false
namespace Pay
open Go
attribute [local irreducible] wpB opsB treeB drawB

theorem ownV_snoc {α : Type} (m : Nat) (xs : List α) (x : α) : ownV m (xs ++ [x]) = .own m := by cases xs <;> rfl
theorem ownO_snoc {α : Type} (sz : Nat) (f : α → List D) (xs : List α) (x : α) : ownO sz f (xs ++ [x]) = some (.row sz (xs.map f ++ [f x])) := by cases xs <;> simp [ownO]
theorem ownV_refs {α : Type} {m nm : Nat} (h : (m == nm) = false) (xs : List α) : V.refs nm (ownV m xs) = false := by cases xs <;> simp_all [ownV, V.refs]
theorem ownO_fresh {α : Type} (sz nm k : Nat) (f : α → List D) (xs : List α) (l : List (Nat × Option Ob)) : freshO nm ((k, ownO sz f xs) :: l) = freshO nm l := by
  cases xs <;> simp [ownO, freshO, Ob.refs]

theorem ref_loop0 {C : Ctx} {I : Nat → Prop} (hI : ∀ n, ¬ I n) {Q : Ex → St → Prop} {c1 c2 c4 : List V} (h1 : ∀ n, V.refsL n c1 = false) (h2 : ∀ n, V.refsL n c2 = false) (h4 : ∀ n, V.refsL n c4 = false) {ls : List Line} (hl : ls.length < 1000)
    (hT : Q (.exit 0) (St.mk (look [(1, .ptr 1 0), (2, .ptr 2 0), (4, .ptr 4 0), (5, ownV 58 ls), (49, .d (.sl (ls.map encLine))), (50, vI ls.length), (51, vI ls.length), (52, vB false)])
      (looko [(1, some (.box c1)), (2, some (.box c2)), (4, some (.box c4)), (58, ownO 3 encLine ls), (74, none)]))) :
    ∀ (n k : Nat) (acc : List Line), k + n = ls.length → acc = ls.take k →
      wpB C I g_law17_Ref.l0 (St.mk (look [(1, .ptr 1 0), (2, .ptr 2 0), (4, .ptr 4 0), (5, ownV 58 acc), (49, .d (.sl (ls.map encLine))), (50, vI ls.length), (51, vI k)])
        (looko [(1, some (.box c1)), (2, some (.box c2)), (4, some (.box c4)), (58, ownO 3 encLine acc), (74, none)])) Q := by
  intro n
  induction n with
  | zero =>
    intro k acc hk ha
    refine g_law17_Ref_l0_sh rfl ?_
    have hk' : k = ls.length := by omega
    subst hk'
    rw [List.take_length] at ha
    subst ha
    simp only [go_sem, ↓reduceIte, Nat.reduceEqDiff, Nat.reduceAdd, Nat.reduceSub, Nat.reduceMul, Nat.reduceLeDiff, Nat.reduceBEq, reduceCtorEq, Nat.reduceEqDiff, Int.reduceEq, Int.reduceLT, Int.reduceLE, Int.reduceNeg, Int.reduceBEq, Int.reduceBNe, Int.reduceToNat, Int.reducePow, Int.lt_irrefl, decide_false]
    exact hT
  | succ n ih =>
    intro k acc hk ha
    refine g_law17_Ref_l0_sh rfl ?_
    have hlt : k < ls.length := by omega
    have he := List.getElem?_eq_getElem hlt
    have hlt' : ((k : Int) < (ls.length : Int)) := by omega
    have hw1 : IntKind.i64.wrap ((k : Int) + 1) = (k : Int) + 1 := wrapI (by omega) (by omega)
    have next := ih (k + 1) (acc ++ [ls[k]]) (by omega) (by rw [ha, List.take_add_one, he]; rfl)
    rw [ownV_snoc, ownO_snoc] at next
    have hal : acc.length ≤ 999 := by rw [ha]; simp; omega
    have hs1 : c1.map (scrubV 58) = c1 := scrub_cs (h1 58)
    have hs2 : c2.map (scrubV 58) = c2 := scrub_cs (h2 58)
    have hs4 : c4.map (scrubV 58) = c4 := scrub_cs (h4 58)
    cases acc with
    | nil =>
      repeat (first | simp only [go_sem, ↓reduceIte, Nat.reduceEqDiff, Nat.reduceAdd, Nat.reduceSub, Nat.reduceMul, Nat.reduceLeDiff, Nat.reduceBEq, reduceCtorEq, Nat.reduceEqDiff, Int.reduceEq, Int.reduceLT, Int.reduceLE, Int.reduceNeg, Int.reduceBEq, Int.reduceBNe, Int.reduceToNat, Int.reducePow, ownV, ownO, hI, h1, h2, h4, hlt', Int.natCast_nonneg, Int.toNat_natCast, getMap encLine he, hw1, hs1, hs2, hs4] | refine g_law17_Ref_o0_sh.mpr ?_ | refine g_law17_Ref_c0_sh.mpr ?_ | refine g_law17_Ref_c1_sh.mpr ?_ | refine g_law17_Ref_c2_sh.mpr ?_ | refine g_law17_Ref_c3_sh.mpr ?_ | refine g_law17_Ref_c4_sh.mpr ?_ | refine g_law17_Ref_c5_sh.mpr ?_ | refine g_law17_Ref_c6_sh.mpr ?_ | refine g_law17_Ref_c7_sh.mpr ?_ | refine g_law17_Ref_c8_sh.mpr ?_ | refine g_law17_Ref_c9_sh.mpr ?_ | refine g_law17_Ref_c10_sh.mpr ?_ | refine g_law17_Ref_c11_sh.mpr ?_ | refine g_law17_Ref_code_sh.mpr ?_)
      exact next
    | cons a r =>
      repeat (first | simp only [go_sem, ↓reduceIte, Nat.reduceEqDiff, Nat.reduceAdd, Nat.reduceSub, Nat.reduceMul, Nat.reduceLeDiff, Nat.reduceBEq, reduceCtorEq, Nat.reduceEqDiff, Int.reduceEq, Int.reduceLT, Int.reduceLE, Int.reduceNeg, Int.reduceBEq, Int.reduceBNe, Int.reduceToNat, Int.reducePow, ownV, ownO, hI, h1, h2, h4, hlt', Int.natCast_nonneg, Int.toNat_natCast, getMap encLine he, hw1, hs1, hs2, hs4] | refine g_law17_Ref_o0_sh.mpr ?_ | refine g_law17_Ref_c0_sh.mpr ?_ | refine g_law17_Ref_c1_sh.mpr ?_ | refine g_law17_Ref_c2_sh.mpr ?_ | refine g_law17_Ref_c3_sh.mpr ?_ | refine g_law17_Ref_c4_sh.mpr ?_ | refine g_law17_Ref_c5_sh.mpr ?_ | refine g_law17_Ref_c6_sh.mpr ?_ | refine g_law17_Ref_c7_sh.mpr ?_ | refine g_law17_Ref_c8_sh.mpr ?_ | refine g_law17_Ref_c9_sh.mpr ?_ | refine g_law17_Ref_c10_sh.mpr ?_ | refine g_law17_Ref_c11_sh.mpr ?_ | refine g_law17_Ref_code_sh.mpr ?_)
      refine ⟨by simp at hal ⊢; omega, by simp at hal ⊢; omega, ?_⟩
      repeat (first | simp only [go_sem, ↓reduceIte, Nat.reduceEqDiff, Nat.reduceAdd, Nat.reduceSub, Nat.reduceMul, Nat.reduceLeDiff, Nat.reduceBEq, reduceCtorEq, Nat.reduceEqDiff, Int.reduceEq, Int.reduceLT, Int.reduceLE, Int.reduceNeg, Int.reduceBEq, Int.reduceBNe, Int.reduceToNat, Int.reducePow, hw1] | refine g_law17_Ref_o0_sh.mpr ?_ | refine g_law17_Ref_c0_sh.mpr ?_ | refine g_law17_Ref_c1_sh.mpr ?_ | refine g_law17_Ref_c2_sh.mpr ?_ | refine g_law17_Ref_c3_sh.mpr ?_ | refine g_law17_Ref_c4_sh.mpr ?_ | refine g_law17_Ref_c5_sh.mpr ?_ | refine g_law17_Ref_c6_sh.mpr ?_ | refine g_law17_Ref_c7_sh.mpr ?_ | refine g_law17_Ref_c8_sh.mpr ?_ | refine g_law17_Ref_c9_sh.mpr ?_ | refine g_law17_Ref_c10_sh.mpr ?_ | refine g_law17_Ref_c11_sh.mpr ?_ | refine g_law17_Ref_code_sh.mpr ?_)
      exact next

theorem ownV_scrub {α : Type} {m nm : Nat} (h : (m == nm) = false) (xs : List α) : scrubV nm (ownV m xs) = ownV m xs := by
  have : ¬ m = nm := by simpa using h
  cases xs <;> simp [ownV, scrubV, V.refs, this]
theorem ownO_scrub {α : Type} (sz nm : Nat) (f : α → List D) (xs : List α) : (ownO sz f xs).map (Ob.scrub nm) = ownO sz f xs := by cases xs <;> rfl

theorem ref_loop1 {C : Ctx} {I : Nat → Prop} (hI : ∀ n, ¬ I n) {Q : Ex → St → Prop} {c2 c4 : List V} (h2 : ∀ n, V.refsL n c2 = false) (h4 : ∀ n, V.refsL n c4 = false) {ls : List Line} {fs : List (Int × Sums)} (hl : fs.length < 1000)
    (hT : Q (.exit 2) (St.mk (look [(2, .ptr 2 0), (4, .ptr 4 0), (5, ownV 58 ls), (8, ownV 74 fs), (61, .d (.sl (fs.map encFix))), (62, vI fs.length), (63, vI fs.length), (64, vB false)])
      (looko [(2, some (.box c2)), (4, some (.box c4)), (58, ownO 3 encLine ls), (74, ownO 4 encFix fs)]))) :
    ∀ (n k : Nat) (acc : List (Int × Sums)), k + n = fs.length → acc = fs.take k →
      wpB C I g_law17_Ref.l1 (St.mk (look [(2, .ptr 2 0), (4, .ptr 4 0), (5, ownV 58 ls), (8, ownV 74 acc), (61, .d (.sl (fs.map encFix))), (62, vI fs.length), (63, vI k)])
        (looko [(2, some (.box c2)), (4, some (.box c4)), (58, ownO 3 encLine ls), (74, ownO 4 encFix acc)])) Q := by
  intro n
  induction n with
  | zero =>
    intro k acc hk ha
    refine g_law17_Ref_l1_sh rfl ?_
    have hk' : k = fs.length := by omega
    subst hk'
    rw [List.take_length] at ha
    subst ha
    simp only [go_sem, ↓reduceIte, Nat.reduceEqDiff, Nat.reduceAdd, Nat.reduceSub, Nat.reduceMul, Nat.reduceLeDiff, Nat.reduceBEq, reduceCtorEq, Nat.reduceEqDiff, Int.reduceEq, Int.reduceLT, Int.reduceLE, Int.reduceNeg, Int.reduceBEq, Int.reduceBNe, Int.reduceToNat, Int.reducePow, Int.lt_irrefl, decide_false]
    exact hT
  | succ n ih =>
    intro k acc hk ha
    refine g_law17_Ref_l1_sh rfl ?_
    have hlt : k < fs.length := by omega
    have he := List.getElem?_eq_getElem hlt
    have hlt' : ((k : Int) < (fs.length : Int)) := by omega
    have hw1 : IntKind.i64.wrap ((k : Int) + 1) = (k : Int) + 1 := wrapI (by omega) (by omega)
    have next := ih (k + 1) (acc ++ [fs[k]]) (by omega) (by rw [ha, List.take_add_one, he]; rfl)
    rw [ownV_snoc, ownO_snoc] at next
    have hal : acc.length ≤ 999 := by rw [ha]; simp; omega
    have hs2 : c2.map (scrubV 74) = c2 := scrub_cs (h2 74)
    have hs4 : c4.map (scrubV 74) = c4 := scrub_cs (h4 74)
    have hr5 : ∀ nm, (58 == nm) = false → V.refs nm (ownV 58 ls) = false := fun nm h => ownV_refs h ls
    cases acc with
    | nil =>
      repeat (first | simp only [go_sem, ↓reduceIte, Nat.reduceEqDiff, Nat.reduceAdd, Nat.reduceSub, Nat.reduceMul, Nat.reduceLeDiff, Nat.reduceBEq, reduceCtorEq, Nat.reduceEqDiff, Int.reduceEq, Int.reduceLT, Int.reduceLE, Int.reduceNeg, Int.reduceBEq, Int.reduceBNe, Int.reduceToNat, Int.reducePow, parts_agg, Option.bind_some, encFix, ownV.eq_1, ownO.eq_1, ownO_fresh, hr5, hI, h2, h4, hlt', Int.natCast_nonneg, Int.toNat_natCast, getMap encFix he, hw1, hs2, hs4, ownV_scrub, ownO_scrub] | refine g_law17_Ref_o0_sh.mpr ?_ | refine g_law17_Ref_c0_sh.mpr ?_ | refine g_law17_Ref_c1_sh.mpr ?_ | refine g_law17_Ref_c2_sh.mpr ?_ | refine g_law17_Ref_c3_sh.mpr ?_ | refine g_law17_Ref_c4_sh.mpr ?_ | refine g_law17_Ref_c5_sh.mpr ?_ | refine g_law17_Ref_c6_sh.mpr ?_ | refine g_law17_Ref_c7_sh.mpr ?_ | refine g_law17_Ref_c8_sh.mpr ?_ | refine g_law17_Ref_c9_sh.mpr ?_ | refine g_law17_Ref_c10_sh.mpr ?_ | refine g_law17_Ref_c11_sh.mpr ?_ | refine g_law17_Ref_code_sh.mpr ?_)
      exact next
    | cons a r =>
      repeat (first | simp only [go_sem, ↓reduceIte, Nat.reduceEqDiff, Nat.reduceAdd, Nat.reduceSub, Nat.reduceMul, Nat.reduceLeDiff, Nat.reduceBEq, reduceCtorEq, Nat.reduceEqDiff, Int.reduceEq, Int.reduceLT, Int.reduceLE, Int.reduceNeg, Int.reduceBEq, Int.reduceBNe, Int.reduceToNat, Int.reducePow, parts_agg, Option.bind_some, encFix, ownV.eq_2, ownO.eq_2, ownO_fresh, hr5, hI, h2, h4, hlt', Int.natCast_nonneg, Int.toNat_natCast, getMap encFix he, hw1, hs2, hs4, ownV_scrub, ownO_scrub] | refine g_law17_Ref_o0_sh.mpr ?_ | refine g_law17_Ref_c0_sh.mpr ?_ | refine g_law17_Ref_c1_sh.mpr ?_ | refine g_law17_Ref_c2_sh.mpr ?_ | refine g_law17_Ref_c3_sh.mpr ?_ | refine g_law17_Ref_c4_sh.mpr ?_ | refine g_law17_Ref_c5_sh.mpr ?_ | refine g_law17_Ref_c6_sh.mpr ?_ | refine g_law17_Ref_c7_sh.mpr ?_ | refine g_law17_Ref_c8_sh.mpr ?_ | refine g_law17_Ref_c9_sh.mpr ?_ | refine g_law17_Ref_c10_sh.mpr ?_ | refine g_law17_Ref_c11_sh.mpr ?_ | refine g_law17_Ref_code_sh.mpr ?_)
      refine ⟨by simp at hal ⊢; omega, by simp at hal ⊢; omega, ?_⟩
      repeat (first | simp only [go_sem, ↓reduceIte, Nat.reduceEqDiff, Nat.reduceAdd, Nat.reduceSub, Nat.reduceMul, Nat.reduceLeDiff, Nat.reduceBEq, reduceCtorEq, Nat.reduceEqDiff, Int.reduceEq, Int.reduceLT, Int.reduceLE, Int.reduceNeg, Int.reduceBEq, Int.reduceBNe, Int.reduceToNat, Int.reducePow, hw1] | refine g_law17_Ref_o0_sh.mpr ?_ | refine g_law17_Ref_c0_sh.mpr ?_ | refine g_law17_Ref_c1_sh.mpr ?_ | refine g_law17_Ref_c2_sh.mpr ?_ | refine g_law17_Ref_c3_sh.mpr ?_ | refine g_law17_Ref_c4_sh.mpr ?_ | refine g_law17_Ref_c5_sh.mpr ?_ | refine g_law17_Ref_c6_sh.mpr ?_ | refine g_law17_Ref_c7_sh.mpr ?_ | refine g_law17_Ref_c8_sh.mpr ?_ | refine g_law17_Ref_c9_sh.mpr ?_ | refine g_law17_Ref_c10_sh.mpr ?_ | refine g_law17_Ref_c11_sh.mpr ?_ | refine g_law17_Ref_code_sh.mpr ?_)
      exact next

def slV {α : Type} (f : α → List D) : List α → V
  | [] => .cap0
  | a :: r => .d (.sl ((a :: r).map f))
theorem slV_up {α : Type} (f : α → List D) (xs : List α) : (slV f xs).up = .d (.sl (xs.map f)) := by cases xs <;> rfl
def refV (e : Ent) : V := .agg [vI e.run, vI e.per, vI e.id, vI e.cen, vI e.back, slV encLine e.lines, vI e.raw.gross, vI e.raw.pretax, vI e.raw.post, vI e.extra.gross, vI e.extra.pretax, vI e.extra.post,
  vI e.taxable, vI e.tax, vI e.taken, vI e.held, vI e.net, vI e.short, .d (.sl (e.paid.map encI)), .d (.sl (e.owed.map encI)), .d (.sl (e.garn.map encI)), slV encFix e.fixes]
theorem refV_up (e : Ent) : (refV e).up = vEnt e := by
  simp only [refV, V.up, V.ups, slV_up, vEnt, enc, List.map_cons, List.map_nil]

theorem refOk0 {C : Ctx} (h12 : okFn C.P C.φ 12 g_law17_Ref = true) (e : Ent) (hl : e.lines.length < 1000) (hf : e.fixes.length < 1000) :
    SoundAt C 12 ⟨[vEnt e], looko []⟩ ⟨refV e, looko []⟩ := by
  refine SoundAt.of_run h12 rfl (fun Q hR _ => ?_)
  rw [entry1]
  repeat (first | simp only [go_sem, ↓reduceIte, Nat.reduceEqDiff, Nat.reduceAdd, Nat.reduceSub, Nat.reduceMul, Nat.reduceLeDiff, Nat.reduceBEq, reduceCtorEq, Nat.reduceEqDiff, Int.reduceEq, Int.reduceLT, Int.reduceLE, Int.reduceNeg, Int.reduceBEq, Int.reduceBNe, Int.reduceToNat, Int.reducePow, enc, List.length_map, parts_agg] | refine g_law17_Ref_o0_sh.mpr ?_ | refine g_law17_Ref_c0_sh.mpr ?_ | refine g_law17_Ref_c1_sh.mpr ?_ | refine g_law17_Ref_c2_sh.mpr ?_ | refine g_law17_Ref_c3_sh.mpr ?_ | refine g_law17_Ref_c4_sh.mpr ?_ | refine g_law17_Ref_c5_sh.mpr ?_ | refine g_law17_Ref_c6_sh.mpr ?_ | refine g_law17_Ref_c7_sh.mpr ?_ | refine g_law17_Ref_c8_sh.mpr ?_ | refine g_law17_Ref_c9_sh.mpr ?_ | refine g_law17_Ref_c10_sh.mpr ?_ | refine g_law17_Ref_c11_sh.mpr ?_ | refine g_law17_Ref_code_sh.mpr ?_)
  refine ref_loop0 (fun _ h => h) ?_ ?_ ?_ hl ?_ e.lines.length 0 [] (by omega) rfl
  · intro n; simp only [go_sem, ↓reduceIte, Nat.reduceEqDiff, Nat.reduceAdd, Nat.reduceSub, Nat.reduceMul, Nat.reduceLeDiff, Nat.reduceBEq, reduceCtorEq, Nat.reduceEqDiff, Int.reduceEq, Int.reduceLT, Int.reduceLE, Int.reduceNeg, Int.reduceBEq, Int.reduceBNe, Int.reduceToNat, Int.reducePow]
  · intro n; simp only [go_sem, ↓reduceIte, Nat.reduceEqDiff, Nat.reduceAdd, Nat.reduceSub, Nat.reduceMul, Nat.reduceLeDiff, Nat.reduceBEq, reduceCtorEq, Nat.reduceEqDiff, Int.reduceEq, Int.reduceLT, Int.reduceLE, Int.reduceNeg, Int.reduceBEq, Int.reduceBNe, Int.reduceToNat, Int.reducePow]
  · intro n; simp only [go_sem, ↓reduceIte, Nat.reduceEqDiff, Nat.reduceAdd, Nat.reduceSub, Nat.reduceMul, Nat.reduceLeDiff, Nat.reduceBEq, reduceCtorEq, Nat.reduceEqDiff, Int.reduceEq, Int.reduceLT, Int.reduceLE, Int.reduceNeg, Int.reduceBEq, Int.reduceBNe, Int.reduceToNat, Int.reducePow]
  repeat (first | simp only [go_sem, ↓reduceIte, Nat.reduceEqDiff, Nat.reduceAdd, Nat.reduceSub, Nat.reduceMul, Nat.reduceLeDiff, Nat.reduceBEq, reduceCtorEq, Nat.reduceEqDiff, Int.reduceEq, Int.reduceLT, Int.reduceLE, Int.reduceNeg, Int.reduceBEq, Int.reduceBNe, Int.reduceToNat, Int.reducePow, enc, List.length_map, parts_agg] | refine g_law17_Ref_o0_sh.mpr ?_ | refine g_law17_Ref_c0_sh.mpr ?_ | refine g_law17_Ref_c1_sh.mpr ?_ | refine g_law17_Ref_c2_sh.mpr ?_ | refine g_law17_Ref_c3_sh.mpr ?_ | refine g_law17_Ref_c4_sh.mpr ?_ | refine g_law17_Ref_c5_sh.mpr ?_ | refine g_law17_Ref_c6_sh.mpr ?_ | refine g_law17_Ref_c7_sh.mpr ?_ | refine g_law17_Ref_c8_sh.mpr ?_ | refine g_law17_Ref_c9_sh.mpr ?_ | refine g_law17_Ref_c10_sh.mpr ?_ | refine g_law17_Ref_c11_sh.mpr ?_ | refine g_law17_Ref_code_sh.mpr ?_)
  refine ref_loop1 (ls := e.lines) (fun _ h => h) ?_ ?_ hf ?_ e.fixes.length 0 [] (by omega) rfl
  · intro n; simp only [go_sem, ↓reduceIte, Nat.reduceEqDiff, Nat.reduceAdd, Nat.reduceSub, Nat.reduceMul, Nat.reduceLeDiff, Nat.reduceBEq, reduceCtorEq, Nat.reduceEqDiff, Int.reduceEq, Int.reduceLT, Int.reduceLE, Int.reduceNeg, Int.reduceBEq, Int.reduceBNe, Int.reduceToNat, Int.reducePow]
  · intro n; simp only [go_sem, ↓reduceIte, Nat.reduceEqDiff, Nat.reduceAdd, Nat.reduceSub, Nat.reduceMul, Nat.reduceLeDiff, Nat.reduceBEq, reduceCtorEq, Nat.reduceEqDiff, Int.reduceEq, Int.reduceLT, Int.reduceLE, Int.reduceNeg, Int.reduceBEq, Int.reduceBNe, Int.reduceToNat, Int.reducePow]
  have hv : refV e = .agg [vI e.run, vI e.per, vI e.id, vI e.cen, vI e.back, slV encLine e.lines, vI e.raw.gross, vI e.raw.pretax, vI e.raw.post, vI e.extra.gross, vI e.extra.pretax, vI e.extra.post,
    vI e.taxable, vI e.tax, vI e.taken, vI e.held, vI e.net, vI e.short, .d (.sl (e.paid.map encI)), .d (.sl (e.owed.map encI)), .d (.sl (e.garn.map encI)), slV encFix e.fixes] := rfl
  rw [hv] at hR
  clear hv
  generalize e.lines = ls at hR ⊢
  generalize e.fixes = fs at hR ⊢
  cases ls with
  | nil =>
    cases fs with
    | nil =>
      repeat (first | simp only [go_sem, ↓reduceIte, Nat.reduceEqDiff, Nat.reduceAdd, Nat.reduceSub, Nat.reduceMul, Nat.reduceLeDiff, Nat.reduceBEq, reduceCtorEq, Nat.reduceEqDiff, Int.reduceEq, Int.reduceLT, Int.reduceLE, Int.reduceNeg, Int.reduceBEq, Int.reduceBNe, Int.reduceToNat, Int.reducePow, ownV, ownO] | refine g_law17_Ref_o0_sh.mpr ?_ | refine g_law17_Ref_c0_sh.mpr ?_ | refine g_law17_Ref_c1_sh.mpr ?_ | refine g_law17_Ref_c2_sh.mpr ?_ | refine g_law17_Ref_c3_sh.mpr ?_ | refine g_law17_Ref_c4_sh.mpr ?_ | refine g_law17_Ref_c5_sh.mpr ?_ | refine g_law17_Ref_c6_sh.mpr ?_ | refine g_law17_Ref_c7_sh.mpr ?_ | refine g_law17_Ref_c8_sh.mpr ?_ | refine g_law17_Ref_c9_sh.mpr ?_ | refine g_law17_Ref_c10_sh.mpr ?_ | refine g_law17_Ref_c11_sh.mpr ?_ | refine g_law17_Ref_code_sh.mpr ?_)
      refine hR _ ?_
      simp only [go_sem, ↓reduceIte, Nat.reduceEqDiff, Nat.reduceAdd, Nat.reduceSub, Nat.reduceMul, Nat.reduceLeDiff, Nat.reduceBEq, reduceCtorEq, Nat.reduceEqDiff, Int.reduceEq, Int.reduceLT, Int.reduceLE, Int.reduceNeg, Int.reduceBEq, Int.reduceBNe, Int.reduceToNat, Int.reducePow, slV]
    | cons a r =>
      repeat (first | simp only [go_sem, ↓reduceIte, Nat.reduceEqDiff, Nat.reduceAdd, Nat.reduceSub, Nat.reduceMul, Nat.reduceLeDiff, Nat.reduceBEq, reduceCtorEq, Nat.reduceEqDiff, Int.reduceEq, Int.reduceLT, Int.reduceLE, Int.reduceNeg, Int.reduceBEq, Int.reduceBNe, Int.reduceToNat, Int.reducePow, ownV, ownO] | refine g_law17_Ref_o0_sh.mpr ?_ | refine g_law17_Ref_c0_sh.mpr ?_ | refine g_law17_Ref_c1_sh.mpr ?_ | refine g_law17_Ref_c2_sh.mpr ?_ | refine g_law17_Ref_c3_sh.mpr ?_ | refine g_law17_Ref_c4_sh.mpr ?_ | refine g_law17_Ref_c5_sh.mpr ?_ | refine g_law17_Ref_c6_sh.mpr ?_ | refine g_law17_Ref_c7_sh.mpr ?_ | refine g_law17_Ref_c8_sh.mpr ?_ | refine g_law17_Ref_c9_sh.mpr ?_ | refine g_law17_Ref_c10_sh.mpr ?_ | refine g_law17_Ref_c11_sh.mpr ?_ | refine g_law17_Ref_code_sh.mpr ?_)
      refine hR _ ?_
      simp only [go_sem, ↓reduceIte, Nat.reduceEqDiff, Nat.reduceAdd, Nat.reduceSub, Nat.reduceMul, Nat.reduceLeDiff, Nat.reduceBEq, reduceCtorEq, Nat.reduceEqDiff, Int.reduceEq, Int.reduceLT, Int.reduceLE, Int.reduceNeg, Int.reduceBEq, Int.reduceBNe, Int.reduceToNat, Int.reducePow, slV]
  | cons b q =>
    cases fs with
    | nil =>
      repeat (first | simp only [go_sem, ↓reduceIte, Nat.reduceEqDiff, Nat.reduceAdd, Nat.reduceSub, Nat.reduceMul, Nat.reduceLeDiff, Nat.reduceBEq, reduceCtorEq, Nat.reduceEqDiff, Int.reduceEq, Int.reduceLT, Int.reduceLE, Int.reduceNeg, Int.reduceBEq, Int.reduceBNe, Int.reduceToNat, Int.reducePow, ownV, ownO] | refine g_law17_Ref_o0_sh.mpr ?_ | refine g_law17_Ref_c0_sh.mpr ?_ | refine g_law17_Ref_c1_sh.mpr ?_ | refine g_law17_Ref_c2_sh.mpr ?_ | refine g_law17_Ref_c3_sh.mpr ?_ | refine g_law17_Ref_c4_sh.mpr ?_ | refine g_law17_Ref_c5_sh.mpr ?_ | refine g_law17_Ref_c6_sh.mpr ?_ | refine g_law17_Ref_c7_sh.mpr ?_ | refine g_law17_Ref_c8_sh.mpr ?_ | refine g_law17_Ref_c9_sh.mpr ?_ | refine g_law17_Ref_c10_sh.mpr ?_ | refine g_law17_Ref_c11_sh.mpr ?_ | refine g_law17_Ref_code_sh.mpr ?_)
      refine hR _ ?_
      simp only [go_sem, ↓reduceIte, Nat.reduceEqDiff, Nat.reduceAdd, Nat.reduceSub, Nat.reduceMul, Nat.reduceLeDiff, Nat.reduceBEq, reduceCtorEq, Nat.reduceEqDiff, Int.reduceEq, Int.reduceLT, Int.reduceLE, Int.reduceNeg, Int.reduceBEq, Int.reduceBNe, Int.reduceToNat, Int.reducePow, slV]
    | cons a r =>
      repeat (first | simp only [go_sem, ↓reduceIte, Nat.reduceEqDiff, Nat.reduceAdd, Nat.reduceSub, Nat.reduceMul, Nat.reduceLeDiff, Nat.reduceBEq, reduceCtorEq, Nat.reduceEqDiff, Int.reduceEq, Int.reduceLT, Int.reduceLE, Int.reduceNeg, Int.reduceBEq, Int.reduceBNe, Int.reduceToNat, Int.reducePow, ownV, ownO] | refine g_law17_Ref_o0_sh.mpr ?_ | refine g_law17_Ref_c0_sh.mpr ?_ | refine g_law17_Ref_c1_sh.mpr ?_ | refine g_law17_Ref_c2_sh.mpr ?_ | refine g_law17_Ref_c3_sh.mpr ?_ | refine g_law17_Ref_c4_sh.mpr ?_ | refine g_law17_Ref_c5_sh.mpr ?_ | refine g_law17_Ref_c6_sh.mpr ?_ | refine g_law17_Ref_c7_sh.mpr ?_ | refine g_law17_Ref_c8_sh.mpr ?_ | refine g_law17_Ref_c9_sh.mpr ?_ | refine g_law17_Ref_c10_sh.mpr ?_ | refine g_law17_Ref_c11_sh.mpr ?_ | refine g_law17_Ref_code_sh.mpr ?_)
      refine hR _ ?_
      simp only [go_sem, ↓reduceIte, Nat.reduceEqDiff, Nat.reduceAdd, Nat.reduceSub, Nat.reduceMul, Nat.reduceLeDiff, Nat.reduceBEq, reduceCtorEq, Nat.reduceEqDiff, Int.reduceEq, Int.reduceLT, Int.reduceLE, Int.reduceNeg, Int.reduceBEq, Int.reduceBNe, Int.reduceToNat, Int.reducePow, slV]

theorem refOk {C : Ctx} (h12 : okFn C.P C.φ 12 g_law17_Ref = true) (e : Ent) (hl : e.lines.length < 1000) (hf : e.fixes.length < 1000) :
    SoundAt C 12 ⟨[vEnt e], looko []⟩ ⟨vEnt e, looko []⟩ := by
  have := SoundAt.res_up (refOk0 h12 e hl hf)
  rwa [refV_up] at this
end Pay
