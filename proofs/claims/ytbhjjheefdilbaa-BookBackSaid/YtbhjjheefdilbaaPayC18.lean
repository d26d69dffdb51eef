/- Contracts: a year compared with itself is the same. -/
import Derived.Test.YtbhjjheefdilbaaPayC6
import Derived.Test.YtbhjjheefdilbaaPaySh0
import Derived.Test.YtbhjjheefdilbaaPaySh1
set_option linter.unusedSimpArgs false
set_option linter.unusedVariables false
namespace Pay
open Go
attribute [local irreducible] wpB opsB treeB drawB

abbrev boxY (y : Yr) : Ob := .box [vI y.taxable, vI y.base, vI y.tax, .d (.sl (y.paid.map encI)), .d (.sl (y.owed.map encI))]

theorem yr_loop0 {C : Ctx} {I : Nat → Prop} (hI : ∀ n, ¬ I n) {Q : Ex → St → Prop} {y : Yr} (hl : y.paid.length < 1000)
    (hT : ∀ s, s 2 = .ptr 2 0 → s 3 = .ptr 3 0 → Q (.exit 0) (St.mk s (looko [(2, some (boxY y)), (3, some (boxY y))]))) :
    ∀ (n k : Nat), k + n = y.paid.length →
      wpB C I g_ref14_Same.l0 (St.mk (look [(2, .ptr 2 0), (3, .ptr 3 0), (5, vI k)]) (looko [(2, some (boxY y)), (3, some (boxY y))])) Q := by
  intro n
  induction n with
  | zero =>
    intro k hk
    refine g_ref14_Same_l0_sh rfl ?_
    have hk' : k = y.paid.length := by omega
    subst hk'
    repeat (first | simp only [go_sem, ↓reduceIte, Nat.reduceEqDiff, Nat.reduceAdd, Nat.reduceSub, Nat.reduceMul, Nat.reduceLeDiff, Nat.reduceBEq, reduceCtorEq, Nat.reduceEqDiff, Int.reduceEq, Int.reduceLT, Int.reduceLE, Int.reduceNeg, Int.reduceBEq, Int.reduceBNe, Int.reduceToNat, Int.reducePow, List.length_map, Int.lt_irrefl, decide_false] | refine g_ref14_Same_o7_sh.mpr ?_ | refine g_ref14_Same_o6_sh.mpr ?_ | refine g_ref14_Same_o5_sh.mpr ?_ | refine g_ref14_Same_o4_sh.mpr ?_ | refine g_ref14_Same_o3_sh.mpr ?_ | refine g_ref14_Same_o2_sh.mpr ?_ | refine g_ref14_Same_o1_sh.mpr ?_ | refine g_ref14_Same_o0_sh.mpr ?_ | refine g_ref14_Same_c0_sh.mpr ?_ | refine g_ref14_Same_c1_sh.mpr ?_ | refine g_ref14_Same_c2_sh.mpr ?_ | refine g_ref14_Same_c3_sh.mpr ?_ | refine g_ref14_Same_c4_sh.mpr ?_ | refine g_ref14_Same_c5_sh.mpr ?_ | refine g_ref14_Same_c6_sh.mpr ?_ | refine g_ref14_Same_c7_sh.mpr ?_ | refine g_ref14_Same_code_sh.mpr ?_)
    exact hT _ rfl rfl
  | succ n ih =>
    intro k hk
    refine g_ref14_Same_l0_sh rfl ?_
    have hlt : k < y.paid.length := by omega
    have he := List.getElem?_eq_getElem hlt
    have hlt' : ((k : Int) < (y.paid.length : Int)) := by omega
    have hw1 : IntKind.i64.wrap ((k : Int) + 1) = (k : Int) + 1 := wrapI (by omega) (by omega)
    repeat (first | simp only [go_sem, ↓reduceIte, Nat.reduceEqDiff, Nat.reduceAdd, Nat.reduceSub, Nat.reduceMul, Nat.reduceLeDiff, Nat.reduceBEq, reduceCtorEq, Nat.reduceEqDiff, Int.reduceEq, Int.reduceLT, Int.reduceLE, Int.reduceNeg, Int.reduceBEq, Int.reduceBNe, Int.reduceToNat, Int.reducePow, encI, List.length_map, hlt', Int.natCast_nonneg, Int.toNat_natCast, getMap encI he, bne_self_eq_false, hw1] | refine g_ref14_Same_o7_sh.mpr ?_ | refine g_ref14_Same_o6_sh.mpr ?_ | refine g_ref14_Same_o5_sh.mpr ?_ | refine g_ref14_Same_o4_sh.mpr ?_ | refine g_ref14_Same_o3_sh.mpr ?_ | refine g_ref14_Same_o2_sh.mpr ?_ | refine g_ref14_Same_o1_sh.mpr ?_ | refine g_ref14_Same_o0_sh.mpr ?_ | refine g_ref14_Same_c0_sh.mpr ?_ | refine g_ref14_Same_c1_sh.mpr ?_ | refine g_ref14_Same_c2_sh.mpr ?_ | refine g_ref14_Same_c3_sh.mpr ?_ | refine g_ref14_Same_c4_sh.mpr ?_ | refine g_ref14_Same_c5_sh.mpr ?_ | refine g_ref14_Same_c6_sh.mpr ?_ | refine g_ref14_Same_c7_sh.mpr ?_ | refine g_ref14_Same_code_sh.mpr ?_)
    exact ih (k + 1) (by omega)

theorem yr_loop1 {C : Ctx} {I : Nat → Prop} (hI : ∀ n, ¬ I n) {Q : Ex → St → Prop} {y : Yr} (hl : y.owed.length < 1000)
    (hT : ∀ s, s 2 = .ptr 2 0 → s 3 = .ptr 3 0 → Q (.exit 2) (St.mk s (looko [(2, some (boxY y)), (3, some (boxY y))]))) :
    ∀ (n k : Nat), k + n = y.owed.length →
      wpB C I g_ref14_Same.l1 (St.mk (look [(2, .ptr 2 0), (3, .ptr 3 0), (6, vI k)]) (looko [(2, some (boxY y)), (3, some (boxY y))])) Q := by
  intro n
  induction n with
  | zero =>
    intro k hk
    refine g_ref14_Same_l1_sh rfl ?_
    have hk' : k = y.owed.length := by omega
    subst hk'
    repeat (first | simp only [go_sem, ↓reduceIte, Nat.reduceEqDiff, Nat.reduceAdd, Nat.reduceSub, Nat.reduceMul, Nat.reduceLeDiff, Nat.reduceBEq, reduceCtorEq, Nat.reduceEqDiff, Int.reduceEq, Int.reduceLT, Int.reduceLE, Int.reduceNeg, Int.reduceBEq, Int.reduceBNe, Int.reduceToNat, Int.reducePow, List.length_map, Int.lt_irrefl, decide_false] | refine g_ref14_Same_o7_sh.mpr ?_ | refine g_ref14_Same_o6_sh.mpr ?_ | refine g_ref14_Same_o5_sh.mpr ?_ | refine g_ref14_Same_o4_sh.mpr ?_ | refine g_ref14_Same_o3_sh.mpr ?_ | refine g_ref14_Same_o2_sh.mpr ?_ | refine g_ref14_Same_o1_sh.mpr ?_ | refine g_ref14_Same_o0_sh.mpr ?_ | refine g_ref14_Same_c0_sh.mpr ?_ | refine g_ref14_Same_c1_sh.mpr ?_ | refine g_ref14_Same_c2_sh.mpr ?_ | refine g_ref14_Same_c3_sh.mpr ?_ | refine g_ref14_Same_c4_sh.mpr ?_ | refine g_ref14_Same_c5_sh.mpr ?_ | refine g_ref14_Same_c6_sh.mpr ?_ | refine g_ref14_Same_c7_sh.mpr ?_ | refine g_ref14_Same_code_sh.mpr ?_)
    exact hT _ rfl rfl
  | succ n ih =>
    intro k hk
    refine g_ref14_Same_l1_sh rfl ?_
    have hlt : k < y.owed.length := by omega
    have he := List.getElem?_eq_getElem hlt
    have hlt' : ((k : Int) < (y.owed.length : Int)) := by omega
    have hw1 : IntKind.i64.wrap ((k : Int) + 1) = (k : Int) + 1 := wrapI (by omega) (by omega)
    repeat (first | simp only [go_sem, ↓reduceIte, Nat.reduceEqDiff, Nat.reduceAdd, Nat.reduceSub, Nat.reduceMul, Nat.reduceLeDiff, Nat.reduceBEq, reduceCtorEq, Nat.reduceEqDiff, Int.reduceEq, Int.reduceLT, Int.reduceLE, Int.reduceNeg, Int.reduceBEq, Int.reduceBNe, Int.reduceToNat, Int.reducePow, encI, List.length_map, hlt', Int.natCast_nonneg, Int.toNat_natCast, getMap encI he, bne_self_eq_false, hw1] | refine g_ref14_Same_o7_sh.mpr ?_ | refine g_ref14_Same_o6_sh.mpr ?_ | refine g_ref14_Same_o5_sh.mpr ?_ | refine g_ref14_Same_o4_sh.mpr ?_ | refine g_ref14_Same_o3_sh.mpr ?_ | refine g_ref14_Same_o2_sh.mpr ?_ | refine g_ref14_Same_o1_sh.mpr ?_ | refine g_ref14_Same_o0_sh.mpr ?_ | refine g_ref14_Same_c0_sh.mpr ?_ | refine g_ref14_Same_c1_sh.mpr ?_ | refine g_ref14_Same_c2_sh.mpr ?_ | refine g_ref14_Same_c3_sh.mpr ?_ | refine g_ref14_Same_c4_sh.mpr ?_ | refine g_ref14_Same_c5_sh.mpr ?_ | refine g_ref14_Same_c6_sh.mpr ?_ | refine g_ref14_Same_c7_sh.mpr ?_ | refine g_ref14_Same_code_sh.mpr ?_)
    exact ih (k + 1) (by omega)

theorem sameYear {C : Ctx} (h27 : okFn C.P C.φ 27 g_ref14_Same = true) (y : Yr) (h1 : y.paid.length < 1000) (h2 : y.owed.length < 1000) :
    SoundAt C 27 ⟨[vYear y, vYear y], looko []⟩ ⟨vB true, looko []⟩ := by
  refine SoundAt.of_run h27 rfl (fun Q hR _ => ?_)
  rw [entry2]
  repeat (first | simp only [go_sem, ↓reduceIte, Nat.reduceEqDiff, Nat.reduceAdd, Nat.reduceSub, Nat.reduceMul, Nat.reduceLeDiff, Nat.reduceBEq, reduceCtorEq, Nat.reduceEqDiff, Int.reduceEq, Int.reduceLT, Int.reduceLE, Int.reduceNeg, Int.reduceBEq, Int.reduceBNe, Int.reduceToNat, Int.reducePow, List.length_map, bne_self_eq_false] | refine g_ref14_Same_o7_sh.mpr ?_ | refine g_ref14_Same_o6_sh.mpr ?_ | refine g_ref14_Same_o5_sh.mpr ?_ | refine g_ref14_Same_o4_sh.mpr ?_ | refine g_ref14_Same_o3_sh.mpr ?_ | refine g_ref14_Same_o2_sh.mpr ?_ | refine g_ref14_Same_o1_sh.mpr ?_ | refine g_ref14_Same_o0_sh.mpr ?_ | refine g_ref14_Same_c0_sh.mpr ?_ | refine g_ref14_Same_c1_sh.mpr ?_ | refine g_ref14_Same_c2_sh.mpr ?_ | refine g_ref14_Same_c3_sh.mpr ?_ | refine g_ref14_Same_c4_sh.mpr ?_ | refine g_ref14_Same_c5_sh.mpr ?_ | refine g_ref14_Same_c6_sh.mpr ?_ | refine g_ref14_Same_c7_sh.mpr ?_ | refine g_ref14_Same_code_sh.mpr ?_)
  refine yr_loop0 (fun _ h => h) h1 (fun s s2 s3 => ?_) y.paid.length 0 (by omega)
  repeat (first | simp only [go_sem, ↓reduceIte, Nat.reduceEqDiff, Nat.reduceAdd, Nat.reduceSub, Nat.reduceMul, Nat.reduceLeDiff, Nat.reduceBEq, reduceCtorEq, Nat.reduceEqDiff, Int.reduceEq, Int.reduceLT, Int.reduceLE, Int.reduceNeg, Int.reduceBEq, Int.reduceBNe, Int.reduceToNat, Int.reducePow, s2, s3] | refine g_ref14_Same_o7_sh.mpr ?_ | refine g_ref14_Same_o6_sh.mpr ?_ | refine g_ref14_Same_o5_sh.mpr ?_ | refine g_ref14_Same_o4_sh.mpr ?_ | refine g_ref14_Same_o3_sh.mpr ?_ | refine g_ref14_Same_o2_sh.mpr ?_ | refine g_ref14_Same_o1_sh.mpr ?_ | refine g_ref14_Same_o0_sh.mpr ?_ | refine g_ref14_Same_c0_sh.mpr ?_ | refine g_ref14_Same_c1_sh.mpr ?_ | refine g_ref14_Same_c2_sh.mpr ?_ | refine g_ref14_Same_c3_sh.mpr ?_ | refine g_ref14_Same_c4_sh.mpr ?_ | refine g_ref14_Same_c5_sh.mpr ?_ | refine g_ref14_Same_c6_sh.mpr ?_ | refine g_ref14_Same_c7_sh.mpr ?_ | refine g_ref14_Same_code_sh.mpr ?_)
  refine yr_loop1 (fun _ h => h) h2 (fun s s2 s3 => ?_) y.owed.length 0 (by omega)
  repeat (first | simp only [go_sem, ↓reduceIte, Nat.reduceEqDiff, Nat.reduceAdd, Nat.reduceSub, Nat.reduceMul, Nat.reduceLeDiff, Nat.reduceBEq, reduceCtorEq, Nat.reduceEqDiff, Int.reduceEq, Int.reduceLT, Int.reduceLE, Int.reduceNeg, Int.reduceBEq, Int.reduceBNe, Int.reduceToNat, Int.reducePow, s2, s3] | refine g_ref14_Same_o7_sh.mpr ?_ | refine g_ref14_Same_o6_sh.mpr ?_ | refine g_ref14_Same_o5_sh.mpr ?_ | refine g_ref14_Same_o4_sh.mpr ?_ | refine g_ref14_Same_o3_sh.mpr ?_ | refine g_ref14_Same_o2_sh.mpr ?_ | refine g_ref14_Same_o1_sh.mpr ?_ | refine g_ref14_Same_o0_sh.mpr ?_ | refine g_ref14_Same_c0_sh.mpr ?_ | refine g_ref14_Same_c1_sh.mpr ?_ | refine g_ref14_Same_c2_sh.mpr ?_ | refine g_ref14_Same_c3_sh.mpr ?_ | refine g_ref14_Same_c4_sh.mpr ?_ | refine g_ref14_Same_c5_sh.mpr ?_ | refine g_ref14_Same_c6_sh.mpr ?_ | refine g_ref14_Same_c7_sh.mpr ?_ | refine g_ref14_Same_code_sh.mpr ?_)
  refine hR _ ?_
  simp only [go_sem, ↓reduceIte, Nat.reduceEqDiff, Nat.reduceAdd, Nat.reduceSub, Nat.reduceMul, Nat.reduceLeDiff, Nat.reduceBEq, reduceCtorEq, Nat.reduceEqDiff, Int.reduceEq, Int.reduceLT, Int.reduceLE, Int.reduceNeg, Int.reduceBEq, Int.reduceBNe, Int.reduceToNat, Int.reducePow]
end Pay
