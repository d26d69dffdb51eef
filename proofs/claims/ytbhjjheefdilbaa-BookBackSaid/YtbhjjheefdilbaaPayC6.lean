/- Contracts: what came in a year. -/
import Derived.Test.YtbhjjheefdilbaaPayC4
import Derived.Test.YtbhjjheefdilbaaPayC5
import Derived.Test.YtbhjjheefdilbaaPaySh0
import Derived.Test.YtbhjjheefdilbaaPaySh1
set_option linter.unusedSimpArgs false
set_option linter.unusedVariables false
namespace Pay
open Go
attribute [local irreducible] wpB opsB treeB drawB

structure Yr where
  taxable : Int
  base : Int
  tax : Int
  paid : List Int
  owed : List Int
abbrev w64 (x : Int) : Int := IntKind.i64.wrap x
def yStep (year : Int) (y : Yr) (e : Ent) : Yr :=
  if w64 (e.per.tdiv 12) = year then ⟨w64 (y.taxable + e.taxable), w64 (y.base + w64 (e.raw.gross + e.extra.gross)), w64 (y.tax + e.tax), addS y.paid e.paid, addS y.owed e.owed⟩ else y
def yFunds (funds : Int) : Nat := (if 6 < (if 0 > funds then 0 else funds) then 6 else (if 0 > funds then 0 else funds)).toNat
def yZero (funds : Int) : Yr := ⟨0, 0, 0, List.replicate (yFunds funds) 0, List.replicate (yFunds funds) 0⟩
def yearS (l : List Ent) (id year funds : Int) : Yr := (aliveS l id).foldl (yStep year) (yZero funds)
abbrev vYear (y : Yr) : V := .agg [vI y.taxable, vI y.base, vI y.tax, .d (.sl (y.paid.map encI)), .d (.sl (y.owed.map encI))]
abbrev boxYear (y : Yr) : Ob := .box [vI y.taxable, vI y.base, vI y.tax, .own 17, .own 19]
theorem yStep_len (year : Int) (y : Yr) (e : Ent) : (yStep year y e).paid.length = y.paid.length ∧ (yStep year y e).owed.length = y.owed.length := by
  unfold yStep
  split <;> simp [addS]
abbrev zeroYear : Ob := .box [vI 0, vI 0, vI 0, .cap0, .cap0]

theorem year_loop {C : Ctx} (hAdd : ∀ (m : Nat) (as bs : List Int), as.length < 100000 → SoundAt C 19 ⟨[.own m, .d (.sl (bs.map encI))], looko [(m, some (.row 1 (as.map encI)))]⟩ ⟨.tup [], looko [(m, some (.row 1 ((addS as bs).map encI)))]⟩)
    {I : Nat → Prop} (hI : ∀ n, ¬ I n) {Q : Ex → St → Prop} {al : List Ent} {year : Int} (hl : al.length < 1000) {y0 : Yr}
    (hT : ∀ s, s 8 = .ptr 8 0 → s 10 = .ptr 10 0 → Q (.exit 0) (St.mk s (looko [(8, some zeroYear), (10, some (boxYear (al.foldl (yStep year) y0))), (17, some (.row 1 ((al.foldl (yStep year) y0).paid.map encI))), (19, some (.row 1 ((al.foldl (yStep year) y0).owed.map encI)))]))) :
    ∀ (n k : Nat) (y : Yr), k + n = al.length → al.foldl (yStep year) y0 = (al.drop k).foldl (yStep year) y → y.paid.length < 1000 → y.owed.length < 1000 →
      wpB C I g_book_Year.l0 (St.mk (look [(2, vI year), (8, .ptr 8 0), (10, .ptr 10 0), (23, vEnts al), (24, vI al.length), (25, vI k)])
        (looko [(8, some zeroYear), (10, some (boxYear y)), (17, some (.row 1 (y.paid.map encI))), (19, some (.row 1 (y.owed.map encI)))])) Q := by
  intro n
  induction n with
  | zero =>
    intro k y hk hi hp ho
    refine g_book_Year_l0_sh rfl ?_
    have hk' : k = al.length := by omega
    subst hk'
    have hi' : al.foldl (yStep year) y0 = y := by rw [hi]; simp
    rw [hi'] at hT
    simp only [go_sem, ↓reduceIte, Nat.reduceEqDiff, Nat.reduceAdd, Nat.reduceSub, Nat.reduceMul, Nat.reduceLeDiff, Nat.reduceBEq, reduceCtorEq, Nat.reduceEqDiff, Int.reduceEq, Int.reduceLT, Int.reduceLE, Int.reduceNeg, Int.reduceBEq, Int.reduceBNe, Int.reduceToNat, Int.reducePow, Int.lt_irrefl, decide_false]
    exact hT _ rfl rfl
  | succ n ih =>
    intro k y hk hi hp ho
    refine g_book_Year_l0_sh rfl ?_
    have hlt : k < al.length := by omega
    have he := List.getElem?_eq_getElem hlt
    have hlt' : ((k : Int) < (al.length : Int)) := by omega
    have hw : IntKind.i64.wrap ((k : Int) + 1) = (k : Int) + 1 := wrapI (by omega) (by omega)
    rw [List.drop_eq_getElem_cons hlt, List.foldl_cons] at hi
    have next := ih (k + 1) (yStep year y al[k]) (by omega) hi (by rw [(yStep_len _ _ _).1]; exact hp) (by rw [(yStep_len _ _ _).2]; exact ho)
    by_cases h1 : w64 (al[k].per.tdiv 12) = year
    case neg =>
      have hy : yStep year y al[k] = y := by simp [yStep, h1]
      rw [hy] at next
      have h1' : (w64 (al[k].per.tdiv 12) != year) = true := by simp [h1]
      repeat (first | simp only [go_sem, ↓reduceIte, Nat.reduceEqDiff, Nat.reduceAdd, Nat.reduceSub, Nat.reduceMul, Nat.reduceLeDiff, Nat.reduceBEq, reduceCtorEq, Nat.reduceEqDiff, Int.reduceEq, Int.reduceLT, Int.reduceLE, Int.reduceNeg, Int.reduceBEq, Int.reduceBNe, Int.reduceToNat, Int.reducePow, hI, hlt', Int.natCast_nonneg, Int.toNat_natCast, getMap enc he, List.getElem?_map, enc_g1, h1', hw] | refine g_book_Year_t2_sh.mpr ?_ | refine g_book_Year_t3_sh.mpr ?_ | refine g_book_Year_t4_sh.mpr ?_ | refine g_book_Year_t5_sh.mpr ?_ | refine g_book_Year_t6_sh.mpr ?_ | refine g_book_Year_t7_sh.mpr ?_ | refine g_book_Year_t8_sh.mpr ?_ | refine g_book_Year_t9_sh.mpr ?_ | refine g_book_Year_t10_sh.mpr ?_ | refine g_book_Year_t11_sh.mpr ?_ | refine g_book_Year_t12_sh.mpr ?_ | refine g_book_Year_t13_sh.mpr ?_ | refine g_book_Year_t14_sh.mpr ?_ | refine g_book_Year_t15_sh.mpr ?_ | refine g_book_Year_t16_sh.mpr ?_ | refine g_book_Year_t17_sh.mpr ?_ | refine g_book_Year_i1_sh.mpr ?_ | refine g_book_Year_c0_sh.mpr ?_ | refine g_book_Year_c1_sh.mpr ?_ | refine g_book_Year_c2_sh.mpr ?_ | refine g_book_Year_c3_sh.mpr ?_ | refine g_book_Year_c4_sh.mpr ?_ | refine g_book_Year_c5_sh.mpr ?_ | refine g_book_Year_c6_sh.mpr ?_ | refine g_book_Year_c7_sh.mpr ?_ | refine g_book_Year_c8_sh.mpr ?_ | refine g_book_Year_c9_sh.mpr ?_ | refine g_book_Year_c10_sh.mpr ?_ | refine g_book_Year_code_sh.mpr ?_)
      exact next
    have h1' : (w64 (al[k].per.tdiv 12) != year) = false := by simp [h1]
    have hy : yStep year y al[k] = ⟨w64 (y.taxable + al[k].taxable), w64 (y.base + w64 (al[k].raw.gross + al[k].extra.gross)), w64 (y.tax + al[k].tax), addS y.paid al[k].paid, addS y.owed al[k].owed⟩ := by simp [yStep, h1]
    rw [hy] at next
    repeat (first | simp only [go_sem, ↓reduceIte, Nat.reduceEqDiff, Nat.reduceAdd, Nat.reduceSub, Nat.reduceMul, Nat.reduceLeDiff, Nat.reduceBEq, reduceCtorEq, Nat.reduceEqDiff, Int.reduceEq, Int.reduceLT, Int.reduceLE, Int.reduceNeg, Int.reduceBEq, Int.reduceBNe, Int.reduceToNat, Int.reducePow, hI, hlt', Int.natCast_nonneg, Int.toNat_natCast, getMap enc he, List.getElem?_map, enc_g1, enc_g12, enc_g6, enc_g9, enc_g13, enc_g18, enc_g19, h1', hw] | refine g_book_Year_t2_sh.mpr ?_ | refine g_book_Year_t3_sh.mpr ?_ | refine g_book_Year_t4_sh.mpr ?_ | refine g_book_Year_t5_sh.mpr ?_ | refine g_book_Year_t6_sh.mpr ?_ | refine g_book_Year_t7_sh.mpr ?_ | refine g_book_Year_t8_sh.mpr ?_ | refine g_book_Year_t9_sh.mpr ?_ | refine g_book_Year_t10_sh.mpr ?_ | refine g_book_Year_t11_sh.mpr ?_ | refine g_book_Year_t12_sh.mpr ?_ | refine g_book_Year_t13_sh.mpr ?_ | refine g_book_Year_t14_sh.mpr ?_ | refine g_book_Year_t15_sh.mpr ?_ | refine g_book_Year_t16_sh.mpr ?_ | refine g_book_Year_t17_sh.mpr ?_ | refine g_book_Year_i1_sh.mpr ?_ | refine g_book_Year_c0_sh.mpr ?_ | refine g_book_Year_c1_sh.mpr ?_ | refine g_book_Year_c2_sh.mpr ?_ | refine g_book_Year_c3_sh.mpr ?_ | refine g_book_Year_c4_sh.mpr ?_ | refine g_book_Year_c5_sh.mpr ?_ | refine g_book_Year_c6_sh.mpr ?_ | refine g_book_Year_c7_sh.mpr ?_ | refine g_book_Year_c8_sh.mpr ?_ | refine g_book_Year_c9_sh.mpr ?_ | refine g_book_Year_c10_sh.mpr ?_ | refine g_book_Year_code_sh.mpr ?_)
    refine callK_ob rfl (fun _ => rfl) (hAdd 17 _ _ (by omega)) (fun _ => rfl) ?_
    repeat (first | simp only [go_sem, ↓reduceIte, Nat.reduceEqDiff, Nat.reduceAdd, Nat.reduceSub, Nat.reduceMul, Nat.reduceLeDiff, Nat.reduceBEq, reduceCtorEq, Nat.reduceEqDiff, Int.reduceEq, Int.reduceLT, Int.reduceLE, Int.reduceNeg, Int.reduceBEq, Int.reduceBNe, Int.reduceToNat, Int.reducePow, hI, hlt', Int.natCast_nonneg, Int.toNat_natCast, getMap enc he, List.getElem?_map, enc_g18, enc_g19, hw] | refine g_book_Year_t2_sh.mpr ?_ | refine g_book_Year_t3_sh.mpr ?_ | refine g_book_Year_t4_sh.mpr ?_ | refine g_book_Year_t5_sh.mpr ?_ | refine g_book_Year_t6_sh.mpr ?_ | refine g_book_Year_t7_sh.mpr ?_ | refine g_book_Year_t8_sh.mpr ?_ | refine g_book_Year_t9_sh.mpr ?_ | refine g_book_Year_t10_sh.mpr ?_ | refine g_book_Year_t11_sh.mpr ?_ | refine g_book_Year_t12_sh.mpr ?_ | refine g_book_Year_t13_sh.mpr ?_ | refine g_book_Year_t14_sh.mpr ?_ | refine g_book_Year_t15_sh.mpr ?_ | refine g_book_Year_t16_sh.mpr ?_ | refine g_book_Year_t17_sh.mpr ?_ | refine g_book_Year_i1_sh.mpr ?_ | refine g_book_Year_c0_sh.mpr ?_ | refine g_book_Year_c1_sh.mpr ?_ | refine g_book_Year_c2_sh.mpr ?_ | refine g_book_Year_c3_sh.mpr ?_ | refine g_book_Year_c4_sh.mpr ?_ | refine g_book_Year_c5_sh.mpr ?_ | refine g_book_Year_c6_sh.mpr ?_ | refine g_book_Year_c7_sh.mpr ?_ | refine g_book_Year_c8_sh.mpr ?_ | refine g_book_Year_c9_sh.mpr ?_ | refine g_book_Year_c10_sh.mpr ?_ | refine g_book_Year_code_sh.mpr ?_)
    refine callK_ob rfl (fun _ => rfl) (hAdd 19 _ _ (by omega)) (fun _ => rfl) ?_
    repeat (first | simp only [go_sem, ↓reduceIte, Nat.reduceEqDiff, Nat.reduceAdd, Nat.reduceSub, Nat.reduceMul, Nat.reduceLeDiff, Nat.reduceBEq, reduceCtorEq, Nat.reduceEqDiff, Int.reduceEq, Int.reduceLT, Int.reduceLE, Int.reduceNeg, Int.reduceBEq, Int.reduceBNe, Int.reduceToNat, Int.reducePow, hI, hw] | refine g_book_Year_t2_sh.mpr ?_ | refine g_book_Year_t3_sh.mpr ?_ | refine g_book_Year_t4_sh.mpr ?_ | refine g_book_Year_t5_sh.mpr ?_ | refine g_book_Year_t6_sh.mpr ?_ | refine g_book_Year_t7_sh.mpr ?_ | refine g_book_Year_t8_sh.mpr ?_ | refine g_book_Year_t9_sh.mpr ?_ | refine g_book_Year_t10_sh.mpr ?_ | refine g_book_Year_t11_sh.mpr ?_ | refine g_book_Year_t12_sh.mpr ?_ | refine g_book_Year_t13_sh.mpr ?_ | refine g_book_Year_t14_sh.mpr ?_ | refine g_book_Year_t15_sh.mpr ?_ | refine g_book_Year_t16_sh.mpr ?_ | refine g_book_Year_t17_sh.mpr ?_ | refine g_book_Year_i1_sh.mpr ?_ | refine g_book_Year_c0_sh.mpr ?_ | refine g_book_Year_c1_sh.mpr ?_ | refine g_book_Year_c2_sh.mpr ?_ | refine g_book_Year_c3_sh.mpr ?_ | refine g_book_Year_c4_sh.mpr ?_ | refine g_book_Year_c5_sh.mpr ?_ | refine g_book_Year_c6_sh.mpr ?_ | refine g_book_Year_c7_sh.mpr ?_ | refine g_book_Year_c8_sh.mpr ?_ | refine g_book_Year_c9_sh.mpr ?_ | refine g_book_Year_c10_sh.mpr ?_ | refine g_book_Year_code_sh.mpr ?_)
    exact next

theorem bookYear {C : Ctx} (h6 : okFn C.P C.φ 6 g_book_Year = true)
    (hAdd : ∀ (m : Nat) (as bs : List Int), as.length < 100000 → SoundAt C 19 ⟨[.own m, .d (.sl (bs.map encI))], looko [(m, some (.row 1 (as.map encI)))]⟩ ⟨.tup [], looko [(m, some (.row 1 ((addS as bs).map encI)))]⟩)
    (hAlive : ∀ (l : List Ent) (id : Int), l.length < 1000 → SoundAt C 18 ⟨[vBook l, vI id], looko []⟩ ⟨vEnts (aliveS l id), looko []⟩)
    (l : List Ent) (id year funds : Int) (hl : l.length < 1000) :
    SoundAt C 6 ⟨[vBook l, vI id, vI year, vI funds], looko []⟩ ⟨vYear (yearS l id year funds), looko []⟩ := by
  refine SoundAt.of_run h6 rfl (fun Q hR _ => ?_)
  rw [entry4]
  repeat (first | simp only [go_sem, ↓reduceIte, Nat.reduceEqDiff, Nat.reduceAdd, Nat.reduceSub, Nat.reduceMul, Nat.reduceLeDiff, Nat.reduceBEq, reduceCtorEq, Nat.reduceEqDiff, Int.reduceEq, Int.reduceLT, Int.reduceLE, Int.reduceNeg, Int.reduceBEq, Int.reduceBNe, Int.reduceToNat, Int.reducePow, List.length_map] | refine g_book_Year_t2_sh.mpr ?_ | refine g_book_Year_t3_sh.mpr ?_ | refine g_book_Year_t4_sh.mpr ?_ | refine g_book_Year_t5_sh.mpr ?_ | refine g_book_Year_t6_sh.mpr ?_ | refine g_book_Year_t7_sh.mpr ?_ | refine g_book_Year_t8_sh.mpr ?_ | refine g_book_Year_t9_sh.mpr ?_ | refine g_book_Year_t10_sh.mpr ?_ | refine g_book_Year_t11_sh.mpr ?_ | refine g_book_Year_t12_sh.mpr ?_ | refine g_book_Year_t13_sh.mpr ?_ | refine g_book_Year_t14_sh.mpr ?_ | refine g_book_Year_t15_sh.mpr ?_ | refine g_book_Year_t16_sh.mpr ?_ | refine g_book_Year_t17_sh.mpr ?_ | refine g_book_Year_i1_sh.mpr ?_ | refine g_book_Year_c0_sh.mpr ?_ | refine g_book_Year_c1_sh.mpr ?_ | refine g_book_Year_c2_sh.mpr ?_ | refine g_book_Year_c3_sh.mpr ?_ | refine g_book_Year_c4_sh.mpr ?_ | refine g_book_Year_c5_sh.mpr ?_ | refine g_book_Year_c6_sh.mpr ?_ | refine g_book_Year_c7_sh.mpr ?_ | refine g_book_Year_c8_sh.mpr ?_ | refine g_book_Year_c9_sh.mpr ?_ | refine g_book_Year_c10_sh.mpr ?_ | refine g_book_Year_code_sh.mpr ?_)
  have hn : ∃ n : Int, 0 ≤ n ∧ n ≤ 6 ∧ (if 6 < if 0 > funds then 0 else funds then 6 else if 0 > funds then 0 else funds) = n := ⟨_, by split <;> split <;> omega, by split <;> omega, rfl⟩
  obtain ⟨n, hn0, hn1, hn⟩ := hn
  have hf : yFunds funds = n.toNat := by unfold yFunds; rw [hn]
  rw [hn]
  have hm1 : n.toNat * 8 ≤ 140737488355328 := by omega
  have hm2 : n ≤ 140737488355328 := by omega
  suffices h : wpB C (fun n => False) g_book_Year.c9 (St.mk (look [(1, vI id), (2, vI year), (4, .ptr 4 0), (8, .ptr 8 0), (10, .ptr 10 0)]) (looko [(4, some (.box [vEnts l])), (8, some zeroYear), (10, some (.box [vI 0, vI 0, vI 0, .own 17, .own 19])), (17, some (.row 1 (List.replicate n.toNat [dI 0]))), (19, some (.row 1 (List.replicate n.toNat [dI 0])))])) Q by
    repeat' (first | simp only [go_sem, ↓reduceIte, Nat.reduceEqDiff, Nat.reduceAdd, Nat.reduceSub, Nat.reduceMul, Nat.reduceLeDiff, Nat.reduceBEq, reduceCtorEq, Nat.reduceEqDiff, Int.reduceEq, Int.reduceLT, Int.reduceLE, Int.reduceNeg, Int.reduceBEq, Int.reduceBNe, Int.reduceToNat, Int.reducePow, hn0, hm1, hm2] | refine g_book_Year_t2_sh.mpr ?_ | refine g_book_Year_t3_sh.mpr ?_ | refine g_book_Year_t4_sh.mpr ?_ | refine g_book_Year_t5_sh.mpr ?_ | refine g_book_Year_t6_sh.mpr ?_ | refine g_book_Year_t7_sh.mpr ?_ | refine g_book_Year_t8_sh.mpr ?_ | refine g_book_Year_t9_sh.mpr ?_ | refine g_book_Year_t10_sh.mpr ?_ | refine g_book_Year_t11_sh.mpr ?_ | refine g_book_Year_t12_sh.mpr ?_ | refine g_book_Year_t13_sh.mpr ?_ | refine g_book_Year_t14_sh.mpr ?_ | refine g_book_Year_t15_sh.mpr ?_ | refine g_book_Year_t16_sh.mpr ?_ | refine g_book_Year_t17_sh.mpr ?_ | refine g_book_Year_i1_sh.mpr ?_ | refine And.intro ?_ ?_)
    all_goals exact h
  repeat (first | simp only [go_sem, ↓reduceIte, Nat.reduceEqDiff, Nat.reduceAdd, Nat.reduceSub, Nat.reduceMul, Nat.reduceLeDiff, Nat.reduceBEq, reduceCtorEq, Nat.reduceEqDiff, Int.reduceEq, Int.reduceLT, Int.reduceLE, Int.reduceNeg, Int.reduceBEq, Int.reduceBNe, Int.reduceToNat, Int.reducePow] | refine g_book_Year_t2_sh.mpr ?_ | refine g_book_Year_t3_sh.mpr ?_ | refine g_book_Year_t4_sh.mpr ?_ | refine g_book_Year_t5_sh.mpr ?_ | refine g_book_Year_t6_sh.mpr ?_ | refine g_book_Year_t7_sh.mpr ?_ | refine g_book_Year_t8_sh.mpr ?_ | refine g_book_Year_t9_sh.mpr ?_ | refine g_book_Year_t10_sh.mpr ?_ | refine g_book_Year_t11_sh.mpr ?_ | refine g_book_Year_t12_sh.mpr ?_ | refine g_book_Year_t13_sh.mpr ?_ | refine g_book_Year_t14_sh.mpr ?_ | refine g_book_Year_t15_sh.mpr ?_ | refine g_book_Year_t16_sh.mpr ?_ | refine g_book_Year_t17_sh.mpr ?_ | refine g_book_Year_i1_sh.mpr ?_ | refine g_book_Year_c0_sh.mpr ?_ | refine g_book_Year_c1_sh.mpr ?_ | refine g_book_Year_c2_sh.mpr ?_ | refine g_book_Year_c3_sh.mpr ?_ | refine g_book_Year_c4_sh.mpr ?_ | refine g_book_Year_c5_sh.mpr ?_ | refine g_book_Year_c6_sh.mpr ?_ | refine g_book_Year_c7_sh.mpr ?_ | refine g_book_Year_c8_sh.mpr ?_ | refine g_book_Year_c9_sh.mpr ?_ | refine g_book_Year_c10_sh.mpr ?_ | refine g_book_Year_code_sh.mpr ?_)
  refine callK_plain (hAlive l id hl) (fun _ => rfl) ?_
  repeat (first | simp only [go_sem, ↓reduceIte, Nat.reduceEqDiff, Nat.reduceAdd, Nat.reduceSub, Nat.reduceMul, Nat.reduceLeDiff, Nat.reduceBEq, reduceCtorEq, Nat.reduceEqDiff, Int.reduceEq, Int.reduceLT, Int.reduceLE, Int.reduceNeg, Int.reduceBEq, Int.reduceBNe, Int.reduceToNat, Int.reducePow, List.length_map] | refine g_book_Year_t2_sh.mpr ?_ | refine g_book_Year_t3_sh.mpr ?_ | refine g_book_Year_t4_sh.mpr ?_ | refine g_book_Year_t5_sh.mpr ?_ | refine g_book_Year_t6_sh.mpr ?_ | refine g_book_Year_t7_sh.mpr ?_ | refine g_book_Year_t8_sh.mpr ?_ | refine g_book_Year_t9_sh.mpr ?_ | refine g_book_Year_t10_sh.mpr ?_ | refine g_book_Year_t11_sh.mpr ?_ | refine g_book_Year_t12_sh.mpr ?_ | refine g_book_Year_t13_sh.mpr ?_ | refine g_book_Year_t14_sh.mpr ?_ | refine g_book_Year_t15_sh.mpr ?_ | refine g_book_Year_t16_sh.mpr ?_ | refine g_book_Year_t17_sh.mpr ?_ | refine g_book_Year_i1_sh.mpr ?_ | refine g_book_Year_c0_sh.mpr ?_ | refine g_book_Year_c1_sh.mpr ?_ | refine g_book_Year_c2_sh.mpr ?_ | refine g_book_Year_c3_sh.mpr ?_ | refine g_book_Year_c4_sh.mpr ?_ | refine g_book_Year_c5_sh.mpr ?_ | refine g_book_Year_c6_sh.mpr ?_ | refine g_book_Year_c7_sh.mpr ?_ | refine g_book_Year_c8_sh.mpr ?_ | refine g_book_Year_c9_sh.mpr ?_ | refine g_book_Year_c10_sh.mpr ?_ | refine g_book_Year_code_sh.mpr ?_)
  have hz : List.replicate n.toNat [dI 0] = (List.replicate n.toNat (0 : Int)).map encI := by simp [encI]
  have hlen : (aliveS l id).length < 1000 := Nat.lt_of_le_of_lt (filtFrom_len _ l 0) hl
  have hzero : yZero funds = ⟨0, 0, 0, List.replicate n.toNat 0, List.replicate n.toNat 0⟩ := by simp [yZero, hf]
  rw [hz]
  have hyear : yearS l id year funds = (aliveS l id).foldl (yStep year) ⟨0, 0, 0, List.replicate n.toNat 0, List.replicate n.toNat 0⟩ := by unfold yearS; rw [hzero]
  refine year_loop hAdd (fun _ h => h) hlen (y0 := ⟨0, 0, 0, List.replicate n.toNat 0, List.replicate n.toNat 0⟩) (fun s h8 h10 => ?_) (aliveS l id).length 0 ⟨0, 0, 0, List.replicate n.toNat 0, List.replicate n.toNat 0⟩ (by omega) rfl (by simp; omega) (by simp; omega)
  rw [← hyear]
  generalize yearS l id year funds = y at hR ⊢
  repeat (first | simp only [go_sem, ↓reduceIte, Nat.reduceEqDiff, Nat.reduceAdd, Nat.reduceSub, Nat.reduceMul, Nat.reduceLeDiff, Nat.reduceBEq, reduceCtorEq, Nat.reduceEqDiff, Int.reduceEq, Int.reduceLT, Int.reduceLE, Int.reduceNeg, Int.reduceBEq, Int.reduceBNe, Int.reduceToNat, Int.reducePow, h8, h10] | refine g_book_Year_t2_sh.mpr ?_ | refine g_book_Year_t3_sh.mpr ?_ | refine g_book_Year_t4_sh.mpr ?_ | refine g_book_Year_t5_sh.mpr ?_ | refine g_book_Year_t6_sh.mpr ?_ | refine g_book_Year_t7_sh.mpr ?_ | refine g_book_Year_t8_sh.mpr ?_ | refine g_book_Year_t9_sh.mpr ?_ | refine g_book_Year_t10_sh.mpr ?_ | refine g_book_Year_t11_sh.mpr ?_ | refine g_book_Year_t12_sh.mpr ?_ | refine g_book_Year_t13_sh.mpr ?_ | refine g_book_Year_t14_sh.mpr ?_ | refine g_book_Year_t15_sh.mpr ?_ | refine g_book_Year_t16_sh.mpr ?_ | refine g_book_Year_t17_sh.mpr ?_ | refine g_book_Year_i1_sh.mpr ?_ | refine g_book_Year_c0_sh.mpr ?_ | refine g_book_Year_c1_sh.mpr ?_ | refine g_book_Year_c2_sh.mpr ?_ | refine g_book_Year_c3_sh.mpr ?_ | refine g_book_Year_c4_sh.mpr ?_ | refine g_book_Year_c5_sh.mpr ?_ | refine g_book_Year_c6_sh.mpr ?_ | refine g_book_Year_c7_sh.mpr ?_ | refine g_book_Year_c8_sh.mpr ?_ | refine g_book_Year_c9_sh.mpr ?_ | refine g_book_Year_c10_sh.mpr ?_ | refine g_book_Year_code_sh.mpr ?_)
  refine hR _ ?_
  simp only [go_sem, ↓reduceIte, Nat.reduceEqDiff, Nat.reduceAdd, Nat.reduceSub, Nat.reduceMul, Nat.reduceLeDiff, Nat.reduceBEq, reduceCtorEq, Nat.reduceEqDiff, Int.reduceEq, Int.reduceLT, Int.reduceLE, Int.reduceNeg, Int.reduceBEq, Int.reduceBNe, Int.reduceToNat, Int.reducePow]
end Pay
