/- Contracts: sums of amounts. -/
import Derived.Test.YtbhjjheefdilbaaDoorPayW
import Derived.Test.YtbhjjheefdilbaaDoorPaySh0
import Derived.Test.YtbhjjheefdilbaaDoorPaySh1
set_option linter.unusedSimpArgs false
set_option linter.unusedVariables false
namespace Pay
open Go
attribute [local irreducible] wpB opsB treeB drawB

/-- An amount. -/
def amt (n : Int) : Bool := decide (n ≥ -9223372036854775807)
def w64' (n : Int) : Int := IntKind.i64.wrap n
abbrev vIE (x : Int × Int) : V := .tup [vI x.1, vI x.2]
def addC (a b c : Int) : Int × Int :=
  if ¬ a ≥ -9223372036854775807 ∨ ¬ b ≥ -9223372036854775807 ∨ ¬ c ≥ -9223372036854775807 ∨ (a > 0 ∧ b > 0 ∧ c < 0) ∨ (a < 0 ∧ b < 0 ∧ c ≥ 0) then (0, 3) else (c, 0)
def addS (a b : Int) : Int × Int := addC a b (w64' (a + b))
def negS (a : Int) : Int × Int := if amt a = true then (w64' (0 - a), 0) else (0, 3)
def subS (a b : Int) : Int × Int := if (negS b).2 = 0 then addS a (negS b).1 else (0, (negS b).2)

theorem moneyRight {C : Ctx} (h : okFn C.P C.φ 58 g_money_Right = true) (n : Int) : SoundAt C 58 ⟨[vI n], looko []⟩ ⟨vB (amt n), looko []⟩ := by
  refine SoundAt.of_run h rfl (fun Q hR hN => ?_)
  rw [entry1]
  repeat (first | simp only [go_sem, ↓reduceIte, Nat.reduceEqDiff, Nat.reduceAdd, Nat.reduceSub, Nat.reduceMul, Nat.reduceLeDiff, Nat.reduceBEq, reduceCtorEq, Nat.reduceEqDiff, Int.reduceEq, Int.reduceLT, Int.reduceLE, Int.reduceNeg, Int.reduceBEq, Int.reduceBNe, Int.reduceToNat, Int.reducePow] | refine g_money_Right_code_sh.mpr ?_)
  refine hR _ ?_
  simp only [go_sem, ↓reduceIte, Nat.reduceEqDiff, Nat.reduceAdd, Nat.reduceSub, Nat.reduceMul, Nat.reduceLeDiff, Nat.reduceBEq, reduceCtorEq, Nat.reduceEqDiff, Int.reduceEq, Int.reduceLT, Int.reduceLE, Int.reduceNeg, Int.reduceBEq, Int.reduceBNe, Int.reduceToNat, Int.reducePow]
  rfl
theorem moneyAdd {C : Ctx} (h : okFn C.P C.φ 63 g_money_Add = true) (hRt : ∀ n, SoundAt C 58 ⟨[vI n], looko []⟩ ⟨vB (amt n), looko []⟩) (a b : Int) : SoundAt C 63 ⟨[vI a, vI b], looko []⟩ ⟨vIE (addS a b), looko []⟩ := by
  obtain ⟨c, hc⟩ : ∃ c, IntKind.i64.wrap (a + b) = c := ⟨_, rfl⟩
  refine SoundAt.of_run h rfl (fun Q hR hN => ?_)
  rw [entry2]
  repeat' (first | simp only [go_sem, ↓reduceIte, Nat.reduceEqDiff, Nat.reduceAdd, Nat.reduceSub, Nat.reduceMul, Nat.reduceLeDiff, Nat.reduceBEq, reduceCtorEq, Nat.reduceEqDiff, Int.reduceEq, Int.reduceLT, Int.reduceLE, Int.reduceNeg, Int.reduceBEq, Int.reduceBNe, Int.reduceToNat, Int.reducePow, hc] | refine callK_plain (hRt _) (fun _ => rfl) ?_ | refine g_money_Add_o15_sh.mpr ?_ | refine g_money_Add_o14_sh.mpr ?_ | refine g_money_Add_o13_sh.mpr ?_ | refine g_money_Add_o12_sh.mpr ?_ | refine g_money_Add_o11_sh.mpr ?_ | refine g_money_Add_o10_sh.mpr ?_ | refine g_money_Add_o9_sh.mpr ?_ | refine g_money_Add_o8_sh.mpr ?_ | refine g_money_Add_o7_sh.mpr ?_ | refine g_money_Add_o6_sh.mpr ?_ | refine g_money_Add_o5_sh.mpr ?_ | refine g_money_Add_o4_sh.mpr ?_ | refine g_money_Add_o3_sh.mpr ?_ | refine g_money_Add_o2_sh.mpr ?_ | refine g_money_Add_o1_sh.mpr ?_ | refine g_money_Add_o0_sh.mpr ?_ | refine g_money_Add_c0_sh.mpr ?_ | refine g_money_Add_c1_sh.mpr ?_ | refine g_money_Add_c2_sh.mpr ?_ | refine g_money_Add_code_sh.mpr ?_ | split | refine hR _ ?_)
  all_goals (clear hR hN; simp only [addS, addC, w64', hc]; simp only [amt, Bool.not_eq_false', Bool.not_eq_true', decide_eq_true_eq, decide_eq_false_iff_not] at *; first | (rw [if_pos (by omega)]; done) | (rw [if_neg (by omega)]; done))

theorem moneyNeg {C : Ctx} (h : okFn C.P C.φ 57 g_money_Neg = true) (hRt : ∀ n, SoundAt C 58 ⟨[vI n], looko []⟩ ⟨vB (amt n), looko []⟩) (a : Int) : SoundAt C 57 ⟨[vI a], looko []⟩ ⟨vIE (negS a), looko []⟩ := by
  refine SoundAt.of_run h rfl (fun Q hR hN => ?_)
  rw [entry1]
  repeat' (first | simp only [go_sem, ↓reduceIte, Nat.reduceEqDiff, Nat.reduceAdd, Nat.reduceSub, Nat.reduceMul, Nat.reduceLeDiff, Nat.reduceBEq, reduceCtorEq, Nat.reduceEqDiff, Int.reduceEq, Int.reduceLT, Int.reduceLE, Int.reduceNeg, Int.reduceBEq, Int.reduceBNe, Int.reduceToNat, Int.reducePow] | refine callK_plain (hRt _) (fun _ => rfl) ?_ | refine g_money_Neg_c0_sh.mpr ?_ | refine g_money_Neg_code_sh.mpr ?_ | split | refine hR _ ?_)
  all_goals (clear hR hN; simp_all [negS, w64'])
theorem moneySub {C : Ctx} (h : okFn C.P C.φ 65 g_money_Sub = true) (hNeg : ∀ a, SoundAt C 57 ⟨[vI a], looko []⟩ ⟨vIE (negS a), looko []⟩) (hAdd : ∀ a b, SoundAt C 63 ⟨[vI a, vI b], looko []⟩ ⟨vIE (addS a b), looko []⟩) (a b : Int) : SoundAt C 65 ⟨[vI a, vI b], looko []⟩ ⟨vIE (subS a b), looko []⟩ := by
  refine SoundAt.of_run h rfl (fun Q hR hN => ?_)
  rw [entry2]
  repeat' (first | simp only [go_sem, ↓reduceIte, Nat.reduceEqDiff, Nat.reduceAdd, Nat.reduceSub, Nat.reduceMul, Nat.reduceLeDiff, Nat.reduceBEq, reduceCtorEq, Nat.reduceEqDiff, Int.reduceEq, Int.reduceLT, Int.reduceLE, Int.reduceNeg, Int.reduceBEq, Int.reduceBNe, Int.reduceToNat, Int.reducePow] | refine callK_plain (hNeg _) (fun _ => rfl) ?_ | refine callK_plain (hAdd _ _) (fun _ => rfl) ?_ | refine g_money_Sub_c0_sh.mpr ?_ | refine g_money_Sub_c1_sh.mpr ?_ | refine g_money_Sub_code_sh.mpr ?_ | split | refine hR _ ?_)
  all_goals (clear hR hN; simp_all [subS])
abbrev vInts (l : List Int) : V := .d (.sl (l.map encI))
def sumFrom : Int → List Int → Int × Int
  | s, [] => (s, 0)
  | s, n :: l => if (addS s n).2 = 0 then sumFrom (addS s n).1 l else (0, (addS s n).2)

theorem sum_loop {C : Ctx} (hAdd : ∀ a b, SoundAt C 63 ⟨[vI a, vI b], looko []⟩ ⟨vIE (addS a b), looko []⟩) {I : Nat → Prop} {Q : Ex → St → Prop} {l : List Int} {r : Int × Int} (hl : l.length < 9223372036854775807)
    (hT : r.2 = 0 → Q (.exit 0) (St.mk (look [(4, vI r.1), (9, vInts l), (10, vI l.length), (11, vI l.length), (12, vB false)]) (looko [])))
    (hF : r.2 ≠ 0 → Q .ret (St.mk (look [(2, vI 0), (3, vI r.2)]) (looko []))) (hF0 : r.2 ≠ 0 → r.1 = 0) :
    ∀ (n k : Nat) (s : Int), k + n = l.length → sumFrom s (l.drop k) = r → wpB C I g_money_Sum.l0 (St.mk (look [(4, vI s), (9, vInts l), (10, vI l.length), (11, vI k)]) (looko [])) Q := by
  intro n
  induction n with
  | zero =>
    intro k s hk hr
    refine g_money_Sum_l0_sh rfl ?_
    have hk' : k = l.length := by omega
    subst hk'
    simp only [List.drop_length, sumFrom] at hr
    subst hr
    simp only [go_sem, ↓reduceIte, Nat.reduceEqDiff, Nat.reduceAdd, Nat.reduceSub, Nat.reduceMul, Nat.reduceLeDiff, Nat.reduceBEq, reduceCtorEq, Nat.reduceEqDiff, Int.reduceEq, Int.reduceLT, Int.reduceLE, Int.reduceNeg, Int.reduceBEq, Int.reduceBNe, Int.reduceToNat, Int.reducePow, Int.lt_irrefl, decide_false]
    exact hT rfl
  | succ n ih =>
    intro k s hk hr
    refine g_money_Sum_l0_sh rfl ?_
    have hlt : k < l.length := by omega
    have he := List.getElem?_eq_getElem hlt
    have hlt' : ((k : Int) < (l.length : Int)) := by omega
    rw [List.drop_eq_getElem_cons hlt] at hr
    simp only [go_sem, ↓reduceIte, Nat.reduceEqDiff, Nat.reduceAdd, Nat.reduceSub, Nat.reduceMul, Nat.reduceLeDiff, Nat.reduceBEq, reduceCtorEq, Nat.reduceEqDiff, Int.reduceEq, Int.reduceLT, Int.reduceLE, Int.reduceNeg, Int.reduceBEq, Int.reduceBNe, Int.reduceToNat, Int.reducePow, hlt', decide_true, Int.natCast_nonneg, Int.toNat_natCast, getMap encI he, encI]
    refine callK_plain (hAdd _ _) (fun _ => rfl) ?_
    by_cases h : (addS s l[k]).2 = 0
    · simp only [sumFrom, h, if_true] at hr
      repeat (first | simp only [go_sem, ↓reduceIte, Nat.reduceEqDiff, Nat.reduceAdd, Nat.reduceSub, Nat.reduceMul, Nat.reduceLeDiff, Nat.reduceBEq, reduceCtorEq, Nat.reduceEqDiff, Int.reduceEq, Int.reduceLT, Int.reduceLE, Int.reduceNeg, Int.reduceBEq, Int.reduceBNe, Int.reduceToNat, Int.reducePow, h, bne_self_eq_false, wrapI (x := (k : Int) + 1) (by omega) (by omega)] | refine g_money_Sum_c0_sh.mpr ?_ | refine g_money_Sum_c1_sh.mpr ?_ | refine g_money_Sum_c2_sh.mpr ?_ | refine g_money_Sum_c3_sh.mpr ?_ | refine g_money_Sum_code_sh.mpr ?_)
      exact ih (k + 1) _ (by omega) hr
    · simp only [sumFrom, h, if_false] at hr
      subst hr
      have h' : ((addS s l[k]).2 != 0) = true := by simp [h]
      repeat (first | simp only [go_sem, ↓reduceIte, Nat.reduceEqDiff, Nat.reduceAdd, Nat.reduceSub, Nat.reduceMul, Nat.reduceLeDiff, Nat.reduceBEq, reduceCtorEq, Nat.reduceEqDiff, Int.reduceEq, Int.reduceLT, Int.reduceLE, Int.reduceNeg, Int.reduceBEq, Int.reduceBNe, Int.reduceToNat, Int.reducePow, h'] | refine g_money_Sum_c0_sh.mpr ?_ | refine g_money_Sum_c1_sh.mpr ?_ | refine g_money_Sum_c2_sh.mpr ?_ | refine g_money_Sum_c3_sh.mpr ?_ | refine g_money_Sum_code_sh.mpr ?_)
      exact hF h

theorem moneySum {C : Ctx} (h : okFn C.P C.φ 60 g_money_Sum = true) (hAdd : ∀ a b, SoundAt C 63 ⟨[vI a, vI b], looko []⟩ ⟨vIE (addS a b), looko []⟩) (l : List Int) (hl : l.length < 9223372036854775807) :
    SoundAt C 60 ⟨[vInts l], looko []⟩ ⟨vIE (sumFrom 0 l), looko []⟩ := by
  refine SoundAt.of_run h rfl (fun Q hR hN => ?_)
  rw [entry1]
  repeat (first | simp only [go_sem, ↓reduceIte, Nat.reduceEqDiff, Nat.reduceAdd, Nat.reduceSub, Nat.reduceMul, Nat.reduceLeDiff, Nat.reduceBEq, reduceCtorEq, Nat.reduceEqDiff, Int.reduceEq, Int.reduceLT, Int.reduceLE, Int.reduceNeg, Int.reduceBEq, Int.reduceBNe, Int.reduceToNat, Int.reducePow, List.length_map] | refine g_money_Sum_c0_sh.mpr ?_ | refine g_money_Sum_c1_sh.mpr ?_ | refine g_money_Sum_c2_sh.mpr ?_ | refine g_money_Sum_c3_sh.mpr ?_ | refine g_money_Sum_code_sh.mpr ?_)
  have h0 : ∀ (l : List Int) s, (sumFrom s l).2 ≠ 0 → (sumFrom s l).1 = 0 := by
    intro l
    induction l with
    | nil => intro s h; exact absurd rfl h
    | cons n l ih =>
      intro s h
      simp only [sumFrom] at h ⊢
      split
      · rename_i he; simp only [he, if_true] at h; exact ih _ h
      · rfl
  refine sum_loop hAdd (r := sumFrom 0 l) hl (fun hr => ?_) (fun hr => ?_) (h0 l 0) l.length 0 0 (by omega) rfl
  · repeat (first | simp only [go_sem, ↓reduceIte, Nat.reduceEqDiff, Nat.reduceAdd, Nat.reduceSub, Nat.reduceMul, Nat.reduceLeDiff, Nat.reduceBEq, reduceCtorEq, Nat.reduceEqDiff, Int.reduceEq, Int.reduceLT, Int.reduceLE, Int.reduceNeg, Int.reduceBEq, Int.reduceBNe, Int.reduceToNat, Int.reducePow] | refine g_money_Sum_c0_sh.mpr ?_ | refine g_money_Sum_c1_sh.mpr ?_ | refine g_money_Sum_c2_sh.mpr ?_ | refine g_money_Sum_c3_sh.mpr ?_ | refine g_money_Sum_code_sh.mpr ?_)
    refine hR _ ?_
    simp only [go_sem, ↓reduceIte, Nat.reduceEqDiff, Nat.reduceAdd, Nat.reduceSub, Nat.reduceMul, Nat.reduceLeDiff, Nat.reduceBEq, reduceCtorEq, Nat.reduceEqDiff, Int.reduceEq, Int.reduceLT, Int.reduceLE, Int.reduceNeg, Int.reduceBEq, Int.reduceBNe, Int.reduceToNat, Int.reducePow]
    show V.tup [vI _, vI _] = _
    rw [hr]
  · refine hR _ ?_
    simp only [go_sem, ↓reduceIte, Nat.reduceEqDiff, Nat.reduceAdd, Nat.reduceSub, Nat.reduceMul, Nat.reduceLeDiff, Nat.reduceBEq, reduceCtorEq, Nat.reduceEqDiff, Int.reduceEq, Int.reduceLT, Int.reduceLE, Int.reduceNeg, Int.reduceBEq, Int.reduceBNe, Int.reduceToNat, Int.reducePow]
    show V.tup [vI _, vI _] = _
    rw [h0 l 0 hr]
end Pay
