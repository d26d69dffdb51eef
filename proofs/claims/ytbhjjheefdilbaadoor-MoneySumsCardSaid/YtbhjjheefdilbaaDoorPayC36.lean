/- The laws of amounts: sums, and signs. -/
import Derived.Test.YtbhjjheefdilbaaDoorPayC35
set_option linter.unusedSimpArgs false
set_option linter.unusedVariables false
namespace Pay
open Go
attribute [local irreducible] wpB opsB treeB drawB

/-- A whole number of 64 bits. -/
def i64 (n : Int) : Prop := -9223372036854775808 ≤ n ∧ n < 9223372036854775808
def eok (b : Bool) : Int := if b = true then 0 else 3
/-- Do both have a sum? -/
def fits (a b : Int) : Prop := -9223372036854775807 ≤ a ∧ -9223372036854775807 ≤ b ∧ -9223372036854775807 ≤ a + b ∧ a + b ≤ 9223372036854775807
instance (a b : Int) : Decidable (fits a b) := by unfold fits; infer_instance
theorem addS_yes {a b : Int} (ha : i64 a) (hb : i64 b) (h : fits a b) : addS a b = (a + b, 0) := by
  obtain ⟨h1, h2, h3, h4⟩ := h
  have e : w64' (a + b) = a + b := wrapI (by omega) (by omega)
  rw [addS, e, addC, if_neg (by omega)]
theorem addS_no {a b : Int} (ha : i64 a) (hb : i64 b) (h : ¬ fits a b) : addS a b = (0, 3) := by
  unfold fits at h
  unfold i64 at ha hb
  obtain ⟨c, hc⟩ : ∃ c, w64' (a + b) = c := ⟨_, rfl⟩
  rw [addS, hc, addC, if_pos]
  unfold w64' at hc
  rw [IntKind.wrap_i64] at hc
  omega
theorem addR_yes {a b : Int} (ha : i64 a) (hb : i64 b) (h : fits a b) : addR a b = (a + b, true) := by
  obtain ⟨h1, h2, h3, h4⟩ := h
  unfold i64 at ha hb
  have e : w64' (a + b) = a + b := wrapI (by omega) (by omega)
  rw [addR, e, if_neg]
  unfold w64'
  rw [IntKind.wrap_i64, IntKind.wrap_i64]
  omega
theorem addR_no {a b : Int} (ha : i64 a) (hb : i64 b) (h : ¬ fits a b) : addR a b = (0, false) := by
  unfold fits at h
  unfold i64 at ha hb
  rw [addR, if_pos]
  unfold w64'
  rw [IntKind.wrap_i64, IntKind.wrap_i64]
  omega
theorem negS_yes {a : Int} (ha : i64 a) (h : -9223372036854775807 ≤ a) : negS a = (-a, 0) := by
  unfold i64 at ha
  have e : w64' (0 - a) = -a := by unfold w64'; rw [wrapI (by omega) (by omega)]; omega
  rw [negS, if_pos (show amt a = true from decide_eq_true h), e]
theorem negS_no {a : Int} (h : ¬ -9223372036854775807 ≤ a) : negS a = (0, 3) := by
  rw [negS, if_neg]; simpa [amt] using h
theorem subS_yes {a b : Int} (ha : i64 a) (hb : i64 b) (h : -9223372036854775807 ≤ b) : subS a b = addS a (-b) := by
  rw [subS, negS_yes hb h, if_pos rfl]
theorem subS_no {a b : Int} (h : ¬ -9223372036854775807 ≤ b) : subS a b = (0, 3) := by
  rw [subS, negS_no h]; rfl

theorem lawBack {C : Ctx} (h : okFn C.P C.φ 64 g_law01_MoneyBack = true) (K : MonK C) (a b : Int) (ha : i64 a) (hb : i64 b) : SoundAt C 64 ⟨[vI a, vI b], looko []⟩ ⟨vB true, looko []⟩ := by
  have t1 := K.add a b
  have t2 := K.add b a
  by_cases hf : fits a b
  · have hf' : fits b a := by unfold fits at hf ⊢; omega
    obtain ⟨f1, f2, f3, f4⟩ := hf
    unfold i64 at ha hb
    have hs : i64 (a + b) := by unfold i64; omega
    have t3 := K.sub (a + b) b
    have t4 := K.sub (a + b) a
    rw [addS_yes ha hb ⟨f1, f2, f3, f4⟩] at t1
    rw [addS_yes hb ha hf', Int.add_comm] at t2
    rw [subS_yes hs hb f2, addS_yes hs (by unfold i64; omega) (by unfold fits; omega), show a + b + -b = a by omega] at t3
    rw [subS_yes hs ha f1, addS_yes hs (by unfold i64; omega) (by unfold fits; omega), show a + b + -a = b by omega] at t4
    refine SoundAt.of_run h rfl (fun Q hR hN => ?_)
    rw [entry2]
    repeat' (first | simp only [go_sem, ↓reduceIte, Nat.reduceEqDiff, Nat.reduceAdd, Nat.reduceSub, Nat.reduceMul, Nat.reduceLeDiff, Nat.reduceBEq, reduceCtorEq, Nat.reduceEqDiff, Int.reduceEq, Int.reduceLT, Int.reduceLE, Int.reduceNeg, Int.reduceBEq, Int.reduceBNe, Int.reduceToNat, Int.reducePow, bne_self_eq_false] | refine g_law01_MoneyBack_o3_sh.mpr ?_ | refine g_law01_MoneyBack_o2_sh.mpr ?_ | refine g_law01_MoneyBack_o1_sh.mpr ?_ | refine g_law01_MoneyBack_o0_sh.mpr ?_ | refine g_law01_MoneyBack_c0_sh.mpr ?_ | refine g_law01_MoneyBack_o15_sh.mpr ?_ | refine g_law01_MoneyBack_o14_sh.mpr ?_ | refine g_law01_MoneyBack_o13_sh.mpr ?_ | refine g_law01_MoneyBack_o12_sh.mpr ?_ | refine g_law01_MoneyBack_o11_sh.mpr ?_ | refine g_law01_MoneyBack_o10_sh.mpr ?_ | refine g_law01_MoneyBack_o9_sh.mpr ?_ | refine g_law01_MoneyBack_o8_sh.mpr ?_ | refine g_law01_MoneyBack_o7_sh.mpr ?_ | refine g_law01_MoneyBack_o6_sh.mpr ?_ | refine g_law01_MoneyBack_o5_sh.mpr ?_ | refine g_law01_MoneyBack_o4_sh.mpr ?_ | refine g_law01_MoneyBack_c1_sh.mpr ?_ | refine g_law01_MoneyBack_c2_sh.mpr ?_ | refine g_law01_MoneyBack_c3_sh.mpr ?_ | refine g_law01_MoneyBack_c4_sh.mpr ?_ | refine g_law01_MoneyBack_c5_sh.mpr ?_ | refine g_law01_MoneyBack_c6_sh.mpr ?_ | refine g_law01_MoneyBack_code_sh.mpr ?_ | refine callK_plain (K.awake) (fun _ => rfl) ?_ | refine callK_plain (t1) (fun _ => rfl) ?_ | refine callK_plain (t2) (fun _ => rfl) ?_ | refine callK_plain (t3) (fun _ => rfl) ?_ | refine callK_plain (t4) (fun _ => rfl) ?_ | refine hR _ ?_ | split)
  · have hf' : ¬ fits b a := by unfold fits at hf ⊢; omega
    rw [addS_no ha hb hf] at t1
    rw [addS_no hb ha hf'] at t2
    refine SoundAt.of_run h rfl (fun Q hR hN => ?_)
    rw [entry2]
    repeat' (first | simp only [go_sem, ↓reduceIte, Nat.reduceEqDiff, Nat.reduceAdd, Nat.reduceSub, Nat.reduceMul, Nat.reduceLeDiff, Nat.reduceBEq, reduceCtorEq, Nat.reduceEqDiff, Int.reduceEq, Int.reduceLT, Int.reduceLE, Int.reduceNeg, Int.reduceBEq, Int.reduceBNe, Int.reduceToNat, Int.reducePow, Int.reduceBNe] | refine g_law01_MoneyBack_o3_sh.mpr ?_ | refine g_law01_MoneyBack_o2_sh.mpr ?_ | refine g_law01_MoneyBack_o1_sh.mpr ?_ | refine g_law01_MoneyBack_o0_sh.mpr ?_ | refine g_law01_MoneyBack_c0_sh.mpr ?_ | refine g_law01_MoneyBack_o15_sh.mpr ?_ | refine g_law01_MoneyBack_o14_sh.mpr ?_ | refine g_law01_MoneyBack_o13_sh.mpr ?_ | refine g_law01_MoneyBack_o12_sh.mpr ?_ | refine g_law01_MoneyBack_o11_sh.mpr ?_ | refine g_law01_MoneyBack_o10_sh.mpr ?_ | refine g_law01_MoneyBack_o9_sh.mpr ?_ | refine g_law01_MoneyBack_o8_sh.mpr ?_ | refine g_law01_MoneyBack_o7_sh.mpr ?_ | refine g_law01_MoneyBack_o6_sh.mpr ?_ | refine g_law01_MoneyBack_o5_sh.mpr ?_ | refine g_law01_MoneyBack_o4_sh.mpr ?_ | refine g_law01_MoneyBack_c1_sh.mpr ?_ | refine g_law01_MoneyBack_c2_sh.mpr ?_ | refine g_law01_MoneyBack_c3_sh.mpr ?_ | refine g_law01_MoneyBack_c4_sh.mpr ?_ | refine g_law01_MoneyBack_c5_sh.mpr ?_ | refine g_law01_MoneyBack_c6_sh.mpr ?_ | refine g_law01_MoneyBack_code_sh.mpr ?_ | refine callK_plain (K.awake) (fun _ => rfl) ?_ | refine callK_plain (t1) (fun _ => rfl) ?_ | refine callK_plain (t2) (fun _ => rfl) ?_ | refine hR _ ?_ | split)

theorem textR_sign (n : Int) : ∃ c r, textR n = c :: r ∧ ((c.toNat : Int) == 45) = decide (n < 0) := by
  unfold textR
  split
  · rename_i h; exact ⟨_, _, rfl, by simp [h]⟩
  · rename_i h
    obtain ⟨c, r, e, h1, h2⟩ := dec_head (n.toNat / 100)
    refine ⟨c, r ++ [46, dg1 (n.toNat % 100 / 10), dg1 (n.toNat % 10)], by rw [textN_eq, e]; rfl, ?_⟩
    rw [decide_eq_false h, beq_eq_false_iff_ne]; omega
theorem textR_parts (n : Int) : ∃ l x y, textR n = l ++ [46, dg1 x, dg1 y] ∧ 1 ≤ l.length := by
  unfold textR
  split
  · exact ⟨45 :: Lib.decDigits (n.natAbs / 100), _, _, by rw [textN_eq]; rfl, by simp⟩
  · obtain ⟨c, r, e, _⟩ := dec_head (n.toNat / 100)
    exact ⟨Lib.decDigits (n.toNat / 100), _, _, by rw [textN_eq], by rw [e]; simp⟩

theorem lawSigns {C : Ctx} (h : okFn C.P C.φ 56 g_law01_MoneySigns = true) (K : MonK C) (a : Int) (ha : i64 a) : SoundAt C 56 ⟨[vI a], looko []⟩ ⟨vB true, looko []⟩ := by
  have t1 := K.neg a
  have t2 := K.text a
  have t3 := K.right a
  by_cases hn : -9223372036854775807 ≤ a
  · have ham : amt a = true := decide_eq_true hn
    unfold i64 at ha
    rw [negS_yes ha hn] at t1
    have t4 := K.neg (-a)
    rw [negS_yes (by unfold i64; omega) (by omega), Int.neg_neg] at t4
    rw [textS_eq ham ha.2] at t2
    rw [ham] at t3
    have hlen := textR_len (n := a) (by omega) ha.2
    obtain ⟨c, r, e1, e2⟩ := textR_sign a
    obtain ⟨l, x, y, e3, e4⟩ := textR_parts a
    have hl : (textR a).length = l.length + 3 := by rw [e3]; simp
    have g0 : (textR a)[0]? = some c := by rw [e1]; rfl
    have g1 : (textR a)[l.length]? = some 46 := by rw [e3]; simp
    have w1 : IntKind.i64.wrap (((l.length + 3 : Nat) : Int) - 3) = (l.length : Int) := by rw [wrapI (by omega) (by omega)]; omega
    have w2 : (((l.length + 3 : Nat) : Int) ≥ 4) := by omega
    generalize textR a = T at *
    refine SoundAt.of_run h rfl (fun Q hR hN => ?_)
    rw [entry1]
    repeat' (first | simp only [go_sem, ↓reduceIte, Nat.reduceEqDiff, Nat.reduceAdd, Nat.reduceSub, Nat.reduceMul, Nat.reduceLeDiff, Nat.reduceBEq, reduceCtorEq, Nat.reduceEqDiff, Int.reduceEq, Int.reduceLT, Int.reduceLE, Int.reduceNeg, Int.reduceBEq, Int.reduceBNe, Int.reduceToNat, Int.reducePow, bne_self_eq_false, hl, w1, w2, decide_true, Int.natCast_nonneg, Int.toNat_natCast, Int.toNat_zero, Int.le_refl, g0, g1, e2, UInt8.reduceToNat] | refine g_law01_MoneySigns_o3_sh.mpr ?_ | refine g_law01_MoneySigns_o2_sh.mpr ?_ | refine g_law01_MoneySigns_o1_sh.mpr ?_ | refine g_law01_MoneySigns_o0_sh.mpr ?_ | refine g_law01_MoneySigns_c0_sh.mpr ?_ | refine g_law01_MoneySigns_o15_sh.mpr ?_ | refine g_law01_MoneySigns_o14_sh.mpr ?_ | refine g_law01_MoneySigns_o13_sh.mpr ?_ | refine g_law01_MoneySigns_o12_sh.mpr ?_ | refine g_law01_MoneySigns_o11_sh.mpr ?_ | refine g_law01_MoneySigns_o10_sh.mpr ?_ | refine g_law01_MoneySigns_o9_sh.mpr ?_ | refine g_law01_MoneySigns_o8_sh.mpr ?_ | refine g_law01_MoneySigns_o7_sh.mpr ?_ | refine g_law01_MoneySigns_o6_sh.mpr ?_ | refine g_law01_MoneySigns_o5_sh.mpr ?_ | refine g_law01_MoneySigns_o4_sh.mpr ?_ | refine g_law01_MoneySigns_c1_sh.mpr ?_ | refine g_law01_MoneySigns_c2_sh.mpr ?_ | refine g_law01_MoneySigns_c3_sh.mpr ?_ | refine g_law01_MoneySigns_c4_sh.mpr ?_ | refine g_law01_MoneySigns_c5_sh.mpr ?_ | refine g_law01_MoneySigns_code_sh.mpr ?_ | refine callK_plain (K.awake) (fun _ => rfl) ?_ | refine callK_plain (t1) (fun _ => rfl) ?_ | refine callK_plain (t2) (fun _ => rfl) ?_ | refine callK_plain (t3) (fun _ => rfl) ?_ | refine callK_plain (t4) (fun _ => rfl) ?_ | refine hR _ ?_ | split)
  · have ham : amt a = false := decide_eq_false hn
    have hb : a = -9223372036854775808 := by unfold i64 at ha; omega
    rw [negS_no hn] at t1
    have e : textS a = ([], 3) := by rw [textS, if_neg (by rw [ham]; decide)]
    rw [e] at t2
    rw [ham] at t3
    have t4 := K.neg 0
    refine SoundAt.of_run h rfl (fun Q hR hN => ?_)
    rw [entry1]
    repeat' (first | simp only [go_sem, ↓reduceIte, Nat.reduceEqDiff, Nat.reduceAdd, Nat.reduceSub, Nat.reduceMul, Nat.reduceLeDiff, Nat.reduceBEq, reduceCtorEq, Nat.reduceEqDiff, Int.reduceEq, Int.reduceLT, Int.reduceLE, Int.reduceNeg, Int.reduceBEq, Int.reduceBNe, Int.reduceToNat, Int.reducePow, Int.reduceBNe] | refine g_law01_MoneySigns_o3_sh.mpr ?_ | refine g_law01_MoneySigns_o2_sh.mpr ?_ | refine g_law01_MoneySigns_o1_sh.mpr ?_ | refine g_law01_MoneySigns_o0_sh.mpr ?_ | refine g_law01_MoneySigns_c0_sh.mpr ?_ | refine g_law01_MoneySigns_o15_sh.mpr ?_ | refine g_law01_MoneySigns_o14_sh.mpr ?_ | refine g_law01_MoneySigns_o13_sh.mpr ?_ | refine g_law01_MoneySigns_o12_sh.mpr ?_ | refine g_law01_MoneySigns_o11_sh.mpr ?_ | refine g_law01_MoneySigns_o10_sh.mpr ?_ | refine g_law01_MoneySigns_o9_sh.mpr ?_ | refine g_law01_MoneySigns_o8_sh.mpr ?_ | refine g_law01_MoneySigns_o7_sh.mpr ?_ | refine g_law01_MoneySigns_o6_sh.mpr ?_ | refine g_law01_MoneySigns_o5_sh.mpr ?_ | refine g_law01_MoneySigns_o4_sh.mpr ?_ | refine g_law01_MoneySigns_c1_sh.mpr ?_ | refine g_law01_MoneySigns_c2_sh.mpr ?_ | refine g_law01_MoneySigns_c3_sh.mpr ?_ | refine g_law01_MoneySigns_c4_sh.mpr ?_ | refine g_law01_MoneySigns_c5_sh.mpr ?_ | refine g_law01_MoneySigns_code_sh.mpr ?_ | refine callK_plain (K.awake) (fun _ => rfl) ?_ | refine callK_plain (t1) (fun _ => rfl) ?_ | refine callK_plain (t2) (fun _ => rfl) ?_ | refine callK_plain (t3) (fun _ => rfl) ?_ | refine callK_plain (t4) (fun _ => rfl) ?_ | refine hR _ ?_ | split)
end Pay
