/- The laws of amounts: places. -/
import Derived.Test.YtbhjjheefdilbaaDoorPayC37
import Derived.Test.YtbhjjheefdilbaaDoorPaySh0
import Derived.Test.YtbhjjheefdilbaaDoorPaySh1
set_option linter.unusedSimpArgs false
set_option linter.unusedVariables false
namespace Pay
open Go
attribute [local irreducible] wpB opsB treeB drawB

theorem text_hundred (n : Int) : ∃ l : List UInt8, textR (100 * n) = l ++ [46, 48, 48] ∧ textR (if n ≥ 0 then 100 * n + 99 else 100 * n - 99) = l ++ [46, 57, 57] ∧ 1 ≤ l.length := by
  by_cases h : n ≥ 0
  · obtain ⟨m, rfl⟩ : ∃ m : Nat, n = (m : Int) := ⟨n.toNat, by omega⟩
    obtain ⟨c, r, e, _⟩ := dec_head m
    refine ⟨Lib.decDigits m, ?_, ?_, by rw [e]; simp⟩
    · rw [textR, if_neg (by omega), show (100 * (m : Int)).toNat = 100 * m by omega, textN_eq, show 100 * m / 100 = m by omega, show 100 * m % 100 / 10 = 0 by omega, show 100 * m % 10 = 0 by omega]; rfl
    · rw [if_pos h, textR, if_neg (by omega), show (100 * (m : Int) + 99).toNat = 100 * m + 99 by omega, textN_eq, show (100 * m + 99) / 100 = m by omega, show (100 * m + 99) % 100 / 10 = 9 by omega, show (100 * m + 99) % 10 = 9 by omega]; rfl
  · obtain ⟨m, rfl⟩ : ∃ m : Nat, n = -(m : Int) := ⟨n.natAbs, by omega⟩
    refine ⟨45 :: Lib.decDigits m, ?_, ?_, by simp⟩
    · rw [textR, if_pos (by omega), show (100 * -(m : Int)).natAbs = 100 * m by omega, textN_eq, show 100 * m / 100 = m by omega, show 100 * m % 100 / 10 = 0 by omega, show 100 * m % 10 = 0 by omega]; rfl
    · rw [if_neg h, textR, if_pos (by omega), show (100 * -(m : Int) - 99).natAbs = 100 * m + 99 by omega, textN_eq, show (100 * m + 99) / 100 = m by omega, show (100 * m + 99) % 100 / 10 = 9 by omega, show (100 * m + 99) % 10 = 9 by omega]; rfl

theorem lawPlaces {C : Ctx} (h : okFn C.P C.φ 55 g_law01_MoneyPlaces = true) (K : MonK C) (a : Int) (ha : i64 a) : SoundAt C 55 ⟨[vI a], looko []⟩ ⟨vB true, looko []⟩ := by
  unfold i64 at ha
  obtain ⟨n, hn⟩ : ∃ n, a.tmod 1125899906842624 = n := ⟨_, rfl⟩
  have hb : -1125899906842624 < n ∧ n < 1125899906842624 := by
    subst hn
    by_cases h : 0 ≤ a
    · rw [Int.tmod_eq_emod_of_nonneg h]; omega
    · have := Int.neg_tmod a 1125899906842624
      rw [Int.tmod_eq_emod_of_nonneg (by omega)] at this; omega
  have w0 : IntKind.i64.wrap n = n := wrapI (by omega) (by omega)
  have w1 : IntKind.i64.wrap (100 * n) = 100 * n := wrapI (by omega) (by omega)
  have w2 : IntKind.i64.wrap (100 * n + 99) = 100 * n + 99 := wrapI (by omega) (by omega)
  have w3 : IntKind.i64.wrap (100 * n - 99) = 100 * n - 99 := wrapI (by omega) (by omega)
  have t1 := K.text (100 * n)
  have t2 := K.text n
  have t3 := K.parse (textR (100 * n)) (textR_len (by omega) (by omega))
  rw [textS_eq (decide_eq_true (by omega)) (by omega)] at t1
  rw [textS_eq (decide_eq_true (by omega)) (by omega)] at t2
  rw [parseS_text (by omega) (by omega)] at t3
  obtain ⟨l, e1, e2, e3⟩ := text_hundred n
  obtain ⟨l', x, y, e4, e5⟩ := textR_parts n
  have hlen := textR_len (n := if n ≥ 0 then 100 * n + 99 else 100 * n - 99) (by split <;> omega) (by split <;> omega)
  have t4 := K.parse _ hlen
  rw [parseS_text (by split <;> omega) (by split <;> omega)] at t4
  rw [e2] at t4 hlen
  simp only [List.length_append, List.length_cons, List.length_nil] at hlen
  rw [e1] at t1 t3
  have g1 : (textR n).length = l'.length + 3 := by rw [e4]; simp
  have d1 : ¬ (((l'.length + 3 : Nat) : Int) < 4) := by omega
  have d2 : ¬ (((l.length + 3 : Nat) : Int) < 4) := by omega
  have w4 : IntKind.i64.wrap (((l.length + 3 : Nat) : Int) - 3) = (l.length : Int) := by rw [wrapI (by omega) (by omega)]; omega
  have d3 : ((l.length : Int) ≤ ((l.length + 3 : Nat) : Int)) := by omega
  have d4 : l.length + 3 ≤ 9223372036854775807 := by omega
  have q1 : List.drop l.length (List.take (l.length + 3) (l ++ [46, 48, 48])) = [46, 48, 48] := by rw [List.take_of_length_le (by simp), List.drop_left]
  generalize textR n = T at *
  refine SoundAt.of_run h rfl (fun Q hR hN => ?_)
  rw [entry1]
  by_cases h0 : n ≥ 0
  · rw [if_pos h0] at t4
    repeat' (first | simp only [go_sem, ↓reduceIte, Nat.reduceEqDiff, Nat.reduceAdd, Nat.reduceSub, Nat.reduceMul, Nat.reduceLeDiff, Nat.reduceBEq, reduceCtorEq, Nat.reduceEqDiff, Int.reduceEq, Int.reduceLT, Int.reduceLE, Int.reduceNeg, Int.reduceBEq, Int.reduceBNe, Int.reduceToNat, Int.reducePow, hn, w0, w1, w2, bne_self_eq_false, g1, List.length_append, d1, d2, decide_false, decide_true, w4, d3, d4, Int.natCast_nonneg, Int.toNat_natCast, List.take_left', List.drop_left', List.take_append_of_le_length, Nat.le_refl, List.take_length, h0, q1] | refine g_law01_MoneyPlaces_o9_sh.mpr ?_ | refine g_law01_MoneyPlaces_o8_sh.mpr ?_ | refine g_law01_MoneyPlaces_o7_sh.mpr ?_ | refine g_law01_MoneyPlaces_o6_sh.mpr ?_ | refine g_law01_MoneyPlaces_o5_sh.mpr ?_ | refine g_law01_MoneyPlaces_o4_sh.mpr ?_ | refine g_law01_MoneyPlaces_o3_sh.mpr ?_ | refine g_law01_MoneyPlaces_o2_sh.mpr ?_ | refine g_law01_MoneyPlaces_o1_sh.mpr ?_ | refine g_law01_MoneyPlaces_o0_sh.mpr ?_ | refine g_law01_MoneyPlaces_c0_sh.mpr ?_ | refine g_law01_MoneyPlaces_o15_sh.mpr ?_ | refine g_law01_MoneyPlaces_o14_sh.mpr ?_ | refine g_law01_MoneyPlaces_o13_sh.mpr ?_ | refine g_law01_MoneyPlaces_o12_sh.mpr ?_ | refine g_law01_MoneyPlaces_o11_sh.mpr ?_ | refine g_law01_MoneyPlaces_o10_sh.mpr ?_ | refine g_law01_MoneyPlaces_c1_sh.mpr ?_ | refine g_law01_MoneyPlaces_o21_sh.mpr ?_ | refine g_law01_MoneyPlaces_o20_sh.mpr ?_ | refine g_law01_MoneyPlaces_o19_sh.mpr ?_ | refine g_law01_MoneyPlaces_o18_sh.mpr ?_ | refine g_law01_MoneyPlaces_o17_sh.mpr ?_ | refine g_law01_MoneyPlaces_o16_sh.mpr ?_ | refine g_law01_MoneyPlaces_c2_sh.mpr ?_ | refine g_law01_MoneyPlaces_c3_sh.mpr ?_ | refine g_law01_MoneyPlaces_c4_sh.mpr ?_ | refine g_law01_MoneyPlaces_c5_sh.mpr ?_ | refine g_law01_MoneyPlaces_c6_sh.mpr ?_ | refine g_law01_MoneyPlaces_c7_sh.mpr ?_ | refine g_law01_MoneyPlaces_c8_sh.mpr ?_ | refine g_law01_MoneyPlaces_code_sh.mpr ?_ | refine callK_plain (K.awake) (fun _ => rfl) ?_ | refine callK_plain (t1) (fun _ => rfl) ?_ | refine callK_plain (t2) (fun _ => rfl) ?_ | refine callK_plain (t3) (fun _ => rfl) ?_ | refine callK_plain (t4) (fun _ => rfl) ?_ | refine hR _ ?_ | split)
  · rw [if_neg h0] at t4
    repeat' (first | simp only [go_sem, ↓reduceIte, Nat.reduceEqDiff, Nat.reduceAdd, Nat.reduceSub, Nat.reduceMul, Nat.reduceLeDiff, Nat.reduceBEq, reduceCtorEq, Nat.reduceEqDiff, Int.reduceEq, Int.reduceLT, Int.reduceLE, Int.reduceNeg, Int.reduceBEq, Int.reduceBNe, Int.reduceToNat, Int.reducePow, hn, w0, w1, w3, bne_self_eq_false, g1, List.length_append, d1, d2, decide_false, decide_true, w4, d3, d4, Int.natCast_nonneg, Int.toNat_natCast, List.take_left', List.drop_left', List.take_append_of_le_length, Nat.le_refl, List.take_length, h0, q1] | refine g_law01_MoneyPlaces_o9_sh.mpr ?_ | refine g_law01_MoneyPlaces_o8_sh.mpr ?_ | refine g_law01_MoneyPlaces_o7_sh.mpr ?_ | refine g_law01_MoneyPlaces_o6_sh.mpr ?_ | refine g_law01_MoneyPlaces_o5_sh.mpr ?_ | refine g_law01_MoneyPlaces_o4_sh.mpr ?_ | refine g_law01_MoneyPlaces_o3_sh.mpr ?_ | refine g_law01_MoneyPlaces_o2_sh.mpr ?_ | refine g_law01_MoneyPlaces_o1_sh.mpr ?_ | refine g_law01_MoneyPlaces_o0_sh.mpr ?_ | refine g_law01_MoneyPlaces_c0_sh.mpr ?_ | refine g_law01_MoneyPlaces_o15_sh.mpr ?_ | refine g_law01_MoneyPlaces_o14_sh.mpr ?_ | refine g_law01_MoneyPlaces_o13_sh.mpr ?_ | refine g_law01_MoneyPlaces_o12_sh.mpr ?_ | refine g_law01_MoneyPlaces_o11_sh.mpr ?_ | refine g_law01_MoneyPlaces_o10_sh.mpr ?_ | refine g_law01_MoneyPlaces_c1_sh.mpr ?_ | refine g_law01_MoneyPlaces_o21_sh.mpr ?_ | refine g_law01_MoneyPlaces_o20_sh.mpr ?_ | refine g_law01_MoneyPlaces_o19_sh.mpr ?_ | refine g_law01_MoneyPlaces_o18_sh.mpr ?_ | refine g_law01_MoneyPlaces_o17_sh.mpr ?_ | refine g_law01_MoneyPlaces_o16_sh.mpr ?_ | refine g_law01_MoneyPlaces_c2_sh.mpr ?_ | refine g_law01_MoneyPlaces_c3_sh.mpr ?_ | refine g_law01_MoneyPlaces_c4_sh.mpr ?_ | refine g_law01_MoneyPlaces_c5_sh.mpr ?_ | refine g_law01_MoneyPlaces_c6_sh.mpr ?_ | refine g_law01_MoneyPlaces_c7_sh.mpr ?_ | refine g_law01_MoneyPlaces_c8_sh.mpr ?_ | refine g_law01_MoneyPlaces_code_sh.mpr ?_ | refine callK_plain (K.awake) (fun _ => rfl) ?_ | refine callK_plain (t1) (fun _ => rfl) ?_ | refine callK_plain (t2) (fun _ => rfl) ?_ | refine callK_plain (t3) (fun _ => rfl) ?_ | refine callK_plain (t4) (fun _ => rfl) ?_ | refine hR _ ?_ | split)
end Pay
