/- The fixed answer of the laws of tokens. -/
import Derived.KernelRfl
import Derived.Test.YthnddhfpkmbacaaDoorPayC49
set_option linter.unusedSimpArgs false
set_option linter.unusedVariables false
namespace Pay
open Go
attribute [local irreducible] wpB opsB treeB drawB
theorem lexT_is {t : List UInt8} {k : Int} {n : Nat} (h : oneS t = (k, n)) (hk : k ≠ 0) (p : Nat) : lexT p t = lexPut k (t.take n) p (lexT (p + n) (t.drop n)) := by
  have := lexT_tok (t := t) (by rw [h]; exact hk) p
  rwa [h] at this
theorem textR_150 : textR 150 = [49, 46, 53, 48] := by
  rw [textR, if_neg (by decide), show ((150 : Int)).toNat = 150 from rfl, textN_eq, dec_one (by decide)]
  rfl
theorem fig_amount {n : Int} (h0 : 0 ≤ n) (h1 : n ≤ 9223372036854775807) : figS (textR n) = 3 := by
  rw [figS, if_pos (by rw [parseS_text (by omega) h1])]
theorem fig_150 : figS [49, 46, 53, 48] = 3 := by rw [← textR_150]; exact fig_amount (by decide) (by decide)
def awakeA : List UInt8 := [101, 97, 114, 110, 32, 97, 32, 61, 32, 49, 46, 53, 48, 59, 32, 35, 32, 120]
theorem awake_a : lexS awakeA = ([⟨1, [101, 97, 114, 110], 0⟩, ⟨1, [97], 5⟩, ⟨5, [61], 7⟩, ⟨3, [49, 46, 53, 48], 9⟩, ⟨5, [59], 13⟩], none) := by
  have o1 : oneS [101, 97, 114, 110, 32, 97, 32, 61, 32, 49, 46, 53, 48, 59, 32, 35, 32, 120] = (1, 4) := by kernel_rfl
  have o2 : oneS [97, 32, 61, 32, 49, 46, 53, 48, 59, 32, 35, 32, 120] = (1, 1) := by kernel_rfl
  have o3 : oneS [61, 32, 49, 46, 53, 48, 59, 32, 35, 32, 120] = (5, 1) := by kernel_rfl
  have o4 : oneS [49, 46, 53, 48, 59, 32, 35, 32, 120] = (3, 4) := by
    rw [oneS_cons, if_neg (by decide), if_pos (by decide), show runN numB [49, 46, 53, 48, 59, 32, 35, 32, 120] = 4 from rfl]
    rw [show List.take 4 [49, 46, 53, 48, 59, 32, 35, 32, 120] = ([49, 46, 53, 48] : List UInt8) from rfl, fig_150]
  have o5 : oneS [59, 32, 35, 32, 120] = (5, 1) := by kernel_rfl
  rw [lexS_T, awakeA, lexT_is o1 (by decide)]
  simp only [List.drop_succ_cons, List.drop_zero, List.take_succ_cons, List.take_zero]
  rw [lexT_blank (.inl rfl), lexT_is o2 (by decide)]
  simp only [List.drop_succ_cons, List.drop_zero, List.take_succ_cons, List.take_zero]
  rw [lexT_blank (.inl rfl), lexT_is o3 (by decide)]
  simp only [List.drop_succ_cons, List.drop_zero, List.take_succ_cons, List.take_zero]
  rw [lexT_blank (.inl rfl), lexT_is o4 (by decide)]
  simp only [List.drop_succ_cons, List.drop_zero, List.take_succ_cons, List.take_zero]
  rw [lexT_is o5 (by decide)]
  simp only [List.drop_succ_cons, List.drop_zero, List.take_succ_cons, List.take_zero]
  rw [lexT_blank (.inl rfl), lexT_line]
  rfl
theorem awake_b : lexS [97, 32, 32, 63] = ([], some 3) := by
  have o1 : oneS [97, 32, 32, 63] = (1, 1) := by kernel_rfl
  rw [lexS_T, lexT_is o1 (by decide)]
  simp only [List.drop_succ_cons, List.drop_zero, List.take_succ_cons, List.take_zero]
  have o2 : (oneS [63]).1 = 0 := by kernel_rfl
  rw [lexT_blank (.inl rfl), lexT_blank (.inl rfl), lexT_bad (by decide) (by decide) o2]
  rfl
theorem lawLexAwake {C : Ctx} (h : okFn C.P C.φ 73 g_law07_awake = true) (hL : ∀ s : List UInt8, s.length < 100000 → SoundAt C 74 ⟨[vS s], looko []⟩ ⟨vLex (lexS s), looko []⟩) : SoundAt C 73 ⟨[], looko []⟩ ⟨vB true, looko []⟩ := by
  have t1 := hL awakeA (by decide)
  have t2 := hL [97, 32, 32, 63] (by decide)
  rw [awake_a] at t1
  rw [awake_b] at t2
  simp only [vLex, List.map_cons, List.map_nil, encT, awakeA] at t1 t2
  refine SoundAt.of_run h rfl (fun Q hR hN => ?_)
  rw [entry0]
  repeat' (first | simp only [go_sem, ↓reduceIte, Nat.reduceEqDiff, Nat.reduceAdd, Nat.reduceSub, Nat.reduceMul, Nat.reduceLeDiff, Nat.reduceBEq, reduceCtorEq, Nat.reduceEqDiff, Int.reduceEq, Int.reduceLT, Int.reduceLE, Int.reduceNeg, Int.reduceBEq, Int.reduceBNe, Int.reduceToNat, Int.reducePow, Int.le_refl, Int.reduceLT] | refine callK_plain t1 (fun _ => rfl) ?_ | refine callK_plain t2 (fun _ => rfl) ?_ | refine g_law07_awake_o9_sh.mpr ?_ | refine g_law07_awake_o8_sh.mpr ?_ | refine g_law07_awake_o7_sh.mpr ?_ | refine g_law07_awake_o6_sh.mpr ?_ | refine g_law07_awake_o5_sh.mpr ?_ | refine g_law07_awake_o4_sh.mpr ?_ | refine g_law07_awake_o3_sh.mpr ?_ | refine g_law07_awake_o2_sh.mpr ?_ | refine g_law07_awake_o1_sh.mpr ?_ | refine g_law07_awake_o0_sh.mpr ?_ | refine g_law07_awake_c0_sh.mpr ?_ | refine g_law07_awake_c1_sh.mpr ?_ | refine g_law07_awake_c2_sh.mpr ?_ | refine g_law07_awake_code_sh.mpr ?_ | refine hR _ ?_)
end Pay
