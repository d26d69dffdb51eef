/- Laws of parts of amounts. -/
import Derived.Test.YthnddhfpkmbacaaDoorPayC53
import Derived.Test.YthnddhfpkmbacaaDoorPaySh0
set_option linter.unusedSimpArgs false
set_option linter.unusedVariables false
namespace Pay
open Go
attribute [local irreducible] wpB opsB treeB drawB
theorem up_none (mode : Int) (q K : Nat) : upS mode q 0 K = false := by
  unfold upS
  split
  · rfl
  · split
    · simp
    · split
      · omega
      · rw [if_pos (.inr rfl)]
theorem rq_zero (mode : Int) (n K : Nat) : rq mode (n * 0) K = 0 := by
  unfold rq
  rw [Nat.mul_zero, Nat.zero_mod, up_none, Nat.zero_div]; rfl
structure RateK (C : Ctx) : Prop where
  awake : SoundAt C 81 ⟨[], looko []⟩ ⟨vB true, looko []⟩
  of : ∀ a bps mode : Int, i64 a → SoundAt C 82 ⟨[vI a, vI bps, vI mode], looko []⟩ ⟨vIE (rateOfS a bps mode), looko []⟩
  prorate : ∀ a part whole mode : Int, i64 a → i64 part → i64 whole → SoundAt C 86 ⟨[vI a, vI part, vI whole, vI mode], looko []⟩ ⟨vIE (prorateS a part whole mode), looko []⟩
  right : ∀ n, SoundAt C 88 ⟨[vI n], looko []⟩ ⟨vB (rateR n), looko []⟩
  text : ∀ n, SoundAt C 91 ⟨[vI n], looko []⟩ ⟨vSE (rateTextS n), looko []⟩
  parse : ∀ s : List UInt8, s.length < 100000 → SoundAt C 92 ⟨[vS s], looko []⟩ ⟨vIB (rateP s), looko []⟩
  rParse : ∀ s : List UInt8, SoundAt C 93 ⟨[vS s], looko []⟩ ⟨vIB (refRateP s), looko []⟩
  rText : ∀ n : Int, 0 ≤ n → n ≤ 10000 → SoundAt C 94 ⟨[vI n], looko []⟩ ⟨vS (refRateT n), looko []⟩
theorem refT_1250 : refRateT 1250 = [49, 50, 46, 53, 48, 37] := by
  rw [refRateT, textR, if_neg (by decide), show ((1250 : Int)).toNat = 1250 from rfl, textN_eq, show 1250 / 100 = 12 from rfl, dec_step (by decide), dec_one (by decide)]
  rfl
theorem rateAwake {C : Ctx} (h : okFn C.P C.φ 81 g_law03_awake = true) (hOf : ∀ a bps mode : Int, i64 a → SoundAt C 82 ⟨[vI a, vI bps, vI mode], looko []⟩ ⟨vIE (rateOfS a bps mode), looko []⟩)
    (hP : ∀ s : List UInt8, s.length < 100000 → SoundAt C 92 ⟨[vS s], looko []⟩ ⟨vIB (rateP s), looko []⟩) (hRt : ∀ n, SoundAt C 88 ⟨[vI n], looko []⟩ ⟨vB (rateR n), looko []⟩) : SoundAt C 81 ⟨[], looko []⟩ ⟨vB true, looko []⟩ := by
  have t1 := hOf 1005 1250 3 (by unfold i64; omega)
  rw [show rateOfS 1005 1250 3 = (126, 0) from by decide] at t1
  have t2 := hP [49, 50, 46, 53, 48, 37] (by decide)
  rw [← refT_1250, rateP_text (by decide) (by decide), refT_1250] at t2
  have t3 := hRt 10000
  have t4 := hRt 10001
  rw [show rateR 10000 = true from rfl] at t3
  rw [show rateR 10001 = false from rfl] at t4
  refine SoundAt.of_run h rfl (fun Q hR hN => ?_)
  rw [entry0]
  repeat' (first | simp only [go_sem, ↓reduceIte, Nat.reduceEqDiff, Nat.reduceAdd, Nat.reduceSub, Nat.reduceMul, Nat.reduceLeDiff, Nat.reduceBEq, reduceCtorEq, Nat.reduceEqDiff, Int.reduceEq, Int.reduceLT, Int.reduceLE, Int.reduceNeg, Int.reduceBEq, Int.reduceBNe, Int.reduceToNat, Int.reducePow] | refine g_law03_awake_o9_sh.mpr ?_ | refine g_law03_awake_o8_sh.mpr ?_ | refine g_law03_awake_o7_sh.mpr ?_ | refine g_law03_awake_o6_sh.mpr ?_ | refine g_law03_awake_o5_sh.mpr ?_ | refine g_law03_awake_o4_sh.mpr ?_ | refine g_law03_awake_o3_sh.mpr ?_ | refine g_law03_awake_o2_sh.mpr ?_ | refine g_law03_awake_o1_sh.mpr ?_ | refine g_law03_awake_o0_sh.mpr ?_ | refine g_law03_awake_c0_sh.mpr ?_ | refine g_law03_awake_c1_sh.mpr ?_ | refine g_law03_awake_c2_sh.mpr ?_ | refine g_law03_awake_code_sh.mpr ?_ | refine callK_plain (t1) (fun _ => rfl) ?_ | refine callK_plain (t2) (fun _ => rfl) ?_ | refine callK_plain (t3) (fun _ => rfl) ?_ | refine callK_plain (t4) (fun _ => rfl) ?_ | refine hR _ ?_ | split)
end Pay
