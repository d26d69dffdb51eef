/- The law RateExact. -/
import Derived.Test.YthnddhfpkmbacaaDoorPayC54
import Derived.Test.YthnddhfpkmbacaaDoorPayC58
import Derived.Test.YthnddhfpkmbacaaDoorPaySh0
set_option linter.unusedSimpArgs false
set_option linter.unusedVariables false
namespace Pay
open Go
attribute [local irreducible] wpB opsB treeB drawB
def quotS (a b k how : Int) : Int × Int :=
  if how < 0 ∨ how > 3 then (0, 1) else if rightR a = false then (0, 3) else if (mdS a b k how).2 = true then ((mdS a b k how).1, 0) else (0, 3)
theorem mulDiv_quot {a b k how : Int} (ha : i64 a) (hb : i64 b) (hk : i64 k) (hb0 : 0 ≤ b) (hk0 : 1 ≤ k) : mulDivS a b k how = quotS a b k how := by
  unfold i64 at ha hb hk
  unfold mulDivS quotS
  by_cases hm : how < 0 ∨ how > 3
  · rw [if_pos hm, if_pos hm]
  · rw [if_neg hm, if_neg hm]
    have ab : amt b = true := by simp [amt]; omega
    have ak : amt k = true := by simp [amt]; omega
    have ea : amt a = rightR a := by
      rw [Bool.eq_iff_iff]; simp [amt, rightR]; omega
    cases hr : rightR a with
    | false =>
      rw [if_pos (.inl (by rw [ea, hr])), if_pos rfl]
    | true =>
      rw [if_neg (by rw [ea, hr, ab, ak]; simp), if_neg (by omega), if_neg (by simp)]
      unfold mulDivN mdS
      obtain ⟨N, hN⟩ : ∃ N, a.natAbs * b.natAbs = N := ⟨_, rfl⟩
      obtain ⟨K, hK⟩ : ∃ K, k.natAbs = K := ⟨_, rfl⟩
      rw [hN, hK]
      by_cases hc : N / K ≤ 9223372036854775807 ∧ rq how N K ≤ 9223372036854775807
      · rw [if_pos hc, if_pos hc, if_pos rfl]
        have hmi : minusS a b k = decide (a < 0) := by
          unfold minusS
          rw [decide_eq_false (show ¬ b < 0 by omega), decide_eq_false (show ¬ k < 0 by omega), Bool.bne_false, Bool.bne_false]
        rw [hmi]
        by_cases h0 : 0 < N
        · rw [decide_eq_true h0, Bool.and_true]
        · have : N = 0 := by omega
          subst this
          have : rq how 0 K = 0 := by
            have := rq_zero how 0 K
            rwa [Nat.mul_zero] at this
          rw [this]
          simp
      · rw [if_neg hc, if_neg hc, if_neg (by simp)]
theorem lawQuotient {C : Ctx} (h : okFn C.P C.φ 87 g_law03_quotient = true) (hRt : ∀ n, SoundAt C 53 ⟨[vI n], looko []⟩ ⟨vB (rightR n), looko []⟩)
    (hM : ∀ a b k how : Int, i64 a → i64 b → i64 k → 0 ≤ b → 1 ≤ k → how = 0 ∨ how = 1 ∨ how = 2 ∨ how = 3 → SoundAt C 100 ⟨[vI a, vI b, vI k, vI how], looko []⟩ ⟨.tup [vI (mdS a b k how).1, vB (mdS a b k how).2], looko []⟩)
    (a b k how : Int) (ha : i64 a) (hb : i64 b) (hk : i64 k) (hb0 : 0 ≤ b) (hk0 : 1 ≤ k) : SoundAt C 87 ⟨[vI a, vI b, vI k, vI how], looko []⟩ ⟨vIE (quotS a b k how), looko []⟩ := by
  have t1 := hRt a
  refine SoundAt.of_run h rfl (fun Q hR hN => ?_)
  rw [entry4]
  by_cases m0 : how < 0
  · have e : quotS a b k how = (0, 1) := by rw [quotS, if_pos (.inl m0)]
    repeat' (first | simp only [go_sem, ↓reduceIte, Nat.reduceEqDiff, Nat.reduceAdd, Nat.reduceSub, Nat.reduceMul, Nat.reduceLeDiff, Nat.reduceBEq, reduceCtorEq, Nat.reduceEqDiff, Int.reduceEq, Int.reduceLT, Int.reduceLE, Int.reduceGT, Int.reduceGE, Int.reduceNeg, Int.reduceBEq, Int.reduceBNe, Int.reduceToNat, Int.reducePow, m0, decide_true, e] | refine g_law03_quotient_o1_sh.mpr ?_ | refine g_law03_quotient_o0_sh.mpr ?_ | refine g_law03_quotient_c0_sh.mpr ?_ | refine g_law03_quotient_c1_sh.mpr ?_ | refine g_law03_quotient_c2_sh.mpr ?_ | refine g_law03_quotient_c3_sh.mpr ?_ | refine g_law03_quotient_c4_sh.mpr ?_ | refine g_law03_quotient_code_sh.mpr ?_ | refine hR _ ?_ | split)
  by_cases m3 : how > 3
  · have e : quotS a b k how = (0, 1) := by rw [quotS, if_pos (.inr m3)]
    repeat' (first | simp only [go_sem, ↓reduceIte, Nat.reduceEqDiff, Nat.reduceAdd, Nat.reduceSub, Nat.reduceMul, Nat.reduceLeDiff, Nat.reduceBEq, reduceCtorEq, Nat.reduceEqDiff, Int.reduceEq, Int.reduceLT, Int.reduceLE, Int.reduceGT, Int.reduceGE, Int.reduceNeg, Int.reduceBEq, Int.reduceBNe, Int.reduceToNat, Int.reducePow, m0, m3, decide_true, decide_false, e] | refine g_law03_quotient_o1_sh.mpr ?_ | refine g_law03_quotient_o0_sh.mpr ?_ | refine g_law03_quotient_c0_sh.mpr ?_ | refine g_law03_quotient_c1_sh.mpr ?_ | refine g_law03_quotient_c2_sh.mpr ?_ | refine g_law03_quotient_c3_sh.mpr ?_ | refine g_law03_quotient_c4_sh.mpr ?_ | refine g_law03_quotient_code_sh.mpr ?_ | refine hR _ ?_ | split)
  have t2 := hM a b k how ha hb hk hb0 hk0 (by omega)
  obtain ⟨⟨q, ok⟩, hq⟩ : ∃ q, mdS a b k how = q := ⟨_, rfl⟩
  rw [hq] at t2
  cases hr : rightR a with
  | false =>
    have e : quotS a b k how = (0, 3) := by rw [quotS, if_neg (by omega), if_pos hr]
    rw [hr] at t1
    repeat' (first | simp only [go_sem, ↓reduceIte, Nat.reduceEqDiff, Nat.reduceAdd, Nat.reduceSub, Nat.reduceMul, Nat.reduceLeDiff, Nat.reduceBEq, reduceCtorEq, Nat.reduceEqDiff, Int.reduceEq, Int.reduceLT, Int.reduceLE, Int.reduceGT, Int.reduceGE, Int.reduceNeg, Int.reduceBEq, Int.reduceBNe, Int.reduceToNat, Int.reducePow, m0, m3, decide_false, e] | refine g_law03_quotient_o1_sh.mpr ?_ | refine g_law03_quotient_o0_sh.mpr ?_ | refine g_law03_quotient_c0_sh.mpr ?_ | refine g_law03_quotient_c1_sh.mpr ?_ | refine g_law03_quotient_c2_sh.mpr ?_ | refine g_law03_quotient_c3_sh.mpr ?_ | refine g_law03_quotient_c4_sh.mpr ?_ | refine g_law03_quotient_code_sh.mpr ?_ | refine callK_plain (t1) (fun _ => rfl) ?_ | refine hR _ ?_ | split)
  | true =>
    rw [hr] at t1
    cases ok with
    | false =>
      have e : quotS a b k how = (0, 3) := by rw [quotS, if_neg (by omega), if_neg (by rw [hr]; simp), hq, if_neg (by simp)]
      repeat' (first | simp only [go_sem, ↓reduceIte, Nat.reduceEqDiff, Nat.reduceAdd, Nat.reduceSub, Nat.reduceMul, Nat.reduceLeDiff, Nat.reduceBEq, reduceCtorEq, Nat.reduceEqDiff, Int.reduceEq, Int.reduceLT, Int.reduceLE, Int.reduceGT, Int.reduceGE, Int.reduceNeg, Int.reduceBEq, Int.reduceBNe, Int.reduceToNat, Int.reducePow, m0, m3, decide_false, e] | refine g_law03_quotient_o1_sh.mpr ?_ | refine g_law03_quotient_o0_sh.mpr ?_ | refine g_law03_quotient_c0_sh.mpr ?_ | refine g_law03_quotient_c1_sh.mpr ?_ | refine g_law03_quotient_c2_sh.mpr ?_ | refine g_law03_quotient_c3_sh.mpr ?_ | refine g_law03_quotient_c4_sh.mpr ?_ | refine g_law03_quotient_code_sh.mpr ?_ | refine callK_plain (t1) (fun _ => rfl) ?_ | refine callK_plain (t2) (fun _ => rfl) ?_ | refine hR _ ?_ | split)
    | true =>
      have e : quotS a b k how = (q, 0) := by rw [quotS, if_neg (by omega), if_neg (by rw [hr]; simp), hq, if_pos rfl]
      repeat' (first | simp only [go_sem, ↓reduceIte, Nat.reduceEqDiff, Nat.reduceAdd, Nat.reduceSub, Nat.reduceMul, Nat.reduceLeDiff, Nat.reduceBEq, reduceCtorEq, Nat.reduceEqDiff, Int.reduceEq, Int.reduceLT, Int.reduceLE, Int.reduceGT, Int.reduceGE, Int.reduceNeg, Int.reduceBEq, Int.reduceBNe, Int.reduceToNat, Int.reducePow, m0, m3, decide_false, e] | refine g_law03_quotient_o1_sh.mpr ?_ | refine g_law03_quotient_o0_sh.mpr ?_ | refine g_law03_quotient_c0_sh.mpr ?_ | refine g_law03_quotient_c1_sh.mpr ?_ | refine g_law03_quotient_c2_sh.mpr ?_ | refine g_law03_quotient_c3_sh.mpr ?_ | refine g_law03_quotient_c4_sh.mpr ?_ | refine g_law03_quotient_code_sh.mpr ?_ | refine callK_plain (t1) (fun _ => rfl) ?_ | refine callK_plain (t2) (fun _ => rfl) ?_ | refine hR _ ?_ | split)
theorem lawRateExact {C : Ctx} (h : okFn C.P C.φ 85 g_law03_RateExact = true) (K : RateK C)
    (hQ : ∀ a b k how : Int, i64 a → i64 b → i64 k → 0 ≤ b → 1 ≤ k → SoundAt C 87 ⟨[vI a, vI b, vI k, vI how], looko []⟩ ⟨vIE (quotS a b k how), looko []⟩)
    (a bps part whole how : Int) (ha : i64 a) (hb : i64 bps) (hp : i64 part) (hw : i64 whole) : SoundAt C 85 ⟨[vI a, vI bps, vI part, vI whole, vI how], looko []⟩ ⟨vB true, looko []⟩ := by
  have t1 := K.of a bps how ha
  have t2 := K.prorate a part whole how ha hp hw
  have t5 := K.right bps
  have t6 := K.awake
  have tq1 := fun h0 => hQ a bps 10000 how ha hb (by unfold i64; omega) h0 (by omega)
  have tq2 := hQ a part whole how ha hp hw
  unfold rateOfS at t1
  unfold prorateS at t2
  refine SoundAt.of_run h rfl (fun Q hR hN => ?_)
  rw [entry5]
  by_cases b0 : bps < 0
  · have f1 : ¬ (bps ≥ 0) := by omega
    have er : rateR bps = false := by rw [Bool.eq_false_iff, ne_eq, rateR_iff]; omega
    rw [er] at t1 t5
    rw [if_neg (by simp)] at t1
    by_cases w1 : whole < 1
    · rw [if_pos (.inl w1)] at t2
      have g1 : ¬ (whole ≥ 1) := by omega
      repeat' (first | simp only [go_sem, ↓reduceIte, Nat.reduceEqDiff, Nat.reduceAdd, Nat.reduceSub, Nat.reduceMul, Nat.reduceLeDiff, Nat.reduceBEq, reduceCtorEq, Nat.reduceEqDiff, Int.reduceEq, Int.reduceLT, Int.reduceLE, Int.reduceGT, Int.reduceGE, Int.reduceNeg, Int.reduceBEq, Int.reduceBNe, Int.reduceToNat, Int.reducePow, f1, g1, decide_true, decide_false] | refine g_law03_RateExact_o1_sh.mpr ?_ | refine g_law03_RateExact_o0_sh.mpr ?_ | refine g_law03_RateExact_c0_sh.mpr ?_ | refine g_law03_RateExact_o5_sh.mpr ?_ | refine g_law03_RateExact_o4_sh.mpr ?_ | refine g_law03_RateExact_o3_sh.mpr ?_ | refine g_law03_RateExact_o2_sh.mpr ?_ | refine g_law03_RateExact_c1_sh.mpr ?_ | refine g_law03_RateExact_o17_sh.mpr ?_ | refine g_law03_RateExact_o16_sh.mpr ?_ | refine g_law03_RateExact_o15_sh.mpr ?_ | refine g_law03_RateExact_o14_sh.mpr ?_ | refine g_law03_RateExact_o13_sh.mpr ?_ | refine g_law03_RateExact_o12_sh.mpr ?_ | refine g_law03_RateExact_o11_sh.mpr ?_ | refine g_law03_RateExact_o10_sh.mpr ?_ | refine g_law03_RateExact_o9_sh.mpr ?_ | refine g_law03_RateExact_o8_sh.mpr ?_ | refine g_law03_RateExact_o7_sh.mpr ?_ | refine g_law03_RateExact_o6_sh.mpr ?_ | refine g_law03_RateExact_c2_sh.mpr ?_ | refine g_law03_RateExact_c3_sh.mpr ?_ | refine g_law03_RateExact_c4_sh.mpr ?_ | refine g_law03_RateExact_c5_sh.mpr ?_ | refine g_law03_RateExact_c6_sh.mpr ?_ | refine g_law03_RateExact_code_sh.mpr ?_ | refine callK_plain (t1) (fun _ => rfl) ?_ | refine callK_plain (t2) (fun _ => rfl) ?_ | refine callK_plain (t5) (fun _ => rfl) ?_ | refine callK_plain (t6) (fun _ => rfl) ?_ | refine hR _ ?_ | split)
    by_cases p1 : part < 0
    · rw [if_pos (.inr (.inl p1))] at t2
      have g1 : whole ≥ 1 := by omega
      have g2 : ¬ (part ≥ 0) := by omega
      repeat' (first | simp only [go_sem, ↓reduceIte, Nat.reduceEqDiff, Nat.reduceAdd, Nat.reduceSub, Nat.reduceMul, Nat.reduceLeDiff, Nat.reduceBEq, reduceCtorEq, Nat.reduceEqDiff, Int.reduceEq, Int.reduceLT, Int.reduceLE, Int.reduceGT, Int.reduceGE, Int.reduceNeg, Int.reduceBEq, Int.reduceBNe, Int.reduceToNat, Int.reducePow, f1, g1, g2, decide_true, decide_false] | refine g_law03_RateExact_o1_sh.mpr ?_ | refine g_law03_RateExact_o0_sh.mpr ?_ | refine g_law03_RateExact_c0_sh.mpr ?_ | refine g_law03_RateExact_o5_sh.mpr ?_ | refine g_law03_RateExact_o4_sh.mpr ?_ | refine g_law03_RateExact_o3_sh.mpr ?_ | refine g_law03_RateExact_o2_sh.mpr ?_ | refine g_law03_RateExact_c1_sh.mpr ?_ | refine g_law03_RateExact_o17_sh.mpr ?_ | refine g_law03_RateExact_o16_sh.mpr ?_ | refine g_law03_RateExact_o15_sh.mpr ?_ | refine g_law03_RateExact_o14_sh.mpr ?_ | refine g_law03_RateExact_o13_sh.mpr ?_ | refine g_law03_RateExact_o12_sh.mpr ?_ | refine g_law03_RateExact_o11_sh.mpr ?_ | refine g_law03_RateExact_o10_sh.mpr ?_ | refine g_law03_RateExact_o9_sh.mpr ?_ | refine g_law03_RateExact_o8_sh.mpr ?_ | refine g_law03_RateExact_o7_sh.mpr ?_ | refine g_law03_RateExact_o6_sh.mpr ?_ | refine g_law03_RateExact_c2_sh.mpr ?_ | refine g_law03_RateExact_c3_sh.mpr ?_ | refine g_law03_RateExact_c4_sh.mpr ?_ | refine g_law03_RateExact_c5_sh.mpr ?_ | refine g_law03_RateExact_c6_sh.mpr ?_ | refine g_law03_RateExact_code_sh.mpr ?_ | refine callK_plain (t1) (fun _ => rfl) ?_ | refine callK_plain (t2) (fun _ => rfl) ?_ | refine callK_plain (t5) (fun _ => rfl) ?_ | refine callK_plain (t6) (fun _ => rfl) ?_ | refine hR _ ?_ | split)
    by_cases p2 : part > whole
    · rw [if_pos (.inr (.inr p2))] at t2
      have g1 : whole ≥ 1 := by omega
      have g2 : part ≥ 0 := by omega
      have g3 : ¬ (part ≤ whole) := by omega
      repeat' (first | simp only [go_sem, ↓reduceIte, Nat.reduceEqDiff, Nat.reduceAdd, Nat.reduceSub, Nat.reduceMul, Nat.reduceLeDiff, Nat.reduceBEq, reduceCtorEq, Nat.reduceEqDiff, Int.reduceEq, Int.reduceLT, Int.reduceLE, Int.reduceGT, Int.reduceGE, Int.reduceNeg, Int.reduceBEq, Int.reduceBNe, Int.reduceToNat, Int.reducePow, f1, g1, g2, g3, decide_true, decide_false] | refine g_law03_RateExact_o1_sh.mpr ?_ | refine g_law03_RateExact_o0_sh.mpr ?_ | refine g_law03_RateExact_c0_sh.mpr ?_ | refine g_law03_RateExact_o5_sh.mpr ?_ | refine g_law03_RateExact_o4_sh.mpr ?_ | refine g_law03_RateExact_o3_sh.mpr ?_ | refine g_law03_RateExact_o2_sh.mpr ?_ | refine g_law03_RateExact_c1_sh.mpr ?_ | refine g_law03_RateExact_o17_sh.mpr ?_ | refine g_law03_RateExact_o16_sh.mpr ?_ | refine g_law03_RateExact_o15_sh.mpr ?_ | refine g_law03_RateExact_o14_sh.mpr ?_ | refine g_law03_RateExact_o13_sh.mpr ?_ | refine g_law03_RateExact_o12_sh.mpr ?_ | refine g_law03_RateExact_o11_sh.mpr ?_ | refine g_law03_RateExact_o10_sh.mpr ?_ | refine g_law03_RateExact_o9_sh.mpr ?_ | refine g_law03_RateExact_o8_sh.mpr ?_ | refine g_law03_RateExact_o7_sh.mpr ?_ | refine g_law03_RateExact_o6_sh.mpr ?_ | refine g_law03_RateExact_c2_sh.mpr ?_ | refine g_law03_RateExact_c3_sh.mpr ?_ | refine g_law03_RateExact_c4_sh.mpr ?_ | refine g_law03_RateExact_c5_sh.mpr ?_ | refine g_law03_RateExact_c6_sh.mpr ?_ | refine g_law03_RateExact_code_sh.mpr ?_ | refine callK_plain (t1) (fun _ => rfl) ?_ | refine callK_plain (t2) (fun _ => rfl) ?_ | refine callK_plain (t5) (fun _ => rfl) ?_ | refine callK_plain (t6) (fun _ => rfl) ?_ | refine hR _ ?_ | split)
    · rw [if_neg (by omega), mulDiv_quot ha hp hw (by omega) (by omega)] at t2
      have g1 : whole ≥ 1 := by omega
      have g2 : part ≥ 0 := by omega
      have g3 : part ≤ whole := by omega
      have tq2 := tq2 (by omega) (by omega)
      obtain ⟨⟨x, y⟩, hx⟩ : ∃ q, quotS a part whole how = q := ⟨_, rfl⟩
      rw [hx] at t2 tq2
      repeat' (first | simp only [go_sem, ↓reduceIte, Nat.reduceEqDiff, Nat.reduceAdd, Nat.reduceSub, Nat.reduceMul, Nat.reduceLeDiff, Nat.reduceBEq, reduceCtorEq, Nat.reduceEqDiff, Int.reduceEq, Int.reduceLT, Int.reduceLE, Int.reduceGT, Int.reduceGE, Int.reduceNeg, Int.reduceBEq, Int.reduceBNe, Int.reduceToNat, Int.reducePow, f1, g1, g2, g3, decide_true, decide_false] | refine g_law03_RateExact_o1_sh.mpr ?_ | refine g_law03_RateExact_o0_sh.mpr ?_ | refine g_law03_RateExact_c0_sh.mpr ?_ | refine g_law03_RateExact_o5_sh.mpr ?_ | refine g_law03_RateExact_o4_sh.mpr ?_ | refine g_law03_RateExact_o3_sh.mpr ?_ | refine g_law03_RateExact_o2_sh.mpr ?_ | refine g_law03_RateExact_c1_sh.mpr ?_ | refine g_law03_RateExact_o17_sh.mpr ?_ | refine g_law03_RateExact_o16_sh.mpr ?_ | refine g_law03_RateExact_o15_sh.mpr ?_ | refine g_law03_RateExact_o14_sh.mpr ?_ | refine g_law03_RateExact_o13_sh.mpr ?_ | refine g_law03_RateExact_o12_sh.mpr ?_ | refine g_law03_RateExact_o11_sh.mpr ?_ | refine g_law03_RateExact_o10_sh.mpr ?_ | refine g_law03_RateExact_o9_sh.mpr ?_ | refine g_law03_RateExact_o8_sh.mpr ?_ | refine g_law03_RateExact_o7_sh.mpr ?_ | refine g_law03_RateExact_o6_sh.mpr ?_ | refine g_law03_RateExact_c2_sh.mpr ?_ | refine g_law03_RateExact_c3_sh.mpr ?_ | refine g_law03_RateExact_c4_sh.mpr ?_ | refine g_law03_RateExact_c5_sh.mpr ?_ | refine g_law03_RateExact_c6_sh.mpr ?_ | refine g_law03_RateExact_code_sh.mpr ?_ | refine callK_plain (t1) (fun _ => rfl) ?_ | refine callK_plain (t2) (fun _ => rfl) ?_ | refine callK_plain (t5) (fun _ => rfl) ?_ | refine callK_plain (t6) (fun _ => rfl) ?_ | refine callK_plain (tq2) (fun _ => rfl) ?_ | refine hR _ ?_ | split)
  have f1 : bps ≥ 0 := by omega
  by_cases b1 : bps > 10000
  · have f2 : ¬ (bps ≤ 10000) := by omega
    have er : rateR bps = false := by rw [Bool.eq_false_iff, ne_eq, rateR_iff]; omega
    rw [er] at t1 t5
    rw [if_neg (by simp)] at t1
    by_cases w1 : whole < 1
    · rw [if_pos (.inl w1)] at t2
      have g1 : ¬ (whole ≥ 1) := by omega
      repeat' (first | simp only [go_sem, ↓reduceIte, Nat.reduceEqDiff, Nat.reduceAdd, Nat.reduceSub, Nat.reduceMul, Nat.reduceLeDiff, Nat.reduceBEq, reduceCtorEq, Nat.reduceEqDiff, Int.reduceEq, Int.reduceLT, Int.reduceLE, Int.reduceGT, Int.reduceGE, Int.reduceNeg, Int.reduceBEq, Int.reduceBNe, Int.reduceToNat, Int.reducePow, f1, f2, g1, decide_true, decide_false] | refine g_law03_RateExact_o1_sh.mpr ?_ | refine g_law03_RateExact_o0_sh.mpr ?_ | refine g_law03_RateExact_c0_sh.mpr ?_ | refine g_law03_RateExact_o5_sh.mpr ?_ | refine g_law03_RateExact_o4_sh.mpr ?_ | refine g_law03_RateExact_o3_sh.mpr ?_ | refine g_law03_RateExact_o2_sh.mpr ?_ | refine g_law03_RateExact_c1_sh.mpr ?_ | refine g_law03_RateExact_o17_sh.mpr ?_ | refine g_law03_RateExact_o16_sh.mpr ?_ | refine g_law03_RateExact_o15_sh.mpr ?_ | refine g_law03_RateExact_o14_sh.mpr ?_ | refine g_law03_RateExact_o13_sh.mpr ?_ | refine g_law03_RateExact_o12_sh.mpr ?_ | refine g_law03_RateExact_o11_sh.mpr ?_ | refine g_law03_RateExact_o10_sh.mpr ?_ | refine g_law03_RateExact_o9_sh.mpr ?_ | refine g_law03_RateExact_o8_sh.mpr ?_ | refine g_law03_RateExact_o7_sh.mpr ?_ | refine g_law03_RateExact_o6_sh.mpr ?_ | refine g_law03_RateExact_c2_sh.mpr ?_ | refine g_law03_RateExact_c3_sh.mpr ?_ | refine g_law03_RateExact_c4_sh.mpr ?_ | refine g_law03_RateExact_c5_sh.mpr ?_ | refine g_law03_RateExact_c6_sh.mpr ?_ | refine g_law03_RateExact_code_sh.mpr ?_ | refine callK_plain (t1) (fun _ => rfl) ?_ | refine callK_plain (t2) (fun _ => rfl) ?_ | refine callK_plain (t5) (fun _ => rfl) ?_ | refine callK_plain (t6) (fun _ => rfl) ?_ | refine hR _ ?_ | split)
    by_cases p1 : part < 0
    · rw [if_pos (.inr (.inl p1))] at t2
      have g1 : whole ≥ 1 := by omega
      have g2 : ¬ (part ≥ 0) := by omega
      repeat' (first | simp only [go_sem, ↓reduceIte, Nat.reduceEqDiff, Nat.reduceAdd, Nat.reduceSub, Nat.reduceMul, Nat.reduceLeDiff, Nat.reduceBEq, reduceCtorEq, Nat.reduceEqDiff, Int.reduceEq, Int.reduceLT, Int.reduceLE, Int.reduceGT, Int.reduceGE, Int.reduceNeg, Int.reduceBEq, Int.reduceBNe, Int.reduceToNat, Int.reducePow, f1, f2, g1, g2, decide_true, decide_false] | refine g_law03_RateExact_o1_sh.mpr ?_ | refine g_law03_RateExact_o0_sh.mpr ?_ | refine g_law03_RateExact_c0_sh.mpr ?_ | refine g_law03_RateExact_o5_sh.mpr ?_ | refine g_law03_RateExact_o4_sh.mpr ?_ | refine g_law03_RateExact_o3_sh.mpr ?_ | refine g_law03_RateExact_o2_sh.mpr ?_ | refine g_law03_RateExact_c1_sh.mpr ?_ | refine g_law03_RateExact_o17_sh.mpr ?_ | refine g_law03_RateExact_o16_sh.mpr ?_ | refine g_law03_RateExact_o15_sh.mpr ?_ | refine g_law03_RateExact_o14_sh.mpr ?_ | refine g_law03_RateExact_o13_sh.mpr ?_ | refine g_law03_RateExact_o12_sh.mpr ?_ | refine g_law03_RateExact_o11_sh.mpr ?_ | refine g_law03_RateExact_o10_sh.mpr ?_ | refine g_law03_RateExact_o9_sh.mpr ?_ | refine g_law03_RateExact_o8_sh.mpr ?_ | refine g_law03_RateExact_o7_sh.mpr ?_ | refine g_law03_RateExact_o6_sh.mpr ?_ | refine g_law03_RateExact_c2_sh.mpr ?_ | refine g_law03_RateExact_c3_sh.mpr ?_ | refine g_law03_RateExact_c4_sh.mpr ?_ | refine g_law03_RateExact_c5_sh.mpr ?_ | refine g_law03_RateExact_c6_sh.mpr ?_ | refine g_law03_RateExact_code_sh.mpr ?_ | refine callK_plain (t1) (fun _ => rfl) ?_ | refine callK_plain (t2) (fun _ => rfl) ?_ | refine callK_plain (t5) (fun _ => rfl) ?_ | refine callK_plain (t6) (fun _ => rfl) ?_ | refine hR _ ?_ | split)
    by_cases p2 : part > whole
    · rw [if_pos (.inr (.inr p2))] at t2
      have g1 : whole ≥ 1 := by omega
      have g2 : part ≥ 0 := by omega
      have g3 : ¬ (part ≤ whole) := by omega
      repeat' (first | simp only [go_sem, ↓reduceIte, Nat.reduceEqDiff, Nat.reduceAdd, Nat.reduceSub, Nat.reduceMul, Nat.reduceLeDiff, Nat.reduceBEq, reduceCtorEq, Nat.reduceEqDiff, Int.reduceEq, Int.reduceLT, Int.reduceLE, Int.reduceGT, Int.reduceGE, Int.reduceNeg, Int.reduceBEq, Int.reduceBNe, Int.reduceToNat, Int.reducePow, f1, f2, g1, g2, g3, decide_true, decide_false] | refine g_law03_RateExact_o1_sh.mpr ?_ | refine g_law03_RateExact_o0_sh.mpr ?_ | refine g_law03_RateExact_c0_sh.mpr ?_ | refine g_law03_RateExact_o5_sh.mpr ?_ | refine g_law03_RateExact_o4_sh.mpr ?_ | refine g_law03_RateExact_o3_sh.mpr ?_ | refine g_law03_RateExact_o2_sh.mpr ?_ | refine g_law03_RateExact_c1_sh.mpr ?_ | refine g_law03_RateExact_o17_sh.mpr ?_ | refine g_law03_RateExact_o16_sh.mpr ?_ | refine g_law03_RateExact_o15_sh.mpr ?_ | refine g_law03_RateExact_o14_sh.mpr ?_ | refine g_law03_RateExact_o13_sh.mpr ?_ | refine g_law03_RateExact_o12_sh.mpr ?_ | refine g_law03_RateExact_o11_sh.mpr ?_ | refine g_law03_RateExact_o10_sh.mpr ?_ | refine g_law03_RateExact_o9_sh.mpr ?_ | refine g_law03_RateExact_o8_sh.mpr ?_ | refine g_law03_RateExact_o7_sh.mpr ?_ | refine g_law03_RateExact_o6_sh.mpr ?_ | refine g_law03_RateExact_c2_sh.mpr ?_ | refine g_law03_RateExact_c3_sh.mpr ?_ | refine g_law03_RateExact_c4_sh.mpr ?_ | refine g_law03_RateExact_c5_sh.mpr ?_ | refine g_law03_RateExact_c6_sh.mpr ?_ | refine g_law03_RateExact_code_sh.mpr ?_ | refine callK_plain (t1) (fun _ => rfl) ?_ | refine callK_plain (t2) (fun _ => rfl) ?_ | refine callK_plain (t5) (fun _ => rfl) ?_ | refine callK_plain (t6) (fun _ => rfl) ?_ | refine hR _ ?_ | split)
    · rw [if_neg (by omega), mulDiv_quot ha hp hw (by omega) (by omega)] at t2
      have g1 : whole ≥ 1 := by omega
      have g2 : part ≥ 0 := by omega
      have g3 : part ≤ whole := by omega
      have tq2 := tq2 (by omega) (by omega)
      obtain ⟨⟨x, y⟩, hx⟩ : ∃ q, quotS a part whole how = q := ⟨_, rfl⟩
      rw [hx] at t2 tq2
      repeat' (first | simp only [go_sem, ↓reduceIte, Nat.reduceEqDiff, Nat.reduceAdd, Nat.reduceSub, Nat.reduceMul, Nat.reduceLeDiff, Nat.reduceBEq, reduceCtorEq, Nat.reduceEqDiff, Int.reduceEq, Int.reduceLT, Int.reduceLE, Int.reduceGT, Int.reduceGE, Int.reduceNeg, Int.reduceBEq, Int.reduceBNe, Int.reduceToNat, Int.reducePow, f1, f2, g1, g2, g3, decide_true, decide_false] | refine g_law03_RateExact_o1_sh.mpr ?_ | refine g_law03_RateExact_o0_sh.mpr ?_ | refine g_law03_RateExact_c0_sh.mpr ?_ | refine g_law03_RateExact_o5_sh.mpr ?_ | refine g_law03_RateExact_o4_sh.mpr ?_ | refine g_law03_RateExact_o3_sh.mpr ?_ | refine g_law03_RateExact_o2_sh.mpr ?_ | refine g_law03_RateExact_c1_sh.mpr ?_ | refine g_law03_RateExact_o17_sh.mpr ?_ | refine g_law03_RateExact_o16_sh.mpr ?_ | refine g_law03_RateExact_o15_sh.mpr ?_ | refine g_law03_RateExact_o14_sh.mpr ?_ | refine g_law03_RateExact_o13_sh.mpr ?_ | refine g_law03_RateExact_o12_sh.mpr ?_ | refine g_law03_RateExact_o11_sh.mpr ?_ | refine g_law03_RateExact_o10_sh.mpr ?_ | refine g_law03_RateExact_o9_sh.mpr ?_ | refine g_law03_RateExact_o8_sh.mpr ?_ | refine g_law03_RateExact_o7_sh.mpr ?_ | refine g_law03_RateExact_o6_sh.mpr ?_ | refine g_law03_RateExact_c2_sh.mpr ?_ | refine g_law03_RateExact_c3_sh.mpr ?_ | refine g_law03_RateExact_c4_sh.mpr ?_ | refine g_law03_RateExact_c5_sh.mpr ?_ | refine g_law03_RateExact_c6_sh.mpr ?_ | refine g_law03_RateExact_code_sh.mpr ?_ | refine callK_plain (t1) (fun _ => rfl) ?_ | refine callK_plain (t2) (fun _ => rfl) ?_ | refine callK_plain (t5) (fun _ => rfl) ?_ | refine callK_plain (t6) (fun _ => rfl) ?_ | refine callK_plain (tq2) (fun _ => rfl) ?_ | refine hR _ ?_ | split)
  · have f2 : bps ≤ 10000 := by omega
    have er : rateR bps = true := by rw [rateR_iff]; omega
    rw [er] at t1 t5
    rw [if_pos rfl, mulDiv_quot ha hb (by unfold i64; omega) (by omega) (by omega)] at t1
    have tq1 := tq1 (by omega)
    obtain ⟨⟨u, v⟩, hu⟩ : ∃ q, quotS a bps 10000 how = q := ⟨_, rfl⟩
    rw [hu] at t1 tq1
    by_cases w1 : whole < 1
    · rw [if_pos (.inl w1)] at t2
      have g1 : ¬ (whole ≥ 1) := by omega
      repeat' (first | simp only [go_sem, ↓reduceIte, Nat.reduceEqDiff, Nat.reduceAdd, Nat.reduceSub, Nat.reduceMul, Nat.reduceLeDiff, Nat.reduceBEq, reduceCtorEq, Nat.reduceEqDiff, Int.reduceEq, Int.reduceLT, Int.reduceLE, Int.reduceGT, Int.reduceGE, Int.reduceNeg, Int.reduceBEq, Int.reduceBNe, Int.reduceToNat, Int.reducePow, f1, f2, g1, decide_true, decide_false] | refine g_law03_RateExact_o1_sh.mpr ?_ | refine g_law03_RateExact_o0_sh.mpr ?_ | refine g_law03_RateExact_c0_sh.mpr ?_ | refine g_law03_RateExact_o5_sh.mpr ?_ | refine g_law03_RateExact_o4_sh.mpr ?_ | refine g_law03_RateExact_o3_sh.mpr ?_ | refine g_law03_RateExact_o2_sh.mpr ?_ | refine g_law03_RateExact_c1_sh.mpr ?_ | refine g_law03_RateExact_o17_sh.mpr ?_ | refine g_law03_RateExact_o16_sh.mpr ?_ | refine g_law03_RateExact_o15_sh.mpr ?_ | refine g_law03_RateExact_o14_sh.mpr ?_ | refine g_law03_RateExact_o13_sh.mpr ?_ | refine g_law03_RateExact_o12_sh.mpr ?_ | refine g_law03_RateExact_o11_sh.mpr ?_ | refine g_law03_RateExact_o10_sh.mpr ?_ | refine g_law03_RateExact_o9_sh.mpr ?_ | refine g_law03_RateExact_o8_sh.mpr ?_ | refine g_law03_RateExact_o7_sh.mpr ?_ | refine g_law03_RateExact_o6_sh.mpr ?_ | refine g_law03_RateExact_c2_sh.mpr ?_ | refine g_law03_RateExact_c3_sh.mpr ?_ | refine g_law03_RateExact_c4_sh.mpr ?_ | refine g_law03_RateExact_c5_sh.mpr ?_ | refine g_law03_RateExact_c6_sh.mpr ?_ | refine g_law03_RateExact_code_sh.mpr ?_ | refine callK_plain (t1) (fun _ => rfl) ?_ | refine callK_plain (t2) (fun _ => rfl) ?_ | refine callK_plain (t5) (fun _ => rfl) ?_ | refine callK_plain (t6) (fun _ => rfl) ?_ | refine callK_plain (tq1) (fun _ => rfl) ?_ | refine hR _ ?_ | split)
    by_cases p1 : part < 0
    · rw [if_pos (.inr (.inl p1))] at t2
      have g1 : whole ≥ 1 := by omega
      have g2 : ¬ (part ≥ 0) := by omega
      repeat' (first | simp only [go_sem, ↓reduceIte, Nat.reduceEqDiff, Nat.reduceAdd, Nat.reduceSub, Nat.reduceMul, Nat.reduceLeDiff, Nat.reduceBEq, reduceCtorEq, Nat.reduceEqDiff, Int.reduceEq, Int.reduceLT, Int.reduceLE, Int.reduceGT, Int.reduceGE, Int.reduceNeg, Int.reduceBEq, Int.reduceBNe, Int.reduceToNat, Int.reducePow, f1, f2, g1, g2, decide_true, decide_false] | refine g_law03_RateExact_o1_sh.mpr ?_ | refine g_law03_RateExact_o0_sh.mpr ?_ | refine g_law03_RateExact_c0_sh.mpr ?_ | refine g_law03_RateExact_o5_sh.mpr ?_ | refine g_law03_RateExact_o4_sh.mpr ?_ | refine g_law03_RateExact_o3_sh.mpr ?_ | refine g_law03_RateExact_o2_sh.mpr ?_ | refine g_law03_RateExact_c1_sh.mpr ?_ | refine g_law03_RateExact_o17_sh.mpr ?_ | refine g_law03_RateExact_o16_sh.mpr ?_ | refine g_law03_RateExact_o15_sh.mpr ?_ | refine g_law03_RateExact_o14_sh.mpr ?_ | refine g_law03_RateExact_o13_sh.mpr ?_ | refine g_law03_RateExact_o12_sh.mpr ?_ | refine g_law03_RateExact_o11_sh.mpr ?_ | refine g_law03_RateExact_o10_sh.mpr ?_ | refine g_law03_RateExact_o9_sh.mpr ?_ | refine g_law03_RateExact_o8_sh.mpr ?_ | refine g_law03_RateExact_o7_sh.mpr ?_ | refine g_law03_RateExact_o6_sh.mpr ?_ | refine g_law03_RateExact_c2_sh.mpr ?_ | refine g_law03_RateExact_c3_sh.mpr ?_ | refine g_law03_RateExact_c4_sh.mpr ?_ | refine g_law03_RateExact_c5_sh.mpr ?_ | refine g_law03_RateExact_c6_sh.mpr ?_ | refine g_law03_RateExact_code_sh.mpr ?_ | refine callK_plain (t1) (fun _ => rfl) ?_ | refine callK_plain (t2) (fun _ => rfl) ?_ | refine callK_plain (t5) (fun _ => rfl) ?_ | refine callK_plain (t6) (fun _ => rfl) ?_ | refine callK_plain (tq1) (fun _ => rfl) ?_ | refine hR _ ?_ | split)
    by_cases p2 : part > whole
    · rw [if_pos (.inr (.inr p2))] at t2
      have g1 : whole ≥ 1 := by omega
      have g2 : part ≥ 0 := by omega
      have g3 : ¬ (part ≤ whole) := by omega
      repeat' (first | simp only [go_sem, ↓reduceIte, Nat.reduceEqDiff, Nat.reduceAdd, Nat.reduceSub, Nat.reduceMul, Nat.reduceLeDiff, Nat.reduceBEq, reduceCtorEq, Nat.reduceEqDiff, Int.reduceEq, Int.reduceLT, Int.reduceLE, Int.reduceGT, Int.reduceGE, Int.reduceNeg, Int.reduceBEq, Int.reduceBNe, Int.reduceToNat, Int.reducePow, f1, f2, g1, g2, g3, decide_true, decide_false] | refine g_law03_RateExact_o1_sh.mpr ?_ | refine g_law03_RateExact_o0_sh.mpr ?_ | refine g_law03_RateExact_c0_sh.mpr ?_ | refine g_law03_RateExact_o5_sh.mpr ?_ | refine g_law03_RateExact_o4_sh.mpr ?_ | refine g_law03_RateExact_o3_sh.mpr ?_ | refine g_law03_RateExact_o2_sh.mpr ?_ | refine g_law03_RateExact_c1_sh.mpr ?_ | refine g_law03_RateExact_o17_sh.mpr ?_ | refine g_law03_RateExact_o16_sh.mpr ?_ | refine g_law03_RateExact_o15_sh.mpr ?_ | refine g_law03_RateExact_o14_sh.mpr ?_ | refine g_law03_RateExact_o13_sh.mpr ?_ | refine g_law03_RateExact_o12_sh.mpr ?_ | refine g_law03_RateExact_o11_sh.mpr ?_ | refine g_law03_RateExact_o10_sh.mpr ?_ | refine g_law03_RateExact_o9_sh.mpr ?_ | refine g_law03_RateExact_o8_sh.mpr ?_ | refine g_law03_RateExact_o7_sh.mpr ?_ | refine g_law03_RateExact_o6_sh.mpr ?_ | refine g_law03_RateExact_c2_sh.mpr ?_ | refine g_law03_RateExact_c3_sh.mpr ?_ | refine g_law03_RateExact_c4_sh.mpr ?_ | refine g_law03_RateExact_c5_sh.mpr ?_ | refine g_law03_RateExact_c6_sh.mpr ?_ | refine g_law03_RateExact_code_sh.mpr ?_ | refine callK_plain (t1) (fun _ => rfl) ?_ | refine callK_plain (t2) (fun _ => rfl) ?_ | refine callK_plain (t5) (fun _ => rfl) ?_ | refine callK_plain (t6) (fun _ => rfl) ?_ | refine callK_plain (tq1) (fun _ => rfl) ?_ | refine hR _ ?_ | split)
    · rw [if_neg (by omega), mulDiv_quot ha hp hw (by omega) (by omega)] at t2
      have g1 : whole ≥ 1 := by omega
      have g2 : part ≥ 0 := by omega
      have g3 : part ≤ whole := by omega
      have tq2 := tq2 (by omega) (by omega)
      obtain ⟨⟨x, y⟩, hx⟩ : ∃ q, quotS a part whole how = q := ⟨_, rfl⟩
      rw [hx] at t2 tq2
      repeat' (first | simp only [go_sem, ↓reduceIte, Nat.reduceEqDiff, Nat.reduceAdd, Nat.reduceSub, Nat.reduceMul, Nat.reduceLeDiff, Nat.reduceBEq, reduceCtorEq, Nat.reduceEqDiff, Int.reduceEq, Int.reduceLT, Int.reduceLE, Int.reduceGT, Int.reduceGE, Int.reduceNeg, Int.reduceBEq, Int.reduceBNe, Int.reduceToNat, Int.reducePow, f1, f2, g1, g2, g3, decide_true, decide_false] | refine g_law03_RateExact_o1_sh.mpr ?_ | refine g_law03_RateExact_o0_sh.mpr ?_ | refine g_law03_RateExact_c0_sh.mpr ?_ | refine g_law03_RateExact_o5_sh.mpr ?_ | refine g_law03_RateExact_o4_sh.mpr ?_ | refine g_law03_RateExact_o3_sh.mpr ?_ | refine g_law03_RateExact_o2_sh.mpr ?_ | refine g_law03_RateExact_c1_sh.mpr ?_ | refine g_law03_RateExact_o17_sh.mpr ?_ | refine g_law03_RateExact_o16_sh.mpr ?_ | refine g_law03_RateExact_o15_sh.mpr ?_ | refine g_law03_RateExact_o14_sh.mpr ?_ | refine g_law03_RateExact_o13_sh.mpr ?_ | refine g_law03_RateExact_o12_sh.mpr ?_ | refine g_law03_RateExact_o11_sh.mpr ?_ | refine g_law03_RateExact_o10_sh.mpr ?_ | refine g_law03_RateExact_o9_sh.mpr ?_ | refine g_law03_RateExact_o8_sh.mpr ?_ | refine g_law03_RateExact_o7_sh.mpr ?_ | refine g_law03_RateExact_o6_sh.mpr ?_ | refine g_law03_RateExact_c2_sh.mpr ?_ | refine g_law03_RateExact_c3_sh.mpr ?_ | refine g_law03_RateExact_c4_sh.mpr ?_ | refine g_law03_RateExact_c5_sh.mpr ?_ | refine g_law03_RateExact_c6_sh.mpr ?_ | refine g_law03_RateExact_code_sh.mpr ?_ | refine callK_plain (t1) (fun _ => rfl) ?_ | refine callK_plain (t2) (fun _ => rfl) ?_ | refine callK_plain (t5) (fun _ => rfl) ?_ | refine callK_plain (t6) (fun _ => rfl) ?_ | refine callK_plain (tq2) (fun _ => rfl) ?_ | refine callK_plain (tq1) (fun _ => rfl) ?_ | refine hR _ ?_ | split)
end Pay
