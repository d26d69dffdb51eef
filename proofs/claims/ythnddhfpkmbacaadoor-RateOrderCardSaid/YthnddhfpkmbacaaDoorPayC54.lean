/- Laws of parts of amounts. -/
import Derived.Test.YthnddhfpkmbacaaDoorPayC53
import Derived.Test.YthnddhfpkmbacaaDoorPaySh0
set_option linter.unusedSimpArgs false
set_option linter.unusedVariables false
namespace Pay
open Go
attribute [local irreducible] wpB opsB treeB drawB
theorem up_none (mode : Int) (q K : Nat) : upS mode q 0 K = false := by
  unfold upS
  split
  · rfl
  · split
    · simp
    · split
      · omega
      · rw [if_pos (.inr rfl)]
theorem rq_le {mode : Int} {n b K : Nat} (hK : 0 < K) (hb : b ≤ K) : rq mode (n * b) K ≤ n := by
  unfold rq
  by_cases h0 : n * b % K = 0
  · rw [h0, up_none, if_neg (by simp), Nat.add_zero]
    exact Nat.div_le_of_le_mul (by rw [Nat.mul_comm]; exact Nat.mul_le_mul_right n hb)
  · have hbK : b < K := by
      rcases Nat.lt_or_ge b K with h | h
      · exact h
      · have : b = K := by omega
        subst this
        rw [Nat.mul_mod_left] at h0
        exact absurd rfl h0
    have hn : 0 < n := by
      rcases Nat.eq_zero_or_pos n with h | h
      · subst h; simp at h0
      · exact h
    have : n * b / K < n := by
      rw [Nat.div_lt_iff_lt_mul hK]
      exact Nat.mul_lt_mul_of_pos_left hbK hn
    split <;> omega
theorem rq_zero (mode : Int) (n K : Nat) : rq mode (n * 0) K = 0 := by
  unfold rq
  rw [Nat.mul_zero, Nat.zero_mod, up_none, Nat.zero_div]; rfl
theorem rq_all (mode : Int) (n K : Nat) (hK : 0 < K) : rq mode (n * K) K = n := by
  unfold rq
  rw [Nat.mul_mod_left, up_none, Nat.mul_div_cancel _ hK]; rfl
theorem rq_down (A K : Nat) : rq 0 A K = A / K := by simp [rq, upS]
theorem rq_up (A K : Nat) : rq 1 A K = A / K + if 0 < A % K then 1 else 0 := by simp [rq, upS]
theorem rq_halves {n b K : Nat} (hK : 0 < K) (hb : b ≤ K) : rq 0 (n * b) K + rq 1 (n * (K - b)) K = n := by
  rw [rq_down, rq_up]
  have e1 := Nat.div_add_mod (n * b) K
  have e2 : n * (K - b) + n * b = n * K := by rw [← Nat.mul_add, Nat.sub_add_cancel hb]
  have hm := Nat.mod_lt (n * b) hK
  obtain ⟨x, hx⟩ : ∃ x, n * b / K = x := ⟨_, rfl⟩
  obtain ⟨r, hr⟩ : ∃ r, n * b % K = r := ⟨_, rfl⟩
  rw [hx, hr] at e1
  rw [hr] at hm
  rw [hx]
  have hxn : x ≤ n := by
    rw [← hx]
    exact Nat.div_le_of_le_mul (by rw [Nat.mul_comm]; exact Nat.mul_le_mul_right n hb)
  obtain ⟨d, hd⟩ : ∃ d, n = x + d := ⟨n - x, by omega⟩
  have e3 : n * (K - b) + r = d * K := by
    have : n * K = K * x + d * K := by rw [hd, Nat.add_mul, Nat.mul_comm x K]
    omega
  by_cases h0 : r = 0
  · subst h0
    have e4 : n * (K - b) = d * K := by omega
    rw [e4, Nat.mul_div_cancel _ hK, Nat.mul_mod_left, if_neg (by omega)]
    omega
  · have hd0 : 0 < d := by
      rcases Nat.eq_zero_or_pos d with h | h
      · subst h; simp at e3; omega
      · exact h
    obtain ⟨d', rfl⟩ : ∃ d', d = d' + 1 := ⟨d - 1, by omega⟩
    have e4 : n * (K - b) = K * d' + (K - r) := by
      have e5 : (d' + 1) * K = K * d' + K := by rw [Nat.add_mul, Nat.one_mul, Nat.mul_comm]
      omega
    have e6 : (K - r) / K = 0 := Nat.div_eq_of_lt (by omega)
    have e7 : (K - r) % K = K - r := Nat.mod_eq_of_lt (by omega)
    rw [e4, Nat.mul_add_div hK, Nat.mul_add_mod, e6, e7, if_pos (by omega)]
    omega
theorem up_mono {q l1 l2 K : Nat} (h : l1 ≤ l2) (hl : l2 < K) (hu : upS 3 q l1 K = true) : upS 3 q l2 K = true := by
  unfold upS at hu ⊢
  rw [if_neg (by decide), if_neg (by decide)] at hu ⊢
  by_cases h1 : K - l2 < l2
  · rw [if_pos h1]
  · rw [if_neg h1]
    by_cases g1 : K - l1 < l1
    · omega
    · rw [if_neg g1] at hu
      by_cases g2 : l1 < K - l1 ∨ l1 = 0
      · rw [if_pos g2] at hu; cases hu
      · rw [if_neg g2] at hu
        rw [if_neg (by omega)]
        exact hu
theorem rq_mono {A B K : Nat} (hK : 0 < K) (h : A ≤ B) : rq 3 A K ≤ rq 3 B K := by
  unfold rq
  have hq : A / K ≤ B / K := Nat.div_le_div_right h
  by_cases e : A / K = B / K
  · have hA := Nat.div_add_mod A K
    have hB := Nat.div_add_mod B K
    have hl : A % K ≤ B % K := by rw [e] at hA; omega
    rw [e]
    by_cases hu : upS 3 (B / K) (A % K) K = true
    · rw [if_pos hu, if_pos (up_mono hl (Nat.mod_lt _ hK) hu)]; exact Nat.le_refl _
    · rw [if_neg hu]; omega
  · split <;> split <;> omega
theorem rateOf_val {a b m : Int} (ha0 : -9223372036854775807 ≤ a) (ha1 : a < 9223372036854775808) (hb0 : 0 ≤ b) (hb1 : b ≤ 10000) (hm0 : 0 ≤ m) (hm1 : m ≤ 3) :
    rateOfS a b m = (if a < 0 then -(rq m (a.natAbs * b.toNat) 10000 : Int) else rq m (a.natAbs * b.toNat) 10000, 0) := by
  have hr : rateR b = true := rateR_iff.2 ⟨hb0, hb1⟩
  have h1 : amt a = true := decide_eq_true (by omega)
  have h2 : amt b = true := decide_eq_true (by omega)
  have h3 : amt 10000 = true := by decide
  rw [rateOfS, if_pos hr, mulDivS, if_neg (by omega), if_neg (by rw [h1, h2, h3]; simp), if_neg (by decide), mulDivN]
  have hb : b.natAbs = b.toNat := by omega
  have hk : (10000 : Int).natAbs = 10000 := rfl
  rw [hb, hk]
  have hle := rq_le (mode := m) (n := a.natAbs) (b := b.toNat) (K := 10000) (by decide) (by omega)
  have hq : a.natAbs * b.toNat / 10000 ≤ rq m (a.natAbs * b.toNat) 10000 := by unfold rq; omega
  rw [if_pos ⟨by omega, by omega⟩]
  have hs : minusS a b 10000 = decide (a < 0) := by
    unfold minusS
    rw [show decide (b < 0) = false from decide_eq_false (by omega)]
    cases decide (a < 0) <;> rfl
  rw [hs]
  by_cases h : a < 0
  · rw [if_pos (decide_eq_true h), if_pos h]
  · rw [if_neg (by simpa using h), if_neg h]
theorem prorate_val {a : Nat} {p w : Nat} {m : Int} (ha : a < 9223372036854775808) (hp : p ≤ w) (hw0 : 0 < w) (hw1 : w < 9223372036854775808) (hm0 : 0 ≤ m) (hm1 : m ≤ 3) :
    prorateS a p w m = ((rq m (a * p) w : Int), 0) := by
  have h1 : amt (a : Int) = true := decide_eq_true (by omega)
  have h2 : amt (p : Int) = true := decide_eq_true (by omega)
  have h3 : amt (w : Int) = true := decide_eq_true (by omega)
  rw [prorateS, if_neg (by omega), mulDivS, if_neg (by omega), if_neg (by rw [h1, h2, h3]; simp), if_neg (by omega), mulDivN]
  simp only [Int.natAbs_natCast]
  have hle := rq_le (mode := m) (n := a) (b := p) (K := w) hw0 hp
  have hq : a * p / w ≤ rq m (a * p) w := by unfold rq; omega
  rw [if_pos ⟨by omega, by omega⟩]
  have hs : minusS a p w = false := by
    unfold minusS
    rw [show decide ((a : Int) < 0) = false from decide_eq_false (by omega), show decide ((p : Int) < 0) = false from decide_eq_false (by omega), show decide ((w : Int) < 0) = false from decide_eq_false (by omega)]
    rfl
  rw [hs]; rfl
structure RateK (C : Ctx) : Prop where
  awake : SoundAt C 81 ⟨[], looko []⟩ ⟨vB true, looko []⟩
  of : ∀ a bps mode : Int, i64 a → SoundAt C 82 ⟨[vI a, vI bps, vI mode], looko []⟩ ⟨vIE (rateOfS a bps mode), looko []⟩
  prorate : ∀ a part whole mode : Int, i64 a → i64 part → i64 whole → SoundAt C 86 ⟨[vI a, vI part, vI whole, vI mode], looko []⟩ ⟨vIE (prorateS a part whole mode), looko []⟩
  right : ∀ n, SoundAt C 88 ⟨[vI n], looko []⟩ ⟨vB (rateR n), looko []⟩
  text : ∀ n, SoundAt C 91 ⟨[vI n], looko []⟩ ⟨vSE (rateTextS n), looko []⟩
  parse : ∀ s : List UInt8, s.length < 100000 → SoundAt C 92 ⟨[vS s], looko []⟩ ⟨vIB (rateP s), looko []⟩
  rParse : ∀ s : List UInt8, SoundAt C 93 ⟨[vS s], looko []⟩ ⟨vIB (refRateP s), looko []⟩
  rText : ∀ n : Int, 0 ≤ n → n ≤ 10000 → SoundAt C 94 ⟨[vI n], looko []⟩ ⟨vS (refRateT n), looko []⟩
theorem refT_1250 : refRateT 1250 = [49, 50, 46, 53, 48, 37] := by
  rw [refRateT, textR, if_neg (by decide), show ((1250 : Int)).toNat = 1250 from rfl, textN_eq, show 1250 / 100 = 12 from rfl, dec_step (by decide), dec_one (by decide)]
  rfl
theorem rateAwake {C : Ctx} (h : okFn C.P C.φ 81 g_law03_awake = true) (hOf : ∀ a bps mode : Int, i64 a → SoundAt C 82 ⟨[vI a, vI bps, vI mode], looko []⟩ ⟨vIE (rateOfS a bps mode), looko []⟩)
    (hP : ∀ s : List UInt8, s.length < 100000 → SoundAt C 92 ⟨[vS s], looko []⟩ ⟨vIB (rateP s), looko []⟩) (hRt : ∀ n, SoundAt C 88 ⟨[vI n], looko []⟩ ⟨vB (rateR n), looko []⟩) : SoundAt C 81 ⟨[], looko []⟩ ⟨vB true, looko []⟩ := by
  have t1 := hOf 1005 1250 3 (by unfold i64; omega)
  rw [show rateOfS 1005 1250 3 = (126, 0) from by decide] at t1
  have t2 := hP [49, 50, 46, 53, 48, 37] (by decide)
  rw [← refT_1250, rateP_text (by decide) (by decide), refT_1250] at t2
  have t3 := hRt 10000
  have t4 := hRt 10001
  rw [show rateR 10000 = true from rfl] at t3
  rw [show rateR 10001 = false from rfl] at t4
  refine SoundAt.of_run h rfl (fun Q hR hN => ?_)
  rw [entry0]
  repeat' (first | simp only [go_sem, ↓reduceIte, Nat.reduceEqDiff, Nat.reduceAdd, Nat.reduceSub, Nat.reduceMul, Nat.reduceLeDiff, Nat.reduceBEq, reduceCtorEq, Nat.reduceEqDiff, Int.reduceEq, Int.reduceLT, Int.reduceLE, Int.reduceNeg, Int.reduceBEq, Int.reduceBNe, Int.reduceToNat, Int.reducePow] | refine g_law03_awake_o9_sh.mpr ?_ | refine g_law03_awake_o8_sh.mpr ?_ | refine g_law03_awake_o7_sh.mpr ?_ | refine g_law03_awake_o6_sh.mpr ?_ | refine g_law03_awake_o5_sh.mpr ?_ | refine g_law03_awake_o4_sh.mpr ?_ | refine g_law03_awake_o3_sh.mpr ?_ | refine g_law03_awake_o2_sh.mpr ?_ | refine g_law03_awake_o1_sh.mpr ?_ | refine g_law03_awake_o0_sh.mpr ?_ | refine g_law03_awake_c0_sh.mpr ?_ | refine g_law03_awake_c1_sh.mpr ?_ | refine g_law03_awake_c2_sh.mpr ?_ | refine g_law03_awake_code_sh.mpr ?_ | refine callK_plain (t1) (fun _ => rfl) ?_ | refine callK_plain (t2) (fun _ => rfl) ?_ | refine callK_plain (t3) (fun _ => rfl) ?_ | refine callK_plain (t4) (fun _ => rfl) ?_ | refine hR _ ?_ | split)
theorem lawRateParts {C : Ctx} (h : okFn C.P C.φ 80 g_law03_RateParts = true) (K : RateK C) (a b : Int) (m : Nat) (ha : i64 a) (hb : i64 b) (hm : m < 256) : SoundAt C 80 ⟨[vI a, vI b, .d (.int .u8 (m : Int))], looko []⟩ ⟨vB true, looko []⟩ := by
  unfold i64 at ha hb
  refine SoundAt.of_run h rfl (fun Q hR hN => ?_)
  rw [entry3]
  by_cases h1 : a = -9223372036854775808
  · have h1' : (a == -9223372036854775808) = true := by rw [beq_iff_eq]; exact h1
    repeat' (first | simp only [go_sem, ↓reduceIte, Nat.reduceEqDiff, Nat.reduceAdd, Nat.reduceSub, Nat.reduceMul, Nat.reduceLeDiff, Nat.reduceBEq, reduceCtorEq, Nat.reduceEqDiff, Int.reduceEq, Int.reduceLT, Int.reduceLE, Int.reduceNeg, Int.reduceBEq, Int.reduceBNe, Int.reduceToNat, Int.reducePow, h1'] | refine g_law03_RateParts_o3_sh.mpr ?_ | refine g_law03_RateParts_o2_sh.mpr ?_ | refine g_law03_RateParts_o1_sh.mpr ?_ | refine g_law03_RateParts_o0_sh.mpr ?_ | refine g_law03_RateParts_c0_sh.mpr ?_ | refine g_law03_RateParts_o25_sh.mpr ?_ | refine g_law03_RateParts_o24_sh.mpr ?_ | refine g_law03_RateParts_o23_sh.mpr ?_ | refine g_law03_RateParts_o22_sh.mpr ?_ | refine g_law03_RateParts_o21_sh.mpr ?_ | refine g_law03_RateParts_o20_sh.mpr ?_ | refine g_law03_RateParts_o19_sh.mpr ?_ | refine g_law03_RateParts_o18_sh.mpr ?_ | refine g_law03_RateParts_o17_sh.mpr ?_ | refine g_law03_RateParts_o16_sh.mpr ?_ | refine g_law03_RateParts_o15_sh.mpr ?_ | refine g_law03_RateParts_o14_sh.mpr ?_ | refine g_law03_RateParts_o13_sh.mpr ?_ | refine g_law03_RateParts_o12_sh.mpr ?_ | refine g_law03_RateParts_o11_sh.mpr ?_ | refine g_law03_RateParts_o10_sh.mpr ?_ | refine g_law03_RateParts_o9_sh.mpr ?_ | refine g_law03_RateParts_o8_sh.mpr ?_ | refine g_law03_RateParts_o7_sh.mpr ?_ | refine g_law03_RateParts_o6_sh.mpr ?_ | refine g_law03_RateParts_o5_sh.mpr ?_ | refine g_law03_RateParts_o4_sh.mpr ?_ | refine g_law03_RateParts_c1_sh.mpr ?_ | refine g_law03_RateParts_c2_sh.mpr ?_ | refine g_law03_RateParts_c3_sh.mpr ?_ | refine g_law03_RateParts_c4_sh.mpr ?_ | refine g_law03_RateParts_c5_sh.mpr ?_ | refine g_law03_RateParts_c6_sh.mpr ?_ | refine g_law03_RateParts_code_sh.mpr ?_ | refine callK_plain (K.awake) (fun _ => rfl) ?_ | refine hR _ ?_ | split)
  have h1' : (a == -9223372036854775808) = false := by rw [beq_eq_false_iff_ne]; exact h1
  by_cases h2 : b < 0
  · repeat' (first | simp only [go_sem, ↓reduceIte, Nat.reduceEqDiff, Nat.reduceAdd, Nat.reduceSub, Nat.reduceMul, Nat.reduceLeDiff, Nat.reduceBEq, reduceCtorEq, Nat.reduceEqDiff, Int.reduceEq, Int.reduceLT, Int.reduceLE, Int.reduceNeg, Int.reduceBEq, Int.reduceBNe, Int.reduceToNat, Int.reducePow, h1', h2, decide_true] | refine g_law03_RateParts_o3_sh.mpr ?_ | refine g_law03_RateParts_o2_sh.mpr ?_ | refine g_law03_RateParts_o1_sh.mpr ?_ | refine g_law03_RateParts_o0_sh.mpr ?_ | refine g_law03_RateParts_c0_sh.mpr ?_ | refine g_law03_RateParts_o25_sh.mpr ?_ | refine g_law03_RateParts_o24_sh.mpr ?_ | refine g_law03_RateParts_o23_sh.mpr ?_ | refine g_law03_RateParts_o22_sh.mpr ?_ | refine g_law03_RateParts_o21_sh.mpr ?_ | refine g_law03_RateParts_o20_sh.mpr ?_ | refine g_law03_RateParts_o19_sh.mpr ?_ | refine g_law03_RateParts_o18_sh.mpr ?_ | refine g_law03_RateParts_o17_sh.mpr ?_ | refine g_law03_RateParts_o16_sh.mpr ?_ | refine g_law03_RateParts_o15_sh.mpr ?_ | refine g_law03_RateParts_o14_sh.mpr ?_ | refine g_law03_RateParts_o13_sh.mpr ?_ | refine g_law03_RateParts_o12_sh.mpr ?_ | refine g_law03_RateParts_o11_sh.mpr ?_ | refine g_law03_RateParts_o10_sh.mpr ?_ | refine g_law03_RateParts_o9_sh.mpr ?_ | refine g_law03_RateParts_o8_sh.mpr ?_ | refine g_law03_RateParts_o7_sh.mpr ?_ | refine g_law03_RateParts_o6_sh.mpr ?_ | refine g_law03_RateParts_o5_sh.mpr ?_ | refine g_law03_RateParts_o4_sh.mpr ?_ | refine g_law03_RateParts_c1_sh.mpr ?_ | refine g_law03_RateParts_c2_sh.mpr ?_ | refine g_law03_RateParts_c3_sh.mpr ?_ | refine g_law03_RateParts_c4_sh.mpr ?_ | refine g_law03_RateParts_c5_sh.mpr ?_ | refine g_law03_RateParts_c6_sh.mpr ?_ | refine g_law03_RateParts_code_sh.mpr ?_ | refine callK_plain (K.awake) (fun _ => rfl) ?_ | refine hR _ ?_ | split)
  by_cases h3 : b > 10000
  · repeat' (first | simp only [go_sem, ↓reduceIte, Nat.reduceEqDiff, Nat.reduceAdd, Nat.reduceSub, Nat.reduceMul, Nat.reduceLeDiff, Nat.reduceBEq, reduceCtorEq, Nat.reduceEqDiff, Int.reduceEq, Int.reduceLT, Int.reduceLE, Int.reduceNeg, Int.reduceBEq, Int.reduceBNe, Int.reduceToNat, Int.reducePow, h1', h2, h3, decide_true, decide_false] | refine g_law03_RateParts_o3_sh.mpr ?_ | refine g_law03_RateParts_o2_sh.mpr ?_ | refine g_law03_RateParts_o1_sh.mpr ?_ | refine g_law03_RateParts_o0_sh.mpr ?_ | refine g_law03_RateParts_c0_sh.mpr ?_ | refine g_law03_RateParts_o25_sh.mpr ?_ | refine g_law03_RateParts_o24_sh.mpr ?_ | refine g_law03_RateParts_o23_sh.mpr ?_ | refine g_law03_RateParts_o22_sh.mpr ?_ | refine g_law03_RateParts_o21_sh.mpr ?_ | refine g_law03_RateParts_o20_sh.mpr ?_ | refine g_law03_RateParts_o19_sh.mpr ?_ | refine g_law03_RateParts_o18_sh.mpr ?_ | refine g_law03_RateParts_o17_sh.mpr ?_ | refine g_law03_RateParts_o16_sh.mpr ?_ | refine g_law03_RateParts_o15_sh.mpr ?_ | refine g_law03_RateParts_o14_sh.mpr ?_ | refine g_law03_RateParts_o13_sh.mpr ?_ | refine g_law03_RateParts_o12_sh.mpr ?_ | refine g_law03_RateParts_o11_sh.mpr ?_ | refine g_law03_RateParts_o10_sh.mpr ?_ | refine g_law03_RateParts_o9_sh.mpr ?_ | refine g_law03_RateParts_o8_sh.mpr ?_ | refine g_law03_RateParts_o7_sh.mpr ?_ | refine g_law03_RateParts_o6_sh.mpr ?_ | refine g_law03_RateParts_o5_sh.mpr ?_ | refine g_law03_RateParts_o4_sh.mpr ?_ | refine g_law03_RateParts_c1_sh.mpr ?_ | refine g_law03_RateParts_c2_sh.mpr ?_ | refine g_law03_RateParts_c3_sh.mpr ?_ | refine g_law03_RateParts_c4_sh.mpr ?_ | refine g_law03_RateParts_c5_sh.mpr ?_ | refine g_law03_RateParts_c6_sh.mpr ?_ | refine g_law03_RateParts_code_sh.mpr ?_ | refine callK_plain (K.awake) (fun _ => rfl) ?_ | refine hR _ ?_ | split)
  have hmod : (m : Int).tmod 4 = ((m % 4 : Nat) : Int) := tmod_nat m 4
  have hconv : IntKind.i64.wrap ((m % 4 : Nat) : Int) = ((m % 4 : Nat) : Int) := wrapI (by omega) (by omega)
  obtain ⟨k, hk⟩ : ∃ k, m % 4 = k := ⟨_, rfl⟩
  rw [hk] at hmod hconv
  have t1 := K.of a b k (by unfold i64; omega)
  have t2 := K.of a 0 k (by unfold i64; omega)
  have t3 := K.of a 10000 k (by unfold i64; omega)
  rw [rateOf_val (by omega) ha.2 (by omega) (by omega) (by omega) (by omega)] at t1 t2 t3
  have hle := rq_le (mode := k) (n := a.natAbs) (b := b.toNat) (K := 10000) (by decide) (by omega)
  rw [show (0 : Int).toNat = 0 from rfl, rq_zero] at t2
  rw [show (10000 : Int).toNat = 10000 from rfl, rq_all _ _ _ (by decide)] at t3
  obtain ⟨n, hn⟩ : ∃ n, rq k (a.natAbs * b.toNat) 10000 = n := ⟨_, rfl⟩
  rw [hn] at t1 hle
  have z : ¬ ((4 : Int) = 0) := by decide
  by_cases ha0 : a < 0
  · rw [if_pos ha0] at t1 t2 t3
    rw [show -((a.natAbs : Nat) : Int) = a by omega] at t3
    have g1 : ¬ (a ≥ 0) := by omega
    have g2 : (-(n : Int) ≤ 0) := by omega
    have g3 : (-(n : Int) ≥ a) := by omega
    repeat' (first | simp only [go_sem, ↓reduceIte, Nat.reduceEqDiff, Nat.reduceAdd, Nat.reduceSub, Nat.reduceMul, Nat.reduceLeDiff, Nat.reduceBEq, reduceCtorEq, Nat.reduceEqDiff, Int.reduceEq, Int.reduceLT, Int.reduceLE, Int.reduceNeg, Int.reduceBEq, Int.reduceBNe, Int.reduceToNat, Int.reducePow, h1', h2, h3, z, hmod, hconv, ha0, g1, g2, g3, decide_true, decide_false, Int.neg_zero] | refine g_law03_RateParts_o3_sh.mpr ?_ | refine g_law03_RateParts_o2_sh.mpr ?_ | refine g_law03_RateParts_o1_sh.mpr ?_ | refine g_law03_RateParts_o0_sh.mpr ?_ | refine g_law03_RateParts_c0_sh.mpr ?_ | refine g_law03_RateParts_o25_sh.mpr ?_ | refine g_law03_RateParts_o24_sh.mpr ?_ | refine g_law03_RateParts_o23_sh.mpr ?_ | refine g_law03_RateParts_o22_sh.mpr ?_ | refine g_law03_RateParts_o21_sh.mpr ?_ | refine g_law03_RateParts_o20_sh.mpr ?_ | refine g_law03_RateParts_o19_sh.mpr ?_ | refine g_law03_RateParts_o18_sh.mpr ?_ | refine g_law03_RateParts_o17_sh.mpr ?_ | refine g_law03_RateParts_o16_sh.mpr ?_ | refine g_law03_RateParts_o15_sh.mpr ?_ | refine g_law03_RateParts_o14_sh.mpr ?_ | refine g_law03_RateParts_o13_sh.mpr ?_ | refine g_law03_RateParts_o12_sh.mpr ?_ | refine g_law03_RateParts_o11_sh.mpr ?_ | refine g_law03_RateParts_o10_sh.mpr ?_ | refine g_law03_RateParts_o9_sh.mpr ?_ | refine g_law03_RateParts_o8_sh.mpr ?_ | refine g_law03_RateParts_o7_sh.mpr ?_ | refine g_law03_RateParts_o6_sh.mpr ?_ | refine g_law03_RateParts_o5_sh.mpr ?_ | refine g_law03_RateParts_o4_sh.mpr ?_ | refine g_law03_RateParts_c1_sh.mpr ?_ | refine g_law03_RateParts_c2_sh.mpr ?_ | refine g_law03_RateParts_c3_sh.mpr ?_ | refine g_law03_RateParts_c4_sh.mpr ?_ | refine g_law03_RateParts_c5_sh.mpr ?_ | refine g_law03_RateParts_c6_sh.mpr ?_ | refine g_law03_RateParts_code_sh.mpr ?_ | refine callK_plain (t1) (fun _ => rfl) ?_ | refine callK_plain (t2) (fun _ => rfl) ?_ | refine callK_plain (t3) (fun _ => rfl) ?_ | refine callK_plain (K.awake) (fun _ => rfl) ?_ | refine hR _ ?_ | split)
  · rw [if_neg ha0] at t1 t2 t3
    rw [show ((a.natAbs : Nat) : Int) = a by omega] at t3
    have g1 : (a ≥ 0) := by omega
    have g2 : ((n : Int) ≥ 0) := by omega
    have g3 : ((n : Int) ≤ a) := by omega
    repeat' (first | simp only [go_sem, ↓reduceIte, Nat.reduceEqDiff, Nat.reduceAdd, Nat.reduceSub, Nat.reduceMul, Nat.reduceLeDiff, Nat.reduceBEq, reduceCtorEq, Nat.reduceEqDiff, Int.reduceEq, Int.reduceLT, Int.reduceLE, Int.reduceNeg, Int.reduceBEq, Int.reduceBNe, Int.reduceToNat, Int.reducePow, h1', h2, h3, z, hmod, hconv, ha0, g1, g2, g3, decide_true, decide_false] | refine g_law03_RateParts_o3_sh.mpr ?_ | refine g_law03_RateParts_o2_sh.mpr ?_ | refine g_law03_RateParts_o1_sh.mpr ?_ | refine g_law03_RateParts_o0_sh.mpr ?_ | refine g_law03_RateParts_c0_sh.mpr ?_ | refine g_law03_RateParts_o25_sh.mpr ?_ | refine g_law03_RateParts_o24_sh.mpr ?_ | refine g_law03_RateParts_o23_sh.mpr ?_ | refine g_law03_RateParts_o22_sh.mpr ?_ | refine g_law03_RateParts_o21_sh.mpr ?_ | refine g_law03_RateParts_o20_sh.mpr ?_ | refine g_law03_RateParts_o19_sh.mpr ?_ | refine g_law03_RateParts_o18_sh.mpr ?_ | refine g_law03_RateParts_o17_sh.mpr ?_ | refine g_law03_RateParts_o16_sh.mpr ?_ | refine g_law03_RateParts_o15_sh.mpr ?_ | refine g_law03_RateParts_o14_sh.mpr ?_ | refine g_law03_RateParts_o13_sh.mpr ?_ | refine g_law03_RateParts_o12_sh.mpr ?_ | refine g_law03_RateParts_o11_sh.mpr ?_ | refine g_law03_RateParts_o10_sh.mpr ?_ | refine g_law03_RateParts_o9_sh.mpr ?_ | refine g_law03_RateParts_o8_sh.mpr ?_ | refine g_law03_RateParts_o7_sh.mpr ?_ | refine g_law03_RateParts_o6_sh.mpr ?_ | refine g_law03_RateParts_o5_sh.mpr ?_ | refine g_law03_RateParts_o4_sh.mpr ?_ | refine g_law03_RateParts_c1_sh.mpr ?_ | refine g_law03_RateParts_c2_sh.mpr ?_ | refine g_law03_RateParts_c3_sh.mpr ?_ | refine g_law03_RateParts_c4_sh.mpr ?_ | refine g_law03_RateParts_c5_sh.mpr ?_ | refine g_law03_RateParts_c6_sh.mpr ?_ | refine g_law03_RateParts_code_sh.mpr ?_ | refine callK_plain (t1) (fun _ => rfl) ?_ | refine callK_plain (t2) (fun _ => rfl) ?_ | refine callK_plain (t3) (fun _ => rfl) ?_ | refine callK_plain (K.awake) (fun _ => rfl) ?_ | refine hR _ ?_ | split)
theorem min1 : min 1 64 = 1 := rfl
theorem half_u64 (n : Nat) : (n : Int).fdiv 2 = ((n / 2 : Nat) : Int) := fdiv_pow n 1
theorem lawRateHalves {C : Ctx} (h : okFn C.P C.φ 83 g_law03_RateHalves = true) (K : RateK C) (n b m : Nat) (hn : n < 18446744073709551616) (hb : b < 65536) (hm : m < 65536) :
    SoundAt C 83 ⟨[.d (.int .u64 (n : Int)), .d (.int .u16 (b : Int)), .d (.int .u16 (m : Int))], looko []⟩ ⟨vB true, looko []⟩ := by
  have e1 := half_u64 n
  have e2 : IntKind.i64.wrap ((n / 2 : Nat) : Int) = ((n / 2 : Nat) : Int) := wrapI (by omega) (by omega)
  obtain ⟨a, ha⟩ : ∃ a, n / 2 = a := ⟨_, rfl⟩
  have e3 : (b : Int).tmod 10001 = ((b % 10001 : Nat) : Int) := tmod_nat b 10001
  have e4 : IntKind.i64.wrap ((b % 10001 : Nat) : Int) = ((b % 10001 : Nat) : Int) := wrapI (by omega) (by omega)
  have hx : b % 10001 ≤ 10000 := by omega
  obtain ⟨x, hx'⟩ : ∃ x, b % 10001 = x := ⟨_, rfl⟩
  rw [ha] at e1 e2
  rw [hx'] at e3 e4 hx
  have e5 : IntKind.i64.wrap (m : Int) = (m : Int) := wrapI (by omega) (by omega)
  have e6 : IntKind.i64.wrap ((x : Int) + (m : Int)) = ((x + m : Nat) : Int) := by rw [wrapI (by omega) (by omega)]; omega
  have e7 : IntKind.i64.wrap (10000 - (x : Int)) = ((10000 - x : Nat) : Int) := by rw [wrapI (by omega) (by omega)]; omega
  obtain ⟨y, hy⟩ : ∃ y : Nat, min (x + m) 10000 = y := ⟨_, rfl⟩
  have hy1 : x ≤ y ∧ y ≤ 10000 := by omega
  have e8 : (if (10000 : Int) < ((x + m : Nat) : Int) then (10000 : Int) else ((x + m : Nat) : Int)) = (y : Int) := by split <;> omega
  have val : ∀ (c : Nat) (md : Int), c ≤ 10000 → 0 ≤ md → md ≤ 3 → SoundAt C 82 ⟨[vI a, vI c, vI md], looko []⟩ ⟨vIE ((rq md (a * c) 10000 : Int), 0), looko []⟩ := by
    intro c md h1 h2 h3
    have t := K.of a c md (by unfold i64; omega)
    rw [rateOf_val (by omega) (by omega) (by omega) (by omega) h2 h3, if_neg (by omega)] at t
    simpa using t
  have t1 := val x 0 hx (by decide) (by decide)
  have t2 := val (10000 - x) 1 (by omega) (by decide) (by decide)
  have t3 := val y 3 hy1.2 (by decide) (by decide)
  have t4 := val x 3 hx (by decide) (by decide)
  have hsum := rq_halves (n := a) (b := x) (K := 10000) (by decide) hx
  have hmono : rq 3 (a * x) 10000 ≤ rq 3 (a * y) 10000 := rq_mono (by decide) (Nat.mul_le_mul_left a hy1.1)
  obtain ⟨r1, hr1⟩ : ∃ r, rq 0 (a * x) 10000 = r := ⟨_, rfl⟩
  obtain ⟨r2, hr2⟩ : ∃ r, rq 1 (a * (10000 - x)) 10000 = r := ⟨_, rfl⟩
  obtain ⟨r3, hr3⟩ : ∃ r, rq 3 (a * y) 10000 = r := ⟨_, rfl⟩
  obtain ⟨r4, hr4⟩ : ∃ r, rq 3 (a * x) 10000 = r := ⟨_, rfl⟩
  rw [hr1] at t1 hsum
  rw [hr2] at t2 hsum
  rw [hr3] at t3 hmono
  rw [hr4] at t4 hmono
  have z : ¬ ((10001 : Int) = 0) := by decide
  have g1 : (IntKind.i64.wrap ((r1 : Int) + (r2 : Int)) == (a : Int)) = true := by rw [wrapI (by omega) (by omega), beq_iff_eq]; omega
  have g2 : ((r4 : Int) ≤ (r3 : Int)) := by omega
  refine SoundAt.of_run h rfl (fun Q hR hN => ?_)
  rw [entry3]
  repeat' (first | simp only [go_sem, ↓reduceIte, Nat.reduceEqDiff, Nat.reduceAdd, Nat.reduceSub, Nat.reduceMul, Nat.reduceLeDiff, Nat.reduceBEq, reduceCtorEq, Nat.reduceEqDiff, Int.reduceEq, Int.reduceLT, Int.reduceLE, Int.reduceNeg, Int.reduceBEq, Int.reduceBNe, Int.reduceToNat, Int.reducePow, min1, e1, e2, e3, e4, e5, e6, e7, e8, z, g1, g2, decide_true, Int.reduceToNat, Int.reduceLT] | refine g_law03_RateHalves_o11_sh.mpr ?_ | refine g_law03_RateHalves_o10_sh.mpr ?_ | refine g_law03_RateHalves_o9_sh.mpr ?_ | refine g_law03_RateHalves_o8_sh.mpr ?_ | refine g_law03_RateHalves_o7_sh.mpr ?_ | refine g_law03_RateHalves_o6_sh.mpr ?_ | refine g_law03_RateHalves_o5_sh.mpr ?_ | refine g_law03_RateHalves_o4_sh.mpr ?_ | refine g_law03_RateHalves_o3_sh.mpr ?_ | refine g_law03_RateHalves_o2_sh.mpr ?_ | refine g_law03_RateHalves_o1_sh.mpr ?_ | refine g_law03_RateHalves_o0_sh.mpr ?_ | refine g_law03_RateHalves_c0_sh.mpr ?_ | refine g_law03_RateHalves_c1_sh.mpr ?_ | refine g_law03_RateHalves_c2_sh.mpr ?_ | refine g_law03_RateHalves_c3_sh.mpr ?_ | refine g_law03_RateHalves_c4_sh.mpr ?_ | refine g_law03_RateHalves_c5_sh.mpr ?_ | refine g_law03_RateHalves_c6_sh.mpr ?_ | refine g_law03_RateHalves_c7_sh.mpr ?_ | refine g_law03_RateHalves_code_sh.mpr ?_ | refine callK_plain (t1) (fun _ => rfl) ?_ | refine callK_plain (t2) (fun _ => rfl) ?_ | refine callK_plain (t3) (fun _ => rfl) ?_ | refine callK_plain (t4) (fun _ => rfl) ?_ | refine callK_plain (K.awake) (fun _ => rfl) ?_ | refine hR _ ?_ | split)
theorem lawRateSums {C : Ctx} (h : okFn C.P C.φ 84 g_law03_RateSums = true) (K : RateK C) (n b m : Nat) (hn : n < 18446744073709551616) (hb : b < 65536) (hm : m < 65536) :
    SoundAt C 84 ⟨[.d (.int .u64 (n : Int)), .d (.int .u16 (b : Int)), .d (.int .u16 (m : Int))], looko []⟩ ⟨vB true, looko []⟩ := by
  have e1 := half_u64 n
  have e2 : IntKind.i64.wrap ((n / 2 : Nat) : Int) = ((n / 2 : Nat) : Int) := wrapI (by omega) (by omega)
  obtain ⟨a, ha⟩ : ∃ a, n / 2 = a := ⟨_, rfl⟩
  have e3 : (b : Int).tmod 5001 = ((b % 5001 : Nat) : Int) := tmod_nat b 5001
  have e4 : IntKind.i64.wrap ((b % 5001 : Nat) : Int) = ((b % 5001 : Nat) : Int) := wrapI (by omega) (by omega)
  have e5 : (m : Int).tmod 5001 = ((m % 5001 : Nat) : Int) := tmod_nat m 5001
  have e6 : IntKind.i64.wrap ((m % 5001 : Nat) : Int) = ((m % 5001 : Nat) : Int) := wrapI (by omega) (by omega)
  have hx : b % 5001 ≤ 5000 := by omega
  have hy : m % 5001 ≤ 5000 := by omega
  obtain ⟨x, hx'⟩ : ∃ x, b % 5001 = x := ⟨_, rfl⟩
  obtain ⟨y, hy'⟩ : ∃ x, m % 5001 = x := ⟨_, rfl⟩
  rw [ha] at e1 e2
  rw [hx'] at e3 e4 hx
  rw [hy'] at e5 e6 hy
  have e7 : IntKind.i64.wrap ((x : Int) + (y : Int)) = ((x + y : Nat) : Int) := by rw [wrapI (by omega) (by omega)]; omega
  have val : ∀ (c : Nat), c ≤ 10000 → SoundAt C 82 ⟨[vI a, vI c, vI 0], looko []⟩ ⟨vIE ((a * c / 10000 : Nat), 0), looko []⟩ := by
    intro c h1
    have t := K.of a c 0 (by unfold i64; omega)
    rw [rateOf_val (by omega) (by omega) (by omega) (by omega) (by decide) (by decide), if_neg (by omega), rq_down] at t
    simpa using t
  have t1 := val x (by omega)
  have t2 := val y (by omega)
  have t3 := val (x + y) (by omega)
  have hs : a * (x + y) = a * x + a * y := Nat.mul_add a x y
  have hl : a * (x + y) ≤ a * 10000 := Nat.mul_le_mul_left a (by omega)
  rw [hs] at t3 hl
  obtain ⟨A, hA⟩ : ∃ A, a * x = A := ⟨_, rfl⟩
  obtain ⟨B, hB⟩ : ∃ A, a * y = A := ⟨_, rfl⟩
  rw [hA] at t1 t3 hl
  rw [hB] at t2 t3 hl
  obtain ⟨r1, hr1⟩ : ∃ r, A / 10000 = r := ⟨_, rfl⟩
  obtain ⟨r2, hr2⟩ : ∃ r, B / 10000 = r := ⟨_, rfl⟩
  obtain ⟨r3, hr3⟩ : ∃ r, (A + B) / 10000 = r := ⟨_, rfl⟩
  have q1 : r1 + r2 ≤ r3 ∧ r3 ≤ r1 + r2 + 1 ∧ r3 ≤ a := by omega
  rw [hr1] at t1
  rw [hr2] at t2
  rw [hr3] at t3
  have z : ¬ ((5001 : Int) = 0) := by decide
  have g1 : (IntKind.i64.wrap ((r1 : Int) + (r2 : Int)) ≤ (r3 : Int)) := by rw [wrapI (by omega) (by omega)]; omega
  have g2 : (IntKind.i64.wrap (IntKind.i64.wrap ((r3 : Int) - (r1 : Int)) - (r2 : Int)) ≤ 1) := by rw [wrapI (x := (r3 : Int) - (r1 : Int)) (by omega) (by omega), wrapI (by omega) (by omega)]; omega
  refine SoundAt.of_run h rfl (fun Q hR hN => ?_)
  rw [entry3]
  repeat' (first | simp only [go_sem, ↓reduceIte, Nat.reduceEqDiff, Nat.reduceAdd, Nat.reduceSub, Nat.reduceMul, Nat.reduceLeDiff, Nat.reduceBEq, reduceCtorEq, Nat.reduceEqDiff, Int.reduceEq, Int.reduceLT, Int.reduceLE, Int.reduceNeg, Int.reduceBEq, Int.reduceBNe, Int.reduceToNat, Int.reducePow, min1, e1, e2, e3, e4, e5, e6, e7, z, g1, g2, decide_true, Int.reduceToNat, Int.reduceLT] | refine g_law03_RateSums_o9_sh.mpr ?_ | refine g_law03_RateSums_o8_sh.mpr ?_ | refine g_law03_RateSums_o7_sh.mpr ?_ | refine g_law03_RateSums_o6_sh.mpr ?_ | refine g_law03_RateSums_o5_sh.mpr ?_ | refine g_law03_RateSums_o4_sh.mpr ?_ | refine g_law03_RateSums_o3_sh.mpr ?_ | refine g_law03_RateSums_o2_sh.mpr ?_ | refine g_law03_RateSums_o1_sh.mpr ?_ | refine g_law03_RateSums_o0_sh.mpr ?_ | refine g_law03_RateSums_c0_sh.mpr ?_ | refine g_law03_RateSums_c1_sh.mpr ?_ | refine g_law03_RateSums_c2_sh.mpr ?_ | refine g_law03_RateSums_c3_sh.mpr ?_ | refine g_law03_RateSums_c4_sh.mpr ?_ | refine g_law03_RateSums_c5_sh.mpr ?_ | refine g_law03_RateSums_c6_sh.mpr ?_ | refine g_law03_RateSums_code_sh.mpr ?_ | refine callK_plain (t1) (fun _ => rfl) ?_ | refine callK_plain (t2) (fun _ => rfl) ?_ | refine callK_plain (t3) (fun _ => rfl) ?_ | refine callK_plain (K.awake) (fun _ => rfl) ?_ | refine hR _ ?_ | split)
theorem lawRateAll {C : Ctx} (h : okFn C.P C.φ 89 g_law03_RateAll = true) (K : RateK C) (n p0 w0 : Nat) (hn : n < 18446744073709551616) (hp0 : p0 < 4294967296) (hw0 : w0 < 4294967296) :
    SoundAt C 89 ⟨[.d (.int .u64 (n : Int)), .d (.int .u32 (p0 : Int)), .d (.int .u32 (w0 : Int))], looko []⟩ ⟨vB true, looko []⟩ := by
  have e1 := half_u64 n
  have e2 : IntKind.i64.wrap ((n / 2 : Nat) : Int) = ((n / 2 : Nat) : Int) := wrapI (by omega) (by omega)
  have ha2 : n / 2 < 9223372036854775808 := by omega
  obtain ⟨a, ha⟩ : ∃ a, n / 2 = a := ⟨_, rfl⟩
  rw [ha] at e1 e2 ha2
  have e3 : IntKind.i64.wrap (w0 : Int) = (w0 : Int) := wrapI (by omega) (by omega)
  have e4 : IntKind.i64.wrap (1 + (w0 : Int)) = ((1 + w0 : Nat) : Int) := by rw [wrapI (by omega) (by omega)]; omega
  obtain ⟨w, hw⟩ : ∃ w, 1 + w0 = w := ⟨_, rfl⟩
  rw [hw] at e4
  have e5 : IntKind.i64.wrap (p0 : Int) = (p0 : Int) := wrapI (by omega) (by omega)
  have e6 : IntKind.i64.wrap ((w : Int) + 1) = ((w + 1 : Nat) : Int) := by rw [wrapI (by omega) (by omega)]; omega
  have e7 : (p0 : Int).tmod ((w + 1 : Nat) : Int) = ((p0 % (w + 1) : Nat) : Int) := tmod_nat p0 (w + 1)
  have hp : p0 % (w + 1) ≤ w := by have := Nat.mod_lt p0 (show 0 < w + 1 by omega); omega
  have z : ¬ (((w + 1 : Nat) : Int) = 0) := by omega
  obtain ⟨p, hp'⟩ : ∃ p, p0 % (w + 1) = p := ⟨_, rfl⟩
  rw [hp'] at e7 hp
  have e8 : IntKind.i64.wrap ((w : Int) - (p : Int)) = ((w - p : Nat) : Int) := by rw [wrapI (by omega) (by omega)]; omega
  have val : ∀ (c : Nat) (md : Int), c ≤ w → 0 ≤ md → md ≤ 3 → SoundAt C 86 ⟨[vI a, vI c, vI w, vI md], looko []⟩ ⟨vIE ((rq md (a * c) w : Int), 0), looko []⟩ := by
    intro c md h1 h2 h3
    have t := K.prorate a c w md (by unfold i64; omega) (by unfold i64; omega) (by unfold i64; omega)
    rwa [prorate_val ha2 h1 (by omega) (by omega) h2 h3] at t
  have t1 := val w 2 (Nat.le_refl _) (by decide) (by decide)
  have t2 := val 0 1 (Nat.zero_le _) (by decide) (by decide)
  have t3 := val p 0 hp (by decide) (by decide)
  have t4 := val (w - p) 1 (by omega) (by decide) (by decide)
  rw [rq_all _ _ _ (by omega)] at t1
  rw [rq_zero] at t2
  have hsum := rq_halves (n := a) (b := p) (K := w) (by omega) hp
  obtain ⟨r1, hr1⟩ : ∃ r, rq 0 (a * p) w = r := ⟨_, rfl⟩
  obtain ⟨r2, hr2⟩ : ∃ r, rq 1 (a * (w - p)) w = r := ⟨_, rfl⟩
  rw [hr1] at t3 hsum
  rw [hr2] at t4 hsum
  have g1 : (IntKind.i64.wrap ((r1 : Int) + (r2 : Int)) == (a : Int)) = true := by rw [wrapI (by omega) (by omega), beq_iff_eq]; omega
  refine SoundAt.of_run h rfl (fun Q hR hN => ?_)
  rw [entry3]
  repeat' (first | simp only [go_sem, ↓reduceIte, Nat.reduceEqDiff, Nat.reduceAdd, Nat.reduceSub, Nat.reduceMul, Nat.reduceLeDiff, Nat.reduceBEq, reduceCtorEq, Nat.reduceEqDiff, Int.reduceEq, Int.reduceLT, Int.reduceLE, Int.reduceNeg, Int.reduceBEq, Int.reduceBNe, Int.reduceToNat, Int.reducePow, min1, e1, e2, e3, e4, e5, e6, e7, e8, z, g1, decide_true, Int.reduceToNat, Int.reduceLT] | refine g_law03_RateAll_o13_sh.mpr ?_ | refine g_law03_RateAll_o12_sh.mpr ?_ | refine g_law03_RateAll_o11_sh.mpr ?_ | refine g_law03_RateAll_o10_sh.mpr ?_ | refine g_law03_RateAll_o9_sh.mpr ?_ | refine g_law03_RateAll_o8_sh.mpr ?_ | refine g_law03_RateAll_o7_sh.mpr ?_ | refine g_law03_RateAll_o6_sh.mpr ?_ | refine g_law03_RateAll_o5_sh.mpr ?_ | refine g_law03_RateAll_o4_sh.mpr ?_ | refine g_law03_RateAll_o3_sh.mpr ?_ | refine g_law03_RateAll_o2_sh.mpr ?_ | refine g_law03_RateAll_o1_sh.mpr ?_ | refine g_law03_RateAll_o0_sh.mpr ?_ | refine g_law03_RateAll_c0_sh.mpr ?_ | refine g_law03_RateAll_c1_sh.mpr ?_ | refine g_law03_RateAll_c2_sh.mpr ?_ | refine g_law03_RateAll_c3_sh.mpr ?_ | refine g_law03_RateAll_c4_sh.mpr ?_ | refine g_law03_RateAll_c5_sh.mpr ?_ | refine g_law03_RateAll_c6_sh.mpr ?_ | refine g_law03_RateAll_code_sh.mpr ?_ | refine callK_plain (t1) (fun _ => rfl) ?_ | refine callK_plain (t2) (fun _ => rfl) ?_ | refine callK_plain (t3) (fun _ => rfl) ?_ | refine callK_plain (t4) (fun _ => rfl) ?_ | refine callK_plain (K.awake) (fun _ => rfl) ?_ | refine hR _ ?_ | split)
theorem lawRateTexts {C : Ctx} (h : okFn C.P C.φ 90 g_law03_RateTexts = true) (K : RateK C) (n : Int) (s : List UInt8) : SoundAt C 90 ⟨[vI n, vS s], looko []⟩ ⟨vB true, looko []⟩ := by
  refine SoundAt.of_run h rfl (fun Q hR hN => ?_)
  rw [entry2]
  by_cases hl : s.length > 60
  · have hl' : ((s.length : Int) > 60) := by omega
    repeat' (first | simp only [go_sem, ↓reduceIte, Nat.reduceEqDiff, Nat.reduceAdd, Nat.reduceSub, Nat.reduceMul, Nat.reduceLeDiff, Nat.reduceBEq, reduceCtorEq, Nat.reduceEqDiff, Int.reduceEq, Int.reduceLT, Int.reduceLE, Int.reduceNeg, Int.reduceBEq, Int.reduceBNe, Int.reduceToNat, Int.reducePow, hl', decide_true] | refine g_law03_RateTexts_o1_sh.mpr ?_ | refine g_law03_RateTexts_o0_sh.mpr ?_ | refine g_law03_RateTexts_c0_sh.mpr ?_ | refine g_law03_RateTexts_o3_sh.mpr ?_ | refine g_law03_RateTexts_o2_sh.mpr ?_ | refine g_law03_RateTexts_o7_sh.mpr ?_ | refine g_law03_RateTexts_o6_sh.mpr ?_ | refine g_law03_RateTexts_o5_sh.mpr ?_ | refine g_law03_RateTexts_o4_sh.mpr ?_ | refine g_law03_RateTexts_c1_sh.mpr ?_ | refine g_law03_RateTexts_c2_sh.mpr ?_ | refine g_law03_RateTexts_o15_sh.mpr ?_ | refine g_law03_RateTexts_o14_sh.mpr ?_ | refine g_law03_RateTexts_o13_sh.mpr ?_ | refine g_law03_RateTexts_o12_sh.mpr ?_ | refine g_law03_RateTexts_o11_sh.mpr ?_ | refine g_law03_RateTexts_o10_sh.mpr ?_ | refine g_law03_RateTexts_o9_sh.mpr ?_ | refine g_law03_RateTexts_o8_sh.mpr ?_ | refine g_law03_RateTexts_c3_sh.mpr ?_ | refine g_law03_RateTexts_c4_sh.mpr ?_ | refine g_law03_RateTexts_c5_sh.mpr ?_ | refine g_law03_RateTexts_c6_sh.mpr ?_ | refine g_law03_RateTexts_c7_sh.mpr ?_ | refine g_law03_RateTexts_c8_sh.mpr ?_ | refine g_law03_RateTexts_c9_sh.mpr ?_ | refine g_law03_RateTexts_c10_sh.mpr ?_ | refine g_law03_RateTexts_code_sh.mpr ?_ | refine callK_plain (K.awake) (fun _ => rfl) ?_ | refine hR _ ?_ | split)
  have hl' : ¬ ((s.length : Int) > 60) := by omega
  have t1 := K.text n
  have t2 := K.parse s (by omega)
  have t3 := K.rParse s
  rw [rate_same] at t3
  by_cases h0 : n < 0
  · have hr : rateR n = false := by rw [rateR, decide_eq_false (by omega)]; rfl
    rw [rateTextS, hr, if_neg (by simp)] at t1
    repeat' (first | simp only [go_sem, ↓reduceIte, Nat.reduceEqDiff, Nat.reduceAdd, Nat.reduceSub, Nat.reduceMul, Nat.reduceLeDiff, Nat.reduceBEq, reduceCtorEq, Nat.reduceEqDiff, Int.reduceEq, Int.reduceLT, Int.reduceLE, Int.reduceNeg, Int.reduceBEq, Int.reduceBNe, Int.reduceToNat, Int.reducePow, hl', h0, decide_true, decide_false, bne_self_eq_false] | refine g_law03_RateTexts_o1_sh.mpr ?_ | refine g_law03_RateTexts_o0_sh.mpr ?_ | refine g_law03_RateTexts_c0_sh.mpr ?_ | refine g_law03_RateTexts_o3_sh.mpr ?_ | refine g_law03_RateTexts_o2_sh.mpr ?_ | refine g_law03_RateTexts_o7_sh.mpr ?_ | refine g_law03_RateTexts_o6_sh.mpr ?_ | refine g_law03_RateTexts_o5_sh.mpr ?_ | refine g_law03_RateTexts_o4_sh.mpr ?_ | refine g_law03_RateTexts_c1_sh.mpr ?_ | refine g_law03_RateTexts_c2_sh.mpr ?_ | refine g_law03_RateTexts_o15_sh.mpr ?_ | refine g_law03_RateTexts_o14_sh.mpr ?_ | refine g_law03_RateTexts_o13_sh.mpr ?_ | refine g_law03_RateTexts_o12_sh.mpr ?_ | refine g_law03_RateTexts_o11_sh.mpr ?_ | refine g_law03_RateTexts_o10_sh.mpr ?_ | refine g_law03_RateTexts_o9_sh.mpr ?_ | refine g_law03_RateTexts_o8_sh.mpr ?_ | refine g_law03_RateTexts_c3_sh.mpr ?_ | refine g_law03_RateTexts_c4_sh.mpr ?_ | refine g_law03_RateTexts_c5_sh.mpr ?_ | refine g_law03_RateTexts_c6_sh.mpr ?_ | refine g_law03_RateTexts_c7_sh.mpr ?_ | refine g_law03_RateTexts_c8_sh.mpr ?_ | refine g_law03_RateTexts_c9_sh.mpr ?_ | refine g_law03_RateTexts_c10_sh.mpr ?_ | refine g_law03_RateTexts_code_sh.mpr ?_ | refine callK_plain (t1) (fun _ => rfl) ?_ | refine callK_plain (t2) (fun _ => rfl) ?_ | refine callK_plain (t3) (fun _ => rfl) ?_ | refine callK_plain (K.awake) (fun _ => rfl) ?_ | refine hR _ ?_ | split)
  by_cases h1 : n > 10000
  · have hr : rateR n = false := by rw [rateR, decide_eq_false (show ¬ n ≤ 10000 by omega), Bool.and_false]
    rw [rateTextS, hr, if_neg (by simp)] at t1
    repeat' (first | simp only [go_sem, ↓reduceIte, Nat.reduceEqDiff, Nat.reduceAdd, Nat.reduceSub, Nat.reduceMul, Nat.reduceLeDiff, Nat.reduceBEq, reduceCtorEq, Nat.reduceEqDiff, Int.reduceEq, Int.reduceLT, Int.reduceLE, Int.reduceNeg, Int.reduceBEq, Int.reduceBNe, Int.reduceToNat, Int.reducePow, hl', h0, h1, decide_true, decide_false, bne_self_eq_false] | refine g_law03_RateTexts_o1_sh.mpr ?_ | refine g_law03_RateTexts_o0_sh.mpr ?_ | refine g_law03_RateTexts_c0_sh.mpr ?_ | refine g_law03_RateTexts_o3_sh.mpr ?_ | refine g_law03_RateTexts_o2_sh.mpr ?_ | refine g_law03_RateTexts_o7_sh.mpr ?_ | refine g_law03_RateTexts_o6_sh.mpr ?_ | refine g_law03_RateTexts_o5_sh.mpr ?_ | refine g_law03_RateTexts_o4_sh.mpr ?_ | refine g_law03_RateTexts_c1_sh.mpr ?_ | refine g_law03_RateTexts_c2_sh.mpr ?_ | refine g_law03_RateTexts_o15_sh.mpr ?_ | refine g_law03_RateTexts_o14_sh.mpr ?_ | refine g_law03_RateTexts_o13_sh.mpr ?_ | refine g_law03_RateTexts_o12_sh.mpr ?_ | refine g_law03_RateTexts_o11_sh.mpr ?_ | refine g_law03_RateTexts_o10_sh.mpr ?_ | refine g_law03_RateTexts_o9_sh.mpr ?_ | refine g_law03_RateTexts_o8_sh.mpr ?_ | refine g_law03_RateTexts_c3_sh.mpr ?_ | refine g_law03_RateTexts_c4_sh.mpr ?_ | refine g_law03_RateTexts_c5_sh.mpr ?_ | refine g_law03_RateTexts_c6_sh.mpr ?_ | refine g_law03_RateTexts_c7_sh.mpr ?_ | refine g_law03_RateTexts_c8_sh.mpr ?_ | refine g_law03_RateTexts_c9_sh.mpr ?_ | refine g_law03_RateTexts_c10_sh.mpr ?_ | refine g_law03_RateTexts_code_sh.mpr ?_ | refine callK_plain (t1) (fun _ => rfl) ?_ | refine callK_plain (t2) (fun _ => rfl) ?_ | refine callK_plain (t3) (fun _ => rfl) ?_ | refine callK_plain (K.awake) (fun _ => rfl) ?_ | refine hR _ ?_ | split)
  have hr : rateR n = true := rateR_iff.2 ⟨by omega, by omega⟩
  have hlen := refRateT_len (n := n) (by omega) (by omega)
  rw [rateTextS, hr, if_pos rfl, show textR n ++ [37] = refRateT n from rfl] at t1
  have t4 := K.parse (refRateT n) (by omega)
  rw [rateP_text (by omega) (by omega)] at t4
  have t5 := K.rText n (by omega) (by omega)
  repeat' (first | simp only [go_sem, ↓reduceIte, Nat.reduceEqDiff, Nat.reduceAdd, Nat.reduceSub, Nat.reduceMul, Nat.reduceLeDiff, Nat.reduceBEq, reduceCtorEq, Nat.reduceEqDiff, Int.reduceEq, Int.reduceLT, Int.reduceLE, Int.reduceNeg, Int.reduceBEq, Int.reduceBNe, Int.reduceToNat, Int.reducePow, hl', h0, h1, decide_false, bne_self_eq_false] | refine g_law03_RateTexts_o1_sh.mpr ?_ | refine g_law03_RateTexts_o0_sh.mpr ?_ | refine g_law03_RateTexts_c0_sh.mpr ?_ | refine g_law03_RateTexts_o3_sh.mpr ?_ | refine g_law03_RateTexts_o2_sh.mpr ?_ | refine g_law03_RateTexts_o7_sh.mpr ?_ | refine g_law03_RateTexts_o6_sh.mpr ?_ | refine g_law03_RateTexts_o5_sh.mpr ?_ | refine g_law03_RateTexts_o4_sh.mpr ?_ | refine g_law03_RateTexts_c1_sh.mpr ?_ | refine g_law03_RateTexts_c2_sh.mpr ?_ | refine g_law03_RateTexts_o15_sh.mpr ?_ | refine g_law03_RateTexts_o14_sh.mpr ?_ | refine g_law03_RateTexts_o13_sh.mpr ?_ | refine g_law03_RateTexts_o12_sh.mpr ?_ | refine g_law03_RateTexts_o11_sh.mpr ?_ | refine g_law03_RateTexts_o10_sh.mpr ?_ | refine g_law03_RateTexts_o9_sh.mpr ?_ | refine g_law03_RateTexts_o8_sh.mpr ?_ | refine g_law03_RateTexts_c3_sh.mpr ?_ | refine g_law03_RateTexts_c4_sh.mpr ?_ | refine g_law03_RateTexts_c5_sh.mpr ?_ | refine g_law03_RateTexts_c6_sh.mpr ?_ | refine g_law03_RateTexts_c7_sh.mpr ?_ | refine g_law03_RateTexts_c8_sh.mpr ?_ | refine g_law03_RateTexts_c9_sh.mpr ?_ | refine g_law03_RateTexts_c10_sh.mpr ?_ | refine g_law03_RateTexts_code_sh.mpr ?_ | refine callK_plain (t1) (fun _ => rfl) ?_ | refine callK_plain (t2) (fun _ => rfl) ?_ | refine callK_plain (t3) (fun _ => rfl) ?_ | refine callK_plain (t4) (fun _ => rfl) ?_ | refine callK_plain (t5) (fun _ => rfl) ?_ | refine callK_plain (K.awake) (fun _ => rfl) ?_ | refine hR _ ?_ | split)
theorem refT_len5 {n : Int} (h0 : 0 ≤ n) (h1 : n ≤ 10000) : 5 ≤ (refRateT n).length := by
  unfold refRateT textR
  rw [if_neg (by omega)]
  have := textN_len4 n.toNat
  simp
  omega
theorem lawRateOrder {C : Ctx} (h : okFn C.P C.φ 95 g_law03_RateOrder = true) (K : RateK C) (b m : Nat) (hb : b < 65536) (hm : m < 65536) :
    SoundAt C 95 ⟨[.d (.int .u16 (b : Int)), .d (.int .u16 (m : Int))], looko []⟩ ⟨vB true, looko []⟩ := by
  have e3 : (b : Int).tmod 10001 = ((b % 10001 : Nat) : Int) := tmod_nat b 10001
  have e4 : IntKind.i64.wrap ((b % 10001 : Nat) : Int) = ((b % 10001 : Nat) : Int) := wrapI (by omega) (by omega)
  have e5 : (m : Int).tmod 10001 = ((m % 10001 : Nat) : Int) := tmod_nat m 10001
  have e6 : IntKind.i64.wrap ((m % 10001 : Nat) : Int) = ((m % 10001 : Nat) : Int) := wrapI (by omega) (by omega)
  have hx : b % 10001 ≤ 10000 := by omega
  have hy : m % 10001 ≤ 10000 := by omega
  obtain ⟨x, hx'⟩ : ∃ x, b % 10001 = x := ⟨_, rfl⟩
  obtain ⟨y, hy'⟩ : ∃ x, m % 10001 = x := ⟨_, rfl⟩
  rw [hx'] at e3 e4 hx
  rw [hy'] at e5 e6 hy
  have t1 := K.text x
  have t2 := K.text y
  rw [rateTextS, if_pos (rateR_iff.2 ⟨by omega, by omega⟩), show textR (x : Int) ++ [37] = refRateT x from rfl] at t1
  rw [rateTextS, if_pos (rateR_iff.2 ⟨by omega, by omega⟩), show textR (y : Int) ++ [37] = refRateT y from rfl] at t2
  have l1 := refRateT_len (n := x) (by omega) (by omega)
  have l2 := refT_len5 (n := x) (by omega) (by omega)
  have same : (refRateT x == refRateT y) = ((x : Int) == (y : Int)) := by
    by_cases hxy : x = y
    · subst hxy; simp
    · have h1 : ((x : Int) == (y : Int)) = false := by rw [beq_eq_false_iff_ne]; omega
      rw [h1, beq_eq_false_iff_ne]
      intro he
      have e1 := rateP_text (n := x) (by omega) (by omega)
      have e2 := rateP_text (n := y) (by omega) (by omega)
      rw [he, e2] at e1
      have := (Prod.mk.inj e1).1
      omega
  have last : (refRateT x)[(refRateT x).length - 1]? = some 37 := by
    unfold refRateT
    rw [List.length_append, List.length_cons, List.length_nil, Nat.add_sub_cancel, List.getElem?_append_right (by omega), Nat.sub_self]; rfl
  obtain ⟨u, hu⟩ : ∃ u, refRateT x = u := ⟨_, rfl⟩
  obtain ⟨v, hv⟩ : ∃ v, refRateT y = v := ⟨_, rfl⟩
  rw [hu] at t1 l1 l2 same last
  rw [hv] at t2 same
  have z : ¬ ((10001 : Int) = 0) := by decide
  have g1 : ((u.length : Int) ≥ 5) := by omega
  have g2 : ((u.length : Int) ≤ 7) := by omega
  have g3 : IntKind.i64.wrap ((u.length : Int) - 1) = ((u.length - 1 : Nat) : Int) := by rw [wrapI (by omega) (by omega)]; omega
  refine SoundAt.of_run h rfl (fun Q hR hN => ?_)
  rw [entry2]
  repeat' (first | simp only [go_sem, ↓reduceIte, Nat.reduceEqDiff, Nat.reduceAdd, Nat.reduceSub, Nat.reduceMul, Nat.reduceLeDiff, Nat.reduceBEq, reduceCtorEq, Nat.reduceEqDiff, Int.reduceEq, Int.reduceLT, Int.reduceLE, Int.reduceNeg, Int.reduceBEq, Int.reduceBNe, Int.reduceToNat, Int.reducePow, e3, e4, e5, e6, z, same, g1, g2, g3, last, decide_true, Int.natCast_nonneg, Int.toNat_natCast, UInt8.reduceToNat] | refine g_law03_RateOrder_o11_sh.mpr ?_ | refine g_law03_RateOrder_o10_sh.mpr ?_ | refine g_law03_RateOrder_o9_sh.mpr ?_ | refine g_law03_RateOrder_o8_sh.mpr ?_ | refine g_law03_RateOrder_o7_sh.mpr ?_ | refine g_law03_RateOrder_o6_sh.mpr ?_ | refine g_law03_RateOrder_o5_sh.mpr ?_ | refine g_law03_RateOrder_o4_sh.mpr ?_ | refine g_law03_RateOrder_o3_sh.mpr ?_ | refine g_law03_RateOrder_o2_sh.mpr ?_ | refine g_law03_RateOrder_o1_sh.mpr ?_ | refine g_law03_RateOrder_o0_sh.mpr ?_ | refine g_law03_RateOrder_c0_sh.mpr ?_ | refine g_law03_RateOrder_c1_sh.mpr ?_ | refine g_law03_RateOrder_c2_sh.mpr ?_ | refine g_law03_RateOrder_c3_sh.mpr ?_ | refine g_law03_RateOrder_code_sh.mpr ?_ | refine callK_plain (t1) (fun _ => rfl) ?_ | refine callK_plain (t2) (fun _ => rfl) ?_ | refine callK_plain (K.awake) (fun _ => rfl) ?_ | refine hR _ ?_ | split)
end Pay
