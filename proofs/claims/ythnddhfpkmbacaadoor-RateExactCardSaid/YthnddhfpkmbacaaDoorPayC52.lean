/- Contract: two words by one word. -/
import Derived.Lib.BitFns
import Derived.Lib.ItoaNum
import Derived.Test.YthnddhfpkmbacaaDoorPayC31
import Derived.Test.YthnddhfpkmbacaaDoorPayN1
import Derived.Test.YthnddhfpkmbacaaDoorPaySh0
set_option linter.unusedSimpArgs false
set_option linter.unusedVariables false
namespace Pay
open Go
attribute [local irreducible] wpB opsB treeB drawB
theorem wrap_u64 (n : Int) : IntKind.u64.wrap n = n % 18446744073709551616 := by simp [IntKind.wrap, IntKind.bits, IntKind.signed]
theorem wrapU {n : Int} (h0 : 0 ≤ n) (h1 : n < 18446744073709551616) : IntKind.u64.wrap n = n := by rw [wrap_u64]; omega
abbrev vU (n : Nat) : V := .d (.int .u64 (n : Int))
theorem div_loop0 {C : Ctx} {I : Nat → Prop} {Q : Ex → St → Prop} {v v1 v0 un u1 : Nat} {x8 x14 : V} (hv : v = v1 * 4294967296 + v0) (hv1 : 2147483648 ≤ v1) (hv2 : v1 < 4294967296) (hv0 : v0 < 4294967296) (hun : un < v) (hu1 : u1 < 4294967296)
    (hT : ∀ t, t 2 = vU v → t 8 = x8 → t 9 = vU v1 → t 10 = vU v0 → t 11 = vU un → t 13 = vU u1 → t 14 = x14 →  t 15 = vU ((un * 4294967296 + u1) / v) → Q (.exit 0) (St.mk t (looko []))) :
    ∀ (m q r : Nat), 4294967296 ≤ r + m → r < 4294967296 → q * v1 + r = un → (un * 4294967296 + u1) / v ≤ q → ∀ t, t 2 = vU v → t 8 = x8 → t 9 = vU v1 → t 10 = vU v0 → t 11 = vU un → t 13 = vU u1 → t 14 = x14 →  t 15 = vU q → t 16 = vU r → wpB C I g_math_bits_Div64.l0 (St.mk t (looko [])) Q := by
  intro m
  induction m with
  | zero => intro q r h1 h2; omega
  | succ m ih =>
    intro q r hm hr hq hge t t2 t8 t9 t10 t11 t13 t14 tq tr
    have htop : q ≤ 4294967297 := est_top hv1 hv0 (by omega) hq
    have dec : (un * 4294967296 + u1) / v + 1 ≤ q → ∀ t, t 2 = vU v → t 8 = x8 → t 9 = vU v1 → t 10 = vU v0 → t 11 = vU un → t 13 = vU u1 → t 14 = x14 →  t 15 = vU q → t 16 = vU r → wpB C I g_math_bits_Div64.c2 (St.mk t (looko [])) (seqK (fun s => wpB C I g_math_bits_Div64.l0 s Q) Q) := by
      intro hgt t t2 t8 t9 t10 t11 t13 t14 tq tr
      have hq1 : 1 ≤ q := Nat.le_trans (Nat.le_add_left _ _) hgt
      have w1 : IntKind.u64.wrap ((q : Int) - 1) = ((q - 1 : Nat) : Int) := by rw [wrap_u64]; omega
      have w2 : IntKind.u64.wrap ((r : Int) + (v1 : Int)) = ((r + v1 : Nat) : Int) := by rw [wrap_u64]; omega
      have hq' : (q - 1) * v1 + (r + v1) = un := by
        obtain ⟨q', rfl⟩ : ∃ q', q = q' + 1 := ⟨q - 1, by omega⟩
        rw [Nat.add_sub_cancel, ← hq, Nat.add_mul, Nat.one_mul]; omega
      by_cases hb : 4294967296 ≤ r + v1
      · have hb' : (((r + v1 : Nat) : Int) ≥ 4294967296) := by omega
        have hle : q - 1 ≤ (un * 4294967296 + u1) / v := by
          subst hv
          refine est_le rfl hq' (by omega) ?_
          have h1 : (q - 1) * v0 ≤ 4294967296 * v0 := Nat.mul_le_mul_right _ (by omega)
          omega
        have hfin : (un * 4294967296 + u1) / v = q - 1 := by omega
        repeat (first | simp only [go_sem, ↓reduceIte, Nat.reduceEqDiff, Nat.reduceAdd, Nat.reduceSub, Nat.reduceMul, Nat.reduceLeDiff, Nat.reduceBEq, reduceCtorEq, Nat.reduceEqDiff, Int.reduceEq, Int.reduceLT, Int.reduceLE, Int.reduceNeg, Int.reduceBEq, Int.reduceBNe, Int.reduceToNat, Int.reducePow, t2, t8, t9, t10, t11, t13, t14, tq, tr, w1, w2, hb', decide_true] | refine g_math_bits_Div64_c1_sh.mpr ?_ | refine g_math_bits_Div64_c2_sh.mpr ?_)
        exact hT _ rfl rfl rfl rfl rfl rfl rfl (by rw [hfin]; rfl)
      · have hb' : ¬ (((r + v1 : Nat) : Int) ≥ 4294967296) := by omega
        repeat (first | simp only [go_sem, ↓reduceIte, Nat.reduceEqDiff, Nat.reduceAdd, Nat.reduceSub, Nat.reduceMul, Nat.reduceLeDiff, Nat.reduceBEq, reduceCtorEq, Nat.reduceEqDiff, Int.reduceEq, Int.reduceLT, Int.reduceLE, Int.reduceNeg, Int.reduceBEq, Int.reduceBNe, Int.reduceToNat, Int.reducePow, t2, t8, t9, t10, t11, t13, t14, tq, tr, w1, w2, hb', decide_false] | refine g_math_bits_Div64_c1_sh.mpr ?_ | refine g_math_bits_Div64_c2_sh.mpr ?_)
        exact ih (q - 1) (r + v1) (by omega) (by omega) hq' (by omega) _ rfl rfl rfl rfl rfl rfl rfl rfl rfl
    refine g_math_bits_Div64_l0_sh rfl ?_
    by_cases hqb : 4294967296 ≤ q
    · have hqb' : ((q : Int) ≥ 4294967296) := by omega
      have hlt : (un * 4294967296 + u1) / v < 4294967296 := by subst hv; exact quo_small rfl hun hu1
      repeat (first | simp only [go_sem, ↓reduceIte, Nat.reduceEqDiff, Nat.reduceAdd, Nat.reduceSub, Nat.reduceMul, Nat.reduceLeDiff, Nat.reduceBEq, reduceCtorEq, Nat.reduceEqDiff, Int.reduceEq, Int.reduceLT, Int.reduceLE, Int.reduceNeg, Int.reduceBEq, Int.reduceBNe, Int.reduceToNat, Int.reducePow, t2, t8, t9, t10, t11, t13, t14, tq, tr, hqb', decide_true] | refine g_math_bits_Div64_o0_sh.mpr ?_ | refine g_math_bits_Div64_o1_sh.mpr ?_ | refine g_math_bits_Div64_c0_sh.mpr ?_)
      exact dec (by omega) _ rfl rfl rfl rfl rfl rfl rfl rfl rfl
    · have hqb' : ¬ ((q : Int) ≥ 4294967296) := by omega
      have hqv : q * v0 < 18446744073709551616 := by
        have h1 : q * v0 ≤ q * 4294967296 := Nat.mul_le_mul_left _ (by omega)
        omega
      have w1 : IntKind.u64.wrap ((q : Int) * (v0 : Int)) = ((q * v0 : Nat) : Int) := by rw [wrap_u64, ← Int.natCast_mul]; omega
      have w2 : IntKind.u64.wrap (4294967296 * (r : Int)) = ((4294967296 * r : Nat) : Int) := by rw [wrap_u64]; omega
      have w3 : IntKind.u64.wrap (((4294967296 * r : Nat) : Int) + (u1 : Int)) = ((4294967296 * r + u1 : Nat) : Int) := by rw [wrap_u64]; omega
      by_cases hc : 4294967296 * r + u1 < q * v0
      · have hc' : (((q * v0 : Nat) : Int) > ((4294967296 * r + u1 : Nat) : Int)) := by omega
        have hgt := est_gt (v0 := v0) rfl hq (by omega) hc
        rw [← hv] at hgt
        repeat (first | simp only [go_sem, ↓reduceIte, Nat.reduceEqDiff, Nat.reduceAdd, Nat.reduceSub, Nat.reduceMul, Nat.reduceLeDiff, Nat.reduceBEq, reduceCtorEq, Nat.reduceEqDiff, Int.reduceEq, Int.reduceLT, Int.reduceLE, Int.reduceNeg, Int.reduceBEq, Int.reduceBNe, Int.reduceToNat, Int.reducePow, t2, t8, t9, t10, t11, t13, t14, tq, tr, hqb', decide_true, decide_false, w1, w2, w3, hc'] | refine g_math_bits_Div64_o0_sh.mpr ?_ | refine g_math_bits_Div64_o1_sh.mpr ?_ | refine g_math_bits_Div64_c0_sh.mpr ?_)
        exact dec hgt _ rfl rfl rfl rfl rfl rfl rfl rfl rfl
      · have hc' : ¬ (((q * v0 : Nat) : Int) > ((4294967296 * r + u1 : Nat) : Int)) := by omega
        have hle := est_le (v0 := v0) (u := un * 4294967296 + u1) rfl hq (by omega) (by omega)
        rw [← hv] at hle
        have hfin : (un * 4294967296 + u1) / v = q := by omega
        repeat (first | simp only [go_sem, ↓reduceIte, Nat.reduceEqDiff, Nat.reduceAdd, Nat.reduceSub, Nat.reduceMul, Nat.reduceLeDiff, Nat.reduceBEq, reduceCtorEq, Nat.reduceEqDiff, Int.reduceEq, Int.reduceLT, Int.reduceLE, Int.reduceNeg, Int.reduceBEq, Int.reduceBNe, Int.reduceToNat, Int.reducePow, t2, t8, t9, t10, t11, t13, t14, tq, tr, hqb', decide_true, decide_false, w1, w2, w3, hc'] | refine g_math_bits_Div64_o0_sh.mpr ?_ | refine g_math_bits_Div64_o1_sh.mpr ?_ | refine g_math_bits_Div64_c0_sh.mpr ?_)
        exact hT _ rfl rfl rfl rfl rfl rfl rfl (by rw [hfin]; rfl)
theorem div_loop1 {C : Ctx} {I : Nat → Prop} {Q : Ex → St → Prop} {v v1 v0 un u1 : Nat} {x8 x15 : V} (hv : v = v1 * 4294967296 + v0) (hv1 : 2147483648 ≤ v1) (hv2 : v1 < 4294967296) (hv0 : v0 < 4294967296) (hun : un < v) (hu1 : u1 < 4294967296)
    (hT : ∀ t, t 2 = vU v → t 8 = x8 → t 9 = vU v1 → t 10 = vU v0 → t 14 = vU u1 → t 15 = x15 → t 17 = vU un →  t 18 = vU ((un * 4294967296 + u1) / v) → Q (.exit 2) (St.mk t (looko []))) :
    ∀ (m q r : Nat), 4294967296 ≤ r + m → r < 4294967296 → q * v1 + r = un → (un * 4294967296 + u1) / v ≤ q → ∀ t, t 2 = vU v → t 8 = x8 → t 9 = vU v1 → t 10 = vU v0 → t 14 = vU u1 → t 15 = x15 → t 17 = vU un →  t 18 = vU q → t 16 = vU r → wpB C I g_math_bits_Div64.l1 (St.mk t (looko [])) Q := by
  intro m
  induction m with
  | zero => intro q r h1 h2; omega
  | succ m ih =>
    intro q r hm hr hq hge t t2 t8 t9 t10 t14 t15 t17 tq tr
    have htop : q ≤ 4294967297 := est_top hv1 hv0 (by omega) hq
    have dec : (un * 4294967296 + u1) / v + 1 ≤ q → ∀ t, t 2 = vU v → t 8 = x8 → t 9 = vU v1 → t 10 = vU v0 → t 14 = vU u1 → t 15 = x15 → t 17 = vU un →  t 18 = vU q → t 16 = vU r → wpB C I g_math_bits_Div64.c5 (St.mk t (looko [])) (seqK (fun s => wpB C I g_math_bits_Div64.l1 s Q) Q) := by
      intro hgt t t2 t8 t9 t10 t14 t15 t17 tq tr
      have hq1 : 1 ≤ q := Nat.le_trans (Nat.le_add_left _ _) hgt
      have w1 : IntKind.u64.wrap ((q : Int) - 1) = ((q - 1 : Nat) : Int) := by rw [wrap_u64]; omega
      have w2 : IntKind.u64.wrap ((r : Int) + (v1 : Int)) = ((r + v1 : Nat) : Int) := by rw [wrap_u64]; omega
      have hq' : (q - 1) * v1 + (r + v1) = un := by
        obtain ⟨q', rfl⟩ : ∃ q', q = q' + 1 := ⟨q - 1, by omega⟩
        rw [Nat.add_sub_cancel, ← hq, Nat.add_mul, Nat.one_mul]; omega
      by_cases hb : 4294967296 ≤ r + v1
      · have hb' : (((r + v1 : Nat) : Int) ≥ 4294967296) := by omega
        have hle : q - 1 ≤ (un * 4294967296 + u1) / v := by
          subst hv
          refine est_le rfl hq' (by omega) ?_
          have h1 : (q - 1) * v0 ≤ 4294967296 * v0 := Nat.mul_le_mul_right _ (by omega)
          omega
        have hfin : (un * 4294967296 + u1) / v = q - 1 := by omega
        repeat (first | simp only [go_sem, ↓reduceIte, Nat.reduceEqDiff, Nat.reduceAdd, Nat.reduceSub, Nat.reduceMul, Nat.reduceLeDiff, Nat.reduceBEq, reduceCtorEq, Nat.reduceEqDiff, Int.reduceEq, Int.reduceLT, Int.reduceLE, Int.reduceNeg, Int.reduceBEq, Int.reduceBNe, Int.reduceToNat, Int.reducePow, t2, t8, t9, t10, t14, t15, t17, tq, tr, w1, w2, hb', decide_true] | refine g_math_bits_Div64_c4_sh.mpr ?_ | refine g_math_bits_Div64_c5_sh.mpr ?_)
        exact hT _ rfl rfl rfl rfl rfl rfl rfl (by rw [hfin]; rfl)
      · have hb' : ¬ (((r + v1 : Nat) : Int) ≥ 4294967296) := by omega
        repeat (first | simp only [go_sem, ↓reduceIte, Nat.reduceEqDiff, Nat.reduceAdd, Nat.reduceSub, Nat.reduceMul, Nat.reduceLeDiff, Nat.reduceBEq, reduceCtorEq, Nat.reduceEqDiff, Int.reduceEq, Int.reduceLT, Int.reduceLE, Int.reduceNeg, Int.reduceBEq, Int.reduceBNe, Int.reduceToNat, Int.reducePow, t2, t8, t9, t10, t14, t15, t17, tq, tr, w1, w2, hb', decide_false] | refine g_math_bits_Div64_c4_sh.mpr ?_ | refine g_math_bits_Div64_c5_sh.mpr ?_)
        exact ih (q - 1) (r + v1) (by omega) (by omega) hq' (by omega) _ rfl rfl rfl rfl rfl rfl rfl rfl rfl
    refine g_math_bits_Div64_l1_sh rfl ?_
    by_cases hqb : 4294967296 ≤ q
    · have hqb' : ((q : Int) ≥ 4294967296) := by omega
      have hlt : (un * 4294967296 + u1) / v < 4294967296 := by subst hv; exact quo_small rfl hun hu1
      repeat (first | simp only [go_sem, ↓reduceIte, Nat.reduceEqDiff, Nat.reduceAdd, Nat.reduceSub, Nat.reduceMul, Nat.reduceLeDiff, Nat.reduceBEq, reduceCtorEq, Nat.reduceEqDiff, Int.reduceEq, Int.reduceLT, Int.reduceLE, Int.reduceNeg, Int.reduceBEq, Int.reduceBNe, Int.reduceToNat, Int.reducePow, t2, t8, t9, t10, t14, t15, t17, tq, tr, hqb', decide_true] | refine g_math_bits_Div64_o2_sh.mpr ?_ | refine g_math_bits_Div64_o3_sh.mpr ?_ | refine g_math_bits_Div64_c3_sh.mpr ?_)
      exact dec (by omega) _ rfl rfl rfl rfl rfl rfl rfl rfl rfl
    · have hqb' : ¬ ((q : Int) ≥ 4294967296) := by omega
      have hqv : q * v0 < 18446744073709551616 := by
        have h1 : q * v0 ≤ q * 4294967296 := Nat.mul_le_mul_left _ (by omega)
        omega
      have w1 : IntKind.u64.wrap ((q : Int) * (v0 : Int)) = ((q * v0 : Nat) : Int) := by rw [wrap_u64, ← Int.natCast_mul]; omega
      have w2 : IntKind.u64.wrap (4294967296 * (r : Int)) = ((4294967296 * r : Nat) : Int) := by rw [wrap_u64]; omega
      have w3 : IntKind.u64.wrap (((4294967296 * r : Nat) : Int) + (u1 : Int)) = ((4294967296 * r + u1 : Nat) : Int) := by rw [wrap_u64]; omega
      by_cases hc : 4294967296 * r + u1 < q * v0
      · have hc' : (((q * v0 : Nat) : Int) > ((4294967296 * r + u1 : Nat) : Int)) := by omega
        have hgt := est_gt (v0 := v0) rfl hq (by omega) hc
        rw [← hv] at hgt
        repeat (first | simp only [go_sem, ↓reduceIte, Nat.reduceEqDiff, Nat.reduceAdd, Nat.reduceSub, Nat.reduceMul, Nat.reduceLeDiff, Nat.reduceBEq, reduceCtorEq, Nat.reduceEqDiff, Int.reduceEq, Int.reduceLT, Int.reduceLE, Int.reduceNeg, Int.reduceBEq, Int.reduceBNe, Int.reduceToNat, Int.reducePow, t2, t8, t9, t10, t14, t15, t17, tq, tr, hqb', decide_true, decide_false, w1, w2, w3, hc'] | refine g_math_bits_Div64_o2_sh.mpr ?_ | refine g_math_bits_Div64_o3_sh.mpr ?_ | refine g_math_bits_Div64_c3_sh.mpr ?_)
        exact dec hgt _ rfl rfl rfl rfl rfl rfl rfl rfl rfl
      · have hc' : ¬ (((q * v0 : Nat) : Int) > ((4294967296 * r + u1 : Nat) : Int)) := by omega
        have hle := est_le (v0 := v0) (u := un * 4294967296 + u1) rfl hq (by omega) (by omega)
        rw [← hv] at hle
        have hfin : (un * 4294967296 + u1) / v = q := by omega
        repeat (first | simp only [go_sem, ↓reduceIte, Nat.reduceEqDiff, Nat.reduceAdd, Nat.reduceSub, Nat.reduceMul, Nat.reduceLeDiff, Nat.reduceBEq, reduceCtorEq, Nat.reduceEqDiff, Int.reduceEq, Int.reduceLT, Int.reduceLE, Int.reduceNeg, Int.reduceBEq, Int.reduceBNe, Int.reduceToNat, Int.reducePow, t2, t8, t9, t10, t14, t15, t17, tq, tr, hqb', decide_true, decide_false, w1, w2, w3, hc'] | refine g_math_bits_Div64_o2_sh.mpr ?_ | refine g_math_bits_Div64_o3_sh.mpr ?_ | refine g_math_bits_Div64_c3_sh.mpr ?_)
        exact hT _ rfl rfl rfl rfl rfl rfl rfl (by rw [hfin]; rfl)
theorem and_mask (n : Nat) (h : n < 18446744073709551616) : andI .u64 (n : Int) 4294967295 = ((n % 4294967296 : Nat) : Int) := by
  have e : (BitVec.ofInt IntKind.u64.bits (n : Int) &&& BitVec.ofInt IntKind.u64.bits 4294967295).toNat = n % 4294967296 := by
    rw [BitVec.toNat_and, BitVec.toNat_ofInt, BitVec.toNat_ofInt]
    have e1 : ((n : Int) % ((2 ^ IntKind.u64.bits : Nat) : Int)).toNat = n := by
      rw [show (2 ^ IntKind.u64.bits : Nat) = 18446744073709551616 from by decide]; omega
    have e2 : ((4294967295 : Int) % ((2 ^ IntKind.u64.bits : Nat) : Int)).toNat = 2 ^ 32 - 1 := by decide
    rw [e1, e2, Nat.and_two_pow_sub_one_eq_mod]
  rw [andI, e, wrapU (by omega) (by omega)]
theorem or_add (a b s : Nat) (hb : b < 2 ^ s) (h : a * 2 ^ s + b < 18446744073709551616) : orI .u64 ((a * 2 ^ s : Nat) : Int) (b : Int) = ((a * 2 ^ s + b : Nat) : Int) := by
  have e : (BitVec.ofInt IntKind.u64.bits ((a * 2 ^ s : Nat) : Int) ||| BitVec.ofInt IntKind.u64.bits (b : Int)).toNat = a * 2 ^ s + b := by
    rw [BitVec.toNat_or, BitVec.toNat_ofInt, BitVec.toNat_ofInt]
    have e0 : (2 ^ IntKind.u64.bits : Nat) = 18446744073709551616 := by decide
    have e1 : (((a * 2 ^ s : Nat) : Int) % ((2 ^ IntKind.u64.bits : Nat) : Int)).toNat = a * 2 ^ s := by rw [e0]; omega
    have e2 : ((b : Int) % ((2 ^ IntKind.u64.bits : Nat) : Int)).toNat = b := by rw [e0]; omega
    rw [e1, e2, ← Nat.shiftLeft_eq, Nat.shiftLeft_add_eq_or_of_lt hb]
  rw [orI, e, wrapU (by omega) (by omega)]
theorem fdiv_pow (n k : Nat) : (n : Int).fdiv (2 ^ k) = ((n / 2 ^ k : Nat) : Int) := by
  rw [Int.fdiv_eq_ediv_of_nonneg _ (Int.pow_nonneg (by decide))]
  simp
theorem tdiv_nat (a b : Nat) : (a : Int).tdiv (b : Int) = ((a / b : Nat) : Int) := by
  rw [Int.tdiv_eq_ediv_of_nonneg (by omega)]; simp
theorem tmod_nat (a b : Nat) : (a : Int).tmod (b : Int) = ((a % b : Nat) : Int) := by
  rw [Int.tmod_eq_emod_of_nonneg (by omega)]; simp
theorem div64 {C : Ctx} (h : okFn C.P C.φ 114 g_math_bits_Div64 = true) (hLz : ∀ x : Nat, x < 18446744073709551616 → SoundAt C 133 ⟨[vU x], looko []⟩ ⟨vI (64 - (Lib.bitLen x : Int)), looko []⟩)
    (hi lo y : Nat) (h1 : hi < y) (hy : y < 18446744073709551616) (hlo : lo < 18446744073709551616) :
    SoundAt C 114 ⟨[vU hi, vU lo, vU y], looko []⟩ ⟨.tup [vU ((hi * 18446744073709551616 + lo) / y), vU ((hi * 18446744073709551616 + lo) % y)], looko []⟩ := by
  have y0 : ((y : Int) == 0) = false := by rw [beq_eq_false_iff_ne]; omega
  have y0' : ¬ ((y : Int) = 0) := by omega
  have hle : ¬ ((y : Int) ≤ (hi : Int)) := by omega
  refine SoundAt.of_run h rfl (fun Q hR hN => ?_)
  rw [entry3]
  by_cases hz : hi = 0
  · subst hz
    have w1 : IntKind.u64.wrap ((lo : Int).tdiv (y : Int)) = ((lo / y : Nat) : Int) := by
      have := Nat.div_le_self lo y
      rw [tdiv_nat, wrapU (Int.natCast_nonneg _) (by omega)]
    have hle0 : ¬ ((y : Int) ≤ 0) := by omega
    repeat' (first | simp only [go_sem, ↓reduceIte, Nat.reduceEqDiff, Nat.reduceAdd, Nat.reduceSub, Nat.reduceMul, Nat.reduceLeDiff, Nat.reduceBEq, reduceCtorEq, Nat.reduceEqDiff, Int.reduceEq, Int.reduceLT, Int.reduceLE, Int.reduceNeg, Int.reduceBEq, Int.reduceBNe, Int.reduceToNat, Int.reducePow, y0, y0', hle0, decide_false, w1, tmod_nat] | refine g_math_bits_Div64_o1_sh.mpr ?_ | refine g_math_bits_Div64_o0_sh.mpr ?_ | refine g_math_bits_Div64_c0_sh.mpr ?_ | refine g_math_bits_Div64_c1_sh.mpr ?_ | refine g_math_bits_Div64_c2_sh.mpr ?_ | refine g_math_bits_Div64_o3_sh.mpr ?_ | refine g_math_bits_Div64_o2_sh.mpr ?_ | refine g_math_bits_Div64_c3_sh.mpr ?_ | refine g_math_bits_Div64_c4_sh.mpr ?_ | refine g_math_bits_Div64_c5_sh.mpr ?_ | refine g_math_bits_Div64_c6_sh.mpr ?_ | refine g_math_bits_Div64_c7_sh.mpr ?_ | refine g_math_bits_Div64_c8_sh.mpr ?_ | refine g_math_bits_Div64_c9_sh.mpr ?_ | refine g_math_bits_Div64_c10_sh.mpr ?_ | refine g_math_bits_Div64_c11_sh.mpr ?_ | refine g_math_bits_Div64_c12_sh.mpr ?_ | refine g_math_bits_Div64_c13_sh.mpr ?_ | refine g_math_bits_Div64_c14_sh.mpr ?_ | refine g_math_bits_Div64_c15_sh.mpr ?_ | refine g_math_bits_Div64_c16_sh.mpr ?_ | refine g_math_bits_Div64_c17_sh.mpr ?_ | refine g_math_bits_Div64_c18_sh.mpr ?_ | refine g_math_bits_Div64_c19_sh.mpr ?_ | refine g_math_bits_Div64_code_sh.mpr ?_ | refine And.intro ?_ ?_)
    refine hR _ ?_
    simp only [go_sem, ↓reduceIte, Nat.reduceEqDiff, Nat.reduceAdd, Nat.reduceSub, Nat.reduceMul, Nat.reduceLeDiff, Nat.reduceBEq, reduceCtorEq, Nat.reduceEqDiff, Int.reduceEq, Int.reduceLT, Int.reduceLE, Int.reduceNeg, Int.reduceBEq, Int.reduceBNe, Int.reduceToNat, Int.reducePow, Nat.zero_mul, Nat.zero_add]
  have hz' : ((hi : Int) == 0) = false := by rw [beq_eq_false_iff_ne]; omega
  obtain ⟨b1, b2, b3⟩ := Lib.bitLenAux_bounds 64 y (by omega) (by omega)
  have b4 : Lib.bitLen y ≤ 64 := Lib.bitLen_le y 64 (by omega) (by omega)
  have t1 := hLz y hy
  obtain ⟨b, hb⟩ : ∃ b, Lib.bitLen y = b := ⟨_, rfl⟩
  rw [show Lib.bitLenAux 64 y = b from hb] at b1 b2 b3
  rw [hb] at b4 t1
  obtain ⟨s, hs⟩ : ∃ s, 64 - b = s := ⟨_, rfl⟩
  have hsb : s + b = 64 := by omega
  obtain ⟨p, hp⟩ : ∃ p, 2 ^ s = p := ⟨_, rfl⟩
  obtain ⟨g, hg⟩ : ∃ g, 2 ^ (64 - s) = g := ⟨_, rfl⟩
  have hpg : p * g = 18446744073709551616 := by rw [← hp, ← hg, ← Nat.pow_add, show s + (64 - s) = 64 by omega]
  have hp0 : 0 < p := by rw [← hp]; exact Nat.two_pow_pos s
  have hg0 : 0 < g := by rw [← hg]; exact Nat.two_pow_pos _
  have hv64 : y * p < 18446744073709551616 := by
    have : y * p < 2 ^ b * p := Nat.mul_lt_mul_of_pos_right b3 hp0
    rw [← hp, ← Nat.pow_add, show b + s = 64 by omega] at this
    rw [← hp]; simpa using this
  have hv63 : 9223372036854775808 ≤ y * p := by
    have : 2 ^ (b - 1) * p ≤ y * p := Nat.mul_le_mul_right p b2
    rw [← hp, ← Nat.pow_add, show b - 1 + s = 63 by omega] at this
    rw [← hp]; simpa using this
  have hlog : lo / g < p := by rw [Nat.div_lt_iff_lt_mul hg0, hpg]; exact hlo
  have hhip : hi * p + p ≤ y * p := by
    have := Nat.mul_le_mul_right p h1
    rwa [Nat.succ_mul] at this
  obtain ⟨v, hv⟩ : ∃ v, y * p = v := ⟨_, rfl⟩
  obtain ⟨un, hun⟩ : ∃ un, hi * p + lo / g = un := ⟨_, rfl⟩
  obtain ⟨u10, hu10⟩ : ∃ u, lo * p % 18446744073709551616 = u := ⟨_, rfl⟩
  have hu10l : u10 < 18446744073709551616 := by rw [← hu10]; exact Nat.mod_lt _ (by decide)
  rw [hv] at hv64 hv63 hhip
  have hunv : un < v := by omega
  have hvd : v = v / 4294967296 * 4294967296 + v % 4294967296 := by omega
  have hud : u10 = u10 / 4294967296 * 4294967296 + u10 % 4294967296 := by omega
  -- what is computed
  have k1 : IntKind.u64.wrap (64 - (b : Int)) = (s : Int) := by rw [wrapU (by omega) (by omega)]; omega
  have k2 : ¬ ((s : Int) < 0) := by omega
  have hm : min s 64 = s := Nat.min_eq_left (show s ≤ 64 by omega)
  have hm2 : min (64 - s) 64 = 64 - s := Nat.min_eq_left (show 64 - s ≤ 64 by omega)
  have hm3 : min 32 64 = 32 := rfl
  have pw : (2 : Int) ^ s = (p : Int) := by rw [← hp]; simp
  have k3 : IntKind.u64.wrap ((y : Int) * (p : Int)) = (v : Int) := by rw [← Int.natCast_mul, hv, wrapU (by omega) (by omega)]
  have k4 : (v : Int).fdiv 4294967296 = ((v / 4294967296 : Nat) : Int) := fdiv_pow v 32
  have k5 := and_mask v hv64
  have k6 : IntKind.u64.wrap ((hi : Int) * (p : Int)) = ((hi * 2 ^ s : Nat) : Int) := by rw [← Int.natCast_mul, hp, wrapU (by omega) (by omega)]
  have k7 : IntKind.u64.wrap (64 - (s : Int)) = ((64 - s : Nat) : Int) := by rw [wrapU (by omega) (by omega)]; omega
  have k8 : ¬ (((64 - s : Nat) : Int) < 0) := by omega
  have k9 : (lo : Int).fdiv (2 ^ (64 - s)) = ((lo / g : Nat) : Int) := by rw [fdiv_pow, hg]
  have k10 := or_add hi (lo / g) s (by rw [hp]; exact hlog) (by rw [hp]; omega)
  rw [hp, hun] at k10
  rw [hp] at k6
  have k11 : IntKind.u64.wrap ((lo : Int) * (p : Int)) = (u10 : Int) := by rw [← Int.natCast_mul, wrap_u64, ← hu10]; simp
  have k12 : (u10 : Int).fdiv 4294967296 = ((u10 / 4294967296 : Nat) : Int) := fdiv_pow u10 32
  have k13 := and_mask u10 hu10l
  obtain ⟨v1, hv1⟩ : ∃ x, v / 4294967296 = x := ⟨_, rfl⟩
  obtain ⟨v0, hv0⟩ : ∃ x, v % 4294967296 = x := ⟨_, rfl⟩
  obtain ⟨u1, hu1⟩ : ∃ x, u10 / 4294967296 = x := ⟨_, rfl⟩
  obtain ⟨u0, hu0⟩ : ∃ x, u10 % 4294967296 = x := ⟨_, rfl⟩
  rw [hv1] at k4 hvd
  rw [hv0] at k5 hvd
  rw [hu1] at k12 hud
  rw [hu0] at k13 hud
  have v1a : 2147483648 ≤ v1 := by omega
  have v1b : v1 < 4294967296 := by omega
  have v0b : v0 < 4294967296 := by omega
  have u1b : u1 < 4294967296 := by omega
  have u0b : u0 < 4294967296 := by omega
  have z1 : ¬ ((v1 : Int) = 0) := by omega
  have quo1 : ∀ n : Nat, n < 18446744073709551616 → IntKind.u64.wrap ((n : Int).tdiv (v1 : Int)) = ((n / v1 : Nat) : Int) := fun n hn => by
    have := Nat.div_le_self n v1
    rw [tdiv_nat, wrapU (Int.natCast_nonneg _) (by omega)]
  have rem1 : ∀ n : Nat, n < 18446744073709551616 → IntKind.u64.wrap ((n : Int) - IntKind.u64.wrap (((n / v1 : Nat) : Int) * (v1 : Int))) = ((n % v1 : Nat) : Int) := fun n hn => by
    have h2 := Nat.div_mul_le_self n v1
    have h3 := Nat.div_add_mod n v1
    rw [Nat.mul_comm] at h3
    rw [← Int.natCast_mul, wrapU (n := ((n / v1 * v1 : Nat) : Int)) (by omega) (by omega), wrapU (by omega) (by omega)]
    omega
  have back : ∀ a c : Nat, a < v → c < 4294967296 → IntKind.u64.wrap (IntKind.u64.wrap (IntKind.u64.wrap ((a : Int) * 4294967296) + (c : Int)) - IntKind.u64.wrap ((((a * 4294967296 + c) / v : Nat) : Int) * (v : Int))) = (((a * 4294967296 + c) % v : Nat) : Int) := fun a c ha hc => by
    have h3 := Nat.div_add_mod (a * 4294967296 + c) v
    have h4 := Nat.mod_lt (a * 4294967296 + c) (show 0 < v by omega)
    rw [Nat.mul_comm] at h3
    rw [← Int.natCast_mul]
    obtain ⟨P, hP⟩ : ∃ P, (a * 4294967296 + c) / v * v = P := ⟨_, rfl⟩
    rw [hP] at h3 ⊢
    obtain ⟨m, hm⟩ : ∃ m, (a * 4294967296 + c) % v = m := ⟨_, rfl⟩
    rw [hm] at h3 h4 ⊢
    simp only [wrap_u64]
    omega
  have qs : ∀ a c : Nat, a < v → c < 4294967296 → (a * 4294967296 + c) / v < 4294967296 := fun a c ha hc => by
    have := quo_small (v1 := v1) (v0 := v0) (u := a * 4294967296 + c) rfl (by omega) hc
    rwa [← hvd] at this
  have ge : ∀ a c : Nat, a < v → c < 4294967296 → (a * 4294967296 + c) / v ≤ a / v1 := fun a c ha hc => by
    have h3 := Nat.div_add_mod a v1
    rw [Nat.mul_comm] at h3
    have := est_ge (v1 := v1) (v0 := v0) (u := a * 4294967296 + c) rfl h3 (Nat.mod_lt _ (by omega)) hc
    rwa [← hvd] at this
  have eqm : ∀ a : Nat, a / v1 * v1 + a % v1 = a := fun a => by rw [Nat.mul_comm]; exact Nat.div_add_mod a v1
  have rl : ∀ a : Nat, a % v1 < 4294967296 := fun a => by have := Nat.mod_lt a (show 0 < v1 by omega); omega
  have F1 := quo1 un (by omega)
  have F2 := rem1 un (by omega)
  have F3 := back un u1 hunv u1b
  obtain ⟨Q1, hQ1⟩ : ∃ x, (un * 4294967296 + u1) / v = x := ⟨_, rfl⟩
  obtain ⟨r1, hr1⟩ : ∃ x, (un * 4294967296 + u1) % v = x := ⟨_, rfl⟩
  have hr1v : r1 < v := by rw [← hr1]; exact Nat.mod_lt _ (by omega)
  have F4 := quo1 r1 (by omega)
  have F5 := rem1 r1 (by omega)
  have F6 := back r1 u0 hr1v u0b
  have hQ1l := qs un u1 hunv u1b
  rw [hQ1] at F3 hQ1l
  rw [hr1] at F3
  obtain ⟨Q0, hQ0⟩ : ∃ x, (r1 * 4294967296 + u0) / v = x := ⟨_, rfl⟩
  obtain ⟨r0, hr0⟩ : ∃ x, (r1 * 4294967296 + u0) % v = x := ⟨_, rfl⟩
  have hQ0l := qs r1 u0 hr1v u0b
  rw [hQ0] at F6 hQ0l
  rw [hr0] at F6
  have F7 : IntKind.u64.wrap (IntKind.u64.wrap ((Q1 : Int) * 4294967296) + (Q0 : Int)) = ((Q1 * 4294967296 + Q0 : Nat) : Int) := by simp only [wrap_u64]; omega
  have F8 : (r0 : Int).fdiv (p : Int) = ((r0 / p : Nat) : Int) := by rw [← pw, fdiv_pow, hp]
  have hN : (hi * 18446744073709551616 + lo) * p = (un * 4294967296 + u1) * 4294967296 + u0 := by
    have e1 : lo * p = lo / g * 18446744073709551616 + u10 := by
      have e2 : lo / g = lo * p / 18446744073709551616 := by rw [← hpg, Nat.mul_comm p g, Nat.mul_div_mul_right _ _ hp0]
      rw [e2, ← hu10, Nat.mul_comm (lo * p / 18446744073709551616)]; exact (Nat.div_add_mod _ _).symm
    rw [Nat.add_mul, e1, ← hun, Nat.add_mul, Nat.mul_right_comm]
    omega
  obtain ⟨e1, e2⟩ := two_steps (v := v) (by omega) hN
  rw [hr1, hQ1, hQ0] at e1
  rw [hr1, hr0] at e2
  rw [← hv, Nat.mul_div_mul_right _ _ hp0] at e1
  rw [← hv, Nat.mul_mod_mul_right] at e2
  have e3 : r0 / p = (hi * 18446744073709551616 + lo) % y := by rw [← e2, Nat.mul_div_cancel _ hp0]
  repeat (first | simp only [go_sem, ↓reduceIte, Nat.reduceEqDiff, Nat.reduceAdd, Nat.reduceSub, Nat.reduceMul, Nat.reduceLeDiff, Nat.reduceBEq, reduceCtorEq, Nat.reduceEqDiff, Int.reduceEq, Int.reduceLT, Int.reduceLE, Int.reduceNeg, Int.reduceBEq, Int.reduceBNe, Int.reduceToNat, Int.reducePow, y0, hle, hz', decide_false, k1, k2, hm, hm2, hm3, pw, k3, k4, k5, k6, k7, k8, k9, k10, k11, k12, k13, z1, F1, F2, Int.toNat_natCast] | refine callK_plain t1 (fun _ => rfl) ?_ | refine g_math_bits_Div64_code_sh.mpr ?_ | refine g_math_bits_Div64_c12_sh.mpr ?_ | refine g_math_bits_Div64_c13_sh.mpr ?_ | refine g_math_bits_Div64_c14_sh.mpr ?_ | refine g_math_bits_Div64_c15_sh.mpr ?_ | refine g_math_bits_Div64_c16_sh.mpr ?_ | refine g_math_bits_Div64_c17_sh.mpr ?_ | refine g_math_bits_Div64_c18_sh.mpr ?_ | refine g_math_bits_Div64_c19_sh.mpr ?_ | refine g_math_bits_Div64_c11_sh.mpr ?_)
  refine div_loop0 hvd v1a v1b v0b hunv u1b (fun t t2 t8 t9 t10 t11 t13 t14 tq => ?_) 4294967296 (un / v1) (un % v1) (by omega) (rl un) (eqm un) (ge un u1 hunv u1b) _ rfl rfl rfl rfl rfl rfl rfl rfl rfl
  rw [hQ1] at tq
  repeat (first | simp only [go_sem, ↓reduceIte, Nat.reduceEqDiff, Nat.reduceAdd, Nat.reduceSub, Nat.reduceMul, Nat.reduceLeDiff, Nat.reduceBEq, reduceCtorEq, Nat.reduceEqDiff, Int.reduceEq, Int.reduceLT, Int.reduceLE, Int.reduceNeg, Int.reduceBEq, Int.reduceBNe, Int.reduceToNat, Int.reducePow, t2, t8, t9, t10, t11, t13, t14, tq, F3, z1, F4, F5] | refine g_math_bits_Div64_c10_sh.mpr ?_ | refine g_math_bits_Div64_c9_sh.mpr ?_ | refine g_math_bits_Div64_c8_sh.mpr ?_ | refine g_math_bits_Div64_c7_sh.mpr ?_)
  refine div_loop1 hvd v1a v1b v0b hr1v u0b (fun t t2 t8 t9 t10 t14 t15 t17 tq => ?_) 4294967296 (r1 / v1) (r1 % v1) (by omega) (rl r1) (eqm r1) (ge r1 u0 hr1v u0b) _ rfl rfl rfl rfl rfl rfl rfl rfl rfl
  rw [hQ0] at tq
  repeat (first | simp only [go_sem, ↓reduceIte, Nat.reduceEqDiff, Nat.reduceAdd, Nat.reduceSub, Nat.reduceMul, Nat.reduceLeDiff, Nat.reduceBEq, reduceCtorEq, Nat.reduceEqDiff, Int.reduceEq, Int.reduceLT, Int.reduceLE, Int.reduceNeg, Int.reduceBEq, Int.reduceBNe, Int.reduceToNat, Int.reducePow, t2, t8, t14, t15, t17, tq, F6, F7, k2, hm, pw, F8, Int.toNat_natCast] | refine g_math_bits_Div64_c6_sh.mpr ?_)
  refine hR _ ?_
  simp only [go_sem, ↓reduceIte, Nat.reduceEqDiff, Nat.reduceAdd, Nat.reduceSub, Nat.reduceMul, Nat.reduceLeDiff, Nat.reduceBEq, reduceCtorEq, Nat.reduceEqDiff, Int.reduceEq, Int.reduceLT, Int.reduceLE, Int.reduceNeg, Int.reduceBEq, Int.reduceBNe, Int.reduceToNat, Int.reducePow, e1, e3]
end Pay
