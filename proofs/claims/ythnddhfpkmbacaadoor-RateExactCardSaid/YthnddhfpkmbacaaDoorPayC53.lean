/- Contracts: a product, divided; parts of amounts. -/
import Derived.Test.YthnddhfpkmbacaaDoorPayC36
import Derived.Test.YthnddhfpkmbacaaDoorPayC42
import Derived.Test.YthnddhfpkmbacaaDoorPayC52
import Derived.Test.YthnddhfpkmbacaaDoorPaySh0
set_option linter.unusedSimpArgs false
set_option linter.unusedVariables false
namespace Pay
open Go
attribute [local irreducible] wpB opsB treeB drawB
theorem wideSize {C : Ctx} (h : okFn C.P C.φ 112 g_wide_size = true) (n : Int) (hn : i64 n) : SoundAt C 112 ⟨[vI n], looko []⟩ ⟨vU n.natAbs, looko []⟩ := by
  unfold i64 at hn
  refine SoundAt.of_run h rfl (fun Q hR hN => ?_)
  rw [entry1]
  by_cases h0 : n < 0
  · have e : IntKind.u64.wrap (0 - IntKind.u64.wrap n) = (n.natAbs : Int) := by simp only [wrap_u64]; omega
    repeat' (first | simp only [go_sem, ↓reduceIte, Nat.reduceEqDiff, Nat.reduceAdd, Nat.reduceSub, Nat.reduceMul, Nat.reduceLeDiff, Nat.reduceBEq, reduceCtorEq, Nat.reduceEqDiff, Int.reduceEq, Int.reduceLT, Int.reduceLE, Int.reduceNeg, Int.reduceBEq, Int.reduceBNe, Int.reduceToNat, Int.reducePow, h0, decide_true, e] | refine g_wide_size_c0_sh.mpr ?_ | refine g_wide_size_code_sh.mpr ?_ | refine hR _ ?_ | split)
  · have e : IntKind.u64.wrap n = (n.natAbs : Int) := by simp only [wrap_u64]; omega
    repeat' (first | simp only [go_sem, ↓reduceIte, Nat.reduceEqDiff, Nat.reduceAdd, Nat.reduceSub, Nat.reduceMul, Nat.reduceLeDiff, Nat.reduceBEq, reduceCtorEq, Nat.reduceEqDiff, Int.reduceEq, Int.reduceLT, Int.reduceLE, Int.reduceNeg, Int.reduceBEq, Int.reduceBNe, Int.reduceToNat, Int.reducePow, h0, decide_false, e] | refine g_wide_size_c0_sh.mpr ?_ | refine g_wide_size_code_sh.mpr ?_ | refine hR _ ?_ | split)
/-- Is one more asked for? -/
def upS (mode : Int) (q left c : Nat) : Bool :=
  if mode = 0 then false else if mode = 1 then decide (0 < left) else if c - left < left then true else if left < c - left ∨ left = 0 then false else mode == 2 || q % 2 == 1
theorem wideUp {C : Ctx} (h : okFn C.P C.φ 115 g_wide_up = true) (mode : Int) (q left c : Nat) (hl : left < c) (hc : c < 18446744073709551616) :
    SoundAt C 115 ⟨[vI mode, vU q, vU left, vU c], looko []⟩ ⟨vB (upS mode q left c), looko []⟩ := by
  have w1 : IntKind.u64.wrap ((c : Int) - (left : Int)) = ((c - left : Nat) : Int) := by rw [wrapU (by omega) (by omega)]; omega
  refine SoundAt.of_run h rfl (fun Q hR hN => ?_)
  rw [entry4]
  by_cases m0 : mode = 0
  · have e : upS mode q left c = false := by rw [upS, if_pos m0]
    have m0' : (mode == 0) = true := by rw [beq_iff_eq]; exact m0
    repeat' (first | simp only [go_sem, ↓reduceIte, Nat.reduceEqDiff, Nat.reduceAdd, Nat.reduceSub, Nat.reduceMul, Nat.reduceLeDiff, Nat.reduceBEq, reduceCtorEq, Nat.reduceEqDiff, Int.reduceEq, Int.reduceLT, Int.reduceLE, Int.reduceNeg, Int.reduceBEq, Int.reduceBNe, Int.reduceToNat, Int.reducePow, m0', e] | refine g_wide_up_o1_sh.mpr ?_ | refine g_wide_up_o0_sh.mpr ?_ | refine g_wide_up_c0_sh.mpr ?_ | refine g_wide_up_o3_sh.mpr ?_ | refine g_wide_up_o2_sh.mpr ?_ | refine g_wide_up_c1_sh.mpr ?_ | refine g_wide_up_c2_sh.mpr ?_ | refine g_wide_up_c3_sh.mpr ?_ | refine g_wide_up_c4_sh.mpr ?_ | refine g_wide_up_code_sh.mpr ?_ | refine hR _ ?_ | split)
  have m0' : (mode == 0) = false := by rw [beq_eq_false_iff_ne]; exact m0
  by_cases m1 : mode = 1
  · have e : upS mode q left c = decide ((left : Int) > 0) := by
      rw [upS, if_neg m0, if_pos m1]
      have : (0 < left) ↔ ((left : Int) > 0) := by omega
      simp only [this]
    have m1' : (mode == 1) = true := by rw [beq_iff_eq]; exact m1
    repeat' (first | simp only [go_sem, ↓reduceIte, Nat.reduceEqDiff, Nat.reduceAdd, Nat.reduceSub, Nat.reduceMul, Nat.reduceLeDiff, Nat.reduceBEq, reduceCtorEq, Nat.reduceEqDiff, Int.reduceEq, Int.reduceLT, Int.reduceLE, Int.reduceNeg, Int.reduceBEq, Int.reduceBNe, Int.reduceToNat, Int.reducePow, m0', m1', e] | refine g_wide_up_o1_sh.mpr ?_ | refine g_wide_up_o0_sh.mpr ?_ | refine g_wide_up_c0_sh.mpr ?_ | refine g_wide_up_o3_sh.mpr ?_ | refine g_wide_up_o2_sh.mpr ?_ | refine g_wide_up_c1_sh.mpr ?_ | refine g_wide_up_c2_sh.mpr ?_ | refine g_wide_up_c3_sh.mpr ?_ | refine g_wide_up_c4_sh.mpr ?_ | refine g_wide_up_code_sh.mpr ?_ | refine hR _ ?_ | split)
  have m1' : (mode == 1) = false := by rw [beq_eq_false_iff_ne]; exact m1
  by_cases h1 : c - left < left
  · have e : upS mode q left c = true := by rw [upS, if_neg m0, if_neg m1, if_pos h1]
    have h1' : ((left : Int) > ((c - left : Nat) : Int)) := by omega
    repeat' (first | simp only [go_sem, ↓reduceIte, Nat.reduceEqDiff, Nat.reduceAdd, Nat.reduceSub, Nat.reduceMul, Nat.reduceLeDiff, Nat.reduceBEq, reduceCtorEq, Nat.reduceEqDiff, Int.reduceEq, Int.reduceLT, Int.reduceLE, Int.reduceNeg, Int.reduceBEq, Int.reduceBNe, Int.reduceToNat, Int.reducePow, m0', m1', w1, h1', decide_true, e] | refine g_wide_up_o1_sh.mpr ?_ | refine g_wide_up_o0_sh.mpr ?_ | refine g_wide_up_c0_sh.mpr ?_ | refine g_wide_up_o3_sh.mpr ?_ | refine g_wide_up_o2_sh.mpr ?_ | refine g_wide_up_c1_sh.mpr ?_ | refine g_wide_up_c2_sh.mpr ?_ | refine g_wide_up_c3_sh.mpr ?_ | refine g_wide_up_c4_sh.mpr ?_ | refine g_wide_up_code_sh.mpr ?_ | refine hR _ ?_ | split)
  have h1' : ¬ ((left : Int) > ((c - left : Nat) : Int)) := by omega
  by_cases h2 : left < c - left ∨ left = 0
  · have e : upS mode q left c = false := by rw [upS, if_neg m0, if_neg m1, if_neg h1, if_pos h2]
    rcases h2 with h2 | h2
    · have h2' : ((left : Int) < ((c - left : Nat) : Int)) := by omega
      repeat' (first | simp only [go_sem, ↓reduceIte, Nat.reduceEqDiff, Nat.reduceAdd, Nat.reduceSub, Nat.reduceMul, Nat.reduceLeDiff, Nat.reduceBEq, reduceCtorEq, Nat.reduceEqDiff, Int.reduceEq, Int.reduceLT, Int.reduceLE, Int.reduceNeg, Int.reduceBEq, Int.reduceBNe, Int.reduceToNat, Int.reducePow, m0', m1', w1, h1', h2', decide_true, decide_false, e] | refine g_wide_up_o1_sh.mpr ?_ | refine g_wide_up_o0_sh.mpr ?_ | refine g_wide_up_c0_sh.mpr ?_ | refine g_wide_up_o3_sh.mpr ?_ | refine g_wide_up_o2_sh.mpr ?_ | refine g_wide_up_c1_sh.mpr ?_ | refine g_wide_up_c2_sh.mpr ?_ | refine g_wide_up_c3_sh.mpr ?_ | refine g_wide_up_c4_sh.mpr ?_ | refine g_wide_up_code_sh.mpr ?_ | refine hR _ ?_ | split)
    · have h2' : ((left : Int) < ((c - left : Nat) : Int)) := by omega
      repeat' (first | simp only [go_sem, ↓reduceIte, Nat.reduceEqDiff, Nat.reduceAdd, Nat.reduceSub, Nat.reduceMul, Nat.reduceLeDiff, Nat.reduceBEq, reduceCtorEq, Nat.reduceEqDiff, Int.reduceEq, Int.reduceLT, Int.reduceLE, Int.reduceNeg, Int.reduceBEq, Int.reduceBNe, Int.reduceToNat, Int.reducePow, m0', m1', w1, h1', h2', decide_true, decide_false, e] | refine g_wide_up_o1_sh.mpr ?_ | refine g_wide_up_o0_sh.mpr ?_ | refine g_wide_up_c0_sh.mpr ?_ | refine g_wide_up_o3_sh.mpr ?_ | refine g_wide_up_o2_sh.mpr ?_ | refine g_wide_up_c1_sh.mpr ?_ | refine g_wide_up_c2_sh.mpr ?_ | refine g_wide_up_c3_sh.mpr ?_ | refine g_wide_up_c4_sh.mpr ?_ | refine g_wide_up_code_sh.mpr ?_ | refine hR _ ?_ | split)
  have e : upS mode q left c = (mode == 2 || q % 2 == 1) := by rw [upS, if_neg m0, if_neg m1, if_neg h1, if_neg h2]
  have h2' : ¬ ((left : Int) < ((c - left : Nat) : Int)) := by omega
  have h3' : ((left : Int) == 0) = false := by rw [beq_eq_false_iff_ne]; omega
  have z : ¬ ((2 : Int) = 0) := by decide
  have e3 : (((q : Int).tmod 2) == 1) = (q % 2 == 1) := by
    rw [show (2 : Int) = ((2 : Nat) : Int) from rfl, tmod_nat, Bool.eq_iff_iff, beq_iff_eq, beq_iff_eq]; omega
  cases m2 : mode == 2
  · repeat' (first | simp only [go_sem, ↓reduceIte, Nat.reduceEqDiff, Nat.reduceAdd, Nat.reduceSub, Nat.reduceMul, Nat.reduceLeDiff, Nat.reduceBEq, reduceCtorEq, Nat.reduceEqDiff, Int.reduceEq, Int.reduceLT, Int.reduceLE, Int.reduceNeg, Int.reduceBEq, Int.reduceBNe, Int.reduceToNat, Int.reducePow, m0', m1', w1, h1', h2', h3', decide_true, decide_false, m2, z, e, e3] | refine g_wide_up_o1_sh.mpr ?_ | refine g_wide_up_o0_sh.mpr ?_ | refine g_wide_up_c0_sh.mpr ?_ | refine g_wide_up_o3_sh.mpr ?_ | refine g_wide_up_o2_sh.mpr ?_ | refine g_wide_up_c1_sh.mpr ?_ | refine g_wide_up_c2_sh.mpr ?_ | refine g_wide_up_c3_sh.mpr ?_ | refine g_wide_up_c4_sh.mpr ?_ | refine g_wide_up_code_sh.mpr ?_ | refine hR _ ?_ | split)
  · repeat' (first | simp only [go_sem, ↓reduceIte, Nat.reduceEqDiff, Nat.reduceAdd, Nat.reduceSub, Nat.reduceMul, Nat.reduceLeDiff, Nat.reduceBEq, reduceCtorEq, Nat.reduceEqDiff, Int.reduceEq, Int.reduceLT, Int.reduceLE, Int.reduceNeg, Int.reduceBEq, Int.reduceBNe, Int.reduceToNat, Int.reducePow, m0', m1', w1, h1', h2', h3', decide_true, decide_false, m2, z, e, e3] | refine g_wide_up_o1_sh.mpr ?_ | refine g_wide_up_o0_sh.mpr ?_ | refine g_wide_up_c0_sh.mpr ?_ | refine g_wide_up_o3_sh.mpr ?_ | refine g_wide_up_o2_sh.mpr ?_ | refine g_wide_up_c1_sh.mpr ?_ | refine g_wide_up_c2_sh.mpr ?_ | refine g_wide_up_c3_sh.mpr ?_ | refine g_wide_up_c4_sh.mpr ?_ | refine g_wide_up_code_sh.mpr ?_ | refine hR _ ?_ | split)
/-- The quotient, rounded. -/
def rq (mode : Int) (A K : Nat) : Nat := A / K + (if upS mode (A / K) (A % K) K = true then 1 else 0)
def minusS (a b c : Int) : Bool := (decide (a < 0) != decide (b < 0)) != decide (c < 0)
def mulDivN (a b c mode : Int) : Int × Int :=
  if a.natAbs * b.natAbs / c.natAbs ≤ 9223372036854775807 ∧ rq mode (a.natAbs * b.natAbs) c.natAbs ≤ 9223372036854775807 then
    (if minusS a b c = true then -(rq mode (a.natAbs * b.natAbs) c.natAbs : Int) else rq mode (a.natAbs * b.natAbs) c.natAbs, 0)
  else (0, 3)
def mulDivS (a b c mode : Int) : Int × Int :=
  if mode < 0 ∨ mode > 3 then (0, 1) else if amt a = false ∨ amt b = false ∨ amt c = false then (0, 3) else if c = 0 then (0, 4) else mulDivN a b c mode
structure WideK (C : Ctx) : Prop where
  right : ∀ n, SoundAt C 58 ⟨[vI n], looko []⟩ ⟨vB (amt n), looko []⟩
  mul : ∀ x y : Nat, x < 18446744073709551616 → y < 18446744073709551616 → SoundAt C 113 ⟨[vU x, vU y], looko []⟩ ⟨.tup [vU (x * y / 18446744073709551616), vU (x * y % 18446744073709551616)], looko []⟩
  div : ∀ hi lo y : Nat, hi < y → y < 18446744073709551616 → lo < 18446744073709551616 → SoundAt C 114 ⟨[vU hi, vU lo, vU y], looko []⟩ ⟨.tup [vU ((hi * 18446744073709551616 + lo) / y), vU ((hi * 18446744073709551616 + lo) % y)], looko []⟩
  size : ∀ n, i64 n → SoundAt C 112 ⟨[vI n], looko []⟩ ⟨vU n.natAbs, looko []⟩
  up : ∀ (mode : Int) (q left c : Nat), left < c → c < 18446744073709551616 → SoundAt C 115 ⟨[vI mode, vU q, vU left, vU c], looko []⟩ ⟨vB (upS mode q left c), looko []⟩
theorem wideMulDiv {C : Ctx} (h : okFn C.P C.φ 99 g_wide_MulDiv = true) (W : WideK C) (a b c mode : Int) (ha : i64 a) (hb : i64 b) (hc : i64 c) :
    SoundAt C 99 ⟨[vI a, vI b, vI c, vI mode], looko []⟩ ⟨vIE (mulDivS a b c mode), looko []⟩ := by
  have ra := W.right a
  have rb := W.right b
  have rc := W.right c
  refine SoundAt.of_run h rfl (fun Q hR hN => ?_)
  rw [entry4]
  by_cases m0 : mode < 0
  · have e : mulDivS a b c mode = (0, 1) := by rw [mulDivS, if_pos (.inl m0)]
    repeat' (first | simp only [go_sem, ↓reduceIte, Nat.reduceEqDiff, Nat.reduceAdd, Nat.reduceSub, Nat.reduceMul, Nat.reduceLeDiff, Nat.reduceBEq, reduceCtorEq, Nat.reduceEqDiff, Int.reduceEq, Int.reduceLT, Int.reduceLE, Int.reduceNeg, Int.reduceBEq, Int.reduceBNe, Int.reduceToNat, Int.reducePow, m0, decide_true, e] | refine g_wide_MulDiv_o1_sh.mpr ?_ | refine g_wide_MulDiv_o0_sh.mpr ?_ | refine g_wide_MulDiv_o5_sh.mpr ?_ | refine g_wide_MulDiv_o4_sh.mpr ?_ | refine g_wide_MulDiv_o3_sh.mpr ?_ | refine g_wide_MulDiv_o2_sh.mpr ?_ | refine g_wide_MulDiv_c0_sh.mpr ?_ | refine g_wide_MulDiv_c1_sh.mpr ?_ | refine g_wide_MulDiv_o7_sh.mpr ?_ | refine g_wide_MulDiv_o6_sh.mpr ?_ | refine g_wide_MulDiv_c2_sh.mpr ?_ | refine g_wide_MulDiv_c3_sh.mpr ?_ | refine g_wide_MulDiv_c4_sh.mpr ?_ | refine g_wide_MulDiv_c5_sh.mpr ?_ | refine g_wide_MulDiv_c6_sh.mpr ?_ | refine g_wide_MulDiv_c7_sh.mpr ?_ | refine g_wide_MulDiv_c8_sh.mpr ?_ | refine g_wide_MulDiv_c9_sh.mpr ?_ | refine g_wide_MulDiv_code_sh.mpr ?_ | refine hR _ ?_ | split)
  by_cases m3 : mode > 3
  · have e : mulDivS a b c mode = (0, 1) := by rw [mulDivS, if_pos (.inr m3)]
    repeat' (first | simp only [go_sem, ↓reduceIte, Nat.reduceEqDiff, Nat.reduceAdd, Nat.reduceSub, Nat.reduceMul, Nat.reduceLeDiff, Nat.reduceBEq, reduceCtorEq, Nat.reduceEqDiff, Int.reduceEq, Int.reduceLT, Int.reduceLE, Int.reduceNeg, Int.reduceBEq, Int.reduceBNe, Int.reduceToNat, Int.reducePow, m0, m3, decide_true, decide_false, e] | refine g_wide_MulDiv_o1_sh.mpr ?_ | refine g_wide_MulDiv_o0_sh.mpr ?_ | refine g_wide_MulDiv_o5_sh.mpr ?_ | refine g_wide_MulDiv_o4_sh.mpr ?_ | refine g_wide_MulDiv_o3_sh.mpr ?_ | refine g_wide_MulDiv_o2_sh.mpr ?_ | refine g_wide_MulDiv_c0_sh.mpr ?_ | refine g_wide_MulDiv_c1_sh.mpr ?_ | refine g_wide_MulDiv_o7_sh.mpr ?_ | refine g_wide_MulDiv_o6_sh.mpr ?_ | refine g_wide_MulDiv_c2_sh.mpr ?_ | refine g_wide_MulDiv_c3_sh.mpr ?_ | refine g_wide_MulDiv_c4_sh.mpr ?_ | refine g_wide_MulDiv_c5_sh.mpr ?_ | refine g_wide_MulDiv_c6_sh.mpr ?_ | refine g_wide_MulDiv_c7_sh.mpr ?_ | refine g_wide_MulDiv_c8_sh.mpr ?_ | refine g_wide_MulDiv_c9_sh.mpr ?_ | refine g_wide_MulDiv_code_sh.mpr ?_ | refine hR _ ?_ | split)
  cases h1 : amt a with
  | false =>
    have e : mulDivS a b c mode = (0, 3) := by rw [mulDivS, if_neg (by omega), if_pos (.inl h1)]
    rw [h1] at ra
    repeat' (first | simp only [go_sem, ↓reduceIte, Nat.reduceEqDiff, Nat.reduceAdd, Nat.reduceSub, Nat.reduceMul, Nat.reduceLeDiff, Nat.reduceBEq, reduceCtorEq, Nat.reduceEqDiff, Int.reduceEq, Int.reduceLT, Int.reduceLE, Int.reduceNeg, Int.reduceBEq, Int.reduceBNe, Int.reduceToNat, Int.reducePow, m0, m3, decide_false, e] | refine g_wide_MulDiv_o1_sh.mpr ?_ | refine g_wide_MulDiv_o0_sh.mpr ?_ | refine g_wide_MulDiv_o5_sh.mpr ?_ | refine g_wide_MulDiv_o4_sh.mpr ?_ | refine g_wide_MulDiv_o3_sh.mpr ?_ | refine g_wide_MulDiv_o2_sh.mpr ?_ | refine g_wide_MulDiv_c0_sh.mpr ?_ | refine g_wide_MulDiv_c1_sh.mpr ?_ | refine g_wide_MulDiv_o7_sh.mpr ?_ | refine g_wide_MulDiv_o6_sh.mpr ?_ | refine g_wide_MulDiv_c2_sh.mpr ?_ | refine g_wide_MulDiv_c3_sh.mpr ?_ | refine g_wide_MulDiv_c4_sh.mpr ?_ | refine g_wide_MulDiv_c5_sh.mpr ?_ | refine g_wide_MulDiv_c6_sh.mpr ?_ | refine g_wide_MulDiv_c7_sh.mpr ?_ | refine g_wide_MulDiv_c8_sh.mpr ?_ | refine g_wide_MulDiv_c9_sh.mpr ?_ | refine g_wide_MulDiv_code_sh.mpr ?_ | refine callK_plain (ra) (fun _ => rfl) ?_ | refine hR _ ?_ | split)
  | true =>
  cases h2 : amt b with
  | false =>
    have e : mulDivS a b c mode = (0, 3) := by rw [mulDivS, if_neg (by omega), if_pos (.inr (.inl h2))]
    rw [h1] at ra
    rw [h2] at rb
    repeat' (first | simp only [go_sem, ↓reduceIte, Nat.reduceEqDiff, Nat.reduceAdd, Nat.reduceSub, Nat.reduceMul, Nat.reduceLeDiff, Nat.reduceBEq, reduceCtorEq, Nat.reduceEqDiff, Int.reduceEq, Int.reduceLT, Int.reduceLE, Int.reduceNeg, Int.reduceBEq, Int.reduceBNe, Int.reduceToNat, Int.reducePow, m0, m3, decide_false, e] | refine g_wide_MulDiv_o1_sh.mpr ?_ | refine g_wide_MulDiv_o0_sh.mpr ?_ | refine g_wide_MulDiv_o5_sh.mpr ?_ | refine g_wide_MulDiv_o4_sh.mpr ?_ | refine g_wide_MulDiv_o3_sh.mpr ?_ | refine g_wide_MulDiv_o2_sh.mpr ?_ | refine g_wide_MulDiv_c0_sh.mpr ?_ | refine g_wide_MulDiv_c1_sh.mpr ?_ | refine g_wide_MulDiv_o7_sh.mpr ?_ | refine g_wide_MulDiv_o6_sh.mpr ?_ | refine g_wide_MulDiv_c2_sh.mpr ?_ | refine g_wide_MulDiv_c3_sh.mpr ?_ | refine g_wide_MulDiv_c4_sh.mpr ?_ | refine g_wide_MulDiv_c5_sh.mpr ?_ | refine g_wide_MulDiv_c6_sh.mpr ?_ | refine g_wide_MulDiv_c7_sh.mpr ?_ | refine g_wide_MulDiv_c8_sh.mpr ?_ | refine g_wide_MulDiv_c9_sh.mpr ?_ | refine g_wide_MulDiv_code_sh.mpr ?_ | refine callK_plain (ra) (fun _ => rfl) ?_ | refine callK_plain (rb) (fun _ => rfl) ?_ | refine hR _ ?_ | split)
  | true =>
  cases h3 : amt c with
  | false =>
    have e : mulDivS a b c mode = (0, 3) := by rw [mulDivS, if_neg (by omega), if_pos (.inr (.inr h3))]
    rw [h1] at ra
    rw [h2] at rb
    rw [h3] at rc
    repeat' (first | simp only [go_sem, ↓reduceIte, Nat.reduceEqDiff, Nat.reduceAdd, Nat.reduceSub, Nat.reduceMul, Nat.reduceLeDiff, Nat.reduceBEq, reduceCtorEq, Nat.reduceEqDiff, Int.reduceEq, Int.reduceLT, Int.reduceLE, Int.reduceNeg, Int.reduceBEq, Int.reduceBNe, Int.reduceToNat, Int.reducePow, m0, m3, decide_false, e] | refine g_wide_MulDiv_o1_sh.mpr ?_ | refine g_wide_MulDiv_o0_sh.mpr ?_ | refine g_wide_MulDiv_o5_sh.mpr ?_ | refine g_wide_MulDiv_o4_sh.mpr ?_ | refine g_wide_MulDiv_o3_sh.mpr ?_ | refine g_wide_MulDiv_o2_sh.mpr ?_ | refine g_wide_MulDiv_c0_sh.mpr ?_ | refine g_wide_MulDiv_c1_sh.mpr ?_ | refine g_wide_MulDiv_o7_sh.mpr ?_ | refine g_wide_MulDiv_o6_sh.mpr ?_ | refine g_wide_MulDiv_c2_sh.mpr ?_ | refine g_wide_MulDiv_c3_sh.mpr ?_ | refine g_wide_MulDiv_c4_sh.mpr ?_ | refine g_wide_MulDiv_c5_sh.mpr ?_ | refine g_wide_MulDiv_c6_sh.mpr ?_ | refine g_wide_MulDiv_c7_sh.mpr ?_ | refine g_wide_MulDiv_c8_sh.mpr ?_ | refine g_wide_MulDiv_c9_sh.mpr ?_ | refine g_wide_MulDiv_code_sh.mpr ?_ | refine callK_plain (ra) (fun _ => rfl) ?_ | refine callK_plain (rb) (fun _ => rfl) ?_ | refine callK_plain (rc) (fun _ => rfl) ?_ | refine hR _ ?_ | split)
  | true =>
  have a1 : -9223372036854775807 ≤ a := by simpa [amt] using h1
  have b1 : -9223372036854775807 ≤ b := by simpa [amt] using h2
  have c1 : -9223372036854775807 ≤ c := by simpa [amt] using h3
  rw [h1] at ra
  rw [h2] at rb
  rw [h3] at rc
  by_cases hz : c = 0
  · have e : mulDivS a b c mode = (0, 4) := by rw [mulDivS, if_neg (by omega), if_neg (by rw [h1, h2, h3]; simp), if_pos hz]
    have hz' : (c == 0) = true := by rw [beq_iff_eq]; exact hz
    repeat' (first | simp only [go_sem, ↓reduceIte, Nat.reduceEqDiff, Nat.reduceAdd, Nat.reduceSub, Nat.reduceMul, Nat.reduceLeDiff, Nat.reduceBEq, reduceCtorEq, Nat.reduceEqDiff, Int.reduceEq, Int.reduceLT, Int.reduceLE, Int.reduceNeg, Int.reduceBEq, Int.reduceBNe, Int.reduceToNat, Int.reducePow, m0, m3, decide_false, e, hz'] | refine g_wide_MulDiv_o1_sh.mpr ?_ | refine g_wide_MulDiv_o0_sh.mpr ?_ | refine g_wide_MulDiv_o5_sh.mpr ?_ | refine g_wide_MulDiv_o4_sh.mpr ?_ | refine g_wide_MulDiv_o3_sh.mpr ?_ | refine g_wide_MulDiv_o2_sh.mpr ?_ | refine g_wide_MulDiv_c0_sh.mpr ?_ | refine g_wide_MulDiv_c1_sh.mpr ?_ | refine g_wide_MulDiv_o7_sh.mpr ?_ | refine g_wide_MulDiv_o6_sh.mpr ?_ | refine g_wide_MulDiv_c2_sh.mpr ?_ | refine g_wide_MulDiv_c3_sh.mpr ?_ | refine g_wide_MulDiv_c4_sh.mpr ?_ | refine g_wide_MulDiv_c5_sh.mpr ?_ | refine g_wide_MulDiv_c6_sh.mpr ?_ | refine g_wide_MulDiv_c7_sh.mpr ?_ | refine g_wide_MulDiv_c8_sh.mpr ?_ | refine g_wide_MulDiv_c9_sh.mpr ?_ | refine g_wide_MulDiv_code_sh.mpr ?_ | refine callK_plain (ra) (fun _ => rfl) ?_ | refine callK_plain (rb) (fun _ => rfl) ?_ | refine callK_plain (rc) (fun _ => rfl) ?_ | refine hR _ ?_ | split)
  have hz' : (c == 0) = false := by rw [beq_eq_false_iff_ne]; exact hz
  have e : mulDivS a b c mode = mulDivN a b c mode := by rw [mulDivS, if_neg (by omega), if_neg (by rw [h1, h2, h3]; simp), if_neg hz]
  unfold i64 at ha hb hc
  have sa := W.size a ha
  have sb := W.size b hb
  have sc := W.size c hc
  obtain ⟨sg, hsg⟩ : ∃ s, minusS a b c = s := ⟨_, rfl⟩
  have hsg' : (!((!(decide (a < 0) == decide (b < 0))) == decide (c < 0))) = sg := hsg
  unfold mulDivN at e
  rw [hsg] at e
  obtain ⟨A, hA⟩ : ∃ A, a.natAbs * b.natAbs = A := ⟨_, rfl⟩
  obtain ⟨K, hK⟩ : ∃ K, c.natAbs = K := ⟨_, rfl⟩
  have hK0 : 0 < K := by omega
  have hK1 : K < 18446744073709551616 := by omega
  have tm := W.mul a.natAbs b.natAbs (by omega) (by omega)
  rw [hA] at tm e
  rw [hK] at sc e
  have hlo : A % 18446744073709551616 < 18446744073709551616 := Nat.mod_lt _ (by decide)
  by_cases hov : K ≤ A / 18446744073709551616
  · have hov' : (((A / 18446744073709551616 : Nat) : Int) ≥ (K : Int)) := by omega
    have hbig : ¬ (A / K ≤ 9223372036854775807) := by
      have h4 : K * 18446744073709551616 ≤ A := by omega
      have h5 : 18446744073709551616 ≤ A / K := by rw [Nat.le_div_iff_mul_le hK0, Nat.mul_comm]; exact h4
      omega
    rw [if_neg (fun h => hbig h.1)] at e
    obtain ⟨hi, hhi⟩ : ∃ x, A / 18446744073709551616 = x := ⟨_, rfl⟩
    obtain ⟨lo, hlo'⟩ : ∃ x, A % 18446744073709551616 = x := ⟨_, rfl⟩
    rw [hhi] at tm hov'
    rw [hlo'] at tm
    repeat' (first | simp only [go_sem, ↓reduceIte, Nat.reduceEqDiff, Nat.reduceAdd, Nat.reduceSub, Nat.reduceMul, Nat.reduceLeDiff, Nat.reduceBEq, reduceCtorEq, Nat.reduceEqDiff, Int.reduceEq, Int.reduceLT, Int.reduceLE, Int.reduceNeg, Int.reduceBEq, Int.reduceBNe, Int.reduceToNat, Int.reducePow, m0, m3, decide_false, decide_true, e, hz', hov'] | refine g_wide_MulDiv_o1_sh.mpr ?_ | refine g_wide_MulDiv_o0_sh.mpr ?_ | refine g_wide_MulDiv_o5_sh.mpr ?_ | refine g_wide_MulDiv_o4_sh.mpr ?_ | refine g_wide_MulDiv_o3_sh.mpr ?_ | refine g_wide_MulDiv_o2_sh.mpr ?_ | refine g_wide_MulDiv_c0_sh.mpr ?_ | refine g_wide_MulDiv_c1_sh.mpr ?_ | refine g_wide_MulDiv_o7_sh.mpr ?_ | refine g_wide_MulDiv_o6_sh.mpr ?_ | refine g_wide_MulDiv_c2_sh.mpr ?_ | refine g_wide_MulDiv_c3_sh.mpr ?_ | refine g_wide_MulDiv_c4_sh.mpr ?_ | refine g_wide_MulDiv_c5_sh.mpr ?_ | refine g_wide_MulDiv_c6_sh.mpr ?_ | refine g_wide_MulDiv_c7_sh.mpr ?_ | refine g_wide_MulDiv_c8_sh.mpr ?_ | refine g_wide_MulDiv_c9_sh.mpr ?_ | refine g_wide_MulDiv_code_sh.mpr ?_ | refine callK_plain (ra) (fun _ => rfl) ?_ | refine callK_plain (rb) (fun _ => rfl) ?_ | refine callK_plain (rc) (fun _ => rfl) ?_ | refine callK_plain (sa) (fun _ => rfl) ?_ | refine callK_plain (sb) (fun _ => rfl) ?_ | refine callK_plain (sc) (fun _ => rfl) ?_ | refine callK_plain (tm) (fun _ => rfl) ?_ | refine hR _ ?_ | split)
  have hov' : ¬ (((A / 18446744073709551616 : Nat) : Int) ≥ (K : Int)) := by omega
  have td := W.div (A / 18446744073709551616) (A % 18446744073709551616) K (by omega) hK1 hlo
  rw [show A / 18446744073709551616 * 18446744073709551616 + A % 18446744073709551616 = A by omega] at td
  have hl : A % K < K := Nat.mod_lt _ hK0
  have tu := W.up mode (A / K) (A % K) K hl hK1
  have hq : rq mode A K = A / K + (if upS mode (A / K) (A % K) K = true then 1 else 0) := rfl
  have hq64 : A / K < 18446744073709551616 := by
    rw [Nat.div_lt_iff_lt_mul hK0]
    have : A / 18446744073709551616 + 1 ≤ K := by omega
    have := Nat.mul_le_mul_right 18446744073709551616 this
    rw [Nat.mul_comm 18446744073709551616 K]
    omega
  obtain ⟨u, hu⟩ : ∃ u, upS mode (A / K) (A % K) K = u := ⟨_, rfl⟩
  rw [hu] at tu hq
  obtain ⟨hi, hhi⟩ : ∃ x, A / 18446744073709551616 = x := ⟨_, rfl⟩
  obtain ⟨lo, hlo'⟩ : ∃ x, A % 18446744073709551616 = x := ⟨_, rfl⟩
  obtain ⟨q, hq'⟩ : ∃ x, A / K = x := ⟨_, rfl⟩
  obtain ⟨l, hl'⟩ : ∃ x, A % K = x := ⟨_, rfl⟩
  rw [hhi, hlo', hq', hl'] at td
  rw [hhi] at tm hov'
  rw [hlo'] at tm
  rw [hq', hl'] at tu
  rw [hq'] at hq hq64 e
  by_cases hqm : q ≤ 9223372036854775807
  · have hqm' : ((q : Int) ≤ 9223372036854775807) := by omega
    have conv : ∀ n : Nat, n ≤ 9223372036854775807 → IntKind.i64.wrap (n : Int) = (n : Int) := fun n hn => wrapI (by omega) (by omega)
    have neg : ∀ n : Nat, n ≤ 9223372036854775807 → IntKind.i64.wrap (0 - (n : Int)) = -(n : Int) := fun n hn => by rw [wrapI (by omega) (by omega)]; omega
    cases u with
    | false =>
      rw [if_neg (by simp), Nat.add_zero] at hq
      rw [hq, if_pos ⟨hqm, hqm⟩] at e
      have hgt : ¬ ((q : Int) > 9223372036854775807) := by omega
      cases sg
      · repeat' (first | simp only [go_sem, ↓reduceIte, Nat.reduceEqDiff, Nat.reduceAdd, Nat.reduceSub, Nat.reduceMul, Nat.reduceLeDiff, Nat.reduceBEq, reduceCtorEq, Nat.reduceEqDiff, Int.reduceEq, Int.reduceLT, Int.reduceLE, Int.reduceNeg, Int.reduceBEq, Int.reduceBNe, Int.reduceToNat, Int.reducePow, m0, m3, decide_false, decide_true, e, hz', hov', hqm', hgt, conv q hqm, neg q hqm, hsg'] | refine g_wide_MulDiv_o1_sh.mpr ?_ | refine g_wide_MulDiv_o0_sh.mpr ?_ | refine g_wide_MulDiv_o5_sh.mpr ?_ | refine g_wide_MulDiv_o4_sh.mpr ?_ | refine g_wide_MulDiv_o3_sh.mpr ?_ | refine g_wide_MulDiv_o2_sh.mpr ?_ | refine g_wide_MulDiv_c0_sh.mpr ?_ | refine g_wide_MulDiv_c1_sh.mpr ?_ | refine g_wide_MulDiv_o7_sh.mpr ?_ | refine g_wide_MulDiv_o6_sh.mpr ?_ | refine g_wide_MulDiv_c2_sh.mpr ?_ | refine g_wide_MulDiv_c3_sh.mpr ?_ | refine g_wide_MulDiv_c4_sh.mpr ?_ | refine g_wide_MulDiv_c5_sh.mpr ?_ | refine g_wide_MulDiv_c6_sh.mpr ?_ | refine g_wide_MulDiv_c7_sh.mpr ?_ | refine g_wide_MulDiv_c8_sh.mpr ?_ | refine g_wide_MulDiv_c9_sh.mpr ?_ | refine g_wide_MulDiv_code_sh.mpr ?_ | refine callK_plain (ra) (fun _ => rfl) ?_ | refine callK_plain (rb) (fun _ => rfl) ?_ | refine callK_plain (rc) (fun _ => rfl) ?_ | refine callK_plain (sa) (fun _ => rfl) ?_ | refine callK_plain (sb) (fun _ => rfl) ?_ | refine callK_plain (sc) (fun _ => rfl) ?_ | refine callK_plain (tm) (fun _ => rfl) ?_ | refine callK_plain (td) (fun _ => rfl) ?_ | refine callK_plain (tu) (fun _ => rfl) ?_ | refine hR _ ?_ | split)
      · repeat' (first | simp only [go_sem, ↓reduceIte, Nat.reduceEqDiff, Nat.reduceAdd, Nat.reduceSub, Nat.reduceMul, Nat.reduceLeDiff, Nat.reduceBEq, reduceCtorEq, Nat.reduceEqDiff, Int.reduceEq, Int.reduceLT, Int.reduceLE, Int.reduceNeg, Int.reduceBEq, Int.reduceBNe, Int.reduceToNat, Int.reducePow, m0, m3, decide_false, decide_true, e, hz', hov', hqm', hgt, conv q hqm, neg q hqm, hsg'] | refine g_wide_MulDiv_o1_sh.mpr ?_ | refine g_wide_MulDiv_o0_sh.mpr ?_ | refine g_wide_MulDiv_o5_sh.mpr ?_ | refine g_wide_MulDiv_o4_sh.mpr ?_ | refine g_wide_MulDiv_o3_sh.mpr ?_ | refine g_wide_MulDiv_o2_sh.mpr ?_ | refine g_wide_MulDiv_c0_sh.mpr ?_ | refine g_wide_MulDiv_c1_sh.mpr ?_ | refine g_wide_MulDiv_o7_sh.mpr ?_ | refine g_wide_MulDiv_o6_sh.mpr ?_ | refine g_wide_MulDiv_c2_sh.mpr ?_ | refine g_wide_MulDiv_c3_sh.mpr ?_ | refine g_wide_MulDiv_c4_sh.mpr ?_ | refine g_wide_MulDiv_c5_sh.mpr ?_ | refine g_wide_MulDiv_c6_sh.mpr ?_ | refine g_wide_MulDiv_c7_sh.mpr ?_ | refine g_wide_MulDiv_c8_sh.mpr ?_ | refine g_wide_MulDiv_c9_sh.mpr ?_ | refine g_wide_MulDiv_code_sh.mpr ?_ | refine callK_plain (ra) (fun _ => rfl) ?_ | refine callK_plain (rb) (fun _ => rfl) ?_ | refine callK_plain (rc) (fun _ => rfl) ?_ | refine callK_plain (sa) (fun _ => rfl) ?_ | refine callK_plain (sb) (fun _ => rfl) ?_ | refine callK_plain (sc) (fun _ => rfl) ?_ | refine callK_plain (tm) (fun _ => rfl) ?_ | refine callK_plain (td) (fun _ => rfl) ?_ | refine callK_plain (tu) (fun _ => rfl) ?_ | refine hR _ ?_ | split)
    | true =>
      rw [if_pos rfl] at hq
      have hw : IntKind.u64.wrap ((q : Int) + 1) = ((q + 1 : Nat) : Int) := by rw [wrapU (by omega) (by omega)]; omega
      rw [hq] at e
      by_cases hq1 : q + 1 ≤ 9223372036854775807
      · rw [if_pos ⟨hqm, hq1⟩] at e
        have hgt : ¬ (((q + 1 : Nat) : Int) > 9223372036854775807) := by omega
        obtain ⟨q1, hq1'⟩ : ∃ x, q + 1 = x := ⟨_, rfl⟩
        rw [hq1'] at e hw hgt hq1
        cases sg
        · repeat' (first | simp only [go_sem, ↓reduceIte, Nat.reduceEqDiff, Nat.reduceAdd, Nat.reduceSub, Nat.reduceMul, Nat.reduceLeDiff, Nat.reduceBEq, reduceCtorEq, Nat.reduceEqDiff, Int.reduceEq, Int.reduceLT, Int.reduceLE, Int.reduceNeg, Int.reduceBEq, Int.reduceBNe, Int.reduceToNat, Int.reducePow, m0, m3, decide_false, decide_true, e, hz', hov', hqm', hgt, hw, conv q1 hq1, neg q1 hq1, hsg'] | refine g_wide_MulDiv_o1_sh.mpr ?_ | refine g_wide_MulDiv_o0_sh.mpr ?_ | refine g_wide_MulDiv_o5_sh.mpr ?_ | refine g_wide_MulDiv_o4_sh.mpr ?_ | refine g_wide_MulDiv_o3_sh.mpr ?_ | refine g_wide_MulDiv_o2_sh.mpr ?_ | refine g_wide_MulDiv_c0_sh.mpr ?_ | refine g_wide_MulDiv_c1_sh.mpr ?_ | refine g_wide_MulDiv_o7_sh.mpr ?_ | refine g_wide_MulDiv_o6_sh.mpr ?_ | refine g_wide_MulDiv_c2_sh.mpr ?_ | refine g_wide_MulDiv_c3_sh.mpr ?_ | refine g_wide_MulDiv_c4_sh.mpr ?_ | refine g_wide_MulDiv_c5_sh.mpr ?_ | refine g_wide_MulDiv_c6_sh.mpr ?_ | refine g_wide_MulDiv_c7_sh.mpr ?_ | refine g_wide_MulDiv_c8_sh.mpr ?_ | refine g_wide_MulDiv_c9_sh.mpr ?_ | refine g_wide_MulDiv_code_sh.mpr ?_ | refine callK_plain (ra) (fun _ => rfl) ?_ | refine callK_plain (rb) (fun _ => rfl) ?_ | refine callK_plain (rc) (fun _ => rfl) ?_ | refine callK_plain (sa) (fun _ => rfl) ?_ | refine callK_plain (sb) (fun _ => rfl) ?_ | refine callK_plain (sc) (fun _ => rfl) ?_ | refine callK_plain (tm) (fun _ => rfl) ?_ | refine callK_plain (td) (fun _ => rfl) ?_ | refine callK_plain (tu) (fun _ => rfl) ?_ | refine hR _ ?_ | split)
        · repeat' (first | simp only [go_sem, ↓reduceIte, Nat.reduceEqDiff, Nat.reduceAdd, Nat.reduceSub, Nat.reduceMul, Nat.reduceLeDiff, Nat.reduceBEq, reduceCtorEq, Nat.reduceEqDiff, Int.reduceEq, Int.reduceLT, Int.reduceLE, Int.reduceNeg, Int.reduceBEq, Int.reduceBNe, Int.reduceToNat, Int.reducePow, m0, m3, decide_false, decide_true, e, hz', hov', hqm', hgt, hw, conv q1 hq1, neg q1 hq1, hsg'] | refine g_wide_MulDiv_o1_sh.mpr ?_ | refine g_wide_MulDiv_o0_sh.mpr ?_ | refine g_wide_MulDiv_o5_sh.mpr ?_ | refine g_wide_MulDiv_o4_sh.mpr ?_ | refine g_wide_MulDiv_o3_sh.mpr ?_ | refine g_wide_MulDiv_o2_sh.mpr ?_ | refine g_wide_MulDiv_c0_sh.mpr ?_ | refine g_wide_MulDiv_c1_sh.mpr ?_ | refine g_wide_MulDiv_o7_sh.mpr ?_ | refine g_wide_MulDiv_o6_sh.mpr ?_ | refine g_wide_MulDiv_c2_sh.mpr ?_ | refine g_wide_MulDiv_c3_sh.mpr ?_ | refine g_wide_MulDiv_c4_sh.mpr ?_ | refine g_wide_MulDiv_c5_sh.mpr ?_ | refine g_wide_MulDiv_c6_sh.mpr ?_ | refine g_wide_MulDiv_c7_sh.mpr ?_ | refine g_wide_MulDiv_c8_sh.mpr ?_ | refine g_wide_MulDiv_c9_sh.mpr ?_ | refine g_wide_MulDiv_code_sh.mpr ?_ | refine callK_plain (ra) (fun _ => rfl) ?_ | refine callK_plain (rb) (fun _ => rfl) ?_ | refine callK_plain (rc) (fun _ => rfl) ?_ | refine callK_plain (sa) (fun _ => rfl) ?_ | refine callK_plain (sb) (fun _ => rfl) ?_ | refine callK_plain (sc) (fun _ => rfl) ?_ | refine callK_plain (tm) (fun _ => rfl) ?_ | refine callK_plain (td) (fun _ => rfl) ?_ | refine callK_plain (tu) (fun _ => rfl) ?_ | refine hR _ ?_ | split)
      · rw [if_neg (fun h => hq1 h.2)] at e
        have hgt : (((q + 1 : Nat) : Int) > 9223372036854775807) := by omega
        obtain ⟨q1, hq1'⟩ : ∃ x, q + 1 = x := ⟨_, rfl⟩
        rw [hq1'] at hw hgt
        repeat' (first | simp only [go_sem, ↓reduceIte, Nat.reduceEqDiff, Nat.reduceAdd, Nat.reduceSub, Nat.reduceMul, Nat.reduceLeDiff, Nat.reduceBEq, reduceCtorEq, Nat.reduceEqDiff, Int.reduceEq, Int.reduceLT, Int.reduceLE, Int.reduceNeg, Int.reduceBEq, Int.reduceBNe, Int.reduceToNat, Int.reducePow, m0, m3, decide_false, decide_true, e, hz', hov', hqm', hgt, hw] | refine g_wide_MulDiv_o1_sh.mpr ?_ | refine g_wide_MulDiv_o0_sh.mpr ?_ | refine g_wide_MulDiv_o5_sh.mpr ?_ | refine g_wide_MulDiv_o4_sh.mpr ?_ | refine g_wide_MulDiv_o3_sh.mpr ?_ | refine g_wide_MulDiv_o2_sh.mpr ?_ | refine g_wide_MulDiv_c0_sh.mpr ?_ | refine g_wide_MulDiv_c1_sh.mpr ?_ | refine g_wide_MulDiv_o7_sh.mpr ?_ | refine g_wide_MulDiv_o6_sh.mpr ?_ | refine g_wide_MulDiv_c2_sh.mpr ?_ | refine g_wide_MulDiv_c3_sh.mpr ?_ | refine g_wide_MulDiv_c4_sh.mpr ?_ | refine g_wide_MulDiv_c5_sh.mpr ?_ | refine g_wide_MulDiv_c6_sh.mpr ?_ | refine g_wide_MulDiv_c7_sh.mpr ?_ | refine g_wide_MulDiv_c8_sh.mpr ?_ | refine g_wide_MulDiv_c9_sh.mpr ?_ | refine g_wide_MulDiv_code_sh.mpr ?_ | refine callK_plain (ra) (fun _ => rfl) ?_ | refine callK_plain (rb) (fun _ => rfl) ?_ | refine callK_plain (rc) (fun _ => rfl) ?_ | refine callK_plain (sa) (fun _ => rfl) ?_ | refine callK_plain (sb) (fun _ => rfl) ?_ | refine callK_plain (sc) (fun _ => rfl) ?_ | refine callK_plain (tm) (fun _ => rfl) ?_ | refine callK_plain (td) (fun _ => rfl) ?_ | refine callK_plain (tu) (fun _ => rfl) ?_ | refine hR _ ?_ | split)
  · have hqm' : ¬ ((q : Int) ≤ 9223372036854775807) := by omega
    have hgt : ((q : Int) > 9223372036854775807) := by omega
    rw [if_neg (fun h => hqm h.1)] at e
    repeat' (first | simp only [go_sem, ↓reduceIte, Nat.reduceEqDiff, Nat.reduceAdd, Nat.reduceSub, Nat.reduceMul, Nat.reduceLeDiff, Nat.reduceBEq, reduceCtorEq, Nat.reduceEqDiff, Int.reduceEq, Int.reduceLT, Int.reduceLE, Int.reduceNeg, Int.reduceBEq, Int.reduceBNe, Int.reduceToNat, Int.reducePow, m0, m3, decide_false, decide_true, e, hz', hov', hqm', hgt] | refine g_wide_MulDiv_o1_sh.mpr ?_ | refine g_wide_MulDiv_o0_sh.mpr ?_ | refine g_wide_MulDiv_o5_sh.mpr ?_ | refine g_wide_MulDiv_o4_sh.mpr ?_ | refine g_wide_MulDiv_o3_sh.mpr ?_ | refine g_wide_MulDiv_o2_sh.mpr ?_ | refine g_wide_MulDiv_c0_sh.mpr ?_ | refine g_wide_MulDiv_c1_sh.mpr ?_ | refine g_wide_MulDiv_o7_sh.mpr ?_ | refine g_wide_MulDiv_o6_sh.mpr ?_ | refine g_wide_MulDiv_c2_sh.mpr ?_ | refine g_wide_MulDiv_c3_sh.mpr ?_ | refine g_wide_MulDiv_c4_sh.mpr ?_ | refine g_wide_MulDiv_c5_sh.mpr ?_ | refine g_wide_MulDiv_c6_sh.mpr ?_ | refine g_wide_MulDiv_c7_sh.mpr ?_ | refine g_wide_MulDiv_c8_sh.mpr ?_ | refine g_wide_MulDiv_c9_sh.mpr ?_ | refine g_wide_MulDiv_code_sh.mpr ?_ | refine callK_plain (ra) (fun _ => rfl) ?_ | refine callK_plain (rb) (fun _ => rfl) ?_ | refine callK_plain (rc) (fun _ => rfl) ?_ | refine callK_plain (sa) (fun _ => rfl) ?_ | refine callK_plain (sb) (fun _ => rfl) ?_ | refine callK_plain (sc) (fun _ => rfl) ?_ | refine callK_plain (tm) (fun _ => rfl) ?_ | refine callK_plain (td) (fun _ => rfl) ?_ | refine hR _ ?_ | split)
def rateOfS (a bps mode : Int) : Int × Int := if rateR bps = true then mulDivS a bps 10000 mode else (0, 1)
def prorateS (a part whole mode : Int) : Int × Int := if whole < 1 ∨ part < 0 ∨ part > whole then (0, 1) else mulDivS a part whole mode
theorem rateOf {C : Ctx} (h : okFn C.P C.φ 82 g_rate_Of = true) (hRt : ∀ n, SoundAt C 88 ⟨[vI n], looko []⟩ ⟨vB (rateR n), looko []⟩)
    (hM : ∀ a b c mode : Int, i64 a → i64 b → i64 c → SoundAt C 99 ⟨[vI a, vI b, vI c, vI mode], looko []⟩ ⟨vIE (mulDivS a b c mode), looko []⟩) (a bps mode : Int) (ha : i64 a) :
    SoundAt C 82 ⟨[vI a, vI bps, vI mode], looko []⟩ ⟨vIE (rateOfS a bps mode), looko []⟩ := by
  have t1 := hRt bps
  refine SoundAt.of_run h rfl (fun Q hR hN => ?_)
  rw [entry3]
  cases h1 : rateR bps with
  | false =>
    rw [h1] at t1
    repeat' (first | simp only [go_sem, ↓reduceIte, Nat.reduceEqDiff, Nat.reduceAdd, Nat.reduceSub, Nat.reduceMul, Nat.reduceLeDiff, Nat.reduceBEq, reduceCtorEq, Nat.reduceEqDiff, Int.reduceEq, Int.reduceLT, Int.reduceLE, Int.reduceNeg, Int.reduceBEq, Int.reduceBNe, Int.reduceToNat, Int.reducePow, rateOfS, h1] | refine g_rate_Of_c0_sh.mpr ?_ | refine g_rate_Of_code_sh.mpr ?_ | refine callK_plain (t1) (fun _ => rfl) ?_ | refine hR _ ?_ | split)
  | true =>
    have hb := rateR_iff.1 h1
    rw [h1] at t1
    have t2 := hM a bps 10000 mode ha (by unfold i64; omega) (by unfold i64; omega)
    repeat' (first | simp only [go_sem, ↓reduceIte, Nat.reduceEqDiff, Nat.reduceAdd, Nat.reduceSub, Nat.reduceMul, Nat.reduceLeDiff, Nat.reduceBEq, reduceCtorEq, Nat.reduceEqDiff, Int.reduceEq, Int.reduceLT, Int.reduceLE, Int.reduceNeg, Int.reduceBEq, Int.reduceBNe, Int.reduceToNat, Int.reducePow, rateOfS, h1] | refine g_rate_Of_c0_sh.mpr ?_ | refine g_rate_Of_code_sh.mpr ?_ | refine callK_plain (t1) (fun _ => rfl) ?_ | refine callK_plain (t2) (fun _ => rfl) ?_ | refine hR _ ?_ | split)
theorem rateProrate {C : Ctx} (h : okFn C.P C.φ 86 g_rate_Prorate = true)
    (hM : ∀ a b c mode : Int, i64 a → i64 b → i64 c → SoundAt C 99 ⟨[vI a, vI b, vI c, vI mode], looko []⟩ ⟨vIE (mulDivS a b c mode), looko []⟩) (a part whole mode : Int) (ha : i64 a) (hp : i64 part) (hw : i64 whole) :
    SoundAt C 86 ⟨[vI a, vI part, vI whole, vI mode], looko []⟩ ⟨vIE (prorateS a part whole mode), looko []⟩ := by
  have t2 := hM a part whole mode ha hp hw
  refine SoundAt.of_run h rfl (fun Q hR hN => ?_)
  rw [entry4]
  by_cases h1 : whole < 1
  · have e : prorateS a part whole mode = (0, 1) := by rw [prorateS, if_pos (.inl h1)]
    repeat' (first | simp only [go_sem, ↓reduceIte, Nat.reduceEqDiff, Nat.reduceAdd, Nat.reduceSub, Nat.reduceMul, Nat.reduceLeDiff, Nat.reduceBEq, reduceCtorEq, Nat.reduceEqDiff, Int.reduceEq, Int.reduceLT, Int.reduceLE, Int.reduceNeg, Int.reduceBEq, Int.reduceBNe, Int.reduceToNat, Int.reducePow, h1, decide_true, e] | refine g_rate_Prorate_o3_sh.mpr ?_ | refine g_rate_Prorate_o2_sh.mpr ?_ | refine g_rate_Prorate_o1_sh.mpr ?_ | refine g_rate_Prorate_o0_sh.mpr ?_ | refine g_rate_Prorate_c0_sh.mpr ?_ | refine g_rate_Prorate_c1_sh.mpr ?_ | refine g_rate_Prorate_code_sh.mpr ?_ | refine hR _ ?_ | split)
  by_cases h2 : part < 0
  · have e : prorateS a part whole mode = (0, 1) := by rw [prorateS, if_pos (.inr (.inl h2))]
    repeat' (first | simp only [go_sem, ↓reduceIte, Nat.reduceEqDiff, Nat.reduceAdd, Nat.reduceSub, Nat.reduceMul, Nat.reduceLeDiff, Nat.reduceBEq, reduceCtorEq, Nat.reduceEqDiff, Int.reduceEq, Int.reduceLT, Int.reduceLE, Int.reduceNeg, Int.reduceBEq, Int.reduceBNe, Int.reduceToNat, Int.reducePow, h1, h2, decide_true, decide_false, e] | refine g_rate_Prorate_o3_sh.mpr ?_ | refine g_rate_Prorate_o2_sh.mpr ?_ | refine g_rate_Prorate_o1_sh.mpr ?_ | refine g_rate_Prorate_o0_sh.mpr ?_ | refine g_rate_Prorate_c0_sh.mpr ?_ | refine g_rate_Prorate_c1_sh.mpr ?_ | refine g_rate_Prorate_code_sh.mpr ?_ | refine hR _ ?_ | split)
  by_cases h3 : part > whole
  · have e : prorateS a part whole mode = (0, 1) := by rw [prorateS, if_pos (.inr (.inr h3))]
    repeat' (first | simp only [go_sem, ↓reduceIte, Nat.reduceEqDiff, Nat.reduceAdd, Nat.reduceSub, Nat.reduceMul, Nat.reduceLeDiff, Nat.reduceBEq, reduceCtorEq, Nat.reduceEqDiff, Int.reduceEq, Int.reduceLT, Int.reduceLE, Int.reduceNeg, Int.reduceBEq, Int.reduceBNe, Int.reduceToNat, Int.reducePow, h1, h2, h3, decide_true, decide_false, e] | refine g_rate_Prorate_o3_sh.mpr ?_ | refine g_rate_Prorate_o2_sh.mpr ?_ | refine g_rate_Prorate_o1_sh.mpr ?_ | refine g_rate_Prorate_o0_sh.mpr ?_ | refine g_rate_Prorate_c0_sh.mpr ?_ | refine g_rate_Prorate_c1_sh.mpr ?_ | refine g_rate_Prorate_code_sh.mpr ?_ | refine hR _ ?_ | split)
  have e : prorateS a part whole mode = mulDivS a part whole mode := by rw [prorateS, if_neg (by omega)]
  repeat' (first | simp only [go_sem, ↓reduceIte, Nat.reduceEqDiff, Nat.reduceAdd, Nat.reduceSub, Nat.reduceMul, Nat.reduceLeDiff, Nat.reduceBEq, reduceCtorEq, Nat.reduceEqDiff, Int.reduceEq, Int.reduceLT, Int.reduceLE, Int.reduceNeg, Int.reduceBEq, Int.reduceBNe, Int.reduceToNat, Int.reducePow, h1, h2, h3, decide_false, e] | refine g_rate_Prorate_o3_sh.mpr ?_ | refine g_rate_Prorate_o2_sh.mpr ?_ | refine g_rate_Prorate_o1_sh.mpr ?_ | refine g_rate_Prorate_o0_sh.mpr ?_ | refine g_rate_Prorate_c0_sh.mpr ?_ | refine g_rate_Prorate_c1_sh.mpr ?_ | refine g_rate_Prorate_code_sh.mpr ?_ | refine callK_plain (t2) (fun _ => rfl) ?_ | refine hR _ ?_ | split)
end Pay
