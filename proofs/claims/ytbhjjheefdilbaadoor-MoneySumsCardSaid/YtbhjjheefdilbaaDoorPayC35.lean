/- The laws of amounts: what the program tells. -/
import Derived.Test.YtbhjjheefdilbaaDoorPayC34
import Derived.Test.YtbhjjheefdilbaaDoorPaySh0
import Derived.Test.YtbhjjheefdilbaaDoorPaySh1
set_option linter.unusedSimpArgs false
set_option linter.unusedVariables false
namespace Pay
open Go
attribute [local irreducible] wpB opsB treeB drawB

theorem textR_neg5 : textR (-5) = [45, 48, 46, 48, 53] := by
  rw [textR, if_pos (by decide), show (-5 : Int).natAbs = 5 by rfl, textN_eq, dec_one (by decide)]; decide
theorem textR_1234 : textR 1234 = [49, 50, 46, 51, 52] := by
  rw [textR, if_neg (by decide), show (1234 : Int).toNat = 1234 by rfl, textN_eq, dec_step (by decide), dec_one (by decide)]; decide
theorem awakeM {C : Ctx} (h : okFn C.P C.φ 49 g_law01_awake = true) (hAdd : ∀ a b, SoundAt C 63 ⟨[vI a, vI b], looko []⟩ ⟨vIE (addS a b), looko []⟩)
    (hText : ∀ n, SoundAt C 50 ⟨[vI n], looko []⟩ ⟨vSE (textS n), looko []⟩) (hParse : ∀ s : List UInt8, s.length < 100000 → SoundAt C 51 ⟨[vS s], looko []⟩ ⟨vIB (parseS s), looko []⟩) :
    SoundAt C 49 ⟨[], looko []⟩ ⟨vB true, looko []⟩ := by
  have e1 : textS (-5) = ([45, 48, 46, 48, 53], 0) := by rw [textS_eq (by decide) (by decide), textR_neg5]
  have e2 : parseS [49, 50, 46, 51, 52] = (1234, true) := by rw [← textR_1234]; exact parseS_text (by decide) (by decide)
  have e3 : addS 9223372036854775807 1 = (0, 3) := by simp [addS, addC, w64', IntKind.wrap_i64]
  have t1 := hText (-5)
  have t2 := hParse [49, 50, 46, 51, 52] (by decide)
  have t3 := hAdd 9223372036854775807 1
  rw [e1] at t1
  rw [e2] at t2
  rw [e3] at t3
  refine SoundAt.of_run h rfl (fun Q hR hN => ?_)
  rw [entry0]
  repeat (first | simp only [go_sem, ↓reduceIte, Nat.reduceEqDiff, Nat.reduceAdd, Nat.reduceSub, Nat.reduceMul, Nat.reduceLeDiff, Nat.reduceBEq, reduceCtorEq, Nat.reduceEqDiff, Int.reduceEq, Int.reduceLT, Int.reduceLE, Int.reduceNeg, Int.reduceBEq, Int.reduceBNe, Int.reduceToNat, Int.reducePow] | refine g_law01_awake_o7_sh.mpr ?_ | refine g_law01_awake_o6_sh.mpr ?_ | refine g_law01_awake_o5_sh.mpr ?_ | refine g_law01_awake_o4_sh.mpr ?_ | refine g_law01_awake_o3_sh.mpr ?_ | refine g_law01_awake_o2_sh.mpr ?_ | refine g_law01_awake_o1_sh.mpr ?_ | refine g_law01_awake_o0_sh.mpr ?_ | refine g_law01_awake_c0_sh.mpr ?_ | refine g_law01_awake_c1_sh.mpr ?_ | refine g_law01_awake_c2_sh.mpr ?_ | refine g_law01_awake_c3_sh.mpr ?_ | refine g_law01_awake_code_sh.mpr ?_ | refine callK_plain t1 (fun _ => rfl) ?_ | refine callK_plain t2 (fun _ => rfl) ?_ | refine callK_plain t3 (fun _ => rfl) ?_ | refine hR _ ?_)

structure MonK (C : Ctx) : Prop where
  right : ∀ n, SoundAt C 58 ⟨[vI n], looko []⟩ ⟨vB (amt n), looko []⟩
  add : ∀ a b, SoundAt C 63 ⟨[vI a, vI b], looko []⟩ ⟨vIE (addS a b), looko []⟩
  neg : ∀ a, SoundAt C 57 ⟨[vI a], looko []⟩ ⟨vIE (negS a), looko []⟩
  sub : ∀ a b, SoundAt C 65 ⟨[vI a, vI b], looko []⟩ ⟨vIE (subS a b), looko []⟩
  sum : ∀ l : List Int, l.length < 9223372036854775807 → SoundAt C 60 ⟨[vInts l], looko []⟩ ⟨vIE (sumFrom 0 l), looko []⟩
  text : ∀ n, SoundAt C 50 ⟨[vI n], looko []⟩ ⟨vSE (textS n), looko []⟩
  parse : ∀ s : List UInt8, s.length < 100000 → SoundAt C 51 ⟨[vS s], looko []⟩ ⟨vIB (parseS s), looko []⟩
  rRight : ∀ n, SoundAt C 53 ⟨[vI n], looko []⟩ ⟨vB (rightR n), looko []⟩
  rAdd : ∀ a b, SoundAt C 67 ⟨[vI a, vI b], looko []⟩ ⟨vIB (addR a b), looko []⟩
  rText : ∀ n : Int, -9223372036854775808 < n → n < 9223372036854775808 → SoundAt C 54 ⟨[vI n], looko []⟩ ⟨vS (textR n), looko []⟩
  rParse : ∀ s : List UInt8, s.length < 100000 → SoundAt C 52 ⟨[vS s], looko []⟩ ⟨vIB (parseR s), looko []⟩
  awake : SoundAt C 49 ⟨[], looko []⟩ ⟨vB true, looko []⟩

theorem textR_len {n : Int} (h0 : -9223372036854775808 < n) (h1 : n < 9223372036854775808) : (textR n).length < 100000 := by
  unfold textR
  split
  · have := textN_len n.natAbs (by omega)
    simp only [List.length_cons]; omega
  · have := textN_len n.toNat (by omega); omega
theorem lawTexts {C : Ctx} (h : okFn C.P C.φ 48 g_law01_MoneyTexts = true) (K : MonK C) (n : Int) (h0 : -9223372036854775808 ≤ n) (h1 : n < 9223372036854775808) (s : List UInt8) :
    SoundAt C 48 ⟨[vI n, vS s], looko []⟩ ⟨vB true, looko []⟩ := by
  refine SoundAt.of_run h rfl (fun Q hR hN => ?_)
  rw [entry2]
  by_cases hl : ((s.length : Int) > 60)
  · repeat (first | simp only [go_sem, ↓reduceIte, Nat.reduceEqDiff, Nat.reduceAdd, Nat.reduceSub, Nat.reduceMul, Nat.reduceLeDiff, Nat.reduceBEq, reduceCtorEq, Nat.reduceEqDiff, Int.reduceEq, Int.reduceLT, Int.reduceLE, Int.reduceNeg, Int.reduceBEq, Int.reduceBNe, Int.reduceToNat, Int.reducePow, hl, decide_true] | refine g_law01_MoneyTexts_o7_sh.mpr ?_ | refine g_law01_MoneyTexts_o6_sh.mpr ?_ | refine g_law01_MoneyTexts_o5_sh.mpr ?_ | refine g_law01_MoneyTexts_o4_sh.mpr ?_ | refine g_law01_MoneyTexts_o3_sh.mpr ?_ | refine g_law01_MoneyTexts_o2_sh.mpr ?_ | refine g_law01_MoneyTexts_o1_sh.mpr ?_ | refine g_law01_MoneyTexts_o0_sh.mpr ?_ | refine g_law01_MoneyTexts_c0_sh.mpr ?_ | refine g_law01_MoneyTexts_o11_sh.mpr ?_ | refine g_law01_MoneyTexts_o10_sh.mpr ?_ | refine g_law01_MoneyTexts_o9_sh.mpr ?_ | refine g_law01_MoneyTexts_o8_sh.mpr ?_ | refine g_law01_MoneyTexts_c1_sh.mpr ?_ | refine g_law01_MoneyTexts_o19_sh.mpr ?_ | refine g_law01_MoneyTexts_o18_sh.mpr ?_ | refine g_law01_MoneyTexts_o17_sh.mpr ?_ | refine g_law01_MoneyTexts_o16_sh.mpr ?_ | refine g_law01_MoneyTexts_o15_sh.mpr ?_ | refine g_law01_MoneyTexts_o14_sh.mpr ?_ | refine g_law01_MoneyTexts_o13_sh.mpr ?_ | refine g_law01_MoneyTexts_o12_sh.mpr ?_ | refine g_law01_MoneyTexts_c2_sh.mpr ?_ | refine g_law01_MoneyTexts_c3_sh.mpr ?_ | refine g_law01_MoneyTexts_c4_sh.mpr ?_ | refine g_law01_MoneyTexts_c5_sh.mpr ?_ | refine g_law01_MoneyTexts_c6_sh.mpr ?_ | refine g_law01_MoneyTexts_c7_sh.mpr ?_ | refine g_law01_MoneyTexts_c8_sh.mpr ?_ | refine g_law01_MoneyTexts_c9_sh.mpr ?_ | refine g_law01_MoneyTexts_code_sh.mpr ?_ | refine callK_plain K.awake (fun _ => rfl) ?_ | refine hR _ ?_)
  have hl' : s.length < 100000 := by omega
  obtain ⟨p1, p2, p3⟩ := parse_same s
  have tP := K.parse s hl'
  have tR := K.rParse s hl'
  obtain ⟨k, ok, hp⟩ : ∃ k ok, parseS s = (k, ok) := ⟨_, _, rfl⟩
  obtain ⟨x, is, hr⟩ : ∃ x is, parseR s = (x, is) := ⟨_, _, rfl⟩
  rw [hp, hr] at p1
  rw [hp, hr] at p2
  rw [hp, hr] at p3
  rw [hp] at tP
  rw [hr] at tR
  simp only at p1 p2 p3
  subst p1
  by_cases hn : n = -9223372036854775808
  · subst hn
    have e1 : textS (-9223372036854775808) = ([], 3) := by rfl
    have e2 : rightR (-9223372036854775808) = false := by rfl
    have t1 := K.text (-9223372036854775808)
    have t2 := K.rRight (-9223372036854775808)
    rw [e1] at t1
    rw [e2] at t2
    cases ok
    · have hk := p3 rfl
      subst hk
      repeat (first | simp only [go_sem, ↓reduceIte, Nat.reduceEqDiff, Nat.reduceAdd, Nat.reduceSub, Nat.reduceMul, Nat.reduceLeDiff, Nat.reduceBEq, reduceCtorEq, Nat.reduceEqDiff, Int.reduceEq, Int.reduceLT, Int.reduceLE, Int.reduceNeg, Int.reduceBEq, Int.reduceBNe, Int.reduceToNat, Int.reducePow, hl, decide_false, bne_self_eq_false, ite_self] | refine g_law01_MoneyTexts_o7_sh.mpr ?_ | refine g_law01_MoneyTexts_o6_sh.mpr ?_ | refine g_law01_MoneyTexts_o5_sh.mpr ?_ | refine g_law01_MoneyTexts_o4_sh.mpr ?_ | refine g_law01_MoneyTexts_o3_sh.mpr ?_ | refine g_law01_MoneyTexts_o2_sh.mpr ?_ | refine g_law01_MoneyTexts_o1_sh.mpr ?_ | refine g_law01_MoneyTexts_o0_sh.mpr ?_ | refine g_law01_MoneyTexts_c0_sh.mpr ?_ | refine g_law01_MoneyTexts_o11_sh.mpr ?_ | refine g_law01_MoneyTexts_o10_sh.mpr ?_ | refine g_law01_MoneyTexts_o9_sh.mpr ?_ | refine g_law01_MoneyTexts_o8_sh.mpr ?_ | refine g_law01_MoneyTexts_c1_sh.mpr ?_ | refine g_law01_MoneyTexts_o19_sh.mpr ?_ | refine g_law01_MoneyTexts_o18_sh.mpr ?_ | refine g_law01_MoneyTexts_o17_sh.mpr ?_ | refine g_law01_MoneyTexts_o16_sh.mpr ?_ | refine g_law01_MoneyTexts_o15_sh.mpr ?_ | refine g_law01_MoneyTexts_o14_sh.mpr ?_ | refine g_law01_MoneyTexts_o13_sh.mpr ?_ | refine g_law01_MoneyTexts_o12_sh.mpr ?_ | refine g_law01_MoneyTexts_c2_sh.mpr ?_ | refine g_law01_MoneyTexts_c3_sh.mpr ?_ | refine g_law01_MoneyTexts_c4_sh.mpr ?_ | refine g_law01_MoneyTexts_c5_sh.mpr ?_ | refine g_law01_MoneyTexts_c6_sh.mpr ?_ | refine g_law01_MoneyTexts_c7_sh.mpr ?_ | refine g_law01_MoneyTexts_c8_sh.mpr ?_ | refine g_law01_MoneyTexts_c9_sh.mpr ?_ | refine g_law01_MoneyTexts_code_sh.mpr ?_ | refine callK_plain K.awake (fun _ => rfl) ?_ | refine callK_plain t1 (fun _ => rfl) ?_ | refine callK_plain t2 (fun _ => rfl) ?_ | refine callK_plain tP (fun _ => rfl) ?_ | refine callK_plain tR (fun _ => rfl) ?_ | refine hR _ ?_ | split)
    · have hk := p2 rfl
      subst hk
      repeat (first | simp only [go_sem, ↓reduceIte, Nat.reduceEqDiff, Nat.reduceAdd, Nat.reduceSub, Nat.reduceMul, Nat.reduceLeDiff, Nat.reduceBEq, reduceCtorEq, Nat.reduceEqDiff, Int.reduceEq, Int.reduceLT, Int.reduceLE, Int.reduceNeg, Int.reduceBEq, Int.reduceBNe, Int.reduceToNat, Int.reducePow, hl, decide_false, bne_self_eq_false] | refine g_law01_MoneyTexts_o7_sh.mpr ?_ | refine g_law01_MoneyTexts_o6_sh.mpr ?_ | refine g_law01_MoneyTexts_o5_sh.mpr ?_ | refine g_law01_MoneyTexts_o4_sh.mpr ?_ | refine g_law01_MoneyTexts_o3_sh.mpr ?_ | refine g_law01_MoneyTexts_o2_sh.mpr ?_ | refine g_law01_MoneyTexts_o1_sh.mpr ?_ | refine g_law01_MoneyTexts_o0_sh.mpr ?_ | refine g_law01_MoneyTexts_c0_sh.mpr ?_ | refine g_law01_MoneyTexts_o11_sh.mpr ?_ | refine g_law01_MoneyTexts_o10_sh.mpr ?_ | refine g_law01_MoneyTexts_o9_sh.mpr ?_ | refine g_law01_MoneyTexts_o8_sh.mpr ?_ | refine g_law01_MoneyTexts_c1_sh.mpr ?_ | refine g_law01_MoneyTexts_o19_sh.mpr ?_ | refine g_law01_MoneyTexts_o18_sh.mpr ?_ | refine g_law01_MoneyTexts_o17_sh.mpr ?_ | refine g_law01_MoneyTexts_o16_sh.mpr ?_ | refine g_law01_MoneyTexts_o15_sh.mpr ?_ | refine g_law01_MoneyTexts_o14_sh.mpr ?_ | refine g_law01_MoneyTexts_o13_sh.mpr ?_ | refine g_law01_MoneyTexts_o12_sh.mpr ?_ | refine g_law01_MoneyTexts_c2_sh.mpr ?_ | refine g_law01_MoneyTexts_c3_sh.mpr ?_ | refine g_law01_MoneyTexts_c4_sh.mpr ?_ | refine g_law01_MoneyTexts_c5_sh.mpr ?_ | refine g_law01_MoneyTexts_c6_sh.mpr ?_ | refine g_law01_MoneyTexts_c7_sh.mpr ?_ | refine g_law01_MoneyTexts_c8_sh.mpr ?_ | refine g_law01_MoneyTexts_c9_sh.mpr ?_ | refine g_law01_MoneyTexts_code_sh.mpr ?_ | refine callK_plain K.awake (fun _ => rfl) ?_ | refine callK_plain t1 (fun _ => rfl) ?_ | refine callK_plain t2 (fun _ => rfl) ?_ | refine callK_plain tP (fun _ => rfl) ?_ | refine callK_plain tR (fun _ => rfl) ?_ | refine hR _ ?_)
  · have ha : amt n = true := decide_eq_true (by omega)
    have e1 : textS n = (textR n, 0) := textS_eq ha h1
    have e2 : rightR n = true := by simp [rightR, hn]
    have t1 := K.text n
    have t2 := K.rRight n
    rw [e1] at t1
    rw [e2] at t2
    have t3 := K.parse (textR n) (textR_len (by omega) h1)
    rw [parseS_text (by omega) (by omega)] at t3
    have t4 := K.rText n (by omega) h1
    cases ok
    · have hk := p3 rfl
      subst hk
      repeat' (first | simp only [go_sem, ↓reduceIte, Nat.reduceEqDiff, Nat.reduceAdd, Nat.reduceSub, Nat.reduceMul, Nat.reduceLeDiff, Nat.reduceBEq, reduceCtorEq, Nat.reduceEqDiff, Int.reduceEq, Int.reduceLT, Int.reduceLE, Int.reduceNeg, Int.reduceBEq, Int.reduceBNe, Int.reduceToNat, Int.reducePow, hl, decide_false, bne_self_eq_false] | refine g_law01_MoneyTexts_o7_sh.mpr ?_ | refine g_law01_MoneyTexts_o6_sh.mpr ?_ | refine g_law01_MoneyTexts_o5_sh.mpr ?_ | refine g_law01_MoneyTexts_o4_sh.mpr ?_ | refine g_law01_MoneyTexts_o3_sh.mpr ?_ | refine g_law01_MoneyTexts_o2_sh.mpr ?_ | refine g_law01_MoneyTexts_o1_sh.mpr ?_ | refine g_law01_MoneyTexts_o0_sh.mpr ?_ | refine g_law01_MoneyTexts_c0_sh.mpr ?_ | refine g_law01_MoneyTexts_o11_sh.mpr ?_ | refine g_law01_MoneyTexts_o10_sh.mpr ?_ | refine g_law01_MoneyTexts_o9_sh.mpr ?_ | refine g_law01_MoneyTexts_o8_sh.mpr ?_ | refine g_law01_MoneyTexts_c1_sh.mpr ?_ | refine g_law01_MoneyTexts_o19_sh.mpr ?_ | refine g_law01_MoneyTexts_o18_sh.mpr ?_ | refine g_law01_MoneyTexts_o17_sh.mpr ?_ | refine g_law01_MoneyTexts_o16_sh.mpr ?_ | refine g_law01_MoneyTexts_o15_sh.mpr ?_ | refine g_law01_MoneyTexts_o14_sh.mpr ?_ | refine g_law01_MoneyTexts_o13_sh.mpr ?_ | refine g_law01_MoneyTexts_o12_sh.mpr ?_ | refine g_law01_MoneyTexts_c2_sh.mpr ?_ | refine g_law01_MoneyTexts_c3_sh.mpr ?_ | refine g_law01_MoneyTexts_c4_sh.mpr ?_ | refine g_law01_MoneyTexts_c5_sh.mpr ?_ | refine g_law01_MoneyTexts_c6_sh.mpr ?_ | refine g_law01_MoneyTexts_c7_sh.mpr ?_ | refine g_law01_MoneyTexts_c8_sh.mpr ?_ | refine g_law01_MoneyTexts_c9_sh.mpr ?_ | refine g_law01_MoneyTexts_code_sh.mpr ?_ | refine callK_plain K.awake (fun _ => rfl) ?_ | refine callK_plain t1 (fun _ => rfl) ?_ | refine callK_plain t2 (fun _ => rfl) ?_ | refine callK_plain tP (fun _ => rfl) ?_ | refine callK_plain tR (fun _ => rfl) ?_ | refine callK_plain t3 (fun _ => rfl) ?_ | refine callK_plain t4 (fun _ => rfl) ?_ | refine hR _ ?_ | split)
    · have hk := p2 rfl
      subst hk
      repeat' (first | simp only [go_sem, ↓reduceIte, Nat.reduceEqDiff, Nat.reduceAdd, Nat.reduceSub, Nat.reduceMul, Nat.reduceLeDiff, Nat.reduceBEq, reduceCtorEq, Nat.reduceEqDiff, Int.reduceEq, Int.reduceLT, Int.reduceLE, Int.reduceNeg, Int.reduceBEq, Int.reduceBNe, Int.reduceToNat, Int.reducePow, hl, decide_false, bne_self_eq_false] | refine g_law01_MoneyTexts_o7_sh.mpr ?_ | refine g_law01_MoneyTexts_o6_sh.mpr ?_ | refine g_law01_MoneyTexts_o5_sh.mpr ?_ | refine g_law01_MoneyTexts_o4_sh.mpr ?_ | refine g_law01_MoneyTexts_o3_sh.mpr ?_ | refine g_law01_MoneyTexts_o2_sh.mpr ?_ | refine g_law01_MoneyTexts_o1_sh.mpr ?_ | refine g_law01_MoneyTexts_o0_sh.mpr ?_ | refine g_law01_MoneyTexts_c0_sh.mpr ?_ | refine g_law01_MoneyTexts_o11_sh.mpr ?_ | refine g_law01_MoneyTexts_o10_sh.mpr ?_ | refine g_law01_MoneyTexts_o9_sh.mpr ?_ | refine g_law01_MoneyTexts_o8_sh.mpr ?_ | refine g_law01_MoneyTexts_c1_sh.mpr ?_ | refine g_law01_MoneyTexts_o19_sh.mpr ?_ | refine g_law01_MoneyTexts_o18_sh.mpr ?_ | refine g_law01_MoneyTexts_o17_sh.mpr ?_ | refine g_law01_MoneyTexts_o16_sh.mpr ?_ | refine g_law01_MoneyTexts_o15_sh.mpr ?_ | refine g_law01_MoneyTexts_o14_sh.mpr ?_ | refine g_law01_MoneyTexts_o13_sh.mpr ?_ | refine g_law01_MoneyTexts_o12_sh.mpr ?_ | refine g_law01_MoneyTexts_c2_sh.mpr ?_ | refine g_law01_MoneyTexts_c3_sh.mpr ?_ | refine g_law01_MoneyTexts_c4_sh.mpr ?_ | refine g_law01_MoneyTexts_c5_sh.mpr ?_ | refine g_law01_MoneyTexts_c6_sh.mpr ?_ | refine g_law01_MoneyTexts_c7_sh.mpr ?_ | refine g_law01_MoneyTexts_c8_sh.mpr ?_ | refine g_law01_MoneyTexts_c9_sh.mpr ?_ | refine g_law01_MoneyTexts_code_sh.mpr ?_ | refine callK_plain K.awake (fun _ => rfl) ?_ | refine callK_plain t1 (fun _ => rfl) ?_ | refine callK_plain t2 (fun _ => rfl) ?_ | refine callK_plain tP (fun _ => rfl) ?_ | refine callK_plain tR (fun _ => rfl) ?_ | refine callK_plain t3 (fun _ => rfl) ?_ | refine callK_plain t4 (fun _ => rfl) ?_ | refine hR _ ?_ | split)
end Pay
