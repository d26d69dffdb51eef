/- Contracts: the texts of rates, and what is parsed as one; the document's are the same. -/
import Derived.Test.YthnddhfpkmbacaaDoorPayC34
import Derived.Test.YthnddhfpkmbacaaDoorPaySh0
set_option linter.unusedSimpArgs false
set_option linter.unusedVariables false
namespace Pay
open Go
attribute [local irreducible] wpB opsB treeB drawB
def hasSuf (s p : List UInt8) : Bool := decide (p.length ≤ s.length) && (s.drop (s.length - p.length) == p)
def cutSuf (s p : List UInt8) : List UInt8 × Bool := if hasSuf s p = true then (s.take (s.length - p.length), true) else (s, false)
theorem cutSuffix {C : Ctx} (h1 : okFn C.P C.φ 101 g_strings_CutSuffix = true) (h2 : okFn C.P C.φ 122 g_internal_stringslite_CutSuffix = true) (h3 : okFn C.P C.φ 141 g_internal_stringslite_HasSuffix = true) (s p : List UInt8) (hs : s.length < 4611686018427387904) :
    SoundAt C 101 ⟨[vS s, vS p], looko []⟩ ⟨.tup [vS (cutSuf s p).1, vB (cutSuf s p).2], looko []⟩ := by
  have t3 : SoundAt C 141 ⟨[vS s, vS p], looko []⟩ ⟨vB (hasSuf s p), looko []⟩ := by
    refine SoundAt.of_run h3 rfl (fun Q hR hN => ?_)
    rw [entry2]
    by_cases hl : p.length ≤ s.length
    · have hl' : ((s.length : Int) ≥ (p.length : Int)) := by omega
      have hw : IntKind.i64.wrap ((s.length : Int) - (p.length : Int)) = ((s.length - p.length : Nat) : Int) := by rw [wrapI (by omega) (by omega)]; omega
      have e1 : ((s.length - p.length : Nat) : Int) ≤ (s.length : Int) := by omega
      have hd : decide (p.length ≤ s.length) = true := decide_eq_true hl
      repeat' (first | simp only [go_sem, ↓reduceIte, Nat.reduceEqDiff, Nat.reduceAdd, Nat.reduceSub, Nat.reduceMul, Nat.reduceLeDiff, Nat.reduceBEq, reduceCtorEq, Nat.reduceEqDiff, Int.reduceEq, Int.reduceLT, Int.reduceLE, Int.reduceNeg, Int.reduceBEq, Int.reduceBNe, Int.reduceToNat, Int.reducePow, hl', hw, e1, decide_true, Int.natCast_nonneg, Int.toNat_natCast, and_self, if_true, Int.le_refl, List.take_length] | refine g_internal_stringslite_HasSuffix_o1_sh.mpr ?_ | refine g_internal_stringslite_HasSuffix_o0_sh.mpr ?_ | refine g_internal_stringslite_HasSuffix_c0_sh.mpr ?_ | refine g_internal_stringslite_HasSuffix_code_sh.mpr ?_ | refine hR _ ?_ | split)
      all_goals (simp only [hasSuf, hd, Bool.true_and])
    · have hl' : ¬ ((s.length : Int) ≥ (p.length : Int)) := by omega
      have hd : decide (p.length ≤ s.length) = false := decide_eq_false hl
      repeat' (first | simp only [go_sem, ↓reduceIte, Nat.reduceEqDiff, Nat.reduceAdd, Nat.reduceSub, Nat.reduceMul, Nat.reduceLeDiff, Nat.reduceBEq, reduceCtorEq, Nat.reduceEqDiff, Int.reduceEq, Int.reduceLT, Int.reduceLE, Int.reduceNeg, Int.reduceBEq, Int.reduceBNe, Int.reduceToNat, Int.reducePow, hl', decide_false] | refine g_internal_stringslite_HasSuffix_o1_sh.mpr ?_ | refine g_internal_stringslite_HasSuffix_o0_sh.mpr ?_ | refine g_internal_stringslite_HasSuffix_c0_sh.mpr ?_ | refine g_internal_stringslite_HasSuffix_code_sh.mpr ?_ | refine hR _ ?_ | split)
      all_goals (simp only [hasSuf, hd, Bool.false_and])
  have t2 : SoundAt C 122 ⟨[vS s, vS p], looko []⟩ ⟨.tup [vS (cutSuf s p).1, vB (cutSuf s p).2], looko []⟩ := by
    refine SoundAt.of_run h2 rfl (fun Q hR hN => ?_)
    rw [entry2]
    cases hh : hasSuf s p with
    | true =>
      have hl : p.length ≤ s.length := by
        simp only [hasSuf, Bool.and_eq_true, decide_eq_true_eq] at hh; exact hh.1
      have hw : IntKind.i64.wrap ((s.length : Int) - (p.length : Int)) = ((s.length - p.length : Nat) : Int) := by rw [wrapI (by omega) (by omega)]; omega
      have e1 : ((s.length - p.length : Nat) : Int) ≤ (s.length : Int) := by omega
      repeat' (first | simp only [go_sem, ↓reduceIte, Nat.reduceEqDiff, Nat.reduceAdd, Nat.reduceSub, Nat.reduceMul, Nat.reduceLeDiff, Nat.reduceBEq, reduceCtorEq, Nat.reduceEqDiff, Int.reduceEq, Int.reduceLT, Int.reduceLE, Int.reduceNeg, Int.reduceBEq, Int.reduceBNe, Int.reduceToNat, Int.reducePow, hw, e1, Int.natCast_nonneg, Int.toNat_natCast, and_self, if_true, hh, cutSuf] | refine g_internal_stringslite_CutSuffix_c0_sh.mpr ?_ | refine g_internal_stringslite_CutSuffix_code_sh.mpr ?_ | refine callK_plain (t3) (fun _ => rfl) ?_ | refine hR _ ?_ | split)
    | false =>
      repeat' (first | simp only [go_sem, ↓reduceIte, Nat.reduceEqDiff, Nat.reduceAdd, Nat.reduceSub, Nat.reduceMul, Nat.reduceLeDiff, Nat.reduceBEq, reduceCtorEq, Nat.reduceEqDiff, Int.reduceEq, Int.reduceLT, Int.reduceLE, Int.reduceNeg, Int.reduceBEq, Int.reduceBNe, Int.reduceToNat, Int.reducePow, hh, cutSuf] | refine g_internal_stringslite_CutSuffix_c0_sh.mpr ?_ | refine g_internal_stringslite_CutSuffix_code_sh.mpr ?_ | refine callK_plain (t3) (fun _ => rfl) ?_ | refine hR _ ?_ | split)
  refine SoundAt.of_run h1 rfl (fun Q hR hN => ?_)
  rw [entry2]
  repeat' (first | simp only [go_sem, ↓reduceIte, Nat.reduceEqDiff, Nat.reduceAdd, Nat.reduceSub, Nat.reduceMul, Nat.reduceLeDiff, Nat.reduceBEq, reduceCtorEq, Nat.reduceEqDiff, Int.reduceEq, Int.reduceLT, Int.reduceLE, Int.reduceNeg, Int.reduceBEq, Int.reduceBNe, Int.reduceToNat, Int.reducePow] | refine g_strings_CutSuffix_code_sh.mpr ?_ | refine callK_plain (t2) (fun _ => rfl) ?_ | refine hR _ ?_ | split)
def rateR (n : Int) : Bool := decide (n ≥ 0) && decide (n ≤ 10000)
theorem rateR_iff {n : Int} : rateR n = true ↔ 0 ≤ n ∧ n ≤ 10000 := by simp only [rateR, Bool.and_eq_true, decide_eq_true_eq]
theorem rateRight {C : Ctx} (h : okFn C.P C.φ 88 g_rate_Right = true) (n : Int) : SoundAt C 88 ⟨[vI n], looko []⟩ ⟨vB (rateR n), looko []⟩ := by
  refine SoundAt.of_run h rfl (fun Q hR hN => ?_)
  rw [entry1]
  repeat' (first | simp only [go_sem, ↓reduceIte, Nat.reduceEqDiff, Nat.reduceAdd, Nat.reduceSub, Nat.reduceMul, Nat.reduceLeDiff, Nat.reduceBEq, reduceCtorEq, Nat.reduceEqDiff, Int.reduceEq, Int.reduceLT, Int.reduceLE, Int.reduceNeg, Int.reduceBEq, Int.reduceBNe, Int.reduceToNat, Int.reducePow] | refine g_rate_Right_o1_sh.mpr ?_ | refine g_rate_Right_o0_sh.mpr ?_ | refine g_rate_Right_c0_sh.mpr ?_ | refine g_rate_Right_code_sh.mpr ?_ | refine hR _ ?_ | split)
  all_goals (clear hR hN; simp_all only [rateR, decide_true, decide_false, Bool.true_and, Bool.false_and])
def rateTextS (n : Int) : List UInt8 × Int := if rateR n = true then (textR n ++ [37], 0) else ([], 1)
theorem rateText {C : Ctx} (h : okFn C.P C.φ 91 g_rate_Text = true) (hR' : ∀ n, SoundAt C 88 ⟨[vI n], looko []⟩ ⟨vB (rateR n), looko []⟩) (hT : ∀ n, SoundAt C 50 ⟨[vI n], looko []⟩ ⟨vSE (textS n), looko []⟩) (n : Int) :
    SoundAt C 91 ⟨[vI n], looko []⟩ ⟨vSE (rateTextS n), looko []⟩ := by
  refine SoundAt.of_run h rfl (fun Q hR hN => ?_)
  rw [entry1]
  cases hh : rateR n with
  | true =>
    have hb := rateR_iff.1 hh
    have e := textS_eq (n := n) (decide_eq_true (by omega)) (by omega)
    have hl : (textR n).length + 1 ≤ 9223372036854775807 := by
      rw [textR, if_neg (by omega)]
      have := textN_len n.toNat (by omega)
      omega
    repeat' (first | simp only [go_sem, ↓reduceIte, Nat.reduceEqDiff, Nat.reduceAdd, Nat.reduceSub, Nat.reduceMul, Nat.reduceLeDiff, Nat.reduceBEq, reduceCtorEq, Nat.reduceEqDiff, Int.reduceEq, Int.reduceLT, Int.reduceLE, Int.reduceNeg, Int.reduceBEq, Int.reduceBNe, Int.reduceToNat, Int.reducePow, hh, e, rateTextS, hl] | refine g_rate_Text_c0_sh.mpr ?_ | refine g_rate_Text_c1_sh.mpr ?_ | refine g_rate_Text_code_sh.mpr ?_ | refine callK_plain (hR' _) (fun _ => rfl) ?_ | refine callK_plain (hT _) (fun _ => rfl) ?_ | refine hR _ ?_ | split)
  | false =>
    repeat' (first | simp only [go_sem, ↓reduceIte, Nat.reduceEqDiff, Nat.reduceAdd, Nat.reduceSub, Nat.reduceMul, Nat.reduceLeDiff, Nat.reduceBEq, reduceCtorEq, Nat.reduceEqDiff, Int.reduceEq, Int.reduceLT, Int.reduceLE, Int.reduceNeg, Int.reduceBEq, Int.reduceBNe, Int.reduceToNat, Int.reducePow, hh, rateTextS] | refine g_rate_Text_c0_sh.mpr ?_ | refine g_rate_Text_c1_sh.mpr ?_ | refine g_rate_Text_code_sh.mpr ?_ | refine callK_plain (hR' _) (fun _ => rfl) ?_ | refine callK_plain (hT _) (fun _ => rfl) ?_ | refine hR _ ?_ | split)
def rateP (s : List UInt8) : Int × Bool :=
  if (cutSuf s [37]).2 = true ∧ (parseS (cutSuf s [37]).1).2 = true ∧ rateR (parseS (cutSuf s [37]).1).1 = true then ((parseS (cutSuf s [37]).1).1, true) else (0, false)
theorem cutSuf_len (s p : List UInt8) : (cutSuf s p).1.length ≤ s.length := by
  unfold cutSuf
  split
  · simp only [List.length_take]; omega
  · exact Nat.le_refl _
theorem rateParse {C : Ctx} (h : okFn C.P C.φ 92 g_rate_Parse = true) (hC : ∀ s p : List UInt8, s.length < 4611686018427387904 → SoundAt C 101 ⟨[vS s, vS p], looko []⟩ ⟨.tup [vS (cutSuf s p).1, vB (cutSuf s p).2], looko []⟩)
    (hP : ∀ s : List UInt8, s.length < 100000 → SoundAt C 51 ⟨[vS s], looko []⟩ ⟨vIB (parseS s), looko []⟩) (hR' : ∀ n, SoundAt C 88 ⟨[vI n], looko []⟩ ⟨vB (rateR n), looko []⟩) (s : List UInt8) (hs : s.length < 100000) :
    SoundAt C 92 ⟨[vS s], looko []⟩ ⟨vIB (rateP s), looko []⟩ := by
  have hl := cutSuf_len s [37]
  refine SoundAt.of_run h rfl (fun Q hR hN => ?_)
  rw [entry1]
  cases e1 : (cutSuf s [37]).2 <;> cases e2 : (parseS (cutSuf s [37]).1).2 <;> cases e3 : rateR (parseS (cutSuf s [37]).1).1
  all_goals (
    repeat' (first | simp only [go_sem, ↓reduceIte, Nat.reduceEqDiff, Nat.reduceAdd, Nat.reduceSub, Nat.reduceMul, Nat.reduceLeDiff, Nat.reduceBEq, reduceCtorEq, Nat.reduceEqDiff, Int.reduceEq, Int.reduceLT, Int.reduceLE, Int.reduceNeg, Int.reduceBEq, Int.reduceBNe, Int.reduceToNat, Int.reducePow, e1, e2, e3, rateP, and_false, false_and, and_self] | refine g_rate_Parse_o3_sh.mpr ?_ | refine g_rate_Parse_o2_sh.mpr ?_ | refine g_rate_Parse_o1_sh.mpr ?_ | refine g_rate_Parse_o0_sh.mpr ?_ | refine g_rate_Parse_c0_sh.mpr ?_ | refine g_rate_Parse_c1_sh.mpr ?_ | refine g_rate_Parse_c2_sh.mpr ?_ | refine g_rate_Parse_c3_sh.mpr ?_ | refine g_rate_Parse_code_sh.mpr ?_ | refine callK_plain (hC _ _ (by omega)) (fun _ => rfl) ?_ | refine callK_plain (hP _ (by omega)) (fun _ => rfl) ?_ | refine callK_plain (hR' _) (fun _ => rfl) ?_ | refine hR _ ?_ | split))
def refRateT (n : Int) : List UInt8 := textR n ++ [37]
theorem refRateText {C : Ctx} (h : okFn C.P C.φ 94 g_ref03_Text = true) (hT : ∀ n : Int, -9223372036854775808 < n → n < 9223372036854775808 → SoundAt C 54 ⟨[vI n], looko []⟩ ⟨vS (textR n), looko []⟩) (n : Int) (h0 : 0 ≤ n) (h1 : n ≤ 10000) :
    SoundAt C 94 ⟨[vI n], looko []⟩ ⟨vS (refRateT n), looko []⟩ := by
  have hl : (textR n).length + 1 ≤ 9223372036854775807 := by
    rw [textR, if_neg (by omega)]
    have := textN_len n.toNat (by omega)
    omega
  refine SoundAt.of_run h rfl (fun Q hR hN => ?_)
  rw [entry1]
  repeat' (first | simp only [go_sem, ↓reduceIte, Nat.reduceEqDiff, Nat.reduceAdd, Nat.reduceSub, Nat.reduceMul, Nat.reduceLeDiff, Nat.reduceBEq, reduceCtorEq, Nat.reduceEqDiff, Int.reduceEq, Int.reduceLT, Int.reduceLE, Int.reduceNeg, Int.reduceBEq, Int.reduceBNe, Int.reduceToNat, Int.reducePow, hl, refRateT] | refine g_ref03_Text_code_sh.mpr ?_ | refine callK_plain (hT _ (by omega) (by omega)) (fun _ => rfl) ?_ | refine hR _ ?_ | split)
def isRate (s : List UInt8) (n : Nat) : Bool := decide (s.length < 9) && (refRateT n == s)
def refRateP (s : List UInt8) : Int × Bool := match (List.range' 0 10001).find? (isRate s) with | some n => ((n : Int), true) | none => (0, false)
theorem refRate_loop {C : Ctx} (hT : ∀ n : Int, 0 ≤ n → n ≤ 10000 → SoundAt C 94 ⟨[vI n], looko []⟩ ⟨vS (refRateT n), looko []⟩) {I : Nat → Prop} {Q : Ex → St → Prop} {s : List UInt8} {r : Option Nat}
    (hF : r = none → ∀ t, Q (.exit 0) (St.mk t (looko []))) (hY : ∀ n : Nat, r = some n → Q .ret (St.mk (look [(2, vI n), (3, vB true)]) (looko []))) :
    ∀ (m k : Nat), k + m = 10001 → (List.range' k m).find? (isRate s) = r → wpB C I g_ref03_Parse.l0 (St.mk (look [(0, vS s), (4, vI k)]) (looko [])) Q := by
  intro m
  induction m with
  | zero =>
    intro k hk hr
    refine g_ref03_Parse_l0_sh rfl ?_
    have hlt : ¬ ((k : Int) ≤ 10000) := by omega
    simp only [go_sem, ↓reduceIte, Nat.reduceEqDiff, Nat.reduceAdd, Nat.reduceSub, Nat.reduceMul, Nat.reduceLeDiff, Nat.reduceBEq, reduceCtorEq, Nat.reduceEqDiff, Int.reduceEq, Int.reduceLT, Int.reduceLE, Int.reduceNeg, Int.reduceBEq, Int.reduceBNe, Int.reduceToNat, Int.reducePow, hlt, decide_false]
    exact hF hr.symm _
  | succ m ih =>
    intro k hk hr
    refine g_ref03_Parse_l0_sh rfl ?_
    have hlt : ((k : Int) ≤ 10000) := by omega
    have hw : IntKind.i64.wrap ((k : Int) + 1) = ((k + 1 : Nat) : Int) := by rw [wrapI (by omega) (by omega)]; omega
    rw [List.range'_succ, List.find?_cons] at hr
    by_cases hl : s.length < 9
    · have hl' : ((s.length : Int) < 9) := by omega
      by_cases he : refRateT k = s
      · have e : isRate s k = true := by simp [isRate, hl, he]
        rw [e] at hr
        have he' : (refRateT k == s) = true := by simpa using he
        repeat (first | simp only [go_sem, ↓reduceIte, Nat.reduceEqDiff, Nat.reduceAdd, Nat.reduceSub, Nat.reduceMul, Nat.reduceLeDiff, Nat.reduceBEq, reduceCtorEq, Nat.reduceEqDiff, Int.reduceEq, Int.reduceLT, Int.reduceLE, Int.reduceNeg, Int.reduceBEq, Int.reduceBNe, Int.reduceToNat, Int.reducePow, hlt, decide_true, hl', he'] | refine callK_plain (hT _ (by omega) (by omega)) (fun _ => rfl) ?_ | refine g_ref03_Parse_o1_sh.mpr ?_ | refine g_ref03_Parse_o0_sh.mpr ?_ | refine g_ref03_Parse_c0_sh.mpr ?_ | refine g_ref03_Parse_c1_sh.mpr ?_ | refine g_ref03_Parse_c2_sh.mpr ?_ | refine g_ref03_Parse_code_sh.mpr ?_)
        exact hY k hr.symm
      · have e : isRate s k = false := by simp [isRate, hl, he]
        rw [e] at hr
        have he' : (refRateT k == s) = false := by simpa using he
        repeat (first | simp only [go_sem, ↓reduceIte, Nat.reduceEqDiff, Nat.reduceAdd, Nat.reduceSub, Nat.reduceMul, Nat.reduceLeDiff, Nat.reduceBEq, reduceCtorEq, Nat.reduceEqDiff, Int.reduceEq, Int.reduceLT, Int.reduceLE, Int.reduceNeg, Int.reduceBEq, Int.reduceBNe, Int.reduceToNat, Int.reducePow, hlt, decide_true, hl', he', hw] | refine callK_plain (hT _ (by omega) (by omega)) (fun _ => rfl) ?_ | refine g_ref03_Parse_o1_sh.mpr ?_ | refine g_ref03_Parse_o0_sh.mpr ?_ | refine g_ref03_Parse_c0_sh.mpr ?_ | refine g_ref03_Parse_c1_sh.mpr ?_ | refine g_ref03_Parse_c2_sh.mpr ?_ | refine g_ref03_Parse_code_sh.mpr ?_)
        exact ih (k + 1) (by omega) hr
    · have hl' : ¬ ((s.length : Int) < 9) := by omega
      have e : isRate s k = false := by simp [isRate, hl]
      rw [e] at hr
      repeat (first | simp only [go_sem, ↓reduceIte, Nat.reduceEqDiff, Nat.reduceAdd, Nat.reduceSub, Nat.reduceMul, Nat.reduceLeDiff, Nat.reduceBEq, reduceCtorEq, Nat.reduceEqDiff, Int.reduceEq, Int.reduceLT, Int.reduceLE, Int.reduceNeg, Int.reduceBEq, Int.reduceBNe, Int.reduceToNat, Int.reducePow, hlt, decide_true, decide_false, hl', hw] | refine g_ref03_Parse_o1_sh.mpr ?_ | refine g_ref03_Parse_o0_sh.mpr ?_ | refine g_ref03_Parse_c0_sh.mpr ?_ | refine g_ref03_Parse_c1_sh.mpr ?_ | refine g_ref03_Parse_c2_sh.mpr ?_ | refine g_ref03_Parse_code_sh.mpr ?_)
      exact ih (k + 1) (by omega) hr
theorem refRateParse {C : Ctx} (h : okFn C.P C.φ 93 g_ref03_Parse = true) (hT : ∀ n : Int, 0 ≤ n → n ≤ 10000 → SoundAt C 94 ⟨[vI n], looko []⟩ ⟨vS (refRateT n), looko []⟩) (s : List UInt8) : SoundAt C 93 ⟨[vS s], looko []⟩ ⟨vIB (refRateP s), looko []⟩ := by
  refine SoundAt.of_run h rfl (fun Q hR hN => ?_)
  rw [entry1]
  repeat (first | simp only [go_sem, ↓reduceIte, Nat.reduceEqDiff, Nat.reduceAdd, Nat.reduceSub, Nat.reduceMul, Nat.reduceLeDiff, Nat.reduceBEq, reduceCtorEq, Nat.reduceEqDiff, Int.reduceEq, Int.reduceLT, Int.reduceLE, Int.reduceNeg, Int.reduceBEq, Int.reduceBNe, Int.reduceToNat, Int.reducePow] | refine g_ref03_Parse_o1_sh.mpr ?_ | refine g_ref03_Parse_o0_sh.mpr ?_ | refine g_ref03_Parse_c0_sh.mpr ?_ | refine g_ref03_Parse_c1_sh.mpr ?_ | refine g_ref03_Parse_c2_sh.mpr ?_ | refine g_ref03_Parse_code_sh.mpr ?_)
  refine refRate_loop hT (s := s) (r := (List.range' 0 10001).find? (isRate s)) (fun hr t => ?_) (fun n hr => ?_) 10001 0 (by omega) rfl
  · repeat (first | simp only [go_sem, ↓reduceIte, Nat.reduceEqDiff, Nat.reduceAdd, Nat.reduceSub, Nat.reduceMul, Nat.reduceLeDiff, Nat.reduceBEq, reduceCtorEq, Nat.reduceEqDiff, Int.reduceEq, Int.reduceLT, Int.reduceLE, Int.reduceNeg, Int.reduceBEq, Int.reduceBNe, Int.reduceToNat, Int.reducePow] | refine g_ref03_Parse_o1_sh.mpr ?_ | refine g_ref03_Parse_o0_sh.mpr ?_ | refine g_ref03_Parse_c0_sh.mpr ?_ | refine g_ref03_Parse_c1_sh.mpr ?_ | refine g_ref03_Parse_c2_sh.mpr ?_ | refine g_ref03_Parse_code_sh.mpr ?_)
    refine hR _ ?_
    simp only [go_sem, ↓reduceIte, Nat.reduceEqDiff, Nat.reduceAdd, Nat.reduceSub, Nat.reduceMul, Nat.reduceLeDiff, Nat.reduceBEq, reduceCtorEq, Nat.reduceEqDiff, Int.reduceEq, Int.reduceLT, Int.reduceLE, Int.reduceNeg, Int.reduceBEq, Int.reduceBNe, Int.reduceToNat, Int.reducePow, refRateP, hr]
  · refine hR _ ?_
    simp only [go_sem, ↓reduceIte, Nat.reduceEqDiff, Nat.reduceAdd, Nat.reduceSub, Nat.reduceMul, Nat.reduceLeDiff, Nat.reduceBEq, reduceCtorEq, Nat.reduceEqDiff, Int.reduceEq, Int.reduceLT, Int.reduceLE, Int.reduceNeg, Int.reduceBEq, Int.reduceBNe, Int.reduceToNat, Int.reducePow, refRateP, hr]
theorem hasSuf_snoc (l : List UInt8) (c : UInt8) : hasSuf (l ++ [c]) [c] = true := by simp [hasSuf]
theorem cutSuf_snoc (l : List UInt8) (c : UInt8) : cutSuf (l ++ [c]) [c] = (l, true) := by
  rw [cutSuf, if_pos (hasSuf_snoc l c)]
  simp
/-- What is parsed as a rate: its text, and it. -/
theorem rateP_text {n : Int} (h0 : 0 ≤ n) (h1 : n ≤ 10000) : rateP (refRateT n) = (n, true) := by
  have e : parseS (textR n) = (n, true) := parseS_text (by omega) (by omega)
  unfold rateP refRateT
  rw [cutSuf_snoc, e]
  exact if_pos ⟨rfl, rfl, rateR_iff.2 ⟨h0, h1⟩⟩
end Pay
