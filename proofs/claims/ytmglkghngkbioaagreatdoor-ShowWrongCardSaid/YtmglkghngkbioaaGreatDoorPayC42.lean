/- Contracts: the texts of rates, and what is parsed as one; the document's are the same. -/
import Derived.Test.YtmglkghngkbioaaGreatDoorPayBc0
import Derived.Test.YtmglkghngkbioaaGreatDoorPayC32
import Derived.Test.YtmglkghngkbioaaGreatDoorPayC34
import Derived.Test.YtmglkghngkbioaaGreatDoorPaySh0_0
import Derived.Test.YtmglkghngkbioaaGreatDoorPaySh0_1
set_option linter.unusedSimpArgs false
set_option linter.unusedVariables false
namespace Pay
open Go
attribute [local irreducible] wpB opsB treeB drawB
def hasSuf (s p : List UInt8) : Bool := decide (p.length ≤ s.length) && (s.drop (s.length - p.length) == p)
def cutSuf (s p : List UInt8) : List UInt8 × Bool := if hasSuf s p = true then (s.take (s.length - p.length), true) else (s, false)
theorem cutSuffix {C : Ctx} (h1 : okFn C.P C.φ 101 g_strings_CutSuffix = true) (h2 : okFn C.P C.φ 122 g_internal_stringslite_CutSuffix = true) (h3 : okFn C.P C.φ 141 g_internal_stringslite_HasSuffix = true) (s p : List UInt8) (hs : s.length < 4611686018427387904) :
    SoundAt C 101 ⟨[vS s, vS p], looko []⟩ ⟨.tup [vS (cutSuf s p).1, vB (cutSuf s p).2], looko []⟩ := by
  have t3 : SoundAt C 141 ⟨[vS s, vS p], looko []⟩ ⟨vB (hasSuf s p), looko []⟩ := by
    refine SoundAt.of_run h3 rfl (fun Q hR hN => ?_)
    rw [entry2]
    by_cases hl : p.length ≤ s.length
    · have hl' : ((s.length : Int) ≥ (p.length : Int)) := by omega
      have hw : IntKind.i64.wrap ((s.length : Int) - (p.length : Int)) = ((s.length - p.length : Nat) : Int) := by rw [wrapI (by omega) (by omega)]; omega
      have e1 : ((s.length - p.length : Nat) : Int) ≤ (s.length : Int) := by omega
      have hd : decide (p.length ≤ s.length) = true := decide_eq_true hl
      repeat' (first | simp only [go_sem, hl', hw, e1, decide_true, Int.natCast_nonneg, Int.toNat_natCast, and_self, if_true, Int.le_refl, List.take_length] | refine Unf.h ?_ | refine hR _ ?_ | split)
      all_goals (simp only [hasSuf, hd, Bool.true_and])
    · have hl' : ¬ ((s.length : Int) ≥ (p.length : Int)) := by omega
      have hd : decide (p.length ≤ s.length) = false := decide_eq_false hl
      repeat' (first | simp only [go_sem, hl', decide_false] | refine Unf.h ?_ | refine hR _ ?_ | split)
      all_goals (simp only [hasSuf, hd, Bool.false_and])
  have t2 : SoundAt C 122 ⟨[vS s, vS p], looko []⟩ ⟨.tup [vS (cutSuf s p).1, vB (cutSuf s p).2], looko []⟩ := by
    refine SoundAt.of_run h2 rfl (fun Q hR hN => ?_)
    rw [entry2]
    cases hh : hasSuf s p with
    | true =>
      have hl : p.length ≤ s.length := by
        simp only [hasSuf, Bool.and_eq_true, decide_eq_true_eq] at hh; exact hh.1
      have hw : IntKind.i64.wrap ((s.length : Int) - (p.length : Int)) = ((s.length - p.length : Nat) : Int) := by rw [wrapI (by omega) (by omega)]; omega
      have e1 : ((s.length - p.length : Nat) : Int) ≤ (s.length : Int) := by omega
      repeat' (first | simp only [go_sem, hw, e1, Int.natCast_nonneg, Int.toNat_natCast, and_self, if_true, hh, cutSuf] | refine Unf.h ?_ | refine callK_plain (t3) (fun _ => rfl) ?_ | refine hR _ ?_ | split)
    | false =>
      repeat' (first | simp only [go_sem, hh, cutSuf] | refine Unf.h ?_ | refine callK_plain (t3) (fun _ => rfl) ?_ | refine hR _ ?_ | split)
  refine SoundAt.of_run h1 rfl (fun Q hR hN => ?_)
  rw [entry2]
  repeat' (first | simp only [go_sem] | refine Unf.h ?_ | refine callK_plain (t2) (fun _ => rfl) ?_ | refine hR _ ?_ | split)
def rateR (n : Int) : Bool := decide (n ≥ 0) && decide (n ≤ 10000)
theorem rateR_iff {n : Int} : rateR n = true ↔ 0 ≤ n ∧ n ≤ 10000 := by simp only [rateR, Bool.and_eq_true, decide_eq_true_eq]
theorem rateRight {C : Ctx} (h : okFn C.P C.φ 88 g_rate_Right = true) (n : Int) : SoundAt C 88 ⟨[vI n], looko []⟩ ⟨vB (rateR n), looko []⟩ := by
  refine SoundAt.of_run h rfl (fun Q hR hN => ?_)
  rw [entry1]
  repeat' (first | simp only [go_sem] | refine Unf.h ?_ | refine hR _ ?_ | split)
  all_goals (clear hR hN; simp_all only [rateR, decide_true, decide_false, Bool.true_and, Bool.false_and])
def rateTextS (n : Int) : List UInt8 × Int := if rateR n = true then (textR n ++ [37], 0) else ([], 1)
theorem rateText {C : Ctx} (h : okFn C.P C.φ 91 g_rate_Text = true) (hR' : ∀ n, SoundAt C 88 ⟨[vI n], looko []⟩ ⟨vB (rateR n), looko []⟩) (hT : ∀ n, SoundAt C 50 ⟨[vI n], looko []⟩ ⟨vSE (textS n), looko []⟩) (n : Int) :
    SoundAt C 91 ⟨[vI n], looko []⟩ ⟨vSE (rateTextS n), looko []⟩ := by
  refine SoundAt.of_run h rfl (fun Q hR hN => ?_)
  rw [entry1]
  cases hh : rateR n with
  | true =>
    have hb := rateR_iff.1 hh
    have e := textS_eq (n := n) (decide_eq_true (by omega)) (by omega)
    have hl : (textR n).length + 1 ≤ 9223372036854775807 := by
      rw [textR, if_neg (by omega)]
      have := textN_len n.toNat (by omega)
      omega
    repeat' (first | simp only [go_sem, hh, e, rateTextS, hl] | refine Unf.h ?_ | refine callK_plain (hR' _) (fun _ => rfl) ?_ | refine callK_plain (hT _) (fun _ => rfl) ?_ | refine hR _ ?_ | split)
  | false =>
    repeat' (first | simp only [go_sem, hh, rateTextS] | refine Unf.h ?_ | refine callK_plain (hR' _) (fun _ => rfl) ?_ | refine callK_plain (hT _) (fun _ => rfl) ?_ | refine hR _ ?_ | split)
def rateP (s : List UInt8) : Int × Bool :=
  if (cutSuf s [37]).2 = true ∧ (parseS (cutSuf s [37]).1).2 = true ∧ rateR (parseS (cutSuf s [37]).1).1 = true then ((parseS (cutSuf s [37]).1).1, true) else (0, false)
theorem cutSuf_len (s p : List UInt8) : (cutSuf s p).1.length ≤ s.length := by
  unfold cutSuf
  split
  · simp only [List.length_take]; omega
  · exact Nat.le_refl _
theorem rateParse {C : Ctx} (h : okFn C.P C.φ 92 g_rate_Parse = true) (hC : ∀ s p : List UInt8, s.length < 4611686018427387904 → SoundAt C 101 ⟨[vS s, vS p], looko []⟩ ⟨.tup [vS (cutSuf s p).1, vB (cutSuf s p).2], looko []⟩)
    (hP : ∀ s : List UInt8, s.length < 100000 → SoundAt C 51 ⟨[vS s], looko []⟩ ⟨vIB (parseS s), looko []⟩) (hR' : ∀ n, SoundAt C 88 ⟨[vI n], looko []⟩ ⟨vB (rateR n), looko []⟩) (s : List UInt8) (hs : s.length < 100000) :
    SoundAt C 92 ⟨[vS s], looko []⟩ ⟨vIB (rateP s), looko []⟩ := by
  have hl := cutSuf_len s [37]
  refine SoundAt.of_run h rfl (fun Q hR hN => ?_)
  rw [entry1]
  cases e1 : (cutSuf s [37]).2 <;> cases e2 : (parseS (cutSuf s [37]).1).2 <;> cases e3 : rateR (parseS (cutSuf s [37]).1).1
  all_goals (
    repeat' (first | simp only [go_sem, e1, e2, e3, rateP, and_false, false_and, and_self] | refine Unf.h ?_ | refine callK_plain (hC _ _ (by omega)) (fun _ => rfl) ?_ | refine callK_plain (hP _ (by omega)) (fun _ => rfl) ?_ | refine callK_plain (hR' _) (fun _ => rfl) ?_ | refine hR _ ?_ | split))
end Pay
