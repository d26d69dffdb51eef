/- Contracts: the document's amounts. -/
import Derived.Test.YthnddhfpkmbacaaDoorPayC32
import Derived.Test.YthnddhfpkmbacaaDoorPaySh0
set_option linter.unusedSimpArgs false
set_option linter.unusedVariables false
namespace Pay
open Go
attribute [local irreducible] wpB opsB treeB drawB
def rightR (n : Int) : Bool := n != -9223372036854775808
theorem refRight {C : Ctx} (h : okFn C.P C.φ 53 g_ref01_Right = true) (n : Int) : SoundAt C 53 ⟨[vI n], looko []⟩ ⟨vB (rightR n), looko []⟩ := by
  refine SoundAt.of_run h rfl (fun Q hR hN => ?_)
  rw [entry1]
  repeat (first | simp only [go_sem, ↓reduceIte, Nat.reduceEqDiff, Nat.reduceAdd, Nat.reduceSub, Nat.reduceMul, Nat.reduceLeDiff, Nat.reduceBEq, reduceCtorEq, Nat.reduceEqDiff, Int.reduceEq, Int.reduceLT, Int.reduceLE, Int.reduceNeg, Int.reduceBEq, Int.reduceBNe, Int.reduceToNat, Int.reducePow] | refine g_ref01_Right_code_sh.mpr ?_)
  refine hR _ ?_
  simp only [go_sem, ↓reduceIte, Nat.reduceEqDiff, Nat.reduceAdd, Nat.reduceSub, Nat.reduceMul, Nat.reduceLeDiff, Nat.reduceBEq, reduceCtorEq, Nat.reduceEqDiff, Int.reduceEq, Int.reduceLT, Int.reduceLE, Int.reduceNeg, Int.reduceBEq, Int.reduceBNe, Int.reduceToNat, Int.reducePow]
  rfl
theorem dig_eq (m : Nat) : UInt8.ofNat (IntKind.u8.wrap (IntKind.i64.wrap (48 + ((m : Int).tmod 10)))).toNat = UInt8.ofNat (48 + m % 10) := by
  have h : ((m : Int).tmod 10) = ((m % 10 : Nat) : Int) := by rw [Int.tmod_eq_emod_of_nonneg (by omega)]; omega
  rw [h, wrapI (by omega) (by omega)]
  have h2 : IntKind.u8.wrap (48 + ((m % 10 : Nat) : Int)) = ((48 + m % 10 : Nat) : Int) := by rw [IntKind.wrap_u8]; omega
  rw [h2, Int.toNat_natCast]
def hiD (n : Nat) : List UInt8 := if n < 10 then [] else Lib.decDigits (n / 10)
theorem dec_hi (n : Nat) : Lib.decDigits n = hiD n ++ [UInt8.ofNat (48 + n % 10)] := by
  rw [Lib.decDigits, hiD]
  split
  · rename_i h; rw [Nat.mod_eq_of_lt h]; rfl
  · rfl
theorem digits_loop {C : Ctx} {I : Nat → Prop} {Q : Ex → St → Prop} {l : List UInt8} (hl : l.length ≤ 20) (hT : ∀ s, s 3 = vS l → Q (.exit 0) (St.mk s (looko []))) :
    ∀ (n : Nat), n < 9223372036854775808 → ∀ t : List UInt8, hiD n ++ t = l → wpB C I g_ref01_Digits.l0 (St.mk (look [(0, vI n), (3, vS t)]) (looko [])) Q := by
  intro n
  induction n using Nat.strongRecOn with
  | _ n ih =>
    intro hn t ht
    refine g_ref01_Digits_l0_sh rfl ?_
    by_cases h : n < 10
    · have h' : ¬ ((n : Int) > 9) := by omega
      simp only [hiD, h, if_true, List.nil_append] at ht
      subst ht
      simp only [go_sem, ↓reduceIte, Nat.reduceEqDiff, Nat.reduceAdd, Nat.reduceSub, Nat.reduceMul, Nat.reduceLeDiff, Nat.reduceBEq, reduceCtorEq, Nat.reduceEqDiff, Int.reduceEq, Int.reduceLT, Int.reduceLE, Int.reduceNeg, Int.reduceBEq, Int.reduceBNe, Int.reduceToNat, Int.reducePow, h', decide_false]
      exact hT _ rfl
    · have h' : ((n : Int) > 9) := by omega
      have hq : IntKind.i64.wrap ((n : Int).tdiv 10) = ((n / 10 : Nat) : Int) := by
        rw [Int.tdiv_eq_ediv_of_nonneg (by omega), wrapI (by omega) (by omega)]; omega
      have e : hiD n = hiD (n / 10) ++ [UInt8.ofNat (48 + (n / 10) % 10)] := by
        rw [← dec_hi, hiD, if_neg h]
      rw [e] at ht
      have hlen : ([UInt8.ofNat (48 + (n / 10) % 10)] : List UInt8).length + t.length ≤ 9223372036854775807 := by
        have := congrArg List.length ht
        simp at this
        simp; omega
      have hlen' : 1 + t.length ≤ 9223372036854775807 := by simpa using hlen
      simp only [go_sem, ↓reduceIte, Nat.reduceEqDiff, Nat.reduceAdd, Nat.reduceSub, Nat.reduceMul, Nat.reduceLeDiff, Nat.reduceBEq, reduceCtorEq, Nat.reduceEqDiff, Int.reduceEq, Int.reduceLT, Int.reduceLE, Int.reduceNeg, Int.reduceBEq, Int.reduceBNe, Int.reduceToNat, Int.reducePow, h', decide_true, hq, partsN, dig_eq, hlen']
      refine ih (n / 10) (by omega) (by omega) _ (by rw [← ht]; simp)
theorem refDigits {C : Ctx} (h : okFn C.P C.φ 71 g_ref01_Digits = true) (n : Nat) (hn : n < 9223372036854775808) : SoundAt C 71 ⟨[vI n], looko []⟩ ⟨vS (Lib.decDigits n), looko []⟩ := by
  refine SoundAt.of_run h rfl (fun Q hR hN => ?_)
  rw [entry1]
  repeat (first | simp only [go_sem, ↓reduceIte, Nat.reduceEqDiff, Nat.reduceAdd, Nat.reduceSub, Nat.reduceMul, Nat.reduceLeDiff, Nat.reduceBEq, reduceCtorEq, Nat.reduceEqDiff, Int.reduceEq, Int.reduceLT, Int.reduceLE, Int.reduceNeg, Int.reduceBEq, Int.reduceBNe, Int.reduceToNat, Int.reducePow, partsN, dig_eq] | refine g_ref01_Digits_c0_sh.mpr ?_ | refine g_ref01_Digits_c1_sh.mpr ?_ | refine g_ref01_Digits_code_sh.mpr ?_)
  refine digits_loop (l := Lib.decDigits n) (by rw [Lib.decDigits_length]; exact Lib.nDigits_le20 n (by omega)) (fun s hs => ?_) n hn _ (by rw [← dec_hi])
  repeat (first | simp only [go_sem, ↓reduceIte, Nat.reduceEqDiff, Nat.reduceAdd, Nat.reduceSub, Nat.reduceMul, Nat.reduceLeDiff, Nat.reduceBEq, reduceCtorEq, Nat.reduceEqDiff, Int.reduceEq, Int.reduceLT, Int.reduceLE, Int.reduceNeg, Int.reduceBEq, Int.reduceBNe, Int.reduceToNat, Int.reducePow, hs] | refine g_ref01_Digits_c0_sh.mpr ?_ | refine g_ref01_Digits_c1_sh.mpr ?_ | refine g_ref01_Digits_code_sh.mpr ?_)
  refine hR _ ?_
  simp only [go_sem, ↓reduceIte, Nat.reduceEqDiff, Nat.reduceAdd, Nat.reduceSub, Nat.reduceMul, Nat.reduceLeDiff, Nat.reduceBEq, reduceCtorEq, Nat.reduceEqDiff, Int.reduceEq, Int.reduceLT, Int.reduceLE, Int.reduceNeg, Int.reduceBEq, Int.reduceBNe, Int.reduceToNat, Int.reducePow]
def textN (n : Nat) : List UInt8 := Lib.decDigits (n / 100) ++ [46] ++ Lib.decDigits (n % 100 / 10) ++ Lib.decDigits (n % 10)
def textR (n : Int) : List UInt8 := if n < 0 then 45 :: textN n.natAbs else textN n.toNat
theorem dec_len (n : Nat) (h : n < 9223372036854775808) : (Lib.decDigits n).length ≤ 20 := by rw [Lib.decDigits_length]; exact Lib.nDigits_le20 n (by omega)
theorem textN_len (n : Nat) (h : n < 9223372036854775808) : (textN n).length ≤ 61 := by
  have h1 := dec_len (n / 100) (by omega)
  have h2 := dec_len (n % 100 / 10) (by omega)
  have h3 := dec_len (n % 10) (by omega)
  simp only [textN, List.length_append, List.length_cons, List.length_nil]
  omega
theorem refTextN {C : Ctx} (h : okFn C.P C.φ 54 g_ref01_Text = true) (hD : ∀ n : Nat, n < 9223372036854775808 → SoundAt C 71 ⟨[vI n], looko []⟩ ⟨vS (Lib.decDigits n), looko []⟩) (n : Nat) (hn : n < 9223372036854775808) :
    SoundAt C 54 ⟨[vI n], looko []⟩ ⟨vS (textN n), looko []⟩ := by
  have h1 := dec_len (n / 100) (by omega)
  have h2 := dec_len (n % 100 / 10) (by omega)
  have h3 := dec_len (n % 10) (by omega)
  have e1 : IntKind.i64.wrap ((n : Int).tdiv 100) = ((n / 100 : Nat) : Int) := by rw [Int.tdiv_eq_ediv_of_nonneg (by omega), wrapI (by omega) (by omega)]; omega
  have e2 : (n : Int).tmod 100 = ((n % 100 : Nat) : Int) := by rw [Int.tmod_eq_emod_of_nonneg (by omega)]; omega
  have e3 : IntKind.i64.wrap (((n % 100 : Nat) : Int).tdiv 10) = ((n % 100 / 10 : Nat) : Int) := by rw [Int.tdiv_eq_ediv_of_nonneg (by omega), wrapI (by omega) (by omega)]; omega
  have e4 : (n : Int).tmod 10 = ((n % 10 : Nat) : Int) := by rw [Int.tmod_eq_emod_of_nonneg (by omega)]; omega
  have l1 : (Lib.decDigits (n / 100)).length + 1 ≤ 9223372036854775807 := by omega
  have l2 : (Lib.decDigits (n / 100)).length + 1 + (Lib.decDigits (n % 100 / 10)).length ≤ 9223372036854775807 := by omega
  have l3 : (Lib.decDigits (n / 100)).length + 1 + (Lib.decDigits (n % 100 / 10)).length + (Lib.decDigits (n % 10)).length ≤ 9223372036854775807 := by omega
  have hneg : ¬ ((n : Int) < 0) := by omega
  refine SoundAt.of_run h rfl (fun Q hR hN => ?_)
  rw [entry1]
  repeat (first | simp only [go_sem, ↓reduceIte, Nat.reduceEqDiff, Nat.reduceAdd, Nat.reduceSub, Nat.reduceMul, Nat.reduceLeDiff, Nat.reduceBEq, reduceCtorEq, Nat.reduceEqDiff, Int.reduceEq, Int.reduceLT, Int.reduceLE, Int.reduceNeg, Int.reduceBEq, Int.reduceBNe, Int.reduceToNat, Int.reducePow, hneg, decide_false, e1, e2, e3, e4, List.length_append, l1, l2, l3] | refine g_ref01_Text_c0_sh.mpr ?_ | refine g_ref01_Text_code_sh.mpr ?_ | refine callK_plain (hD _ (by omega)) (fun _ => rfl) ?_)
  refine hR _ ?_
  simp only [go_sem, ↓reduceIte, Nat.reduceEqDiff, Nat.reduceAdd, Nat.reduceSub, Nat.reduceMul, Nat.reduceLeDiff, Nat.reduceBEq, reduceCtorEq, Nat.reduceEqDiff, Int.reduceEq, Int.reduceLT, Int.reduceLE, Int.reduceNeg, Int.reduceBEq, Int.reduceBNe, Int.reduceToNat, Int.reducePow, textN]
theorem refText {C : Ctx} (h : okFn C.P C.φ 54 g_ref01_Text = true) (hD : ∀ n : Nat, n < 9223372036854775808 → SoundAt C 71 ⟨[vI n], looko []⟩ ⟨vS (Lib.decDigits n), looko []⟩) (n : Int) (h0 : -9223372036854775808 < n) (h1 : n < 9223372036854775808) :
    SoundAt C 54 ⟨[vI n], looko []⟩ ⟨vS (textR n), looko []⟩ := by
  by_cases hn : n < 0
  · obtain ⟨m, rfl⟩ : ∃ m : Nat, n = -(m : Int) := ⟨n.natAbs, by omega⟩
    have e : IntKind.i64.wrap (0 - -(m : Int)) = (m : Int) := by rw [show (0 - -(m : Int)) = m by omega, wrapI (by omega) (by omega)]
    have hl := textN_len m (by omega)
    have l1 : 1 + (textN m).length ≤ 9223372036854775807 := by omega
    refine SoundAt.of_run h rfl (fun Q hR hN => ?_)
    rw [entry1]
    repeat (first | simp only [go_sem, ↓reduceIte, Nat.reduceEqDiff, Nat.reduceAdd, Nat.reduceSub, Nat.reduceMul, Nat.reduceLeDiff, Nat.reduceBEq, reduceCtorEq, Nat.reduceEqDiff, Int.reduceEq, Int.reduceLT, Int.reduceLE, Int.reduceNeg, Int.reduceBEq, Int.reduceBNe, Int.reduceToNat, Int.reducePow, hn, decide_true, e, l1] | refine g_ref01_Text_code_sh.mpr ?_ | refine callK_plain (refTextN h hD m (by omega)) (fun _ => rfl) ?_)
    refine hR _ ?_
    have ht : textR (-(m : Int)) = 45 :: textN m := by rw [textR, if_pos hn, show (-(m : Int)).natAbs = m by omega]
    simp only [go_sem, ↓reduceIte, Nat.reduceEqDiff, Nat.reduceAdd, Nat.reduceSub, Nat.reduceMul, Nat.reduceLeDiff, Nat.reduceBEq, reduceCtorEq, Nat.reduceEqDiff, Int.reduceEq, Int.reduceLT, Int.reduceLE, Int.reduceNeg, Int.reduceBEq, Int.reduceBNe, Int.reduceToNat, Int.reducePow, ht]
  · obtain ⟨m, rfl⟩ : ∃ m : Nat, n = (m : Int) := ⟨n.toNat, by omega⟩
    have ht : textR (m : Int) = textN m := by rw [textR, if_neg hn, Int.toNat_natCast]
    rw [ht]
    exact refTextN h hD m (by omega)
end Pay
