/- Amounts' texts: plain laws. -/
import Derived.Lib.ItoaMem
import Derived.Lib.AtoiAllCases
import Derived.Test.YtmglkghngkbioaaGreatDoorPayBc0
import Derived.Test.YtmglkghngkbioaaGreatDoorPayC31
import Derived.Test.YtmglkghngkbioaaGreatDoorPayC32
set_option linter.unusedSimpArgs false
set_option linter.unusedVariables false
namespace Pay
open Go
def dg1 (n : Nat) : UInt8 := UInt8.ofNat (48 + n)
theorem dg1_nat {n : Nat} (h : n < 10) : (dg1 n).toNat = 48 + n := by
  simp only [dg1, UInt8.toNat_ofNat']; omega
theorem dec_one {n : Nat} (h : n < 10) : Lib.decDigits n = [dg1 n] := Lib.decDigits_one h
theorem dec_step {n : Nat} (h : ¬ n < 10) : Lib.decDigits n = Lib.decDigits (n / 10) ++ [dg1 (n % 10)] := by
  rw [Lib.decDigits, dif_neg h]; rfl
theorem dec_head (n : Nat) : ∃ c r, Lib.decDigits n = c :: r ∧ 48 ≤ c.toNat ∧ c.toNat ≤ 57 := by
  induction n using Nat.strongRecOn with
  | _ n ih =>
    by_cases h : n < 10
    · exact ⟨_, _, dec_one h, by rw [dg1_nat h]; omega, by rw [dg1_nat h]; omega⟩
    · obtain ⟨c, r, e, h1, h2⟩ := ih (n / 10) (by omega)
      exact ⟨c, r ++ [dg1 (n % 10)], by rw [dec_step h, e]; rfl, h1, h2⟩
theorem textN_eq (n : Nat) : textN n = Lib.decDigits (n / 100) ++ [46, dg1 (n % 100 / 10), dg1 (n % 10)] := by
  rw [textN, dec_one (n := n % 100 / 10) (by omega), dec_one (n := n % 10) (by omega)]
  simp
theorem cents_eq (r : Nat) (h : r < 100) : (Lib.decDigits (100 + r)).drop 1 = [dg1 (r / 10), dg1 (r % 10)] := by
  rw [dec_step (n := 100 + r) (by omega), dec_step (n := (100 + r) / 10) (by omega), dec_one (n := (100 + r) / 10 / 10) (by omega)]
  have e1 : (100 + r) / 10 % 10 = r / 10 := by omega
  have e2 : (100 + r) % 10 = r % 10 := by omega
  rw [e1, e2]; rfl
theorem textAt_eq (sign : List UInt8) (m : Nat) (h : m < 9223372036854775808) : textAt sign m = sign ++ textN m := by
  have e1 : w64' ((m : Int).tdiv 100) = ((m / 100 : Nat) : Int) := by
    unfold w64'; rw [Int.tdiv_eq_ediv_of_nonneg (by omega), wrapI (by omega) (by omega)]; omega
  have e2 : w64' (100 + (m : Int).tmod 100) = ((100 + m % 100 : Nat) : Int) := by
    unfold w64'; rw [Int.tmod_eq_emod_of_nonneg (by omega), wrapI (by omega) (by omega)]; omega
  rw [textAt, e1, e2, Lib.itoa_nonneg, Lib.itoa_nonneg, cents_eq _ (by omega), textN_eq]
  have e3 : m % 100 % 10 = m % 10 := by omega
  rw [e3]; simp
theorem textS_eq {n : Int} (h : amt n = true) (h1 : n < 9223372036854775808) : textS n = (textR n, 0) := by
  simp only [amt, decide_eq_true_eq] at h
  have ha : amt n = true := by simpa [amt] using h
  rw [textS, if_pos ha, textR]
  by_cases hn : n < 0
  · obtain ⟨m, rfl⟩ : ∃ m : Nat, n = -(m : Int) := ⟨n.natAbs, by omega⟩
    have e : w64' (0 - -(m : Int)) = (m : Int) := by unfold w64'; rw [show (0 - -(m : Int)) = m by omega, wrapI (by omega) (by omega)]
    rw [if_pos hn, if_pos hn, e, textAt_eq _ _ (by omega), show (-(m : Int)).natAbs = m by omega]; rfl
  · obtain ⟨m, rfl⟩ : ∃ m : Nat, n = (m : Int) := ⟨n.toNat, by omega⟩
    rw [if_neg hn, if_neg hn, textAt_eq _ _ (by omega), Int.toNat_natCast]; rfl
theorem pu_digit {n d : Nat} {t : List UInt8} (hd : d < 10) (hn : 10 * n + d ≤ 9223372036854775807) : Lib.parseUint10 n (dg1 d :: t) = Lib.parseUint10 (10 * n + d) t := by
  rw [Lib.parseUint10, dg1_nat hd, if_pos (by omega), if_neg (by omega), if_neg (by omega), show n * 10 + (48 + d - 48) = 10 * n + d by omega]
theorem pu_dec : ∀ (a : Nat) (t : List UInt8), a ≤ 9223372036854775807 → Lib.parseUint10 0 (Lib.decDigits a ++ t) = Lib.parseUint10 a t := by
  intro a
  induction a using Nat.strongRecOn with
  | _ a ih =>
    intro t ha
    by_cases h : a < 10
    · rw [dec_one h, List.singleton_append, pu_digit h (by omega)]; simp
    · rw [dec_step h, List.append_assoc, ih (a / 10) (by omega) _ (by omega), List.singleton_append, pu_digit (by omega) (by omega), show 10 * (a / 10) + a % 10 = a by omega]
theorem parseS_ok {s : List UInt8} (h : (parseS s).2 = true) : s = textR (parseS s).1 ∧ -9223372036854775807 ≤ (parseS s).1 ∧ (parseS s).1 ≤ 9223372036854775807 := by
  unfold parseS at h ⊢
  split at h
  · rename_i hc
    obtain ⟨h1, h2, h3⟩ := hc
    rw [if_pos ⟨h1, h2, h3⟩]
    have hb : atoiV (Lib.replace s [46] [] 1) ≤ 9223372036854775807 := by
      unfold atoiV
      split
      · rename_i v hv; exact (Lib.atoiAll_bounds hv).2
      · exact (Lib.atoiSat_bounds _).2
      · decide
    rw [textS_eq h2 (by omega)] at h3
    exact ⟨h3.symm, of_decide_eq_true h2, hb⟩
  · cases h
end Pay
