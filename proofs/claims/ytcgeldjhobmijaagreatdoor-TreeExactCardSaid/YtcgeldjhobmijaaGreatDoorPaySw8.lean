/- What the laws of texts say, plainly. -/
import Derived.Test.YtcgeldjhobmijaaGreatDoorPayBc0
import Derived.Test.YtcgeldjhobmijaaGreatDoorPayC44
import Derived.Test.YtcgeldjhobmijaaGreatDoorPayC48
import Derived.Test.YtcgeldjhobmijaaGreatDoorPayC61
import Derived.Test.YtcgeldjhobmijaaGreatDoorPayC65
import Derived.Test.YtcgeldjhobmijaaGreatDoorPayMTr1
set_option linter.unusedSimpArgs false
set_option linter.unusedVariables false
namespace Pay
open Go
theorem sprog_PK {all : List Tok} {en : Nat} : ∀ (n : Nat) (x : PS), PK all x → PK all (progL en n x)
  | 0, x, h => h
  | n + 1, x, h => by
    unfold progL
    split
    · exact h
    · exact sprog_PK n _ h.rule
theorem sparse_small (s : List UInt8) (hs : s.length < 100000) : (parseP s).1.rules.length ≤ s.length ∧ (parseP s).1.exprs.length ≤ s.length := by
  unfold parseP
  cases hl : lexS s with | mk ts o =>
  cases o with
  | some e => simp
  | none =>
    have hp := sprog_PK (en := s.length) ts.length _ (lex_PK hs hl)
    have h1 := hp.many
    have h2 := hp.rules
    have hc : ts.length ≤ s.length := by
      have hc : Chain s 0 ts := by
        have := lex_chain s s 0 rfl (Nat.zero_le _)
        rw [← lexS_T, hl] at this
        exact this
      have := chain_many hc (Nat.zero_le _)
      omega
    simp only
    unfold parseT
    simp only
    split
    · simp only; omega
    · simp
end Pay
