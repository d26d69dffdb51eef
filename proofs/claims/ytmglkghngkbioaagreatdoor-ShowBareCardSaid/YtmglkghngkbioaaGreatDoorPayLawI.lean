/- A statement's argument of the kind int8. -/
import Derived.Test.YtmglkghngkbioaaGreatDoorPayBc0
namespace Pay
open Go
theorem confA_i8 {ss : List (Bool × List Sh)} {dss : List (List D)} (h : ConfA ((false, [.int .i8]) :: ss) dss) : ∃ n r, dss = [.int .i8 n] :: r ∧ (-128 ≤ n ∧ n < 128) ∧ ConfA ss r := by
  obtain ⟨ds, r, rfl, h1, h2⟩ := confA_cons h
  obtain ⟨d, r', rfl, h3, h4⟩ := confC_cons h1
  obtain rfl := confC_nil h4
  obtain ⟨n, rfl, hw⟩ := conf_int h3
  refine ⟨n, r, rfl, ?_, h2⟩
  simp [Lit.wf, IntKind.min, IntKind.max, IntKind.signed, IntKind.bits] at hw
  omega
end Pay
