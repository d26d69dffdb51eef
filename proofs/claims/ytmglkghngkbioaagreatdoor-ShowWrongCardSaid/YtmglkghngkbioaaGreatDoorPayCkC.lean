/- What the laws of kinds without the document's answer rest on. -/
import Derived.Test.YtmglkghngkbioaaGreatDoorPayBc0
import Derived.Test.YtmglkghngkbioaaGreatDoorPayMTr1
set_option linter.unusedSimpArgs false
set_option linter.unusedVariables false
namespace Pay
open Go
theorem encX_all (l : List Xpr) : (∀ e ∈ l.map encX, e.length = 6) = True := eq_true (fun e he => by obtain ⟨m, _, rfl⟩ := List.mem_map.1 he; rfl)
end Pay
