/- Contracts: programs compared, and as the document's; the fixed answer. -/
import Derived.KernelRfl
import Derived.Test.YtmglkghngkbioaaGreatDoorPayC32
import Derived.Test.YtmglkghngkbioaaGreatDoorPayC65
import Derived.Test.YtmglkghngkbioaaGreatDoorPayTr1
set_option linter.unusedSimpArgs false
set_option linter.unusedVariables false
namespace Pay
open Go
attribute [local irreducible] wpB opsB treeB drawB
def HParse (C : Ctx) : Prop := ∀ s : List UInt8, s.length < 100000 → SoundAt C 144 ⟨[vS s], looko []⟩ ⟨vParse (parseP s), looko []⟩
end Pay
