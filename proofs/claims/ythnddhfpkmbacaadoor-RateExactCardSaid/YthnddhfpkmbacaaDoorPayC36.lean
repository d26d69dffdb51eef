/- The laws of amounts: sums, and signs. -/
import Derived.Test.YthnddhfpkmbacaaDoorPayC34
import Derived.Test.YthnddhfpkmbacaaDoorPaySh0
set_option linter.unusedSimpArgs false
set_option linter.unusedVariables false
namespace Pay
open Go
attribute [local irreducible] wpB opsB treeB drawB
/-- A whole number of 64 bits. -/
def i64 (n : Int) : Prop := -9223372036854775808 ≤ n ∧ n < 9223372036854775808
/-- Do both have a sum? -/
def fits (a b : Int) : Prop := -9223372036854775807 ≤ a ∧ -9223372036854775807 ≤ b ∧ -9223372036854775807 ≤ a + b ∧ a + b ≤ 9223372036854775807
instance (a b : Int) : Decidable (fits a b) := by unfold fits; infer_instance
end Pay
