/-
  No cell of these rows narrows 'for every input' (looked for: loops, veiled, ifaces, maps, wideKeys, modest, calm, conditions, laid).
  DERIVED. THE GIVEN ROWS OF THIS SEAT. 4 by the template 'for every input the law returns true; each argument reads behind the call as it read before'; 0 by the template 'total and deterministic' (their statements: YtbhjjheefdilbaaTotals.lean).
  GIVEN WITH THE SEED: the statements are not yours to turn. If you find one false, say at which input.
  Laid BY PROGRAM, IN A SANDBOX (cutbox-rows.mjs): the forced cells as the released guide's own fill.sh prints them over the translation 348bb2896ac83dae… (all of the seat's roots in one cut). By AI agents, Wed Nov 11 2026. No macro, syntax, notation, axiom, sorry.
-/
import Derived.Test.YtbhjjheefdilbaaChecked
import GoSem.Claim
import GoSem.ClaimJoined
import GoSem.ClaimMapViews
import Derived.JoinedTies
import Derived.KernelRfl
namespace Go.Proofs.Ytbhjjheefdilbaa
/- THE CELL 'sum', in the pinned program and in every row, IS THE sha256 OF THE DUMP (.gsa) THAT YtbhjjheefdilbaaProg.lean LOADS. Nothing in Lean hashes anything: it is a label: what it is worth is what the hold of that sum in a sandbox is worth. -/
noncomputable def Try.pinned : Pinned := { name := "ytbhjjheefdilbaa", sum := "348bb2896ac83dae5299d2ef446d127602c40ac7b68145430afd7464b54d6e6a", checked := Try.checked }
namespace Rows
def none {H : Type} : Left H := { results := [], args := [] }

/-- 'paymasterlaw17.BookActs': WHATEVER THE INPUT: true; the input reads as it did. -/
def bookActsSpec : ChangeSpec := { name := "bookActs", fn := fun _ => fun
  | [d1, d2, d3, d4, d5] => { results := [.lit (.bool true)], args := [d1, d2, d3, d4, d5] }
  | _ => none }
def bookActsRow : OpenClaim := { program := "ytbhjjheefdilbaa", sum := "348bb2896ac83dae5299d2ef446d127602c40ac7b68145430afd7464b54d6e6a", func := "paymaster/paymasterlaw17.BookActs", spec := "bookActs", unfollowed := true, recurses := true, apart := false }
def BookActsSaid : Prop := bookActsRow.holds Try.pinned (OpenSpec.ofChange bookActsSpec)

/-- ITS FALSE NEIGHBOUR: 'it returns false'. Refute it at one input. -/
def bookActsWrong : ChangeSpec := { name := "bookActs", fn := fun _ => fun
  | [d1, d2, d3, d4, d5] => { results := [.lit (.bool false)], args := [d1, d2, d3, d4, d5] }
  | _ => none }
def BookActsWrongFalsely : Prop := bookActsRow.holds Try.pinned (OpenSpec.ofChange bookActsWrong)

/-- 'paymasterlaw17.BookOnce': WHATEVER THE INPUT: true; the input reads as it did. -/
def bookOnceSpec : ChangeSpec := { name := "bookOnce", fn := fun _ => fun
  | [d] => { results := [.lit (.bool true)], args := [d] }
  | _ => none }
def bookOnceRow : OpenClaim := { program := "ytbhjjheefdilbaa", sum := "348bb2896ac83dae5299d2ef446d127602c40ac7b68145430afd7464b54d6e6a", func := "paymaster/paymasterlaw17.BookOnce", spec := "bookOnce", unfollowed := true, recurses := true, apart := false }
def BookOnceSaid : Prop := bookOnceRow.holds Try.pinned (OpenSpec.ofChange bookOnceSpec)

/-- ITS FALSE NEIGHBOUR: 'it returns false'. Refute it at one input. -/
def bookOnceWrong : ChangeSpec := { name := "bookOnce", fn := fun _ => fun
  | [d] => { results := [.lit (.bool false)], args := [d] }
  | _ => none }
def BookOnceWrongFalsely : Prop := bookOnceRow.holds Try.pinned (OpenSpec.ofChange bookOnceWrong)

/-- 'paymasterlaw17.BookBack': WHATEVER THE INPUT: true; the input reads as it did. -/
def bookBackSpec : ChangeSpec := { name := "bookBack", fn := fun _ => fun
  | [d1, d2, d3, d4, d5] => { results := [.lit (.bool true)], args := [d1, d2, d3, d4, d5] }
  | _ => none }
def bookBackRow : OpenClaim := { program := "ytbhjjheefdilbaa", sum := "348bb2896ac83dae5299d2ef446d127602c40ac7b68145430afd7464b54d6e6a", func := "paymaster/paymasterlaw17.BookBack", spec := "bookBack", unfollowed := true, recurses := true, apart := false }
def BookBackSaid : Prop := bookBackRow.holds Try.pinned (OpenSpec.ofChange bookBackSpec)

/-- ITS FALSE NEIGHBOUR: 'it returns false'. Refute it at one input. -/
def bookBackWrong : ChangeSpec := { name := "bookBack", fn := fun _ => fun
  | [d1, d2, d3, d4, d5] => { results := [.lit (.bool false)], args := [d1, d2, d3, d4, d5] }
  | _ => none }
def BookBackWrongFalsely : Prop := bookBackRow.holds Try.pinned (OpenSpec.ofChange bookBackWrong)

/-- 'paymasterlaw17.BookMore': WHATEVER THE INPUT: true; the input reads as it did. -/
def bookMoreSpec : ChangeSpec := { name := "bookMore", fn := fun _ => fun
  | [d1, d2, d3, d4, d5] => { results := [.lit (.bool true)], args := [d1, d2, d3, d4, d5] }
  | _ => none }
def bookMoreRow : OpenClaim := { program := "ytbhjjheefdilbaa", sum := "348bb2896ac83dae5299d2ef446d127602c40ac7b68145430afd7464b54d6e6a", func := "paymaster/paymasterlaw17.BookMore", spec := "bookMore", unfollowed := true, recurses := true, apart := false }
def BookMoreSaid : Prop := bookMoreRow.holds Try.pinned (OpenSpec.ofChange bookMoreSpec)

/-- ITS FALSE NEIGHBOUR: 'it returns false'. Refute it at one input. -/
def bookMoreWrong : ChangeSpec := { name := "bookMore", fn := fun _ => fun
  | [d1, d2, d3, d4, d5] => { results := [.lit (.bool false)], args := [d1, d2, d3, d4, d5] }
  | _ => none }
def BookMoreWrongFalsely : Prop := bookMoreRow.holds Try.pinned (OpenSpec.ofChange bookMoreWrong)

/- THE SECOND FORM. 'bulk': how many values and letters a reading holds, each counted each time it is reached (what is shared counts as often as it is met; a slice's spare places count too). A statement '..UptoSaid' is the law's where the arguments, and the package variables that the reading takes, are together of bulk at most 1048576: NARROWER than '..Said'. Prove '..Said' where nothing that the law and all that it calls make is longer than what came in: it says more and counts as full. Else prove '..UptoSaid'. A law counts once. -/
mutual
def uptoBulk {H : Type} : DataW H → Nat
  | .lit (.string bytes) => bytes.length + 1
  | .lit _ => 1
  | .nil => 1
  | .ptr d => uptoBulk d + 1
  | .slice elems spare => uptoBulkAll elems + uptoBulkAll spare + 1
  | .agg parts => uptoBulkAll parts + 1
  | .iface _ d => uptoBulk d + 1
  | .map entries => uptoBulkEntries entries + 1
  | .held _ => 1
def uptoBulkAll {H : Type} : List (DataW H) → Nat
  | [] => 0
  | d :: r => uptoBulk d + uptoBulkAll r
def uptoBulkEntries {H : Type} : List (Lit × DataW H) → Nat
  | [] => 0
  | x :: r => uptoBulkEntry x + uptoBulkEntries r
def uptoBulkEntry {H : Type} : Lit × DataW H → Nat
  | (.string bytes, d) => bytes.length + uptoBulk d + 1
  | (_, d) => uptoBulk d + 1
 end
def uptoSmall : (H : Type) → List (DataW H) → Bool := fun _ ds => decide (uptoBulkAll ds ≤ 1048576)
def OpenSpec.upto (s : _root_.Go.ChangeSpec) : _root_.Go.OpenSpec := { _root_.Go.OpenSpec.ofChange s with cond := some uptoSmall }

/-- 'paymasterlaw17.BookActs', WHERE WHAT IT READS IS OF BULK AT MOST 1048576: true; the input reads as it did. -/
def bookActsUptoRow : OpenClaim := { program := "ytbhjjheefdilbaa", sum := "348bb2896ac83dae5299d2ef446d127602c40ac7b68145430afd7464b54d6e6a", func := "paymaster/paymasterlaw17.BookActs", spec := "bookActs", unfollowed := true, recurses := true, apart := false, narrowed := true }
def BookActsUptoSaid : Prop := bookActsUptoRow.holds Try.pinned (OpenSpec.upto bookActsSpec)

/-- 'paymasterlaw17.BookOnce', WHERE WHAT IT READS IS OF BULK AT MOST 1048576: true; the input reads as it did. -/
def bookOnceUptoRow : OpenClaim := { program := "ytbhjjheefdilbaa", sum := "348bb2896ac83dae5299d2ef446d127602c40ac7b68145430afd7464b54d6e6a", func := "paymaster/paymasterlaw17.BookOnce", spec := "bookOnce", unfollowed := true, recurses := true, apart := false, narrowed := true }
def BookOnceUptoSaid : Prop := bookOnceUptoRow.holds Try.pinned (OpenSpec.upto bookOnceSpec)

/-- 'paymasterlaw17.BookBack', WHERE WHAT IT READS IS OF BULK AT MOST 1048576: true; the input reads as it did. -/
def bookBackUptoRow : OpenClaim := { program := "ytbhjjheefdilbaa", sum := "348bb2896ac83dae5299d2ef446d127602c40ac7b68145430afd7464b54d6e6a", func := "paymaster/paymasterlaw17.BookBack", spec := "bookBack", unfollowed := true, recurses := true, apart := false, narrowed := true }
def BookBackUptoSaid : Prop := bookBackUptoRow.holds Try.pinned (OpenSpec.upto bookBackSpec)

/-- 'paymasterlaw17.BookMore', WHERE WHAT IT READS IS OF BULK AT MOST 1048576: true; the input reads as it did. -/
def bookMoreUptoRow : OpenClaim := { program := "ytbhjjheefdilbaa", sum := "348bb2896ac83dae5299d2ef446d127602c40ac7b68145430afd7464b54d6e6a", func := "paymaster/paymasterlaw17.BookMore", spec := "bookMore", unfollowed := true, recurses := true, apart := false, narrowed := true }
def BookMoreUptoSaid : Prop := bookMoreUptoRow.holds Try.pinned (OpenSpec.upto bookMoreSpec)

end Rows
end Go.Proofs.Ytbhjjheefdilbaa
