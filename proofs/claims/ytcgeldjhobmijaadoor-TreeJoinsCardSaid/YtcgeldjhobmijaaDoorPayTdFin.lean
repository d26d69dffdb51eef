/- What the rows' listed variables give; the start that fits. -/
import Derived.Stop.LaidErr
import Derived.SevenTiedAt
import Derived.Test.YtcgeldjhobmijaaDoorPayBc0
import Derived.Test.YtcgeldjhobmijaaDoorPayTdLib
namespace Go.Proofs.YtcgeldjhobmijaaDoor.paytd
open Go.RowKit
set_option linter.unusedVariables false
theorem own : ownKnob Tryd.prog.godebug = none := by kernel_rfl
theorem laidOut : laidOutB Tryd.prog = true := by kernel_rfl
theorem star : "*" ++ "errors.errorString" = "*errors.errorString" := by decide
theorem rowPtr (u : TypeId) (h : Tryd.prog.typeName? 3 u = some "*errors.errorString") : u = 123 :=
  typeName_ptr_named (nm := "errors.errorString") (by rw [star]; kernel_rfl) (by kernel_rfl) (by decide) u (by rw [star]; exact h)
/-- What every row of this seat lists. -/
def laid : List (String × DataW Unit) := Rows.treePartsRow.laid
theorem of_laid (W : World) (hL : laidMetH Tryd.prog laid W) (hs : W.ShapedOpen Tryd.prog) : gi W ∧ 6 ≤ W.heap.size := by
  rw [MakeChecks.laidMetH_plain _ _ _ (by kernel_rfl)] at hL
  have hT : Lib.TabIs Tryd.prog W "internal/strconv.uint64pow10" .u64 Lib.pow10Tab :=
    Pay.tab_of_reads (g := 5) (t := 135) (e := 106) (n := 20) (by kernel_rfl) (by kernel_rfl) Tryd.underlying135 Tryd.underlying106 (by kernel_rfl) (by kernel_rfl) (Lib.laidMet.reads hL (.tail _ (.tail _ (.head _))))
  obtain ⟨m, hm⟩ := Tryd.laysM154.s1_3 W hs
  obtain ⟨a1, s1, h1, _⟩ := laid_sentinel (g := 2) hL.tail.tail.tail.tail (by kernel_rfl) (by kernel_rfl) Tryd.underlying79 rowPtr Tryd.underlying123 Tryd.underlying125 rfl rfl Tryd.underlying9 (by kernel_rfl) (by kernel_rfl)
  obtain ⟨a0, s0, h0, _⟩ := laid_sentinel (g := 1) hL.tail.tail.tail.tail.tail (by kernel_rfl) (by kernel_rfl) Tryd.underlying79 rowPtr Tryd.underlying123 Tryd.underlying125 rfl rfl Tryd.underlying9 (by kernel_rfl) (by kernel_rfl)
  refine ⟨⟨hT, ⟨m, hm⟩, ⟨_, _, h0⟩, ⟨_, _, h1⟩⟩, ?_⟩
  unfold Lib.TabIs World.var? at hT
  rw [show Tryd.prog.globalNamed "internal/strconv.uint64pow10" = some 5 by kernel_rfl, Option.bind_some] at hT
  rcases Nat.lt_or_ge 5 W.heap.size with h | h
  · exact h
  · rw [Array.getElem?_eq_none h] at hT
    cases hT
theorem witness {os : Os} {H : Type} {enc : TypeId × Value → H} {s : ChangeSpec} {f : FuncId} {fn : Func} (args : Array Value)
    (h1 : Input.okWideB Tryd.prog ((World.laidAll Tryd.prog os laid).forCall (fun _ _ => 0) ⟨#[], args, []⟩) f ⟨#[], args, []⟩ = true)
    (h2 : s.preB enc Tryd.prog fn [] false ((World.laidAll Tryd.prog os laid).forCall (fun _ _ => 0) ⟨#[], args, []⟩).memory args 8 = true)
    (h3 : s.sizedB enc Tryd.prog fn false ((World.laidAll Tryd.prog os laid).forCall (fun _ _ => 0) ⟨#[], args, []⟩).memory args 8 = true) :
    ∃ (w : World) (tape : Tape) (i : Input), w.os = os ∧ (w.forCall tape i).Shaped Tryd.prog ∧ i.vars = [] ∧ Input.okWide Tryd.prog (w.forCall tape i) .any w.heap.size f i ∧
      ((s.pre enc Tryd.prog fn [] false (w.forCall tape i).memory i.args ∧ laidMetH Tryd.prog laid (w.forCall tape i).memory) ∧ sizedMet enc Tryd.prog fn (OpenSpec.ofChange s) false (w.forCall tape i).memory i.args) ∧ ({} : Assume).holds Tryd.prog (lone (Frame.enter Tryd.prog f i.args .normal) [] (w.forCall tape i)) :=
  ChangeSpec.witness_shaped (enc := enc) (C := Tryd.checked) (os := os) (X := fun w _ => laidMetH Tryd.prog laid w) false (World.laidAll Tryd.prog os laid) args 8 (World.laidAll_os _ _ _)
    (World.shaped_of_ZipB (by kernel_rfl) (by kernel_rfl)) h1 h2 h3
    (by rw [MakeChecks.laidMetH_plain _ _ _ (by kernel_rfl)]; exact laidMet_laidAll _ (by kernel_rfl) (by kernel_rfl))
end Go.Proofs.YtcgeldjhobmijaaDoor.paytd
