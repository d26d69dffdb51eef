/- What the rows' listed variables give; the start that fits. -/
import Derived.Stop.LaidErr
import Derived.SevenTiedAt
import Derived.Test.YtmglkghngkbioaaGreatDoorPayCeLib
namespace Go.Proofs.YtmglkghngkbioaaGreatDoor.payce
open Go.RowKit
set_option linter.unusedVariables false
theorem own:ownKnob Tryz.prog.godebug=none:=by kernel_rfl
theorem laidOut:laidOutB Tryz.prog=true:=by kernel_rfl
theorem star : "*" ++ "errors.errorString" = "*errors.errorString" := by decide
theorem rowPtr (u : TypeId) (h : Tryz.prog.typeName? 3 u = some "*errors.errorString") : u = 200 :=
  typeName_ptr_named (nm := "errors.errorString") (by rw [star]; kernel_rfl) (by kernel_rfl) (by decide) u (by rw [star]; exact h)
def laid:List (String × DataW Unit):=Rows.checkKindsRow.laid
theorem of_laid (W:World)(hL:laidMetH Tryz.prog laid W)(hs:W.ShapedOpen Tryz.prog):gi W∧6≤W.heap.size:=by
  rw [MakeChecks.laidMetH_plain _ _ _ (by kernel_rfl)] at hL
  have hT : Lib.TabIs Tryz.prog W "internal/strconv.uint64pow10" .u64 Lib.pow10Tab :=
    Pay.tab_of_reads (g:=5) (t:=195) (e:=177) (n:=20) (by kernel_rfl) (by kernel_rfl) Tryz.underlying195 Tryz.underlying177 (by kernel_rfl) (by kernel_rfl) (Lib.laidMet.reads hL (.tail _ (.tail _ (.head _))))
  obtain ⟨m,hm⟩:=Tryz.laysM154.s1_3 W hs
  obtain ⟨a1,s1,h1,_⟩:=laid_sentinel (g:=2) hL.tail.tail.tail.tail (by kernel_rfl) (by kernel_rfl) Tryz.underlying137 rowPtr Tryz.underlying200 Tryz.underlying202 rfl rfl Tryz.underlying9 (by kernel_rfl) (by kernel_rfl)
  obtain ⟨a0,s0,h0,_⟩:=laid_sentinel (g:=1) hL.tail.tail.tail.tail.tail (by kernel_rfl) (by kernel_rfl) Tryz.underlying137 rowPtr Tryz.underlying200 Tryz.underlying202 rfl rfl Tryz.underlying9 (by kernel_rfl) (by kernel_rfl)
  refine ⟨⟨hT,⟨m,hm⟩,⟨_,_,h0⟩,⟨_,_,h1⟩⟩,?_⟩
  unfold Lib.TabIs World.var? at hT
  rw [show Tryz.prog.globalNamed "internal/strconv.uint64pow10" = some 5 by kernel_rfl, Option.bind_some] at hT
  rcases Nat.lt_or_ge 5 W.heap.size with h|h
  · exact h
  · rw [Array.getElem?_eq_none h] at hT
    cases hT
theorem witness {os:Os}{H:Type}{enc:TypeId × Value→H}{s:ChangeSpec}{f:FuncId}{fn:Func}(args:Array Value)
    (h1:Input.okWideB Tryz.prog ((World.laidAll Tryz.prog os laid).forCall (fun _ _=>0) ⟨#[],args,[]⟩) f ⟨#[],args,[]⟩=true)
    (h2:s.preB enc Tryz.prog fn [] false ((World.laidAll Tryz.prog os laid).forCall (fun _ _=>0) ⟨#[],args,[]⟩).memory args 8=true)
    (h3:s.sizedB enc Tryz.prog fn false ((World.laidAll Tryz.prog os laid).forCall (fun _ _=>0) ⟨#[],args,[]⟩).memory args 8=true) :
    ∃ (w:World) (tape:Tape) (i:Input),w.os=os∧(w.forCall tape i).Shaped Tryz.prog∧i.vars=[]∧Input.okWide Tryz.prog (w.forCall tape i) .any w.heap.size f i ∧
      ((s.pre enc Tryz.prog fn [] false (w.forCall tape i).memory i.args∧laidMetH Tryz.prog laid (w.forCall tape i).memory)∧sizedMet enc Tryz.prog fn (OpenSpec.ofChange s) false (w.forCall tape i).memory i.args)∧({}:Assume).holds Tryz.prog (lone (Frame.enter Tryz.prog f i.args .normal) [] (w.forCall tape i)) :=
  ChangeSpec.witness_shaped (enc:=enc) (C:=Tryz.checked) (os:=os) (X:=fun w _=>laidMetH Tryz.prog laid w) false (World.laidAll Tryz.prog os laid) args 8 (World.laidAll_os _ _ _)
    (World.shaped_of_ZipB (by kernel_rfl) (by kernel_rfl)) h1 h2 h3
    (by rw [MakeChecks.laidMetH_plain _ _ _ (by kernel_rfl)];exact laidMet_laidAll _ (by kernel_rfl) (by kernel_rfl))
end Go.Proofs.YtmglkghngkbioaaGreatDoor.payce
