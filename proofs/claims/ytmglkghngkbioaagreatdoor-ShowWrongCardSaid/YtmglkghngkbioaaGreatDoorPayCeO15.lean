/- A program of which one number, one place, or one word is turned has no text, or one that is read to it: for every text, place, number and word; no condition. The tied card: the variables that the row lists hold what the program's text lays. -/
import Derived.Test.YtmglkghngkbioaaGreatDoorCards
import Derived.Test.YtmglkghngkbioaaGreatDoorTie
import Derived.Test.YtmglkghngkbioaaGreatDoorPayBc0
import Derived.Test.YtmglkghngkbioaaGreatDoorPayC102
import Derived.Test.YtmglkghngkbioaaGreatDoorPayC106
import Derived.Test.YtmglkghngkbioaaGreatDoorPayCeFin
import Derived.Test.YtmglkghngkbioaaGreatDoorPayCeKit9
import Derived.Test.YtmglkghngkbioaaGreatDoorPayCeLib
import Derived.Test.YtmglkghngkbioaaGreatDoorPayMTr1
import Derived.Test.YtmglkghngkbioaaGreatDoorPayOk0
namespace Go.Proofs.YtmglkghngkbioaaGreatDoor.wrong
open Go.RowKit payce
set_option linter.unusedVariables false
set_option maxRecDepth 100000 in
theorem told (dss : List (List Pay.D)) (h : Pay.ConfA [(false, [.str]), (false, [.int .u16]), (false, [.int .i8]), (false, [.str])] dss) : Pay.SoundAt ctx 180 ⟨Pay.argVs [(false, [.str]), (false, [.int .u16]), (false, [.int .i8]), (false, [.str])] dss, Pay.looko []⟩ ⟨.d (.bool true), Pay.looko []⟩ := by
  obtain ⟨s, r, rfl, _, h⟩ := Pay.confA_str h
  obtain ⟨i, r, rfl, hi, h⟩ := Pay.confA_nat Pay.wf_u16 h
  obtain ⟨b, r, rfl, hb, h⟩ := Pay.confA_i8 h
  obtain ⟨w, r, rfl, _, h⟩ := Pay.confA_str h
  obtain rfl := Pay.confA_nil h
  exact Pay.lawShowWrong Pay.ok_g_law09_ShowWrong showK s i hi b hb w
set_option maxRecDepth 100000 in
theorem lifted (os : Os) (started : os.Started) (H : Type) (enc : TypeId × Value → H) :
    ReturnsInHanded {} Tryz.checked os 11 .any (fun w args => (Rows.showWrongSpec.pre enc Tryz.prog Tryz.f11 [] false w args ∧ laidMetH Tryz.prog laid w) ∧ sizedMet enc Tryz.prog Tryz.f11 (OpenSpec.ofChange Rows.showWrongSpec) false w args)
      (Rows.showWrongSpec.post enc Tryz.prog Tryz.f11 false true false false) :=
  Pay.law_laid (K := Tryz.checked) ctx rfl (X := fun w => laidMetH Tryz.prog laid w) (k := 180) (n := 8) (shs := [(false, [.str]), (false, [.int .u16]), (false, [.int .i8]), (false, [.str])]) (tb := 4) (fun _ _ hh h => h.of_heap hh) own started (by kernel_rfl) Tryz.func11
    (witness #[.string ⟨#[]⟩, .int .u16 0, .int .i8 0, .string ⟨#[]⟩] (by kernel_rfl) (by kernel_rfl) (by kernel_rfl)) laidOut (by kernel_rfl) (by kernel_rfl) (by kernel_rfl) Tryz.underlying4 rfl
    (fun ds hl => by
      have hl : ds.length = 4 := hl.trans (by rw [Tryz.params11]; rfl)
      match ds, hl with
      | [d0, d1, d2, d3], _ => rfl)
    (by kernel_rfl) (by kernel_rfl) of_laid (by kernel_rfl) told
theorem row_holds : Rows.ShowWrongSaid :=
  OpenClaim.holds_of_wide 11 Tryz.f11 rfl rfl rfl rfl rfl rfl rfl ⟨rfl, rfl, rfl, rfl, rfl⟩ rfl rfl rfl rfl rfl (by kernel_rfl) Tryz.func11 (by kernel_rfl)
    (of_decide_eq_true (by kernel_rfl)) (by unfold Func.isWrapper; first | (rw [if_pos (by decide +kernel)]; kernel_rfl) | (rw [if_neg (by decide +kernel)]; exact ⟨rfl, rfl⟩))
    (fun os started H enc _ => lifted os started H enc)
theorem holds : Rows.ShowWrongCardSaid :=
  Claim7.holds_tied_plain_at .later [] [.data, .data, .data, .data, .sentinel, .sentinel, .pinned] true (true, "67c1f0b54be810e699e6cb9e1de96ceec1d95e5a1ae2609bb7a7d8438971333c") true
    row_holds (fun _ h => by cases h) (by kernel_rfl) (fun _ h => by cases h) showWrong_row_tie rfl ⟨rfl, rfl⟩ (by kernel_rfl) rfl
    (fun f fn hf hfn => by
      obtain rfl : f = 11 := Option.some.inj ((show Tryz.prog.funcNamed "paymaster/paymasterlaw09.ShowWrong" = some 11 by kernel_rfl).symm.trans hf) |>.symm
      obtain rfl : fn = Tryz.f11 := (Option.some.inj (Tryz.func11.symm.trans hfn)).symm
      exact ⟨by kernel_rfl, fun j t ht => by
        rw [Tryz.params11] at ht
        have hm : t ∈ [9, 64, 65, 9] := by simpa using Array.mem_of_getElem? ht
        have hall : ([9, 64, 65, 9].all fun u => !Tryz.prog.wantsStandIn u) = true := by kernel_rfl
        exact (show Tryz.prog.wantsStandIn t = false by simpa using List.all_eq_true.1 hall t hm)⟩)
    (by kernel_rfl)
#print axioms holds
end Go.Proofs.YtmglkghngkbioaaGreatDoor.wrong
