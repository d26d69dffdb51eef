/- A program's text has no more ( than the text that it was read of: for every text; no condition. The tied card: the variables that the row lists hold what the program's text lays. -/
import Derived.Test.YtmglkghngkbioaaGreatDoorCards
import Derived.Test.YtmglkghngkbioaaGreatDoorTie
import Derived.Test.YtmglkghngkbioaaGreatDoorPayBc0
import Derived.Test.YtmglkghngkbioaaGreatDoorPayC102
import Derived.Test.YtmglkghngkbioaaGreatDoorPayC105
import Derived.Test.YtmglkghngkbioaaGreatDoorPayCeFin
import Derived.Test.YtmglkghngkbioaaGreatDoorPayCeKit9
import Derived.Test.YtmglkghngkbioaaGreatDoorPayCeLib
import Derived.Test.YtmglkghngkbioaaGreatDoorPayLawI
import Derived.Test.YtmglkghngkbioaaGreatDoorPayMTr1
import Derived.Test.YtmglkghngkbioaaGreatDoorPayOk1
namespace Go.Proofs.YtmglkghngkbioaaGreatDoor.bare
open Go.RowKit payce
set_option linter.unusedVariables false
set_option maxRecDepth 100000 in
theorem told (dss : List (List Pay.D)) (h : Pay.ConfA [(false, [.str])] dss) : Pay.SoundAt ctx 181 ⟨Pay.argVs [(false, [.str])] dss, Pay.looko []⟩ ⟨.d (.bool true), Pay.looko []⟩ := by
  obtain ⟨s, r, rfl, _, h⟩ := Pay.confA_str h
  obtain rfl := Pay.confA_nil h
  exact Pay.lawShowBare Pay.ok_g_law09_ShowBare showK s
set_option maxRecDepth 100000 in
theorem lifted (os : Os) (started : os.Started) (H : Type) (enc : TypeId × Value → H) :
    ReturnsInHanded {} Tryz.checked os 12 .any (fun w args => (Rows.showBareSpec.pre enc Tryz.prog Tryz.f12 [] false w args ∧ laidMetH Tryz.prog laid w) ∧ sizedMet enc Tryz.prog Tryz.f12 (OpenSpec.ofChange Rows.showBareSpec) false w args)
      (Rows.showBareSpec.post enc Tryz.prog Tryz.f12 false true false false) :=
  Pay.law_laid (K := Tryz.checked) ctx rfl (X := fun w => laidMetH Tryz.prog laid w) (k := 181) (n := 8) (shs := [(false, [.str])]) (tb := 4) (fun _ _ hh h => h.of_heap hh) own started (by kernel_rfl) Tryz.func12
    (witness #[.string ⟨#[]⟩] (by kernel_rfl) (by kernel_rfl) (by kernel_rfl)) laidOut (by kernel_rfl) (by kernel_rfl) (by kernel_rfl) Tryz.underlying4 rfl
    (fun ds hl => by
      have hl : ds.length = 1 := hl.trans (by rw [Tryz.params12]; rfl)
      match ds, hl with
      | [d0], _ => rfl)
    (by kernel_rfl) (by kernel_rfl) of_laid (by kernel_rfl) told
theorem row_holds : Rows.ShowBareSaid :=
  OpenClaim.holds_of_wide 12 Tryz.f12 rfl rfl rfl rfl rfl rfl rfl ⟨rfl, rfl, rfl, rfl, rfl⟩ rfl rfl rfl rfl rfl (by kernel_rfl) Tryz.func12 (by kernel_rfl)
    (of_decide_eq_true (by kernel_rfl)) (by unfold Func.isWrapper; first | (rw [if_pos (by decide +kernel)]; kernel_rfl) | (rw [if_neg (by decide +kernel)]; exact ⟨rfl, rfl⟩))
    (fun os started H enc _ => lifted os started H enc)
theorem holds : Rows.ShowBareCardSaid :=
  Claim7.holds_tied_plain_at .later [] [.data, .data, .data, .data, .sentinel, .sentinel, .pinned] true (true, "67c1f0b54be810e699e6cb9e1de96ceec1d95e5a1ae2609bb7a7d8438971333c") true
    row_holds (fun _ h => by cases h) (by kernel_rfl) (fun _ h => by cases h) showBare_row_tie rfl ⟨rfl, rfl⟩ (by kernel_rfl) rfl
    (fun f fn hf hfn => by
      obtain rfl : f = 12 := Option.some.inj ((show Tryz.prog.funcNamed "paymaster/paymasterlaw09.ShowBare" = some 12 by kernel_rfl).symm.trans hf) |>.symm
      obtain rfl : fn = Tryz.f12 := (Option.some.inj (Tryz.func12.symm.trans hfn)).symm
      exact ⟨by kernel_rfl, fun j t ht => by
        rw [Tryz.params12] at ht
        have hm : t ∈ [9] := by simpa using Array.mem_of_getElem? ht
        have hall : ([9].all fun u => !Tryz.prog.wantsStandIn u) = true := by kernel_rfl
        exact (show Tryz.prog.wantsStandIn t = false by simpa using List.all_eq_true.1 hall t hm)⟩)
    (by kernel_rfl)
#print axioms holds
end Go.Proofs.YtmglkghngkbioaaGreatDoor.bare
