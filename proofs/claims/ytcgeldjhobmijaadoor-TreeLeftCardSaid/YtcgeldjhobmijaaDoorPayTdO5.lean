/- A sum of so many numbers is read from the left: for every list; no condition. The tied card: the variables that the row lists hold what the program's text lays. -/
import Derived.Test.YtcgeldjhobmijaaDoorCards
import Derived.Test.YtcgeldjhobmijaaDoorTie
import Derived.Test.YtcgeldjhobmijaaDoorPayC69
import Derived.Test.YtcgeldjhobmijaaDoorPayOk5
import Derived.Test.YtcgeldjhobmijaaDoorPayTdFin
import Derived.Test.YtcgeldjhobmijaaDoorPayTdKit
import Derived.Test.YtcgeldjhobmijaaDoorPayTdLib
import Derived.Test.YtcgeldjhobmijaaDoorPayTr1
import Derived.Test.YtcgeldjhobmijaaDoorPayTr2
import Derived.Test.YtcgeldjhobmijaaDoorPayTr3
namespace Go.Proofs.YtcgeldjhobmijaaDoor.left
open Go.RowKit paytd
set_option linter.unusedVariables false
set_option maxRecDepth 100000 in
theorem told (dss : List (List Pay.D)) (h : Pay.ConfA [(false, [.sl [.int .u16]])] dss) : Pay.SoundAt ctx 150 ⟨Pay.argVs [(false, [.sl [.int .u16]])] dss, Pay.looko []⟩ ⟨.d (.bool true), Pay.looko []⟩ := by
  obtain ⟨l, r, rfl, hl, h⟩ := Pay.confA_nats Pay.wf_u16 h
  obtain rfl := Pay.confA_nil h
  exact Pay.lawTreeLeft Pay.ok_g_law08_TreeLeft treeK l hl
set_option maxRecDepth 100000 in
theorem lifted (os : Os) (started : os.Started) (H : Type) (enc : TypeId × Value → H) :
    ReturnsInHanded {} Tryd.checked os 7 .any (fun w args => (Rows.treeLeftSpec.pre enc Tryd.prog Tryd.f7 [] false w args ∧ laidMetH Tryd.prog laid w) ∧ sizedMet enc Tryd.prog Tryd.f7 (OpenSpec.ofChange Rows.treeLeftSpec) false w args)
      (Rows.treeLeftSpec.post enc Tryd.prog Tryd.f7 false true false false) :=
  Pay.law_laid (K := Tryd.checked) ctx rfl (X := fun w => laidMetH Tryd.prog laid w) (k := 150) (n := 8) (shs := [(false, [.sl [.int .u16]])]) (tb := 4) (fun _ _ hh h => h.of_heap hh) own started (by kernel_rfl) Tryd.func7
    (witness #[.slice none 0 0] (by kernel_rfl) (by kernel_rfl) (by kernel_rfl)) laidOut (by kernel_rfl) (by kernel_rfl) (by kernel_rfl) Tryd.underlying4 rfl
    (fun ds hl => by
      have hl : ds.length = 1 := hl.trans (by rw [Tryd.params7]; rfl)
      match ds, hl with
      | [d0], _ => rfl)
    (by kernel_rfl) (by kernel_rfl) of_laid (by kernel_rfl) told
theorem row_holds : Rows.TreeLeftSaid :=
  OpenClaim.holds_of_wide 7 Tryd.f7 rfl rfl rfl rfl rfl rfl rfl ⟨rfl, rfl, rfl, rfl, rfl⟩ rfl rfl rfl rfl rfl (by kernel_rfl) Tryd.func7 (by kernel_rfl)
    (of_decide_eq_true (by kernel_rfl)) (by unfold Func.isWrapper; first | (rw [if_pos (by decide +kernel)]; kernel_rfl) | (rw [if_neg (by decide +kernel)]; exact ⟨rfl, rfl⟩))
    (fun os started H enc _ => lifted os started H enc)
theorem holds : Rows.TreeLeftCardSaid :=
  Claim7.holds_tied_plain_at .later [] [.data, .data, .data, .data, .sentinel, .sentinel, .pinned] true (true, "f697441ff61bb7dc94de3d6129984026616870f9c740b4a90c24d4b50e538694") true
    row_holds (fun _ h => by cases h) (by kernel_rfl) (fun _ h => by cases h) treeLeft_row_tie rfl ⟨rfl, rfl⟩ (by kernel_rfl) rfl
    (fun f fn hf hfn => by
      obtain rfl : f = 7 := Option.some.inj ((show Tryd.prog.funcNamed "paymaster/paymasterlaw08.TreeLeft" = some 7 by kernel_rfl).symm.trans hf) |>.symm
      obtain rfl : fn = Tryd.f7 := (Option.some.inj (Tryd.func7.symm.trans hfn)).symm
      exact ⟨by kernel_rfl, fun j t ht => by
        rw [Tryd.params7] at ht
        have hm : t ∈ [51] := by simpa using Array.mem_of_getElem? ht
        have hall : ([51].all fun u => !Tryd.prog.wantsStandIn u) = true := by kernel_rfl
        exact (show Tryd.prog.wantsStandIn t = false by simpa using List.all_eq_true.1 hall t hm)⟩)
    (by kernel_rfl)
#print axioms holds
end Go.Proofs.YtcgeldjhobmijaaDoor.left
