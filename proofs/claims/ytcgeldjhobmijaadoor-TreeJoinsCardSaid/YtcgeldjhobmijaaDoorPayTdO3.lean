/- Two rule sets, one behind the other, are the rules of both, or the error: for every two texts; no condition. The tied card: the variables that the row lists hold what the program's text lays. -/
import Derived.Test.YtcgeldjhobmijaaDoorCards
import Derived.Test.YtcgeldjhobmijaaDoorTie
import Derived.Test.YtcgeldjhobmijaaDoorPayC71
import Derived.Test.YtcgeldjhobmijaaDoorPayOk0
import Derived.Test.YtcgeldjhobmijaaDoorPayOk3
import Derived.Test.YtcgeldjhobmijaaDoorPayTdFin
import Derived.Test.YtcgeldjhobmijaaDoorPayTdKit
import Derived.Test.YtcgeldjhobmijaaDoorPayTdLib
import Derived.Test.YtcgeldjhobmijaaDoorPayTr1
import Derived.Test.YtcgeldjhobmijaaDoorPayTr2
import Derived.Test.YtcgeldjhobmijaaDoorPayTr3
namespace Go.Proofs.YtcgeldjhobmijaaDoor.joins
open Go.RowKit paytd
set_option linter.unusedVariables false
set_option maxRecDepth 100000 in
theorem told (dss : List (List Pay.D)) (h : Pay.ConfA [(false, [.str]), (false, [.str])] dss) : Pay.SoundAt ctx 148 ⟨Pay.argVs [(false, [.str]), (false, [.str])] dss, Pay.looko []⟩ ⟨.d (.bool true), Pay.looko []⟩ := by
  obtain ⟨s, r, rfl, _, h⟩ := Pay.confA_str h
  obtain ⟨t, r, rfl, _, h⟩ := Pay.confA_str h
  obtain rfl := Pay.confA_nil h
  exact Pay.lawTreeJoins Pay.ok_g_law08_TreeJoins Pay.ok_g_law08_ref treeK s t
set_option maxRecDepth 100000 in
theorem lifted (os : Os) (started : os.Started) (H : Type) (enc : TypeId × Value → H) :
    ReturnsInHanded {} Tryd.checked os 5 .any (fun w args => (Rows.treeJoinsSpec.pre enc Tryd.prog Tryd.f5 [] false w args ∧ laidMetH Tryd.prog laid w) ∧ sizedMet enc Tryd.prog Tryd.f5 (OpenSpec.ofChange Rows.treeJoinsSpec) false w args)
      (Rows.treeJoinsSpec.post enc Tryd.prog Tryd.f5 false true false false) :=
  Pay.law_laid (K := Tryd.checked) ctx rfl (X := fun w => laidMetH Tryd.prog laid w) (k := 148) (n := 8) (shs := [(false, [.str]), (false, [.str])]) (tb := 4) (fun _ _ hh h => h.of_heap hh) own started (by kernel_rfl) Tryd.func5
    (witness #[.string ⟨#[]⟩, .string ⟨#[]⟩] (by kernel_rfl) (by kernel_rfl) (by kernel_rfl)) laidOut (by kernel_rfl) (by kernel_rfl) (by kernel_rfl) Tryd.underlying4 rfl
    (fun ds hl => by
      have hl : ds.length = 2 := hl.trans (by rw [Tryd.params5]; rfl)
      match ds, hl with
      | [d0, d1], _ => rfl)
    (by kernel_rfl) (by kernel_rfl) of_laid (by kernel_rfl) told
theorem row_holds : Rows.TreeJoinsSaid :=
  OpenClaim.holds_of_wide 5 Tryd.f5 rfl rfl rfl rfl rfl rfl rfl ⟨rfl, rfl, rfl, rfl, rfl⟩ rfl rfl rfl rfl rfl (by kernel_rfl) Tryd.func5 (by kernel_rfl)
    (of_decide_eq_true (by kernel_rfl)) (by unfold Func.isWrapper; first | (rw [if_pos (by decide +kernel)]; kernel_rfl) | (rw [if_neg (by decide +kernel)]; exact ⟨rfl, rfl⟩))
    (fun os started H enc _ => lifted os started H enc)
theorem holds : Rows.TreeJoinsCardSaid :=
  Claim7.holds_tied_plain_at .later [] [.data, .data, .data, .data, .sentinel, .sentinel, .pinned] true (true, "f697441ff61bb7dc94de3d6129984026616870f9c740b4a90c24d4b50e538694") true
    row_holds (fun _ h => by cases h) (by kernel_rfl) (fun _ h => by cases h) treeJoins_row_tie rfl ⟨rfl, rfl⟩ (by kernel_rfl) rfl
    (fun f fn hf hfn => by
      obtain rfl : f = 5 := Option.some.inj ((show Tryd.prog.funcNamed "paymaster/paymasterlaw08.TreeJoins" = some 5 by kernel_rfl).symm.trans hf) |>.symm
      obtain rfl : fn = Tryd.f5 := (Option.some.inj (Tryd.func5.symm.trans hfn)).symm
      exact ⟨by kernel_rfl, fun j t ht => by
        rw [Tryd.params5] at ht
        have hm : t ∈ [9, 9] := by simpa using Array.mem_of_getElem? ht
        have hall : ([9, 9].all fun u => !Tryd.prog.wantsStandIn u) = true := by kernel_rfl
        exact (show Tryd.prog.wantsStandIn t = false by simpa using List.all_eq_true.1 hall t hm)⟩)
    (by kernel_rfl)
#print axioms holds
end Go.Proofs.YtcgeldjhobmijaaDoor.joins
