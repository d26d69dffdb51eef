/- An expression in so many ( ), or behind so many -, is read up to a depth of 20: for every number; no condition. The tied card: the variables that the row lists hold what the program's text lays. -/
import Derived.Test.YtcgeldjhobmijaaDoorCards
import Derived.Test.YtcgeldjhobmijaaDoorTie
import Derived.Test.YtcgeldjhobmijaaDoorPayC68
import Derived.Test.YtcgeldjhobmijaaDoorPayOk4
import Derived.Test.YtcgeldjhobmijaaDoorPayTdFin
import Derived.Test.YtcgeldjhobmijaaDoorPayTdKit
import Derived.Test.YtcgeldjhobmijaaDoorPayTdLib
import Derived.Test.YtcgeldjhobmijaaDoorPayTr1
import Derived.Test.YtcgeldjhobmijaaDoorPayTr2
import Derived.Test.YtcgeldjhobmijaaDoorPayTr3
namespace Go.Proofs.YtcgeldjhobmijaaDoor.deep
open Go.RowKit paytd
set_option linter.unusedVariables false
set_option maxRecDepth 100000 in
theorem told (dss : List (List Pay.D)) (h : Pay.ConfA [(false, [.int .u8]), (false, [.bool])] dss) : Pay.SoundAt ctx 149 ⟨Pay.argVs [(false, [.int .u8]), (false, [.bool])] dss, Pay.looko []⟩ ⟨.d (.bool true), Pay.looko []⟩ := by
  obtain ⟨n, r, rfl, hn, h⟩ := Pay.confA_nat Pay.wf_u8 h
  obtain ⟨b, r, rfl, h2⟩ := Pay.confA_bool h
  obtain rfl := Pay.confA_nil h2
  exact Pay.lawTreeDeep Pay.ok_g_law08_TreeDeep treeK n b hn
set_option maxRecDepth 100000 in
theorem lifted (os : Os) (started : os.Started) (H : Type) (enc : TypeId × Value → H) :
    ReturnsInHanded {} Tryd.checked os 6 .any (fun w args => (Rows.treeDeepSpec.pre enc Tryd.prog Tryd.f6 [] false w args ∧ laidMetH Tryd.prog laid w) ∧ sizedMet enc Tryd.prog Tryd.f6 (OpenSpec.ofChange Rows.treeDeepSpec) false w args)
      (Rows.treeDeepSpec.post enc Tryd.prog Tryd.f6 false true false false) :=
  Pay.law_laid (K := Tryd.checked) ctx rfl (X := fun w => laidMetH Tryd.prog laid w) (k := 149) (n := 8) (shs := [(false, [.int .u8]), (false, [.bool])]) (tb := 4) (fun _ _ hh h => h.of_heap hh) own started (by kernel_rfl) Tryd.func6
    (witness #[.int .u8 0, .bool false] (by kernel_rfl) (by kernel_rfl) (by kernel_rfl)) laidOut (by kernel_rfl) (by kernel_rfl) (by kernel_rfl) Tryd.underlying4 rfl
    (fun ds hl => by
      have hl : ds.length = 2 := hl.trans (by rw [Tryd.params6]; rfl)
      match ds, hl with
      | [d0, d1], _ => rfl)
    (by kernel_rfl) (by kernel_rfl) of_laid (by kernel_rfl) told
theorem row_holds : Rows.TreeDeepSaid :=
  OpenClaim.holds_of_wide 6 Tryd.f6 rfl rfl rfl rfl rfl rfl rfl ⟨rfl, rfl, rfl, rfl, rfl⟩ rfl rfl rfl rfl rfl (by kernel_rfl) Tryd.func6 (by kernel_rfl)
    (of_decide_eq_true (by kernel_rfl)) (by unfold Func.isWrapper; first | (rw [if_pos (by decide +kernel)]; kernel_rfl) | (rw [if_neg (by decide +kernel)]; exact ⟨rfl, rfl⟩))
    (fun os started H enc _ => lifted os started H enc)
theorem holds : Rows.TreeDeepCardSaid :=
  Claim7.holds_tied_plain_at .later [] [.data, .data, .data, .data, .sentinel, .sentinel, .pinned] true (true, "f697441ff61bb7dc94de3d6129984026616870f9c740b4a90c24d4b50e538694") true
    row_holds (fun _ h => by cases h) (by kernel_rfl) (fun _ h => by cases h) treeDeep_row_tie rfl ⟨rfl, rfl⟩ (by kernel_rfl) rfl
    (fun f fn hf hfn => by
      obtain rfl : f = 6 := Option.some.inj ((show Tryd.prog.funcNamed "paymaster/paymasterlaw08.TreeDeep" = some 6 by kernel_rfl).symm.trans hf) |>.symm
      obtain rfl : fn = Tryd.f6 := (Option.some.inj (Tryd.func6.symm.trans hfn)).symm
      exact ⟨by kernel_rfl, fun j t ht => by
        rw [Tryd.params6] at ht
        have hm : t ∈ [5, 4] := by simpa using Array.mem_of_getElem? ht
        have hall : ([5, 4].all fun u => !Tryd.prog.wantsStandIn u) = true := by kernel_rfl
        exact (show Tryd.prog.wantsStandIn t = false by simpa using List.all_eq_true.1 hall t hm)⟩)
    (by kernel_rfl)
#print axioms holds
end Go.Proofs.YtcgeldjhobmijaaDoor.deep
