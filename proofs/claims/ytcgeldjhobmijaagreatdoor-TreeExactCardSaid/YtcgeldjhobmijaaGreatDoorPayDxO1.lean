/- Any text is the program that the document says, or the error, and where: for every text; no condition. The tied card: the variables that the row lists hold what the program's text lays. -/
import Derived.Test.YtcgeldjhobmijaaGreatDoorCards
import Derived.Test.YtcgeldjhobmijaaGreatDoorTie
import Derived.Test.YtcgeldjhobmijaaGreatDoorPayC112
import Derived.Test.YtcgeldjhobmijaaGreatDoorPayC72
import Derived.Test.YtcgeldjhobmijaaGreatDoorPayDxFin
import Derived.Test.YtcgeldjhobmijaaGreatDoorPayDxKit
import Derived.Test.YtcgeldjhobmijaaGreatDoorPayDxLib
import Derived.Test.YtcgeldjhobmijaaGreatDoorPayMTr1
import Derived.Test.YtcgeldjhobmijaaGreatDoorPayOk0
namespace Go.Proofs.YtcgeldjhobmijaaGreatDoor.exact_
open Go.RowKit paydx
set_option linter.unusedVariables false
set_option maxRecDepth 100000 in
theorem told (dss : List (List Pay.D)) (h : Pay.ConfA [(false, [.str])] dss) : Pay.SoundAt ctx 228 ⟨Pay.argVs [(false, [.str])] dss, Pay.looko []⟩ ⟨.d (.bool true), Pay.looko []⟩ := by
  obtain ⟨s, r, rfl, _, h⟩ := Pay.confA_str h
  obtain rfl := Pay.confA_nil h
  exact Pay.lawTreeExact Pay.ok_g_law08_TreeExact exactK s
set_option maxRecDepth 100000 in
theorem lifted (os : Os) (started : os.Started) (H : Type) (enc : TypeId × Value → H) :
    ReturnsInHanded {} Tryz.checked os 3 .any (fun w args => (Rows.treeExactSpec.pre enc Tryz.prog Tryz.f3 [] false w args ∧ laidMetH Tryz.prog laid w) ∧ sizedMet enc Tryz.prog Tryz.f3 (OpenSpec.ofChange Rows.treeExactSpec) false w args)
      (Rows.treeExactSpec.post enc Tryz.prog Tryz.f3 false true false false) :=
  Pay.law_laid (K := Tryz.checked) ctx rfl (X := fun w => laidMetH Tryz.prog laid w) (k := 228) (n := 8) (shs := [(false, [.str])]) (tb := 4) (fun _ _ hh h => h.of_heap hh) own started (by kernel_rfl) Tryz.func3
    (witness #[.string ⟨#[]⟩] (by kernel_rfl) (by kernel_rfl) (by kernel_rfl)) laidOut (by kernel_rfl) (by kernel_rfl) (by kernel_rfl) Tryz.underlying4 rfl
    (fun ds hl => by
      have hl : ds.length = 1 := hl.trans (by rw [Tryz.params3]; rfl)
      match ds, hl with
      | [d0], _ => rfl)
    (by kernel_rfl) (by kernel_rfl) of_laid (by kernel_rfl) told
theorem row_holds : Rows.TreeExactSaid :=
  OpenClaim.holds_of_wide 3 Tryz.f3 rfl rfl rfl rfl rfl rfl rfl ⟨rfl, rfl, rfl, rfl, rfl⟩ rfl rfl rfl rfl rfl (by kernel_rfl) Tryz.func3 (by kernel_rfl)
    (of_decide_eq_true (by kernel_rfl)) (by unfold Func.isWrapper; first | (rw [if_pos (by decide +kernel)]; kernel_rfl) | (rw [if_neg (by decide +kernel)]; exact ⟨rfl, rfl⟩))
    (fun os started H enc _ => lifted os started H enc)
theorem holds : Rows.TreeExactCardSaid :=
  Claim7.holds_tied_plain_at .later [] [.data, .data, .data, .data, .sentinel, .sentinel, .pinned] true (true, "6863ebb11ea5e8b2263a2445fa4ff06cec398985351a4fb5577cfee8fb46d033") true
    row_holds (fun _ h => by cases h) (by kernel_rfl) (fun _ h => by cases h) treeExact_row_tie rfl ⟨rfl, rfl⟩ (by kernel_rfl) rfl
    (fun f fn hf hfn => by
      obtain rfl : f = 3 := Option.some.inj ((show Tryz.prog.funcNamed "paymaster/paymasterlaw08.TreeExact" = some 3 by kernel_rfl).symm.trans hf) |>.symm
      obtain rfl : fn = Tryz.f3 := (Option.some.inj (Tryz.func3.symm.trans hfn)).symm
      exact ⟨by kernel_rfl, fun j t ht => by
        rw [Tryz.params3] at ht
        have hm : t ∈ [9] := by simpa using Array.mem_of_getElem? ht
        have hall : ([9].all fun u => !Tryz.prog.wantsStandIn u) = true := by kernel_rfl
        exact (show Tryz.prog.wantsStandIn t = false by simpa using List.all_eq_true.1 hall t hm)⟩)
    (by kernel_rfl)
#print axioms holds
end Go.Proofs.YtcgeldjhobmijaaGreatDoor.exact_
