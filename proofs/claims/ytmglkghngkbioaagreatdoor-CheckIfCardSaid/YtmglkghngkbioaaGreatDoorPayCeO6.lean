/- A choice by a flag of two parts has a kind just if both are of one: for every program, places and bindings; no condition. The tied card: the variables that the row lists hold what the program's text lays. -/
import Derived.Test.YtmglkghngkbioaaGreatDoorCards
import Derived.Test.YtmglkghngkbioaaGreatDoorTie
import Derived.Test.YtmglkghngkbioaaGreatDoorPayBc0
import Derived.Test.YtmglkghngkbioaaGreatDoorPayC95
import Derived.Test.YtmglkghngkbioaaGreatDoorPayCeFin
import Derived.Test.YtmglkghngkbioaaGreatDoorPayCeKit
import Derived.Test.YtmglkghngkbioaaGreatDoorPayCeLib
import Derived.Test.YtmglkghngkbioaaGreatDoorPayCkA
import Derived.Test.YtmglkghngkbioaaGreatDoorPayCkB
import Derived.Test.YtmglkghngkbioaaGreatDoorPayOk5
import Derived.Test.YtmglkghngkbioaaGreatDoorPayTr1
import Derived.Test.YtmglkghngkbioaaGreatDoorPayTr2
namespace Go.Proofs.YtmglkghngkbioaaGreatDoor.ifs
open Go.RowKit payce
set_option linter.unusedVariables false
set_option maxRecDepth 100000 in
theorem told (dss : List (List Pay.D)) (h : Pay.ConfA [(true, [.sl [.str, .str, .int .i64], .sl [.str, .str, .int .i64, .int .i64, .int .i64, .int .i64]]), (false, [.int .i64]), (false, [.int .i64]), (false, [.int .i64]), (false, [.sl [.str, .int .i64]])] dss) (z : Pay.SzA [[some 40, some 64], [none], [none], [none], [some 24]] dss) : Pay.SoundAt ctx 170 ⟨Pay.argVs [(true, [.sl [.str, .str, .int .i64], .sl [.str, .str, .int .i64, .int .i64, .int .i64, .int .i64]]), (false, [.int .i64]), (false, [.int .i64]), (false, [.int .i64]), (false, [.sl [.str, .int .i64]])] dss, Pay.looko []⟩ ⟨.d (.bool true), Pay.looko []⟩ := by
  obtain ⟨p, r, rfl, _, h1⟩ := Pay.confA_prog h
  obtain ⟨n, r, rfl, hn, h2⟩ := Pay.confA_int h1
  obtain ⟨m, r, rfl, hm, h3⟩ := Pay.confA_int h2
  obtain ⟨k, r, rfl, hk, h4⟩ := Pay.confA_int h3
  obtain ⟨l, r, rfl, h5⟩ := Pay.confA_binds h4
  obtain rfl := Pay.confA_nil h5
  exact Pay.lawCheckIf Pay.ok_g_law10_CheckIf lawK p n m k l (Pay.szA_prog z) hn hm hk
set_option maxRecDepth 100000 in
theorem lifted (os : Os) (started : os.Started) (H : Type) (enc : TypeId × Value → H) :
    ReturnsInHanded {} Tryz.checked os 8 .any (fun w args => (Rows.checkIfSpec.pre enc Tryz.prog Tryz.f8 [] false w args ∧ laidMetH Tryz.prog laid w) ∧ sizedMet enc Tryz.prog Tryz.f8 (OpenSpec.ofChange Rows.checkIfSpec) false w args)
      (Rows.checkIfSpec.post enc Tryz.prog Tryz.f8 false true false false) :=
  Pay.law_laid_sz (K := Tryz.checked) ctx rfl (X := fun w => laidMetH Tryz.prog laid w) (k := 170) (n := 8) (shs := [(true, [.sl [.str, .str, .int .i64], .sl [.str, .str, .int .i64, .int .i64, .int .i64, .int .i64]]), (false, [.int .i64]), (false, [.int .i64]), (false, [.int .i64]), (false, [.sl [.str, .int .i64]])]) (zs := [[some 40, some 64], [none], [none], [none], [some 24]]) (tb := 4) (fun _ _ hh h => h.of_heap hh) own started (by kernel_rfl) Tryz.func8
    (witness #[.agg #[.slice none 0 0, .slice none 0 0], .int .i64 0, .int .i64 0, .int .i64 0, .slice none 0 0] (by kernel_rfl) (by kernel_rfl) (by kernel_rfl)) laidOut (by kernel_rfl) (by kernel_rfl) (by kernel_rfl) (by kernel_rfl) Tryz.underlying4 rfl
    (fun ds hl => by
      have hl : ds.length = 5 := hl.trans (by rw [Tryz.params8]; rfl)
      match ds, hl with
      | [d0, d1, d2, d3, d4], _ => rfl)
    (by kernel_rfl) (by kernel_rfl) of_laid (by kernel_rfl) told
theorem row_holds : Rows.CheckIfSaid :=
  OpenClaim.holds_of_wide 8 Tryz.f8 rfl rfl rfl rfl rfl rfl rfl ⟨rfl, rfl, rfl, rfl, rfl⟩ rfl rfl rfl rfl rfl (by kernel_rfl) Tryz.func8 (by kernel_rfl)
    (of_decide_eq_true (by kernel_rfl)) (by unfold Func.isWrapper; first | (rw [if_pos (by decide +kernel)]; kernel_rfl) | (rw [if_neg (by decide +kernel)]; exact ⟨rfl, rfl⟩))
    (fun os started H enc _ => lifted os started H enc)
theorem holds : Rows.CheckIfCardSaid :=
  Claim7.holds_tied_plain_at .later [] [.data, .data, .data, .data, .sentinel, .sentinel, .pinned] true (true, "67c1f0b54be810e699e6cb9e1de96ceec1d95e5a1ae2609bb7a7d8438971333c") true
    row_holds (fun _ h => by cases h) (by kernel_rfl) (fun _ h => by cases h) checkIf_row_tie rfl ⟨rfl, rfl⟩ (by kernel_rfl) rfl
    (fun f fn hf hfn => by
      obtain rfl : f = 8 := Option.some.inj ((show Tryz.prog.funcNamed "paymaster/paymasterlaw10.CheckIf" = some 8 by kernel_rfl).symm.trans hf) |>.symm
      obtain rfl : fn = Tryz.f8 := (Option.some.inj (Tryz.func8.symm.trans hfn)).symm
      exact ⟨by kernel_rfl, fun j t ht => by
        rw [Tryz.params8] at ht
        have hm : t ∈ [25, 3, 3, 3, 26] := by simpa using Array.mem_of_getElem? ht
        have hall : ([25, 3, 3, 3, 26].all fun u => !Tryz.prog.wantsStandIn u) = true := by kernel_rfl
        exact (show Tryz.prog.wantsStandIn t = false by simpa using List.all_eq_true.1 hall t hm)⟩)
    (by kernel_rfl)
#print axioms holds
end Go.Proofs.YtmglkghngkbioaaGreatDoor.ifs
