/- An amount a hundred times as great has a text with two noughts behind the dot, and its digits ahead of it: for every whole number of 64 bits; no condition. The tied card: the variables that the row lists hold what the program's text lays. -/
import Derived.Test.YtbhjjheefdilbaaDoorPayMoFin
import Derived.Test.YtbhjjheefdilbaaDoorCards
import Derived.Test.YtbhjjheefdilbaaDoorTie
namespace Go.Proofs.YtbhjjheefdilbaaDoor.places
open Go.RowKit money
set_option linter.unusedVariables false

set_option maxRecDepth 100000 in
theorem told (dss : List (List Pay.D)) (h : Pay.ConfA [(false, [.int .i64])] dss) : Pay.SoundAt ctx 55 ⟨Pay.argVs [(false, [.int .i64])] dss, Pay.looko []⟩ ⟨.d (.bool true), Pay.looko []⟩ := by
  obtain ⟨a, r, rfl, ha, h⟩ := Pay.confA_int h
  obtain rfl := Pay.confA_nil h
  exact Pay.lawPlaces Pay.ok_g_law01_MoneyPlaces monK a ha

set_option maxRecDepth 100000 in
theorem lifted (os : Os) (started : os.Started) (H : Type) (enc : TypeId × Value → H) :
    ReturnsInHanded {} Tryd.checked os 4 .any (fun w args => (Rows.moneyPlacesSpec.pre enc Tryd.prog Tryd.f4 [] false w args ∧ laidMetH Tryd.prog laid w) ∧ sizedMet enc Tryd.prog Tryd.f4 (OpenSpec.ofChange Rows.moneyPlacesSpec) false w args)
      (Rows.moneyPlacesSpec.post enc Tryd.prog Tryd.f4 false true false false) :=
  Pay.law_laid (K := Tryd.checked) ctx rfl (X := fun w => laidMetH Tryd.prog laid w) (k := 55) (n := 8) (shs := [(false, [.int .i64])]) (tb := 4) (fun _ _ hh h => h.of_heap hh) own started (by kernel_rfl) Tryd.func4
    (witness #[.int .i64 0] (by kernel_rfl) (by kernel_rfl) (by kernel_rfl)) laidOut (by kernel_rfl) (by kernel_rfl) (by kernel_rfl) Tryd.underlying4 rfl
    (fun ds hl => by
      have hl : ds.length = 1 := hl.trans (by rw [Tryd.params4]; rfl)
      match ds, hl with
      | [d0], _ => rfl)
    (by kernel_rfl) (by kernel_rfl) of_laid (by kernel_rfl) told

theorem row_holds : Rows.MoneyPlacesSaid :=
  OpenClaim.holds_of_wide 4 Tryd.f4 rfl rfl rfl rfl rfl rfl rfl ⟨rfl, rfl, rfl, rfl, rfl⟩ rfl rfl rfl rfl rfl (by kernel_rfl) Tryd.func4 (by kernel_rfl)
    (of_decide_eq_true (by kernel_rfl)) (by unfold Func.isWrapper; first | (rw [if_pos (by decide +kernel)]; kernel_rfl) | (rw [if_neg (by decide +kernel)]; exact ⟨rfl, rfl⟩))
    (fun os started H enc _ => lifted os started H enc)

theorem holds : Rows.MoneyPlacesCardSaid :=
  Claim7.holds_tied_plain_at .later [] [.data, .data, .data, .data, .sentinel, .sentinel, .pinned] true (true, "a826ae901de321fd6dcf9a55917159886fa4cbbb8f67da7539a834638658d7f8") true
    row_holds (fun _ h => by cases h) (by kernel_rfl) (fun _ h => by cases h) moneyPlaces_row_tie rfl ⟨rfl, rfl⟩ (by kernel_rfl) rfl
    (fun f fn hf hfn => by
      obtain rfl : f = 4 := Option.some.inj ((show Tryd.prog.funcNamed "paymaster/paymasterlaw01.MoneyPlaces" = some 4 by kernel_rfl).symm.trans hf) |>.symm
      obtain rfl : fn = Tryd.f4 := (Option.some.inj (Tryd.func4.symm.trans hfn)).symm
      exact ⟨by kernel_rfl, fun j t ht => by
        rw [Tryd.params4] at ht
        have hm : t ∈ [2] := by simpa using Array.mem_of_getElem? ht
        have hall : ([2].all fun u => !Tryd.prog.wantsStandIn u) = true := by kernel_rfl
        exact (show Tryd.prog.wantsStandIn t = false by simpa using List.all_eq_true.1 hall t hm)⟩)
    (by kernel_rfl)
#print axioms holds
end Go.Proofs.YtbhjjheefdilbaaDoor.places
