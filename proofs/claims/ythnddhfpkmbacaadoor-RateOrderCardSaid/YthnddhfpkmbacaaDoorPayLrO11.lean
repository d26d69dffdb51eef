/- The texts of rates have at most seven bytes, with % at the end, and unlike rates have unlike texts: for every two rates; no condition. The tied card: the variables that the row lists hold what the program's text lays. -/
import Derived.Test.YthnddhfpkmbacaaDoorCards
import Derived.Test.YthnddhfpkmbacaaDoorTie
import Derived.Test.YthnddhfpkmbacaaDoorPayLrFin
import Derived.Test.YthnddhfpkmbacaaDoorPayLrKit2
namespace Go.Proofs.YthnddhfpkmbacaaDoor.order
open Go.RowKit paylr
set_option linter.unusedVariables false
set_option maxRecDepth 100000 in
theorem told (dss : List (List Pay.D)) (h : Pay.ConfA [(false, [.int .u16]), (false, [.int .u16])] dss) : Pay.SoundAt ctx 95 ⟨Pay.argVs [(false, [.int .u16]), (false, [.int .u16])] dss, Pay.looko []⟩ ⟨.d (.bool true), Pay.looko []⟩ := by
  obtain ⟨b, r, rfl, hb, h⟩ := Pay.confA_nat Pay.wf_u16 h
  obtain ⟨m, r, rfl, hm, h⟩ := Pay.confA_nat Pay.wf_u16 h
  obtain rfl := Pay.confA_nil h
  exact Pay.lawRateOrder Pay.ok_g_law03_RateOrder rateK b m hb hm
set_option maxRecDepth 100000 in
theorem lifted (os : Os) (started : os.Started) (H : Type) (enc : TypeId × Value → H) :
    ReturnsInHanded {} Tryd.checked os 14 .any (fun w args => (Rows.rateOrderSpec.pre enc Tryd.prog Tryd.f14 [] false w args ∧ laidMetH Tryd.prog laid w) ∧ sizedMet enc Tryd.prog Tryd.f14 (OpenSpec.ofChange Rows.rateOrderSpec) false w args)
      (Rows.rateOrderSpec.post enc Tryd.prog Tryd.f14 false true false false) :=
  Pay.law_laid (K := Tryd.checked) ctx rfl (X := fun w => laidMetH Tryd.prog laid w) (k := 95) (n := 8) (shs := [(false, [.int .u16]), (false, [.int .u16])]) (tb := 4) (fun _ _ hh h => h.of_heap hh) own started (by kernel_rfl) Tryd.func14
    (witness #[.int .u16 0, .int .u16 0] (by kernel_rfl) (by kernel_rfl) (by kernel_rfl)) laidOut (by kernel_rfl) (by kernel_rfl) (by kernel_rfl) Tryd.underlying4 rfl
    (fun ds hl => by
      have hl : ds.length = 2 := hl.trans (by rw [Tryd.params14]; rfl)
      match ds, hl with
      | [d0, d1], _ => rfl)
    (by kernel_rfl) (by kernel_rfl) of_laid (by kernel_rfl) told
theorem row_holds : Rows.RateOrderSaid :=
  OpenClaim.holds_of_wide 14 Tryd.f14 rfl rfl rfl rfl rfl rfl rfl ⟨rfl, rfl, rfl, rfl, rfl⟩ rfl rfl rfl rfl rfl (by kernel_rfl) Tryd.func14 (by kernel_rfl)
    (of_decide_eq_true (by kernel_rfl)) (by unfold Func.isWrapper; first | (rw [if_pos (by decide +kernel)]; kernel_rfl) | (rw [if_neg (by decide +kernel)]; exact ⟨rfl, rfl⟩))
    (fun os started H enc _ => lifted os started H enc)
theorem holds : Rows.RateOrderCardSaid :=
  Claim7.holds_tied_plain_at .later [] [.data, .data, .data, .data, .sentinel, .sentinel, .pinned] true (true, "1ec15c184577fab0b8c0f086915acdf80fd408b446d95b7672e61e9546979aba") true
    row_holds (fun _ h => by cases h) (by kernel_rfl) (fun _ h => by cases h) rateOrder_row_tie rfl ⟨rfl, rfl⟩ (by kernel_rfl) rfl
    (fun f fn hf hfn => by
      obtain rfl : f = 14 := Option.some.inj ((show Tryd.prog.funcNamed "paymaster/paymasterlaw03.RateOrder" = some 14 by kernel_rfl).symm.trans hf) |>.symm
      obtain rfl : fn = Tryd.f14 := (Option.some.inj (Tryd.func14.symm.trans hfn)).symm
      exact ⟨by kernel_rfl, fun j t ht => by
        rw [Tryd.params14] at ht
        have hm : t ∈ [39, 39] := by simpa using Array.mem_of_getElem? ht
        have hall : ([39, 39].all fun u => !Tryd.prog.wantsStandIn u) = true := by kernel_rfl
        exact (show Tryd.prog.wantsStandIn t = false by simpa using List.all_eq_true.1 hall t hm)⟩)
    (by kernel_rfl)
#print axioms holds
end Go.Proofs.YthnddhfpkmbacaaDoor.order
