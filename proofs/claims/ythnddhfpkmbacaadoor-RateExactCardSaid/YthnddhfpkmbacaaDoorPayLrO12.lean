/- Parts of any amount, by a rate and prorated, in any mode, are what the document says, or they are refused: for all numbers; no condition. The tied card: the variables that the row lists hold what the program's text lays. -/
import Derived.Test.YthnddhfpkmbacaaDoorCards
import Derived.Test.YthnddhfpkmbacaaDoorTie
import Derived.Test.YthnddhfpkmbacaaDoorPayLrFin
import Derived.Test.YthnddhfpkmbacaaDoorPayLrKit3
namespace Go.Proofs.YthnddhfpkmbacaaDoor.exact_rate
open Go.RowKit paylr
set_option linter.unusedVariables false
set_option maxRecDepth 100000 in
theorem told (dss : List (List Pay.D)) (h : Pay.ConfA [(false, [.int .i64]), (false, [.int .i64]), (false, [.int .i64]), (false, [.int .i64]), (false, [.int .i64])] dss) : Pay.SoundAt ctx 85 ⟨Pay.argVs [(false, [.int .i64]), (false, [.int .i64]), (false, [.int .i64]), (false, [.int .i64]), (false, [.int .i64])] dss, Pay.looko []⟩ ⟨.d (.bool true), Pay.looko []⟩ := by
  obtain ⟨a, r, rfl, ha, h⟩ := Pay.confA_int h
  obtain ⟨b, r, rfl, hb, h⟩ := Pay.confA_int h
  obtain ⟨p, r, rfl, hp, h⟩ := Pay.confA_int h
  obtain ⟨w, r, rfl, hw, h⟩ := Pay.confA_int h
  obtain ⟨m, r, rfl, hm, h⟩ := Pay.confA_int h
  obtain rfl := Pay.confA_nil h
  exact Pay.lawRateExact Pay.ok_g_law03_RateExact rateK quotK a b p w m ha hb hp hw
set_option maxRecDepth 100000 in
theorem lifted (os : Os) (started : os.Started) (H : Type) (enc : TypeId × Value → H) :
    ReturnsInHanded {} Tryd.checked os 11 .any (fun w args => (Rows.rateExactSpec.pre enc Tryd.prog Tryd.f11 [] false w args ∧ laidMetH Tryd.prog laid w) ∧ sizedMet enc Tryd.prog Tryd.f11 (OpenSpec.ofChange Rows.rateExactSpec) false w args)
      (Rows.rateExactSpec.post enc Tryd.prog Tryd.f11 false true false false) :=
  Pay.law_laid (K := Tryd.checked) ctx rfl (X := fun w => laidMetH Tryd.prog laid w) (k := 85) (n := 8) (shs := [(false, [.int .i64]), (false, [.int .i64]), (false, [.int .i64]), (false, [.int .i64]), (false, [.int .i64])]) (tb := 4) (fun _ _ hh h => h.of_heap hh) own started (by kernel_rfl) Tryd.func11
    (witness #[.int .i64 0, .int .i64 0, .int .i64 0, .int .i64 0, .int .i64 0] (by kernel_rfl) (by kernel_rfl) (by kernel_rfl)) laidOut (by kernel_rfl) (by kernel_rfl) (by kernel_rfl) Tryd.underlying4 rfl
    (fun ds hl => by
      have hl : ds.length = 5 := hl.trans (by rw [Tryd.params11]; rfl)
      match ds, hl with
      | [d0, d1, d2, d3, d4], _ => rfl)
    (by kernel_rfl) (by kernel_rfl) of_laid (by kernel_rfl) told
theorem row_holds : Rows.RateExactSaid :=
  OpenClaim.holds_of_wide 11 Tryd.f11 rfl rfl rfl rfl rfl rfl rfl ⟨rfl, rfl, rfl, rfl, rfl⟩ rfl rfl rfl rfl rfl (by kernel_rfl) Tryd.func11 (by kernel_rfl)
    (of_decide_eq_true (by kernel_rfl)) (by unfold Func.isWrapper; first | (rw [if_pos (by decide +kernel)]; kernel_rfl) | (rw [if_neg (by decide +kernel)]; exact ⟨rfl, rfl⟩))
    (fun os started H enc _ => lifted os started H enc)
theorem holds : Rows.RateExactCardSaid :=
  Claim7.holds_tied_plain_at .later [] [.data, .data, .data, .data, .sentinel, .sentinel, .pinned] true (true, "1ec15c184577fab0b8c0f086915acdf80fd408b446d95b7672e61e9546979aba") true
    row_holds (fun _ h => by cases h) (by kernel_rfl) (fun _ h => by cases h) rateExact_row_tie rfl ⟨rfl, rfl⟩ (by kernel_rfl) rfl
    (fun f fn hf hfn => by
      obtain rfl : f = 11 := Option.some.inj ((show Tryd.prog.funcNamed "paymaster/paymasterlaw03.RateExact" = some 11 by kernel_rfl).symm.trans hf) |>.symm
      obtain rfl : fn = Tryd.f11 := (Option.some.inj (Tryd.func11.symm.trans hfn)).symm
      exact ⟨by kernel_rfl, fun j t ht => by
        rw [Tryd.params11] at ht
        have hm : t ∈ [3, 3, 3, 3, 3] := by simpa using Array.mem_of_getElem? ht
        have hall : ([3, 3, 3, 3, 3].all fun u => !Tryd.prog.wantsStandIn u) = true := by kernel_rfl
        exact (show Tryd.prog.wantsStandIn t = false by simpa using List.all_eq_true.1 hall t hm)⟩)
    (by kernel_rfl)
#print axioms holds
end Go.Proofs.YthnddhfpkmbacaaDoor.exact_rate
