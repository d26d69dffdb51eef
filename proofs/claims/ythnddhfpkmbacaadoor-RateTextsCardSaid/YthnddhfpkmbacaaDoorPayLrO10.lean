/- The text of any rate is what the document says, and it is parsed; any text is the rate that it says, or none: for every number and every text; no condition. The tied card: the variables that the row lists hold what the program's text lays. -/
import Derived.Test.YthnddhfpkmbacaaDoorCards
import Derived.Test.YthnddhfpkmbacaaDoorTie
import Derived.Test.YthnddhfpkmbacaaDoorPayLrFin
import Derived.Test.YthnddhfpkmbacaaDoorPayLrKit2
namespace Go.Proofs.YthnddhfpkmbacaaDoor.texts
open Go.RowKit paylr
set_option linter.unusedVariables false
set_option maxRecDepth 100000 in
theorem told (dss : List (List Pay.D)) (h : Pay.ConfA [(false, [.int .i64]), (false, [.str])] dss) : Pay.SoundAt ctx 90 ⟨Pay.argVs [(false, [.int .i64]), (false, [.str])] dss, Pay.looko []⟩ ⟨.d (.bool true), Pay.looko []⟩ := by
  obtain ⟨n, r, rfl, _, h⟩ := Pay.confA_int h
  obtain ⟨s, r, rfl, _, h⟩ := Pay.confA_str h
  obtain rfl := Pay.confA_nil h
  exact Pay.lawRateTexts Pay.ok_g_law03_RateTexts rateK n s
set_option maxRecDepth 100000 in
theorem lifted (os : Os) (started : os.Started) (H : Type) (enc : TypeId × Value → H) :
    ReturnsInHanded {} Tryd.checked os 13 .any (fun w args => (Rows.rateTextsSpec.pre enc Tryd.prog Tryd.f13 [] false w args ∧ laidMetH Tryd.prog laid w) ∧ sizedMet enc Tryd.prog Tryd.f13 (OpenSpec.ofChange Rows.rateTextsSpec) false w args)
      (Rows.rateTextsSpec.post enc Tryd.prog Tryd.f13 false true false false) :=
  Pay.law_laid (K := Tryd.checked) ctx rfl (X := fun w => laidMetH Tryd.prog laid w) (k := 90) (n := 8) (shs := [(false, [.int .i64]), (false, [.str])]) (tb := 4) (fun _ _ hh h => h.of_heap hh) own started (by kernel_rfl) Tryd.func13
    (witness #[.int .i64 0, .string ⟨#[]⟩] (by kernel_rfl) (by kernel_rfl) (by kernel_rfl)) laidOut (by kernel_rfl) (by kernel_rfl) (by kernel_rfl) Tryd.underlying4 rfl
    (fun ds hl => by
      have hl : ds.length = 2 := hl.trans (by rw [Tryd.params13]; rfl)
      match ds, hl with
      | [d0, d1], _ => rfl)
    (by kernel_rfl) (by kernel_rfl) of_laid (by kernel_rfl) told
theorem row_holds : Rows.RateTextsSaid :=
  OpenClaim.holds_of_wide 13 Tryd.f13 rfl rfl rfl rfl rfl rfl rfl ⟨rfl, rfl, rfl, rfl, rfl⟩ rfl rfl rfl rfl rfl (by kernel_rfl) Tryd.func13 (by kernel_rfl)
    (of_decide_eq_true (by kernel_rfl)) (by unfold Func.isWrapper; first | (rw [if_pos (by decide +kernel)]; kernel_rfl) | (rw [if_neg (by decide +kernel)]; exact ⟨rfl, rfl⟩))
    (fun os started H enc _ => lifted os started H enc)
theorem holds : Rows.RateTextsCardSaid :=
  Claim7.holds_tied_plain_at .later [] [.data, .data, .data, .data, .sentinel, .sentinel, .pinned] true (true, "1ec15c184577fab0b8c0f086915acdf80fd408b446d95b7672e61e9546979aba") true
    row_holds (fun _ h => by cases h) (by kernel_rfl) (fun _ h => by cases h) rateTexts_row_tie rfl ⟨rfl, rfl⟩ (by kernel_rfl) rfl
    (fun f fn hf hfn => by
      obtain rfl : f = 13 := Option.some.inj ((show Tryd.prog.funcNamed "paymaster/paymasterlaw03.RateTexts" = some 13 by kernel_rfl).symm.trans hf) |>.symm
      obtain rfl : fn = Tryd.f13 := (Option.some.inj (Tryd.func13.symm.trans hfn)).symm
      exact ⟨by kernel_rfl, fun j t ht => by
        rw [Tryd.params13] at ht
        have hm : t ∈ [3, 9] := by simpa using Array.mem_of_getElem? ht
        have hall : ([3, 9].all fun u => !Tryd.prog.wantsStandIn u) = true := by kernel_rfl
        exact (show Tryd.prog.wantsStandIn t = false by simpa using List.all_eq_true.1 hall t hm)⟩)
    (by kernel_rfl)
#print axioms holds
end Go.Proofs.YthnddhfpkmbacaaDoor.texts
