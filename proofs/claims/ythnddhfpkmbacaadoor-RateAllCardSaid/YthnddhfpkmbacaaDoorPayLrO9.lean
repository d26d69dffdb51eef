/- Prorated by all it is all, by none, none; a part and the rest, by Down and by Up, are the amount: for every amount from 0 on; no condition. The tied card: the variables that the row lists hold what the program's text lays. -/
import Derived.Test.YthnddhfpkmbacaaDoorCards
import Derived.Test.YthnddhfpkmbacaaDoorTie
import Derived.Test.YthnddhfpkmbacaaDoorPayLrFin
import Derived.Test.YthnddhfpkmbacaaDoorPayLrKit2
namespace Go.Proofs.YthnddhfpkmbacaaDoor.all_
open Go.RowKit paylr
set_option linter.unusedVariables false
set_option maxRecDepth 100000 in
theorem told (dss : List (List Pay.D)) (h : Pay.ConfA [(false, [.int .u64]), (false, [.int .u32]), (false, [.int .u32])] dss) : Pay.SoundAt ctx 89 ⟨Pay.argVs [(false, [.int .u64]), (false, [.int .u32]), (false, [.int .u32])] dss, Pay.looko []⟩ ⟨.d (.bool true), Pay.looko []⟩ := by
  obtain ⟨n, r, rfl, hn, h⟩ := Pay.confA_nat Pay.wf_u64 h
  obtain ⟨p, r, rfl, hp, h⟩ := Pay.confA_nat Pay.wf_u32 h
  obtain ⟨w, r, rfl, hw, h⟩ := Pay.confA_nat Pay.wf_u32 h
  obtain rfl := Pay.confA_nil h
  exact Pay.lawRateAll Pay.ok_g_law03_RateAll rateK n p w hn hp hw
set_option maxRecDepth 100000 in
theorem lifted (os : Os) (started : os.Started) (H : Type) (enc : TypeId × Value → H) :
    ReturnsInHanded {} Tryd.checked os 12 .any (fun w args => (Rows.rateAllSpec.pre enc Tryd.prog Tryd.f12 [] false w args ∧ laidMetH Tryd.prog laid w) ∧ sizedMet enc Tryd.prog Tryd.f12 (OpenSpec.ofChange Rows.rateAllSpec) false w args)
      (Rows.rateAllSpec.post enc Tryd.prog Tryd.f12 false true false false) :=
  Pay.law_laid (K := Tryd.checked) ctx rfl (X := fun w => laidMetH Tryd.prog laid w) (k := 89) (n := 8) (shs := [(false, [.int .u64]), (false, [.int .u32]), (false, [.int .u32])]) (tb := 4) (fun _ _ hh h => h.of_heap hh) own started (by kernel_rfl) Tryd.func12
    (witness #[.int .u64 0, .int .u32 0, .int .u32 0] (by kernel_rfl) (by kernel_rfl) (by kernel_rfl)) laidOut (by kernel_rfl) (by kernel_rfl) (by kernel_rfl) Tryd.underlying4 rfl
    (fun ds hl => by
      have hl : ds.length = 3 := hl.trans (by rw [Tryd.params12]; rfl)
      match ds, hl with
      | [d0, d1, d2], _ => rfl)
    (by kernel_rfl) (by kernel_rfl) of_laid (by kernel_rfl) told
theorem row_holds : Rows.RateAllSaid :=
  OpenClaim.holds_of_wide 12 Tryd.f12 rfl rfl rfl rfl rfl rfl rfl ⟨rfl, rfl, rfl, rfl, rfl⟩ rfl rfl rfl rfl rfl (by kernel_rfl) Tryd.func12 (by kernel_rfl)
    (of_decide_eq_true (by kernel_rfl)) (by unfold Func.isWrapper; first | (rw [if_pos (by decide +kernel)]; kernel_rfl) | (rw [if_neg (by decide +kernel)]; exact ⟨rfl, rfl⟩))
    (fun os started H enc _ => lifted os started H enc)
theorem holds : Rows.RateAllCardSaid :=
  Claim7.holds_tied_plain_at .later [] [.data, .data, .data, .data, .sentinel, .sentinel, .pinned] true (true, "1ec15c184577fab0b8c0f086915acdf80fd408b446d95b7672e61e9546979aba") true
    row_holds (fun _ h => by cases h) (by kernel_rfl) (fun _ h => by cases h) rateAll_row_tie rfl ⟨rfl, rfl⟩ (by kernel_rfl) rfl
    (fun f fn hf hfn => by
      obtain rfl : f = 12 := Option.some.inj ((show Tryd.prog.funcNamed "paymaster/paymasterlaw03.RateAll" = some 12 by kernel_rfl).symm.trans hf) |>.symm
      obtain rfl : fn = Tryd.f12 := (Option.some.inj (Tryd.func12.symm.trans hfn)).symm
      exact ⟨by kernel_rfl, fun j t ht => by
        rw [Tryd.params12] at ht
        have hm : t ∈ [38, 45, 45] := by simpa using Array.mem_of_getElem? ht
        have hall : ([38, 45, 45].all fun u => !Tryd.prog.wantsStandIn u) = true := by kernel_rfl
        exact (show Tryd.prog.wantsStandIn t = false by simpa using List.all_eq_true.1 hall t hm)⟩)
    (by kernel_rfl)
#print axioms holds
end Go.Proofs.YthnddhfpkmbacaaDoor.all_
