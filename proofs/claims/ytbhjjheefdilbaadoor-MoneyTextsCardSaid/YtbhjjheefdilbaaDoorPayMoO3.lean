/- The text of any number is what the document says, and it is parsed; any text is the amount that it says, or none: for every number of 64 bits and every text; no condition. The tied card: the variables that the row lists hold what the program's text lays. -/
import Derived.Test.YtbhjjheefdilbaaDoorPayMoFin
import Derived.Test.YtbhjjheefdilbaaDoorCards
import Derived.Test.YtbhjjheefdilbaaDoorTie
namespace Go.Proofs.YtbhjjheefdilbaaDoor.texts
open Go.RowKit money
set_option linter.unusedVariables false

set_option maxRecDepth 100000 in
theorem told (dss : List (List Pay.D)) (h : Pay.ConfA [(false, [.int .i64]), (false, [.str])] dss) : Pay.SoundAt ctx 48 ⟨Pay.argVs [(false, [.int .i64]), (false, [.str])] dss, Pay.looko []⟩ ⟨.d (.bool true), Pay.looko []⟩ := by
  obtain ⟨a, r, rfl, ha, h⟩ := Pay.confA_int h
  obtain ⟨s, r, rfl, _, h⟩ := Pay.confA_str h
  obtain rfl := Pay.confA_nil h
  exact Pay.lawTexts Pay.ok_g_law01_MoneyTexts monK a ha.1 ha.2 s

set_option maxRecDepth 100000 in
theorem lifted (os : Os) (started : os.Started) (H : Type) (enc : TypeId × Value → H) :
    ReturnsInHanded {} Tryd.checked os 3 .any (fun w args => (Rows.moneyTextsSpec.pre enc Tryd.prog Tryd.f3 [] false w args ∧ laidMetH Tryd.prog laid w) ∧ sizedMet enc Tryd.prog Tryd.f3 (OpenSpec.ofChange Rows.moneyTextsSpec) false w args)
      (Rows.moneyTextsSpec.post enc Tryd.prog Tryd.f3 false true false false) :=
  Pay.law_laid (K := Tryd.checked) ctx rfl (X := fun w => laidMetH Tryd.prog laid w) (k := 48) (n := 8) (shs := [(false, [.int .i64]), (false, [.str])]) (tb := 4) (fun _ _ hh h => h.of_heap hh) own started (by kernel_rfl) Tryd.func3
    (witness #[.int .i64 0, .string ⟨#[]⟩] (by kernel_rfl) (by kernel_rfl) (by kernel_rfl)) laidOut (by kernel_rfl) (by kernel_rfl) (by kernel_rfl) Tryd.underlying4 rfl
    (fun ds hl => by
      have hl : ds.length = 2 := hl.trans (by rw [Tryd.params3]; rfl)
      match ds, hl with
      | [d0, d1], _ => rfl)
    (by kernel_rfl) (by kernel_rfl) of_laid (by kernel_rfl) told

theorem row_holds : Rows.MoneyTextsSaid :=
  OpenClaim.holds_of_wide 3 Tryd.f3 rfl rfl rfl rfl rfl rfl rfl ⟨rfl, rfl, rfl, rfl, rfl⟩ rfl rfl rfl rfl rfl (by kernel_rfl) Tryd.func3 (by kernel_rfl)
    (of_decide_eq_true (by kernel_rfl)) (by unfold Func.isWrapper; first | (rw [if_pos (by decide +kernel)]; kernel_rfl) | (rw [if_neg (by decide +kernel)]; exact ⟨rfl, rfl⟩))
    (fun os started H enc _ => lifted os started H enc)

theorem holds : Rows.MoneyTextsCardSaid :=
  Claim7.holds_tied_plain_at .later [] [.data, .data, .data, .data, .sentinel, .sentinel, .pinned] true (true, "a826ae901de321fd6dcf9a55917159886fa4cbbb8f67da7539a834638658d7f8") true
    row_holds (fun _ h => by cases h) (by kernel_rfl) (fun _ h => by cases h) moneyTexts_row_tie rfl ⟨rfl, rfl⟩ (by kernel_rfl) rfl
    (fun f fn hf hfn => by
      obtain rfl : f = 3 := Option.some.inj ((show Tryd.prog.funcNamed "paymaster/paymasterlaw01.MoneyTexts" = some 3 by kernel_rfl).symm.trans hf) |>.symm
      obtain rfl : fn = Tryd.f3 := (Option.some.inj (Tryd.func3.symm.trans hfn)).symm
      exact ⟨by kernel_rfl, fun j t ht => by
        rw [Tryd.params3] at ht
        have hm : t ∈ [3, 9] := by simpa using Array.mem_of_getElem? ht
        have hall : ([3, 9].all fun u => !Tryd.prog.wantsStandIn u) = true := by kernel_rfl
        exact (show Tryd.prog.wantsStandIn t = false by simpa using List.all_eq_true.1 hall t hm)⟩)
    (by kernel_rfl)
#print axioms holds
end Go.Proofs.YtbhjjheefdilbaaDoor.texts
