/- What is added and taken off is as it was; sums do not hang on their order: for every two whole numbers of 64 bits; no condition. The tied card: the variables that the row lists hold what the program's text lays. -/
import Derived.Test.YtbhjjheefdilbaaDoorPayMoFin
import Derived.Test.YtbhjjheefdilbaaDoorCards
import Derived.Test.YtbhjjheefdilbaaDoorTie
namespace Go.Proofs.YtbhjjheefdilbaaDoor.back
open Go.RowKit money
set_option linter.unusedVariables false

set_option maxRecDepth 100000 in
theorem told (dss : List (List Pay.D)) (h : Pay.ConfA [(false, [.int .i64]), (false, [.int .i64])] dss) : Pay.SoundAt ctx 64 ⟨Pay.argVs [(false, [.int .i64]), (false, [.int .i64])] dss, Pay.looko []⟩ ⟨.d (.bool true), Pay.looko []⟩ := by
  obtain ⟨a, r, rfl, ha, h⟩ := Pay.confA_int h
  obtain ⟨b, r, rfl, hb, h⟩ := Pay.confA_int h
  obtain rfl := Pay.confA_nil h
  exact Pay.lawBack Pay.ok_g_law01_MoneyBack monK a b ha hb

set_option maxRecDepth 100000 in
theorem lifted (os : Os) (started : os.Started) (H : Type) (enc : TypeId × Value → H) :
    ReturnsInHanded {} Tryd.checked os 8 .any (fun w args => (Rows.moneyBackSpec.pre enc Tryd.prog Tryd.f8 [] false w args ∧ laidMetH Tryd.prog laid w) ∧ sizedMet enc Tryd.prog Tryd.f8 (OpenSpec.ofChange Rows.moneyBackSpec) false w args)
      (Rows.moneyBackSpec.post enc Tryd.prog Tryd.f8 false true false false) :=
  Pay.law_laid (K := Tryd.checked) ctx rfl (X := fun w => laidMetH Tryd.prog laid w) (k := 64) (n := 8) (shs := [(false, [.int .i64]), (false, [.int .i64])]) (tb := 4) (fun _ _ hh h => h.of_heap hh) own started (by kernel_rfl) Tryd.func8
    (witness #[.int .i64 0, .int .i64 0] (by kernel_rfl) (by kernel_rfl) (by kernel_rfl)) laidOut (by kernel_rfl) (by kernel_rfl) (by kernel_rfl) Tryd.underlying4 rfl
    (fun ds hl => by
      have hl : ds.length = 2 := hl.trans (by rw [Tryd.params8]; rfl)
      match ds, hl with
      | [d0, d1], _ => rfl)
    (by kernel_rfl) (by kernel_rfl) of_laid (by kernel_rfl) told

theorem row_holds : Rows.MoneyBackSaid :=
  OpenClaim.holds_of_wide 8 Tryd.f8 rfl rfl rfl rfl rfl rfl rfl ⟨rfl, rfl, rfl, rfl, rfl⟩ rfl rfl rfl rfl rfl (by kernel_rfl) Tryd.func8 (by kernel_rfl)
    (of_decide_eq_true (by kernel_rfl)) (by unfold Func.isWrapper; first | (rw [if_pos (by decide +kernel)]; kernel_rfl) | (rw [if_neg (by decide +kernel)]; exact ⟨rfl, rfl⟩))
    (fun os started H enc _ => lifted os started H enc)

theorem holds : Rows.MoneyBackCardSaid :=
  Claim7.holds_tied_plain_at .later [] [.data, .data, .data, .data, .sentinel, .sentinel, .pinned] true (true, "a826ae901de321fd6dcf9a55917159886fa4cbbb8f67da7539a834638658d7f8") true
    row_holds (fun _ h => by cases h) (by kernel_rfl) (fun _ h => by cases h) moneyBack_row_tie rfl ⟨rfl, rfl⟩ (by kernel_rfl) rfl
    (fun f fn hf hfn => by
      obtain rfl : f = 8 := Option.some.inj ((show Tryd.prog.funcNamed "paymaster/paymasterlaw01.MoneyBack" = some 8 by kernel_rfl).symm.trans hf) |>.symm
      obtain rfl : fn = Tryd.f8 := (Option.some.inj (Tryd.func8.symm.trans hfn)).symm
      exact ⟨by kernel_rfl, fun j t ht => by
        rw [Tryd.params8] at ht
        have hm : t ∈ [3, 3] := by simpa using Array.mem_of_getElem? ht
        have hall : ([3, 3].all fun u => !Tryd.prog.wantsStandIn u) = true := by kernel_rfl
        exact (show Tryd.prog.wantsStandIn t = false by simpa using List.all_eq_true.1 hall t hm)⟩)
    (by kernel_rfl)
#print axioms holds
end Go.Proofs.YtbhjjheefdilbaaDoor.back
