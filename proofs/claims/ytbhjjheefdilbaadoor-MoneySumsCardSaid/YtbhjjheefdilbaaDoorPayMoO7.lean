/- Sums, differences, and what is taken off 0, of any numbers are what the document says, or refused: for every two numbers and every list of numbers of 64 bits; no condition. The tied card: the variables that the row lists hold what the program's text lays. -/
import Derived.Test.YtbhjjheefdilbaaDoorPayMoFin
import Derived.Test.YtbhjjheefdilbaaDoorCards
import Derived.Test.YtbhjjheefdilbaaDoorTie
namespace Go.Proofs.YtbhjjheefdilbaaDoor.sums
open Go.RowKit money
set_option linter.unusedVariables false

set_option maxRecDepth 100000 in
theorem told (dss : List (List Pay.D)) (h : Pay.ConfA [(false, [.int .i64]), (false, [.int .i64]), (false, [.sl [.int .i64]])] dss) : Pay.SoundAt ctx 66 ⟨Pay.argVs [(false, [.int .i64]), (false, [.int .i64]), (false, [.sl [.int .i64]])] dss, Pay.looko []⟩ ⟨.d (.bool true), Pay.looko []⟩ := by
  obtain ⟨a, r, rfl, ha, h⟩ := Pay.confA_int h
  obtain ⟨b, r, rfl, hb, h⟩ := Pay.confA_int h
  obtain ⟨l, r, rfl, hl, h⟩ := Pay.confA_ints h
  obtain rfl := Pay.confA_nil h
  by_cases hn : l.length < 9223372036854775807
  · exact Pay.lawSums Pay.ok_g_law01_MoneySums monK a b ha hb l hn hl
  · exact Pay.lawSumsLong Pay.ok_g_law01_MoneySums monK a b l (by omega)

set_option maxRecDepth 100000 in
theorem lifted (os : Os) (started : os.Started) (H : Type) (enc : TypeId × Value → H) :
    ReturnsInHanded {} Tryd.checked os 9 .any (fun w args => (Rows.moneySumsSpec.pre enc Tryd.prog Tryd.f9 [] false w args ∧ laidMetH Tryd.prog laid w) ∧ sizedMet enc Tryd.prog Tryd.f9 (OpenSpec.ofChange Rows.moneySumsSpec) false w args)
      (Rows.moneySumsSpec.post enc Tryd.prog Tryd.f9 false true false false) :=
  Pay.law_laid (K := Tryd.checked) ctx rfl (X := fun w => laidMetH Tryd.prog laid w) (k := 66) (n := 8) (shs := [(false, [.int .i64]), (false, [.int .i64]), (false, [.sl [.int .i64]])]) (tb := 4) (fun _ _ hh h => h.of_heap hh) own started (by kernel_rfl) Tryd.func9
    (witness #[.int .i64 0, .int .i64 0, .slice none 0 0] (by kernel_rfl) (by kernel_rfl) (by kernel_rfl)) laidOut (by kernel_rfl) (by kernel_rfl) (by kernel_rfl) Tryd.underlying4 rfl
    (fun ds hl => by
      have hl : ds.length = 3 := hl.trans (by rw [Tryd.params9]; rfl)
      match ds, hl with
      | [d0, d1, d2], _ => rfl)
    (by kernel_rfl) (by kernel_rfl) of_laid (by kernel_rfl) told

theorem row_holds : Rows.MoneySumsSaid :=
  OpenClaim.holds_of_wide 9 Tryd.f9 rfl rfl rfl rfl rfl rfl rfl ⟨rfl, rfl, rfl, rfl, rfl⟩ rfl rfl rfl rfl rfl (by kernel_rfl) Tryd.func9 (by kernel_rfl)
    (of_decide_eq_true (by kernel_rfl)) (by unfold Func.isWrapper; first | (rw [if_pos (by decide +kernel)]; kernel_rfl) | (rw [if_neg (by decide +kernel)]; exact ⟨rfl, rfl⟩))
    (fun os started H enc _ => lifted os started H enc)

theorem holds : Rows.MoneySumsCardSaid :=
  Claim7.holds_tied_plain_at .later [] [.data, .data, .data, .data, .sentinel, .sentinel, .pinned] true (true, "a826ae901de321fd6dcf9a55917159886fa4cbbb8f67da7539a834638658d7f8") true
    row_holds (fun _ h => by cases h) (by kernel_rfl) (fun _ h => by cases h) moneySums_row_tie rfl ⟨rfl, rfl⟩ (by kernel_rfl) rfl
    (fun f fn hf hfn => by
      obtain rfl : f = 9 := Option.some.inj ((show Tryd.prog.funcNamed "paymaster/paymasterlaw01.MoneySums" = some 9 by kernel_rfl).symm.trans hf) |>.symm
      obtain rfl : fn = Tryd.f9 := (Option.some.inj (Tryd.func9.symm.trans hfn)).symm
      exact ⟨by kernel_rfl, fun j t ht => by
        rw [Tryd.params9] at ht
        have hm : t ∈ [3, 3, 34] := by simpa using Array.mem_of_getElem? ht
        have hall : ([3, 3, 34].all fun u => !Tryd.prog.wantsStandIn u) = true := by kernel_rfl
        exact (show Tryd.prog.wantsStandIn t = false by simpa using List.all_eq_true.1 hall t hm)⟩)
    (by kernel_rfl)
#print axioms holds
end Go.Proofs.YtbhjjheefdilbaaDoor.sums
