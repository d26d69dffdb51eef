/- The text of what is read of any text is what the document says, and so is that of each of its expressions: for every text and place; no condition. The tied card: the variables that the row lists hold what the program's text lays. -/
import Derived.Test.YtmglkghngkbioaaGreatDoorCards
import Derived.Test.YtmglkghngkbioaaGreatDoorTie
import Derived.Test.YtmglkghngkbioaaGreatDoorPayCeFin
import Derived.Test.YtmglkghngkbioaaGreatDoorPayCeKit10
import Derived.Test.YtmglkghngkbioaaGreatDoorPayCeKit9
namespace Go.Proofs.YtmglkghngkbioaaGreatDoor.tells
open Go.RowKit payce
set_option linter.unusedVariables false
set_option maxRecDepth 100000 in
theorem told (dss:List (List Pay.D))(h:Pay.ConfA [(false,[.str]),(false,[.int .i64])] dss):Pay.SoundAt ctx 171 ⟨Pay.argVs [(false,[.str]),(false,[.int .i64])] dss,Pay.looko []⟩ ⟨.d (.bool true),Pay.looko []⟩:=by
  obtain ⟨s,r,rfl,_,h⟩:=Pay.confA_str h
  obtain ⟨i,r,rfl,hi,h⟩:=Pay.confA_int h
  obtain rfl:=Pay.confA_nil h
  exact Pay.lawShowTells Pay.ok_g_law09_ShowTells showK tellsK s i hi
set_option maxRecDepth 100000 in
theorem lifted (os:Os)(started:os.Started)(H:Type)(enc:TypeId × Value→H) :
    ReturnsInHanded {} Tryz.checked os 9 .any (fun w args=>(Rows.showTellsSpec.pre enc Tryz.prog Tryz.f9 [] false w args∧laidMetH Tryz.prog laid w)∧sizedMet enc Tryz.prog Tryz.f9 (OpenSpec.ofChange Rows.showTellsSpec) false w args)
      (Rows.showTellsSpec.post enc Tryz.prog Tryz.f9 false true false false) :=
  Pay.law_laid (K:=Tryz.checked) ctx rfl (X:=fun w=>laidMetH Tryz.prog laid w) (k:=171) (n:=8) (shs:=[(false,[.str]),(false,[.int .i64])]) (tb:=4) (fun _ _ hh h=>h.of_heap hh) own started (by kernel_rfl) Tryz.func9
    (witness #[.string ⟨#[]⟩,.int .i64 0] (by kernel_rfl) (by kernel_rfl) (by kernel_rfl)) laidOut (by kernel_rfl) (by kernel_rfl) (by kernel_rfl) Tryz.underlying4 rfl
    (fun ds hl=>by
      have hl:ds.length=2:=hl.trans (by rw [Tryz.params9];rfl)
      match ds,hl with
      | [d0,d1],_=>rfl)
    (by kernel_rfl) (by kernel_rfl) of_laid (by kernel_rfl) told
theorem row_holds:Rows.ShowTellsSaid :=
  OpenClaim.holds_of_wide 9 Tryz.f9 rfl rfl rfl rfl rfl rfl rfl ⟨rfl,rfl,rfl,rfl,rfl⟩ rfl rfl rfl rfl rfl (by kernel_rfl) Tryz.func9 (by kernel_rfl)
    (of_decide_eq_true (by kernel_rfl)) (by unfold Func.isWrapper;first|(rw [if_pos (by decide +kernel)];kernel_rfl)|(rw [if_neg (by decide +kernel)];exact ⟨rfl,rfl⟩))
    (fun os started H enc _=>lifted os started H enc)
theorem holds:Rows.ShowTellsCardSaid :=
  Claim7.holds_tied_plain_at .later [] [.data, .data, .data, .data, .sentinel, .sentinel, .pinned] true (true, "67c1f0b54be810e699e6cb9e1de96ceec1d95e5a1ae2609bb7a7d8438971333c") true
    row_holds (fun _ h=>by cases h) (by kernel_rfl) (fun _ h=>by cases h) showTells_row_tie rfl ⟨rfl,rfl⟩ (by kernel_rfl) rfl
    (fun f fn hf hfn=>by
      obtain rfl : f = 9 := Option.some.inj ((show Tryz.prog.funcNamed "paymaster/paymasterlaw09.ShowTells" = some 9 by kernel_rfl).symm.trans hf) |>.symm
      obtain rfl:fn=Tryz.f9:=(Option.some.inj (Tryz.func9.symm.trans hfn)).symm
      exact ⟨by kernel_rfl,fun j t ht=>by
        rw [Tryz.params9] at ht
        have hm:t∈[9,3]:=by simpa using Array.mem_of_getElem? ht
        have hall:([9,3].all fun u => !Tryz.prog.wantsStandIn u)=true:=by kernel_rfl
        exact (show Tryz.prog.wantsStandIn t=false by simpa using List.all_eq_true.1 hall t hm)⟩)
    (by kernel_rfl)
#print axioms holds
end Go.Proofs.YtmglkghngkbioaaGreatDoor.tells
