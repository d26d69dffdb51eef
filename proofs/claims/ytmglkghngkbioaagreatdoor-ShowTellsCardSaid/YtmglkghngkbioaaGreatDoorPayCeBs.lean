/- A strings.Builder, at this program: what is put to it, and what it holds. -/
import Derived.RegionTactic
import Derived.Test.YtmglkghngkbioaaGreatDoorPayCeLib
set_option linter.unusedVariables false
set_option maxRecDepth 100000
namespace Go.Proofs.YtmglkghngkbioaaGreatDoor.payce
open Go.RowKit
set_option maxHeartbeats 1000000 in
set_option maxRecDepth 100000 in
theorem bdString (b:Nat) (p v:Value) (l:List UInt8) (w:World) (hbk:Bld w b p v) (hv:Pay.BRow w 5 v l) :
    Calls Tryz.prog 78 #[.pointer (some ⟨b,0,none⟩)] w fun e w'=>e = .returned (.string ⟨l.toArray⟩)∧Pay.Turn w w' (Pay.blk v):=by
  rcases hv with ⟨rfl,rfl⟩|⟨g,cap,us,rfl,hcp,hg,hlc,hcm,hul,htk⟩
  · have hUS:∀ (W:World) (q:Option Addr),(Builtin.unsafeString_ #[152,3] 9 #[.pointer q,.int .i64 0]).run Tryz.prog W = .ok (.string .empty) W:=fun W q=>Lib.run_unsafeString_none W _ _ _ q
    have c1:w.drew.cell? ⟨b,1,none⟩=some (.slice none 0 0):=by
      have:w.drew.heap[b]? = some (.cells #[p,.slice none 0 0] 135 (0,0)):=hbk
      rw [Lib.cell_of_heap this];rfl
    have hSD:(Builtin.unsafeSliceData_ #[133] 152 #[.slice none 0 0]).run Tryz.prog w.drew = .ok (.pointer none) w.drew:=rfl
    go_enter Tryz.func78,Tryz.ntmps78
    go_wp2
    go_region
    all_goals (go_wp2;go_ret;exact ⟨rfl,rfl,rfl,rfl,Nat.le_refl _,fun _ _ _=>rfl⟩)
  · have c1:w.drew.cell? ⟨b,1,none⟩=some (.slice (some ⟨g,0,none⟩) l.length cap):=by
      have:w.drew.heap[b]? = some (.cells #[p,.slice (some ⟨g,0,none⟩) l.length cap] 135 (0,0)):=hbk
      rw [Lib.cell_of_heap this];rfl
    have hg':w.drew.heap[g]? = some (.cells ⟨us⟩ 5 (0,0)):=hg
    have hSD:(Builtin.unsafeSliceData_ #[133] 152 #[.slice (some ⟨g,0,none⟩) l.length cap]).run Tryz.prog w.drew = .ok (.pointer (some ⟨g,0,none⟩)) w.drew :=
      Lib.run_unsafeSliceData_row _ _ _ _ _ _ (by omega)
    by_cases h0:l=[]
    · subst h0
      have hUS:(Builtin.unsafeString_ #[152,3] 9 #[.pointer (some ⟨g,0,none⟩),.int .i64 0]).run Tryz.prog w.drew = .ok (.string .empty) w.drew:=Lib.run_unsafeString_none w.drew _ _ _ _
      simp only [List.length_nil] at c1 hSD
      go_enter Tryz.func78,Tryz.ntmps78
      go_wp2
      go_region
      all_goals (go_wp2;go_ret;exact ⟨rfl,rfl,rfl,rfl,Nat.le_refl _,fun _ _ _=>rfl⟩)
    · have hUS:(Builtin.unsafeString_ #[152,3] 9 #[.pointer (some ⟨g,0,none⟩),.int .i64 l.length]).run Tryz.prog w.drew = .ok (.string ⟨l.toArray⟩) (w.drew.freeze ⟨g,0,none⟩ l.length):=by
        refine Lib.run_unsafeString_row w.drew 152 3 9 5 Tryz.underlying152 (by kernel_rfl) g us.length (by simp [World.shape?,hg']) l h0 (by omega) (by unfold maxLen at hcm;omega) ?_
        intro j x hx
        rw [show ((⟨g,0,none⟩:Addr).add j)=⟨g,j,none⟩ by simp [Addr.add];exact fun e=>e.symm]
        rw [Lib.cell_of_heap hg']
        have hj:j<l.length:=(List.getElem?_eq_some_iff.1 hx).1
        have:(us.take l.length)[j]? = (Pay.byteC l)[j]? := by rw [htk]
        rw [List.getElem?_take,if_pos hj] at this
        simpa [Pay.byteC,hx] using this
      go_enter Tryz.func78,Tryz.ntmps78
      go_wp2
      go_region
      all_goals
        go_wp2
        go_ret
        refine ⟨rfl,?_⟩
        unfold World.freeze
        split
        · exact ⟨rfl,rfl,rfl,Nat.le_refl _,fun _ _ _=>rfl⟩
        · refine ⟨rfl,rfl,rfl,by simp,fun k hk hne => ?_⟩
          simp only [Array.getElem?_modify]
          rw [if_neg (fun e=>hne (by simp only [Pay.blk];rw [if_neg (by omega),e]))]
          rfl
theorem phiB1:ctx.φ 128=77:=by kernel_rfl
theorem phiB2:ctx.φ 130=78:=by kernel_rfl
theorem phiB3:ctx.φ 999999=135:=by kernel_rfl
theorem phiB4:ctx.φ 999998=5:=by kernel_rfl
theorem bdWK:Pay.BdW ctx:=by
  intro b p v l s w hb hp hbr hne hlen
  rw [phiB3] at hb ⊢
  rw [phiB4] at hbr ⊢
  rw [phiB1]
  refine Pay.Enters.of_calls (g:=Tryz.f77) Tryz.func77 (by kernel_rfl) (by kernel_rfl) ((bdWrite b p v l s w hb hp hbr hne hlen).mono ?_)
  rintro e w' ⟨rfl,h⟩
  exact ⟨_,rfl,rfl,h⟩
theorem bdSK:Pay.BdS ctx:=by
  intro b p v l w hb hbr
  rw [phiB3] at hb
  rw [phiB4] at hbr
  rw [phiB2]
  refine Pay.Enters.of_calls (g:=Tryz.f78) Tryz.func78 (by kernel_rfl) (by kernel_rfl) ((bdString b p v l w hb hbr).mono ?_)
  rintro e w' ⟨rfl,h⟩
  exact ⟨_,rfl,rfl,h⟩
end Go.Proofs.YtmglkghngkbioaaGreatDoor.payce
