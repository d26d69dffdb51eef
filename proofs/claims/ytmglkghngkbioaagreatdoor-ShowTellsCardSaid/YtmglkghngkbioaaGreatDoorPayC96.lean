/- Contracts: an expression's level, a leaf's text, what an expression is written as; a row turned round. -/
import Derived.Test.YtmglkghngkbioaaGreatDoorPayC61
set_option linter.unusedSimpArgs false
set_option linter.unusedVariables false
set_option maxHeartbeats 1000000
namespace Pay
open Go
attribute [local irreducible] wpB opsB treeB drawB
theorem op_level (op:List UInt8):op=wIf∨op=[60]∨op=[60,61]∨op=[61]∨op=[60,62]∨op=[62]∨op=[62,61]∨op=[43]∨op=[45]∨op=[42] ∨
    ((op==wIf)=false∧(op==[60])=false∧(op==[60,61])=false∧(op==[61])=false∧(op==[60,62])=false∧(op==[62])=false∧(op==[62,61])=false∧(op==[43])=false∧(op==[45])=false∧(op==[42])=false):=by
  simp only [beq_eq_false_iff_ne]
  repeat' (first|(refine Classical.or_iff_not_imp_left.2 (fun h => ?_))|refine ⟨by assumption,?_⟩|assumption)
theorem level_other {op:List UInt8}(h:(op==wIf)=false∧(op==[60])=false∧(op==[60,61])=false∧(op==[61])=false∧(op==[60,62])=false∧(op==[62])=false∧(op==[62,61])=false∧(op==[43])=false∧(op==[45])=false∧(op==[42])=false):lvlS op=4:=by
  simp only [beq_eq_false_iff_ne] at h
  obtain ⟨h1,h2,h3,h4,h5,h6,h7,h8,h9,h10⟩:=h
  simp [lvlS,h1,h2,h3,h4,h5,h6,h7,h8,h9,h10]
theorem showLevel {C:Ctx}(h:okFn C.P C.φ 211 g_show_level=true)(op:List UInt8):SoundAt C 211 ⟨[vS op],looko []⟩ ⟨vI (lvlS op),looko []⟩:=by
  refine SoundAt.of_run h rfl (fun Q hR hN => ?_)
  rw [entry1]
  rcases op_level op with rfl|rfl|rfl|rfl|rfl|rfl|rfl|rfl|rfl|rfl|hn
  all_goals first
    | (obtain ⟨n1,n2,n3,n4,n5,n6,n7,n8,n9,n10⟩:=id hn
       repeat (first|simp only [go_sem,n1,n2,n3,n4,n5,n6,n7,n8,n9,n10]|refine Unf.h ?_)
       refine hR _ ?_
       simp only [go_sem,level_other hn]
       done)
    | (repeat (first|simp only [go_sem,ucons_beq,ucons_nil,unil_cons,unil_nil]|refine Unf.h ?_)
       refine hR _ ?_
       simp only [go_sem]
       rfl)
theorem op_leaf (op:List UInt8):op=wWhole∨op=wAmount∨op=wRate∨op=wName∨((op==wWhole)=false∧(op==wAmount)=false∧(op==wRate)=false∧(op==wName)=false):=by
  simp only [beq_eq_false_iff_ne]
  repeat' (first|(refine Classical.or_iff_not_imp_left.2 (fun h => ?_))|refine ⟨by assumption,?_⟩|assumption)
theorem leaf_other {x:Xpr}(h:(x.op==wWhole)=false∧(x.op==wAmount)=false∧(x.op==wRate)=false∧(x.op==wName)=false):leafW x=[]:=by
  simp only [beq_eq_false_iff_ne] at h
  obtain ⟨h1,h2,h3,h4⟩:=h
  simp [leafW,h1,h2,h3,h4]
theorem showLeaf {C:Ctx}(h:okFn C.P C.φ 216 g_show_leaf=true)(K:LibK C)(hT:∀ n,SoundAt C 50 ⟨[vI n],looko []⟩ ⟨vSE (textS n),looko []⟩)(hR':∀ n,SoundAt C 91 ⟨[vI n],looko []⟩ ⟨vSE (rateTextS n),looko []⟩)
    (x:Xpr) (h0 : -9223372036854775808≤x.val) (h1:x.val≤9223372036854775807):SoundAt C 216 ⟨[vX x],looko []⟩ ⟨vS (leafW x),looko []⟩:=by
  have t1:=K.itoa x.val h0 h1
  have t2:=hT x.val
  have t3:=hR' x.val
  refine SoundAt.of_run h rfl (fun Q hR hN => ?_)
  rw [entry1]
  obtain ⟨op,nm,v,a,b,c⟩:=x
  rcases op_leaf op with rfl|rfl|rfl|rfl|hn
  · repeat' (first|simp only [go_sem,ucons_beq,ucons_nil,unil_cons,unil_nil,leafW]|refine Unf.h ?_|refine callK_plain (t1) (fun _=>rfl) ?_|refine hR _ ?_|split)
  · repeat' (first|simp only [go_sem,ucons_beq,ucons_nil,unil_cons,unil_nil,leafW]|refine Unf.h ?_|refine callK_plain (t2) (fun _=>rfl) ?_|refine hR _ ?_|split)
    all_goals (rename_i hh;exact absurd hh (by decide))
  · repeat' (first|simp only [go_sem,ucons_beq,ucons_nil,unil_cons,unil_nil,leafW]|refine Unf.h ?_|refine callK_plain (t3) (fun _=>rfl) ?_|refine hR _ ?_|split)
    all_goals (rename_i hh;exact absurd hh (by decide))
  · repeat' (first|simp only [go_sem,ucons_beq,ucons_nil,unil_cons,unil_nil,leafW]|refine Unf.h ?_|refine hR _ ?_|split)
    all_goals (rename_i hh;exact absurd hh (by decide))
  · obtain ⟨n1,n2,n3,n4⟩:=id hn
    have el:=leaf_other (x:=⟨op,nm,v,a,b,c⟩) hn
    repeat' (first|simp only [go_sem,n1,n2,n3,n4,el]|refine Unf.h ?_|refine hR _ ?_|split)
theorem op_shparts (op:List UInt8):op=wNeg∨op=wMin∨op=wMax∨op=wIf∨((op==wNeg)=false∧(op==wMin)=false∧(op==wMax)=false∧(op==wIf)=false):=by
  simp only [beq_eq_false_iff_ne]
  repeat' (first|(refine Classical.or_iff_not_imp_left.2 (fun h => ?_))|refine ⟨by assumption,?_⟩|assumption)
theorem parts_other {x:Xpr}(hl:leafW x=[])(h:(x.op==wNeg)=false∧(x.op==wMin)=false∧(x.op==wMax)=false∧(x.op==wIf)=false):partsW x=[.x x.a (max (lvlS x.op) 2),.s ([32]++x.op++[32]),.x x.b (lvlS x.op+1)]:=by
  simp only [beq_eq_false_iff_ne] at h
  obtain ⟨h1,h2,h3,h4⟩:=h
  simp [partsW,hl,h1,h2,h3,h4]
theorem lvl_range (op:List UInt8):0≤lvlS op∧lvlS op≤4:=by
  unfold lvlS
  repeat' split
  all_goals omega
theorem showParts {C:Ctx}(h:okFn C.P C.φ 210 g_show_parts=true)(hLf:∀ x:Xpr,-9223372036854775808≤x.val→x.val≤9223372036854775807→SoundAt C 216 ⟨[vX x],looko []⟩ ⟨vS (leafW x),looko []⟩)(hLv:∀ op:List UInt8,SoundAt C 211 ⟨[vS op],looko []⟩ ⟨vI (lvlS op),looko []⟩)
    (x:Xpr) (h0 : -9223372036854775808≤x.val) (h1:x.val≤9223372036854775807) (hop:x.op.length≤12) (m:Nat):SoundAt C 210 ⟨[vX x],looko []⟩ ⟨.own m,looko [(m,some (.row 3 ((partsW x).map encIt)))]⟩:=by
  have t1:=hLf x h0 h1
  have t2:=hLv x.op
  by_cases hl:leafW x=[]
  case neg =>
    refine SoundX.rename (m:=11) ?_ m
    have e:partsW x=[.s (leafW x)]:=by simp [partsW,hl]
    have hb:(leafW x==[])=false:=by simp [hl]
    rw [e]
    refine SoundAt.of_run h rfl (fun Q hR hN => ?_)
    rw [entry1]
    repeat (first|simp only [go_sem,partsN,hb,bne]|refine Unf.h ?_|refine And.intro ?_ (noRv_of (by simp only [go_sem]))|refine callK_plain (t1) (fun _=>rfl) ?_|refine callE_plain (t1) (fun _=>rfl) ?_|refine ⟨_,t1,fun _=>rfl,?_⟩)
    refine hR _ ?_
    rw [ends_own_own rfl]
    simp only [go_sem,encIt]
  rw [hl] at t1
  have lr:=lvl_range x.op
  obtain ⟨op,nm,v,a,b,c⟩:=x
  rcases op_shparts op with rfl|rfl|rfl|rfl|hn
  · refine SoundX.rename (m:=20) ?_ m
    have e:partsW ⟨wNeg,nm,v,a,b,c⟩=[.s [45],.x a 4]:=by simp [partsW,hl]
    rw [e]
    refine SoundAt.of_run h rfl (fun Q hR hN => ?_)
    rw [entry1]
    repeat (first|simp only [go_sem,partsN,ucons_beq,ucons_nil,unil_cons,unil_nil,bne]|refine Unf.h ?_|refine And.intro ?_ (noRv_of (by simp only [go_sem]))|refine callK_plain (t1) (fun _=>rfl) ?_|refine callE_plain (t1) (fun _=>rfl) ?_|refine ⟨_,t1,fun _=>rfl,?_⟩)
    refine hR _ ?_
    rw [ends_own_own rfl]
    simp only [go_sem,encIt]
  · refine SoundX.rename (m:=36) ?_ m
    have e:partsW ⟨wMin,nm,v,a,b,c⟩=[.s (wMin++[40]),.x a 0,.s [44,32],.x b 0,.s [41]]:=by simp [partsW,hl]
    rw [e]
    refine SoundAt.of_run h rfl (fun Q hR hN => ?_)
    rw [entry1]
    repeat (first|simp only [go_sem,partsN,ucons_beq,ucons_nil,unil_cons,unil_nil,bne,demand_if,List.length_append]|refine Unf.h ?_|refine And.intro ?_ (noRv_of (by simp only [go_sem]))|refine callK_plain (t1) (fun _=>rfl) ?_|refine callE_plain (t1) (fun _=>rfl) ?_|refine ⟨_,t1,fun _=>rfl,?_⟩)
    refine hR _ ?_
    rw [ends_own_own rfl]
    simp only [go_sem,encIt]
  · refine SoundX.rename (m:=36) ?_ m
    have e:partsW ⟨wMax,nm,v,a,b,c⟩=[.s (wMax++[40]),.x a 0,.s [44,32],.x b 0,.s [41]]:=by simp [partsW,hl]
    rw [e]
    refine SoundAt.of_run h rfl (fun Q hR hN => ?_)
    rw [entry1]
    repeat (first|simp only [go_sem,partsN,ucons_beq,ucons_nil,unil_cons,unil_nil,bne,demand_if,List.length_append]|refine Unf.h ?_|refine And.intro ?_ (noRv_of (by simp only [go_sem]))|refine callK_plain (t1) (fun _=>rfl) ?_|refine callE_plain (t1) (fun _=>rfl) ?_|refine ⟨_,t1,fun _=>rfl,?_⟩)
    refine hR _ ?_
    rw [ends_own_own rfl]
    simp only [go_sem,encIt]
  · refine SoundX.rename (m:=51) ?_ m
    have e:partsW ⟨wIf,nm,v,a,b,c⟩=[.s [105,102,32],.x a 0,.s [32,116,104,101,110,32],.x b 0,.s [32,101,108,115,101,32],.x c 0]:=by simp [partsW,hl]
    rw [e]
    refine SoundAt.of_run h rfl (fun Q hR hN => ?_)
    rw [entry1]
    repeat (first|simp only [go_sem,partsN,ucons_beq,ucons_nil,unil_cons,unil_nil,bne]|refine Unf.h ?_|refine And.intro ?_ (noRv_of (by simp only [go_sem]))|refine callK_plain (t1) (fun _=>rfl) ?_|refine callE_plain (t1) (fun _=>rfl) ?_|refine ⟨_,t1,fun _=>rfl,?_⟩)
    refine hR _ ?_
    rw [ends_own_own rfl]
    simp only [go_sem,encIt]
  · refine SoundX.rename (m:=70) ?_ m
    have e:=parts_other hl hn
    obtain ⟨n1,n2,n3,n4⟩:=id hn
    have hop:op.length≤12:=hop
    have b1:1+op.length≤9223372036854775807:=by omega
    have b2:1+op.length+1≤9223372036854775807:=by omega
    have hw:=wrapI (x:=lvlS op+1) (by have:=lr.1;simp only at this;omega) (by have:=lr.2;simp only at this;omega)
    rw [e]
    refine SoundAt.of_run h rfl (fun Q hR hN => ?_)
    rw [entry1]
    repeat (first|simp only [go_sem,partsN,n1,n2,n3,n4,ucons_beq,ucons_nil,unil_cons,unil_nil,bne,demand_if,List.length_append,b1,b2,hw]|refine Unf.h ?_|refine And.intro ?_ (noRv_of (by simp only [go_sem]))|refine callK_plain (t1) (fun _=>rfl) ?_|refine callE_plain (t1) (fun _=>rfl) ?_|refine ⟨_,t1,fun _=>rfl,?_⟩|refine callK_plain (t2) (fun _=>rfl) ?_|refine callE_plain (t2) (fun _=>rfl) ?_|refine ⟨_,t2,fun _=>rfl,?_⟩)
    have hmx:(if 2>lvlS op then (2:Int) else lvlS op)=max (lvlS op) 2:=by split <;> omega
    refine ⟨by omega,hR _ ?_⟩
    rw [ends_own_own rfl]
    simp only [go_sem,encIt,hmx]
end Pay
