/- Contracts: the document's texts of expressions, one by one. -/
import Derived.Test.YtmglkghngkbioaaGreatDoorPayC63
set_option linter.unusedSimpArgs false
set_option linter.unusedVariables false
set_option maxHeartbeats 1000000
namespace Pay
open Go
attribute [local irreducible] wpB opsB treeB drawB
theorem ref9Held {C:Ctx}(h:okFn C.P C.φ 202 g_ref09_held=true)(s:List UInt8)(a b:Int)(hs:s.length<1000000000):SoundAt C 202 ⟨[vS s,vI a,vI b],looko []⟩ ⟨vS (heldS (decide (a<b)) s),looko []⟩:=by
  refine SoundAt.of_run h rfl (fun Q hR hN => ?_)
  rw [entry3]
  by_cases hl:a<b
  · have b1:1+s.length≤9223372036854775807:=by omega
    have b2:1+s.length+1≤9223372036854775807:=by omega
    have b3:s.length+1+1≤9223372036854775807:=by omega
    have b4:s.length+1≤9223372036854775807:=by omega
    repeat (first|simp only [go_sem,hl,decide_true,b1,b2,b3,b4,List.length_append]|refine Unf.h ?_)
    refine hR _ ?_
    simp only [go_sem,heldS,if_pos hl]
  · repeat (first|simp only [go_sem,hl,decide_false]|refine Unf.h ?_)
    refine hR _ ?_
    simp only [go_sem,heldS,if_neg hl]
theorem lvl9_loop {C:Ctx}{I:Nat→Prop}{Q:Ex→St→Prop}{l:List (List UInt8)}{s:List UInt8}(hl:l.length<100000)
    (hT:l.contains s=false→∀ t,t 0=vS s→Q (.exit 0) (St.mk t (looko []))) (hF:l.contains s=true→∀ t,t 2=vI 1→Q .ret (St.mk t (looko []))) :
    ∀ (m k:Nat),k+m=l.length→(l.take k).contains s=false→wpB C I g_ref09_level.l0 (St.mk (look [(0,vS s),(5,vStrs l),(6,vI l.length),(7,vI k)]) (looko [])) Q:=by
  intro m
  induction m with
  | zero =>
    intro k hk hr
    refine w_loopC (L:=g_ref09_level.l0) rfl ?_
    have:k=l.length:=by omega
    subst this
    rw [List.take_length] at hr
    repeat (first|simp only [go_sem,List.length_map,Int.lt_irrefl,decide_false]|refine Unf.h ?_)
    exact hT hr _ rfl
  | succ m ih =>
    intro k hk hr
    refine w_loopC (L:=g_ref09_level.l0) rfl ?_
    have hlt:k<l.length:=by omega
    have hlt':((k:Int)<(l.length:Int)):=by omega
    have he:=List.getElem?_eq_getElem hlt
    have hw:IntKind.i64.wrap ((k:Int)+1)=((k+1:Nat):Int):=by rw [wrapI (by omega) (by omega)];omega
    by_cases h:l[k]=s
    · have hb:(l[k]==s)=true:=by simp [h]
      repeat (first|simp only [go_sem,List.length_map,hlt',decide_true,Int.natCast_nonneg,Int.toNat_natCast,getMap encS1 he,encS1,hb]|refine Unf.h ?_)
      refine hF ?_ _ rfl
      simp only [List.contains_iff_mem]
      rw [← h];exact List.getElem_mem hlt
    · have hb:(l[k]==s)=false:=by simpa using h
      repeat (first|simp only [go_sem,List.length_map,hlt',decide_true,Int.natCast_nonneg,Int.toNat_natCast,getMap encS1 he,encS1,hb,hw]|refine Unf.h ?_)
      refine ih (k+1) (by omega) ?_
      rw [List.take_add_one,he]
      simp only [Option.toList_some,List.contains_eq_mem,List.mem_append,List.mem_singleton,decide_eq_false_iff_not,not_or] at hr ⊢
      exact ⟨hr,fun e=>h e.symm⟩
theorem ref9Level {C:Ctx}(h:okFn C.P C.φ 201 g_ref09_level=true)(op:List UInt8):SoundAt C 201 ⟨[vS op],looko []⟩ ⟨vI (lvlS op),looko []⟩:=by
  refine SoundAt.of_run h rfl (fun Q hR hN => ?_)
  rw [entry1]
  have lp:∀ {I:Nat→Prop} {Q:Ex→St→Prop},(cmpL.contains op=false→∀ t,t 0=vS op→Q (.exit 0) (St.mk t (looko [])))→(cmpL.contains op=true→∀ t,t 2=vI 1→Q .ret (St.mk t (looko []))) →
      wpB C I g_ref09_level.l0 (St.mk (look [(0,vS op),(5,.d (.sl [[.str [60]],[.str [60,61]],[.str [61]],[.str [60,62]],[.str [62]],[.str [62,61]]])),(6,vI 6),(7,vI 0)]) (looko [])) Q :=
    fun {I Q} hT hF=>lvl9_loop (C:=C) (I:=I) (Q:=Q) (l:=cmpL) (s:=op) (by decide) hT hF 6 0 (by decide) rfl
  repeat (first|simp only [go_sem,partsN]|refine Unf.h ?_)
  refine lp (fun hc t h0 => ?_) (fun hc t h2 => ?_)
  · repeat' (first|simp only [go_sem,h0]|refine Unf.h ?_|refine hR _ ?_|split)
    all_goals (clear hR hN;simp_all [lvlS])
  · refine hR _ ?_
    have hi:op≠wIf:=fun e=>by rw [e] at hc;exact absurd hc (by decide)
    simp only [go_sem,h2,lvlS,if_neg hi,hc]
end Pay
