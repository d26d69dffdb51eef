/- Contracts: the document's parser of rule sets, an expression and a factor. -/
import Derived.Test.YtmglkghngkbioaaGreatDoorPayC74
import Derived.Test.YtmglkghngkbioaaGreatDoorPayMSw5
set_option linter.unusedSimpArgs false
set_option linter.unusedVariables false
set_option maxHeartbeats 1000000
namespace Pay
open Go
attribute [local irreducible] wpB opsB treeB drawB
theorem ref8Whole0 {C:Ctx}(h:okFn C.P C.φ 196 g_ref08_whole=true)(K:R8K C):HExC C 196 [vI 21] longS:=by
  intro r all en x hp
  have t1:=K.wrong 9 (r:=r) (en:=en) hp
  have hb:((failS en 9 x).err != 0)=true:=by simpa using err_fail en x
  refine SoundAt.of_run h rfl (fun Q hR hN => ?_)
  rw [entry2]
  repeat (first|simp only [go_sem,decide_true,hb]|refine Unf.h ?_|refine callK_c (t1) (by simp only [go_sem,decide_true,hb]) (by intro n hn;first|(cases hn;done)|(simpa [V.refs,V.refsL,slV_refs] using hn)) ?_)
  refine hR _ (ends_c ?_)
  simp only [go_sem,longS]
theorem ref8Whole {C:Ctx}(h:okFn C.P C.φ 196 g_ref08_whole=true)(K:R8K C){d:Nat}(hd:d≤20){s e:Nat→Pr}(hs:∀ en,Good1 (s en))(he:∀ en,Good1 (e en))
    (hS:HExC C 208 [vI d,vI 0] (fun en=>cmpS (s en))) (hE:HExC C 196 [vI ((d+1:Nat):Int)] e) :
    HExC C 196 [vI d] (fun en x=>if x.err=0 then match takeT [wIf] x with
      | some (_,y)=>iteS en (e en) y
      | none=>cmpS (s en) x
    else (x,0)):=by
  intro r all en x hp
  have hw:=depth_wrap (d:=d) (by omega)
  have hg:¬((d:Int)>20):=by omega
  refine SoundAt.of_run h rfl (fun Q hR hN => ?_)
  rw [entry2]
  dsimp only at hR
  by_cases hx:x.err=0
  case neg =>
    have hb:(x.err != 0)=true:=by simp [hx]
    rw [if_neg hx] at hR
    repeat (first|simp only [go_sem,hg,decide_false,hb]|refine Unf.h ?_)
    refine hR _ (ends_c ?_)
    simp only [go_sem]
  have hb:(x.err==0)=true:=by simp [hx]
  have ht:=K.text (r:=r) (en:=en) hp
  have hne:[wIf].contains []=false:=by decide
  rw [if_pos hx] at hR
  cases hk:takeT [wIf] x with
  | some p =>
    obtain ⟨s1,y⟩:=p
    rw [hk] at hR
    unfold iteS at hR
    simp only at hR
    obtain ⟨wt,we,t,rr,hts,rfl⟩:=word_some hk
    rw [one_eq] at wt
    have hwx:wordT x=wIf:=by simpa using wt
    rw [hwx] at ht
    have ha:=hp.at1 hts
    obtain ⟨hp0,hm0⟩:=hp.take hk
    have hp1:=hp0.step (he en (x.go rr))
    have hp2:=hp1.step (need_step en wThen _)
    have hp3:=hp2.step (he en _)
    have hp4:=hp3.step (need_step en wElse _)
    have hp5:=hp4.step (he en _)
    have t1:=hE (r:=r) (en:=en) hp0
    have t2:=K.must wThen (by decide) (r:=r) (en:=en) hp1
    have t3:=hE (r:=r) (en:=en) hp2
    have t4:=K.must wElse (by decide) (r:=r) (en:=en) hp3
    have t5:=hE (r:=r) (en:=en) hp4
    have t6:=K.put (xNode wIf (e en (x.go rr)).2 (e en (needS en wThen (e en (x.go rr)).1)).2 (e en (needS en wElse (e en (needS en wThen (e en (x.go rr)).1)).1)).2) (r:=r) (en:=en) hp5
    repeat (first|simp only [go_sem,hg,decide_false,hb,ha,hw,bne]|refine Unf.h ?_|refine callK_c (ht) (by simp only [go_sem,hg,decide_false,hb,ha,hw,bne]) (by intro n hn;first|(cases hn;done)|(simpa [V.refs,V.refsL,slV_refs] using hn)) ?_|refine callK_c (t1) (by simp only [go_sem,hg,decide_false,hb,ha,hw,bne]) (by intro n hn;first|(cases hn;done)|(simpa [V.refs,V.refsL,slV_refs] using hn)) ?_|refine callK_c (t2) (by simp only [go_sem,hg,decide_false,hb,ha,hw,bne]) (by intro n hn;first|(cases hn;done)|(simpa [V.refs,V.refsL,slV_refs] using hn)) ?_|refine callK_c (t3) (by simp only [go_sem,hg,decide_false,hb,ha,hw,bne]) (by intro n hn;first|(cases hn;done)|(simpa [V.refs,V.refsL,slV_refs] using hn)) ?_|refine callK_c (t4) (by simp only [go_sem,hg,decide_false,hb,ha,hw,bne]) (by intro n hn;first|(cases hn;done)|(simpa [V.refs,V.refsL,slV_refs] using hn)) ?_|refine callK_c (t5) (by simp only [go_sem,hg,decide_false,hb,ha,hw,bne]) (by intro n hn;first|(cases hn;done)|(simpa [V.refs,V.refsL,slV_refs] using hn)) ?_|refine callK_c (t6) (by simp only [go_sem,hg,decide_false,hb,ha,hw,bne]) (by intro n hn;first|(cases hn;done)|(simpa [V.refs,V.refsL,slV_refs] using hn)) ?_)
    refine hR _ (ends_c ?_)
    simp only [go_sem]
  | none =>
    rw [hk] at hR
    have wt:=word_none hne hx hk
    rw [one_eq] at wt
    have wt:(wordT x==[105,102])=false:=wt
    have t1:=hS (r:=r) (en:=en) hp
    repeat (first|simp only [go_sem,hg,decide_false,hb,hw,bne,wt]|refine Unf.h ?_|refine callK_c (ht) (by simp only [go_sem,hg,decide_false,hb,hw,bne,wt]) (by intro n hn;first|(cases hn;done)|(simpa [V.refs,V.refsL,slV_refs] using hn)) ?_|refine callK_c (t1) (by simp only [go_sem,hg,decide_false,hb,hw,bne,wt]) (by intro n hn;first|(cases hn;done)|(simpa [V.refs,V.refsL,slV_refs] using hn)) ?_)
    refine hR _ (ends_c ?_)
    simp only [go_sem]
theorem ref8Factor0 {C:Ctx}(h:okFn C.P C.φ 214 g_ref08_factor=true)(K:R8K C):HExC C 214 [vI 21] longS:=by
  intro r all en x hp
  have t1:=K.wrong 9 (r:=r) (en:=en) hp
  have hb:((failS en 9 x).err != 0)=true:=by simpa using err_fail en x
  refine SoundAt.of_run h rfl (fun Q hR hN => ?_)
  rw [entry2]
  repeat (first|simp only [go_sem,decide_true,hb]|refine Unf.h ?_|refine callK_c (t1) (by simp only [go_sem,decide_true,hb]) (by intro n hn;first|(cases hn;done)|(simpa [V.refs,V.refsL,slV_refs] using hn)) ?_)
  refine hR _ (ends_c ?_)
  simp only [go_sem,longS]
theorem dig8_loop {C:Ctx}{I:Nat→Prop}{Q:Ex→St→Prop}{r:Option (List (List D))}{s0 z0:List V}{k p:Int}{u:List UInt8}{v16:List V}(hd:u.all digB=true)(hl:u.length≤9)
    (hT:∀ t,t 2 = .ptr 2 0→t 4 = .ptr 4 0→t 16 = .ptr 16 0→t 17=vI (valN u:Nat)→Q (.exit 1) (St.mk t (looko [(2,some (.box s0)),(4,some (.box z0)),(15,some (.box [vI k,vS u,vI p])),(16,some (.box v16)),(108,oC r)]))) :
    ∀ (m i:Nat),i+m=u.length →
      wpB C I g_ref08_factor.l0 (St.mk (look [(2,.ptr 2 0),(4,.ptr 4 0),(15,.ptr 15 0),(16,.ptr 16 0),(17,vI (valN (u.take i):Nat)),(18,vI i)]) (looko [(2,some (.box s0)),(4,some (.box z0)),(15,some (.box [vI k,vS u,vI p])),(16,some (.box v16)),(108,oC r)])) Q:=by
  intro m
  induction m with
  | zero =>
    intro i hi
    have:i=u.length:=by omega
    subst this
    refine w_loopC (L:=g_ref08_factor.l0) rfl ?_
    rw [List.take_length]
    repeat (first|simp only [go_sem,Int.lt_irrefl,decide_false]|refine Unf.h ?_)
    exact hT _ rfl rfl rfl rfl
  | succ m ih =>
    intro i hi
    have hlt:i<u.length:=by omega
    have hlt':((i:Int)<(u.length:Int)):=by omega
    have he:=List.getElem?_eq_getElem hlt
    have hc:=valN_take hlt
    have ih':=ih (i+1) (by omega)
    rw [hc] at ih'
    have hdi:digB u[i]=true:=List.all_eq_true.1 hd _ (List.getElem_mem hlt)
    obtain ⟨d1,d2⟩:=digB_iff.1 hdi
    have hv:valN (u.take i)<10 ^ i:=valN_lt i _ (by rw [List.length_take];omega) (by
      rw [List.all_eq_true]
      intro c hc
      exact List.all_eq_true.1 hd c (List.mem_of_mem_take hc))
    have hv9:valN (u.take i)<10 ^ 9:=Nat.lt_of_lt_of_le hv (Nat.pow_le_pow_right (by decide) (by omega))
    generalize valN (u.take i)=v at *
    generalize u[i]=c at *
    have w1:IntKind.i64.wrap (10*(v:Int))=10*(v:Int):=wrapI (by omega) (by omega)
    have w2:IntKind.u8.wrap ((c.toNat:Int)-48)=((c.toNat-48:Nat):Int):=by rw [IntKind.wrap_u8];omega
    have w3:IntKind.i64.wrap ((c.toNat-48:Nat):Int)=((c.toNat-48:Nat):Int):=wrapI (by omega) (by omega)
    have w4:IntKind.i64.wrap (10*(v:Int)+((c.toNat-48:Nat):Int))=((10*v+(c.toNat-48):Nat):Int):=by rw [wrapI (by omega) (by omega)];omega
    have hw:IntKind.i64.wrap ((i:Int)+1)=((i+1:Nat):Int):=by rw [wrapI (by omega) (by omega)];omega
    refine w_loopC (L:=g_ref08_factor.l0) rfl ?_
    repeat (first|simp only [go_sem,hlt',decide_true,Int.natCast_nonneg,Int.toNat_natCast,he,w1,w2,w3,w4,hw]|refine Unf.h ?_)
    exact ih'
set_option maxHeartbeats 2000000 in
theorem ref8Factor {C:Ctx} (h:okFn C.P C.φ 214 g_ref08_factor=true) (K:R8K C) {d:Nat} (hd:d≤20) {f e:Nat→Pr} (hf:∀ en,Good1 (f en)) (he:∀ en,Good1 (e en))
    (hF:HExC C 214 [vI ((d+1:Nat):Int)] f) (hE:HExC C 196 [vI ((d+1:Nat):Int)] e):HExC C 214 [vI d] (fun en=>facStep en (f en) (e en)):=by
  intro r all en x hp
  have hw:=depth_wrap (d:=d) (by omega)
  have hg:¬((d:Int)>20):=by omega
  refine SoundAt.of_run h rfl (fun Q hR hN => ?_)
  rw [entry2]
  dsimp only at hR
  by_cases hx:x.err=0
  case neg =>
    have hb:(x.err != 0)=true:=by simp [hx]
    have e0:facStep en (f en) (e en) x=(x,0):=by unfold facStep;rw [if_neg hx]
    rw [e0] at hR
    repeat (first|simp only [go_sem,hg,decide_false,hb]|refine Unf.h ?_)
    refine hR _ (ends_c ?_)
    simp only [go_sem]
  have hb:(x.err==0)=true:=by simp [hx]
  have ht:=K.text (r:=r) (en:=en) hp
  unfold facStep at hR
  rw [if_pos hx] at hR
  cases hk1:takeT [[45]] x with
  | some p =>
    obtain ⟨s,y⟩:=p
    rw [hk1] at hR
    simp only at hR
    obtain ⟨wt,we,t,rr,hts,rfl⟩:=word_some hk1
    rw [one_eq] at wt
    have hwx:wordT x=[45]:=by simpa using wt
    rw [hwx] at ht
    have ha:=hp.at1 hts
    obtain ⟨hp1,hm1⟩:=hp.take hk1
    have t2:=hF (r:=r) (en:=en) hp1
    have t3:=K.put (xNode wNeg (f en (x.go rr)).2 0 0) (r:=r) (en:=en) (hp1.step (hf en (x.go rr)))
    repeat (first|simp only [go_sem,hg,decide_false,hb,hw,ha,bne]|refine Unf.h ?_|refine callK_c (ht) (by simp only [go_sem,hg,decide_false,hb,hw,ha,bne]) (by intro n hn;first|(cases hn;done)|(simpa [V.refs,V.refsL,slV_refs] using hn)) ?_|refine callK_c (t2) (by simp only [go_sem,hg,decide_false,hb,hw,ha,bne]) (by intro n hn;first|(cases hn;done)|(simpa [V.refs,V.refsL,slV_refs] using hn)) ?_|refine callK_c (t3) (by simp only [go_sem,hg,decide_false,hb,hw,ha,bne]) (by intro n hn;first|(cases hn;done)|(simpa [V.refs,V.refsL,slV_refs] using hn)) ?_)
    refine hR _ (ends_c ?_)
    simp only [go_sem]
  | none =>
    rw [hk1] at hR
    simp only at hR
    have wt1:(wordT x==[45])=false:=by
      have:=word_none (by decide) hx hk1
      rwa [one_eq] at this
    cases hk2:takeT [wMin,wMax] x with
    | some p =>
      obtain ⟨op,y⟩:=p
      rw [hk2] at hR
      unfold pairS at hR
      simp only at hR
      obtain ⟨wt,we,t,rr,hts,rfl⟩:=word_some hk2
      have ha:=hp.at1 hts
      obtain ⟨hp1,hm1⟩:=hp.take hk2
      have hpa:=hp1.step (need_step en [40] _)
      have hpb:=hpa.step (he en _)
      have hpc:=hpb.step (need_step en [44] _)
      have hpd:=hpc.step (he en _)
      have hpe:=hpd.step (need_step en [41] _)
      have t1:=K.must [40] (by decide) (r:=r) (en:=en) hp1
      have t2:=hE (r:=r) (en:=en) hpa
      have t3:=K.must [44] (by decide) (r:=r) (en:=en) hpb
      have t4:=hE (r:=r) (en:=en) hpc
      have t5:=K.must [41] (by decide) (r:=r) (en:=en) hpd
      have t6:=K.put (xNode op (e en (needS en [40] (x.go rr))).2 (e en (needS en [44] (e en (needS en [40] (x.go rr))).1)).2 0) (r:=r) (en:=en) hpe
      have ho:op=wMin∨op=wMax:=by
        have:=take_mem hk2
        simpa using this
      rw [we] at ht
      rcases ho with rfl|rfl
      · repeat (first|simp only [go_sem,hg,decide_false,hb,hw,ha,bne]|refine Unf.h ?_|refine callK_c (ht) (by simp only [go_sem,hg,decide_false,hb,hw,ha,bne]) (by intro n hn;first|(cases hn;done)|(simpa [V.refs,V.refsL,slV_refs] using hn)) ?_|refine callK_c (t1) (by simp only [go_sem,hg,decide_false,hb,hw,ha,bne]) (by intro n hn;first|(cases hn;done)|(simpa [V.refs,V.refsL,slV_refs] using hn)) ?_|refine callK_c (t2) (by simp only [go_sem,hg,decide_false,hb,hw,ha,bne]) (by intro n hn;first|(cases hn;done)|(simpa [V.refs,V.refsL,slV_refs] using hn)) ?_|refine callK_c (t3) (by simp only [go_sem,hg,decide_false,hb,hw,ha,bne]) (by intro n hn;first|(cases hn;done)|(simpa [V.refs,V.refsL,slV_refs] using hn)) ?_|refine callK_c (t4) (by simp only [go_sem,hg,decide_false,hb,hw,ha,bne]) (by intro n hn;first|(cases hn;done)|(simpa [V.refs,V.refsL,slV_refs] using hn)) ?_|refine callK_c (t5) (by simp only [go_sem,hg,decide_false,hb,hw,ha,bne]) (by intro n hn;first|(cases hn;done)|(simpa [V.refs,V.refsL,slV_refs] using hn)) ?_|refine callK_c (t6) (by simp only [go_sem,hg,decide_false,hb,hw,ha,bne]) (by intro n hn;first|(cases hn;done)|(simpa [V.refs,V.refsL,slV_refs] using hn)) ?_)
        refine hR _ (ends_c ?_)
        simp only [go_sem]
      · repeat (first|simp only [go_sem,hg,decide_false,hb,hw,ha,bne]|refine Unf.h ?_|refine callK_c (ht) (by simp only [go_sem,hg,decide_false,hb,hw,ha,bne]) (by intro n hn;first|(cases hn;done)|(simpa [V.refs,V.refsL,slV_refs] using hn)) ?_|refine callK_c (t1) (by simp only [go_sem,hg,decide_false,hb,hw,ha,bne]) (by intro n hn;first|(cases hn;done)|(simpa [V.refs,V.refsL,slV_refs] using hn)) ?_|refine callK_c (t2) (by simp only [go_sem,hg,decide_false,hb,hw,ha,bne]) (by intro n hn;first|(cases hn;done)|(simpa [V.refs,V.refsL,slV_refs] using hn)) ?_|refine callK_c (t3) (by simp only [go_sem,hg,decide_false,hb,hw,ha,bne]) (by intro n hn;first|(cases hn;done)|(simpa [V.refs,V.refsL,slV_refs] using hn)) ?_|refine callK_c (t4) (by simp only [go_sem,hg,decide_false,hb,hw,ha,bne]) (by intro n hn;first|(cases hn;done)|(simpa [V.refs,V.refsL,slV_refs] using hn)) ?_|refine callK_c (t5) (by simp only [go_sem,hg,decide_false,hb,hw,ha,bne]) (by intro n hn;first|(cases hn;done)|(simpa [V.refs,V.refsL,slV_refs] using hn)) ?_|refine callK_c (t6) (by simp only [go_sem,hg,decide_false,hb,hw,ha,bne]) (by intro n hn;first|(cases hn;done)|(simpa [V.refs,V.refsL,slV_refs] using hn)) ?_)
        refine hR _ (ends_c ?_)
        simp only [go_sem]
    | none =>
      rw [hk2] at hR
      simp only at hR
      have wt2:=word_none (by decide) hx hk2
      cases hk3:takeT [[40]] x with
      | some p =>
        obtain ⟨s,y⟩:=p
        rw [hk3] at hR
        simp only at hR
        obtain ⟨wt,we,t,rr,hts,rfl⟩:=word_some hk3
        rw [one_eq] at wt
        have hwx:wordT x=[40]:=by simpa using wt
        rw [hwx] at ht
        have ha:=hp.at1 hts
        obtain ⟨hp1,hm1⟩:=hp.take hk3
        have t2:=hE (r:=r) (en:=en) hp1
        have t3:=K.must [41] (by decide) (r:=r) (en:=en) (hp1.step (he en (x.go rr)))
        repeat (first|simp only [go_sem,hg,decide_false,hb,hw,ha,bne]|refine Unf.h ?_|refine callK_c (ht) (by simp only [go_sem,hg,decide_false,hb,hw,ha,bne]) (by intro n hn;first|(cases hn;done)|(simpa [V.refs,V.refsL,slV_refs] using hn)) ?_|refine callK_c (t2) (by simp only [go_sem,hg,decide_false,hb,hw,ha,bne]) (by intro n hn;first|(cases hn;done)|(simpa [V.refs,V.refsL,slV_refs] using hn)) ?_|refine callK_c (t3) (by simp only [go_sem,hg,decide_false,hb,hw,ha,bne]) (by intro n hn;first|(cases hn;done)|(simpa [V.refs,V.refsL,slV_refs] using hn)) ?_)
        refine hR _ (ends_c ?_)
        simp only [go_sem]
      | none =>
        rw [hk3] at hR
        simp only at hR
        have wt3:(wordT x==[40])=false:=by
          have:=word_none (by decide) hx hk3
          rwa [one_eq] at this
        have wt4:(wordT x==[109,105,110])=false∧(wordT x==[109,97,120])=false:=by
          simp only [List.contains_cons,List.contains_nil,Bool.or_false,Bool.or_eq_false_iff] at wt2
          exact wt2
        obtain ⟨wt4,wt5⟩:=wt4
        have tf:=K.wrong 2 (r:=r) (en:=en) hp
        clear hk1 hk2 hk3 wt2
        generalize wordT x=w at *
        cases hts:x.ts with
        | nil =>
          have e0:=hp.nil hts
          have e:leafS en x=(failS en 2 x,0):=by unfold leafS;rw [hts]
          rw [e] at hR
          have hle:((atN all x.ts:Int)≥(all.length:Int)):=by omega
          repeat (first|simp only [go_sem,hg,decide_false,decide_true,hb,bne,wt1,wt3,wt4,wt5,List.length_map,hle]|refine Unf.h ?_|refine callK_c (ht) (by simp only [go_sem,hg,decide_false,decide_true,hb,bne,wt1,wt3,wt4,wt5,List.length_map,hle]) (by intro n hn;first|(cases hn;done)|(simpa [V.refs,V.refsL,slV_refs] using hn)) ?_|refine callK_c (tf) (by simp only [go_sem,hg,decide_false,decide_true,hb,bne,wt1,wt3,wt4,wt5,List.length_map,hle]) (by intro n hn;first|(cases hn;done)|(simpa [V.refs,V.refsL,slV_refs] using hn)) ?_)
          refine hR _ (ends_c ?_)
          simp only [go_sem]
        | cons t rr =>
          obtain ⟨e1,e2,e3⟩:=hp.cons hts
          have hm:=hp.head hts
          have hlt:=hp.txt t hm
          have hgd:=hp.good t hm
          have ha:=hp.at1 hts
          have hge:¬((atN all x.ts:Int)≥(all.length:Int)):=by omega
          have hlt2:((atN all x.ts:Int)<(all.length:Int)):=by omega
          have bad:leafX t=none→leafS en x=(failS en 2 x,0):=by intro h;unfold leafS;rw [hts];simp only [h]
          have ok:∀ e,leafX t=some e→leafS en x=putS e (x.go rr):=by intro e h;unfold leafS;rw [hts];simp only [h]
          have gm:=getMap encT e2
          by_cases k1:t.kind=1
          · have b1:(t.kind==1)=true:=by simp [k1]
            have tt:=K.taken t.text
            obtain ⟨b,hbn⟩:∃ b,takenL.contains t.text=b:=⟨_,rfl⟩
            rw [hbn] at tt
            cases b with
            | true =>
              have e:leafX t=none:=by unfold leafX namedB;rw [hbn];simp [k1]
              rw [bad e] at hR
              repeat (first|simp only [go_sem,hg,decide_false,decide_true,hb,bne,wt1,wt3,wt4,wt5,List.length_map,hge,hlt2,Int.natCast_nonneg,Int.toNat_natCast,gm,encT,b1]|refine Unf.h ?_|refine callK_c (ht) (by simp only [go_sem,hg,decide_false,decide_true,hb,bne,wt1,wt3,wt4,wt5,List.length_map,hge,hlt2,Int.natCast_nonneg,Int.toNat_natCast,gm,encT,b1]) (by intro n hn;first|(cases hn;done)|(simpa [V.refs,V.refsL,slV_refs] using hn)) ?_|refine callK_c (tf) (by simp only [go_sem,hg,decide_false,decide_true,hb,bne,wt1,wt3,wt4,wt5,List.length_map,hge,hlt2,Int.natCast_nonneg,Int.toNat_natCast,gm,encT,b1]) (by intro n hn;first|(cases hn;done)|(simpa [V.refs,V.refsL,slV_refs] using hn)) ?_|refine callK_plain (tt) (fun _=>rfl) ?_)
              refine hR _ (ends_c ?_)
              simp only [go_sem]
            | false =>
              have e:leafX t=some (xLeaf wName t.text 0):=by unfold leafX namedB;rw [hbn];simp [k1]
              rw [ok _ e] at hR
              have hpu:=K.put (xLeaf wName t.text 0) (r:=r) (en:=en) (hp.go hts)
              repeat (first|simp only [go_sem,hg,decide_false,decide_true,hb,bne,wt1,wt3,wt4,wt5,List.length_map,hge,hlt2,Int.natCast_nonneg,Int.toNat_natCast,gm,encT,b1,ha]|refine Unf.h ?_|refine callK_c (ht) (by simp only [go_sem,hg,decide_false,decide_true,hb,bne,wt1,wt3,wt4,wt5,List.length_map,hge,hlt2,Int.natCast_nonneg,Int.toNat_natCast,gm,encT,b1,ha]) (by intro n hn;first|(cases hn;done)|(simpa [V.refs,V.refsL,slV_refs] using hn)) ?_|refine callK_c (hpu) (by simp only [go_sem,hg,decide_false,decide_true,hb,bne,wt1,wt3,wt4,wt5,List.length_map,hge,hlt2,Int.natCast_nonneg,Int.toNat_natCast,gm,encT,b1,ha]) (by intro n hn;first|(cases hn;done)|(simpa [V.refs,V.refsL,slV_refs] using hn)) ?_|refine callK_plain (tt) (fun _=>rfl) ?_)
              refine hR _ (ends_c ?_)
              simp only [go_sem]
          have b1:(t.kind==1)=false:=by simp [k1]
          by_cases k2:t.kind=2
          · have b2:(t.kind==2)=true:=by simp [k2]
            rw [k2] at hgd
            obtain ⟨g1,g2,g3⟩:=good_whole hgd
            have e:leafX t=some (xLeaf wWhole [] (valN t.text:Int)):=by unfold leafX;simp [k2,valW,g3]
            rw [ok _ e] at hR
            have hpu:=K.put (xLeaf wWhole [] (valN t.text:Int)) (r:=r) (en:=en) (hp.go hts)
            have lp:=fun {I:Nat→Prop} {Q:Ex→St→Prop} {s0 z0 v16:List V} {p:Int} (hT:_)=>dig8_loop (C:=C) (I:=I) (Q:=Q) (r:=r) (s0:=s0) (z0:=z0) (k:=t.kind) (p:=p) (u:=t.text) (v16:=v16) g1 g2 hT t.text.length 0 (by omega)
            simp only [List.take_zero,show valN []=0 from rfl,Int.natCast_zero] at lp
            repeat (first|simp only [go_sem,hg,decide_false,decide_true,hb,bne,wt1,wt3,wt4,wt5,List.length_map,hge,hlt2,Int.natCast_nonneg,Int.toNat_natCast,gm,encT,b1,b2,ha]|refine Unf.h ?_|refine callK_c (ht) (by simp only [go_sem,hg,decide_false,decide_true,hb,bne,wt1,wt3,wt4,wt5,List.length_map,hge,hlt2,Int.natCast_nonneg,Int.toNat_natCast,gm,encT,b1,b2,ha]) (by intro n hn;first|(cases hn;done)|(simpa [V.refs,V.refsL,slV_refs] using hn)) ?_)
            refine lp (fun t2 q2 q4 q16 q17 => ?_)
            repeat (first|simp only [go_sem,q2,q4,q16,q17,ha]|refine Unf.h ?_|refine callK_c (hpu) (by simp only [go_sem,q2,q4,q16,q17,ha]) (by intro n hn;first|(cases hn;done)|(simpa [V.refs,V.refsL,slV_refs] using hn)) ?_)
            refine hR _ (ends_c ?_)
            simp only [go_sem]
          have b2:(t.kind==2)=false:=by simp [k2]
          by_cases k3:t.kind=3
          · have b3:(t.kind==3)=true:=by simp [k3]
            have e:leafX t=some (xLeaf wAmount [] (amtV t.text)):=by unfold leafX;simp [k3]
            rw [ok _ e] at hR
            rw [k3] at hgd
            have hfg:=(good_fig hgd (by decide) (by decide)).1
            have hps:(parseS t.text).2=true:=by
              unfold figS at hfg
              split at hfg
              · assumption
              · split at hfg
                · exact absurd hfg (by decide)
                · split at hfg <;> exact absurd hfg (by decide)
            have tm:=K.amt t.text hlt hps
            have hpu:=K.put (xLeaf wAmount [] (amtV t.text)) (r:=r) (en:=en) (hp.go hts)
            repeat (first|simp only [go_sem,hg,decide_false,decide_true,hb,bne,wt1,wt3,wt4,wt5,List.length_map,hge,hlt2,Int.natCast_nonneg,Int.toNat_natCast,gm,encT,b1,b2,b3,ha]|refine Unf.h ?_|refine callK_c (ht) (by simp only [go_sem,hg,decide_false,decide_true,hb,bne,wt1,wt3,wt4,wt5,List.length_map,hge,hlt2,Int.natCast_nonneg,Int.toNat_natCast,gm,encT,b1,b2,b3,ha]) (by intro n hn;first|(cases hn;done)|(simpa [V.refs,V.refsL,slV_refs] using hn)) ?_|refine callK_c (hpu) (by simp only [go_sem,hg,decide_false,decide_true,hb,bne,wt1,wt3,wt4,wt5,List.length_map,hge,hlt2,Int.natCast_nonneg,Int.toNat_natCast,gm,encT,b1,b2,b3,ha]) (by intro n hn;first|(cases hn;done)|(simpa [V.refs,V.refsL,slV_refs] using hn)) ?_|refine callK_plain (tm) (fun _=>rfl) ?_)
            refine hR _ (ends_c ?_)
            simp only [go_sem]
          have b3:(t.kind==3)=false:=by simp [k3]
          by_cases k4:t.kind=4
          · have b4:(t.kind==4)=true:=by simp [k4]
            have e:leafX t=some (xLeaf wRate [] (rateV t.text)):=by unfold leafX;simp [k4]
            rw [ok _ e] at hR
            have tm:=K.rate t.text hlt
            have hpu:=K.put (xLeaf wRate [] (rateV t.text)) (r:=r) (en:=en) (hp.go hts)
            repeat (first|simp only [go_sem,hg,decide_false,decide_true,hb,bne,wt1,wt3,wt4,wt5,List.length_map,hge,hlt2,Int.natCast_nonneg,Int.toNat_natCast,gm,encT,b1,b2,b3,b4,ha]|refine Unf.h ?_|refine callK_c (ht) (by simp only [go_sem,hg,decide_false,decide_true,hb,bne,wt1,wt3,wt4,wt5,List.length_map,hge,hlt2,Int.natCast_nonneg,Int.toNat_natCast,gm,encT,b1,b2,b3,b4,ha]) (by intro n hn;first|(cases hn;done)|(simpa [V.refs,V.refsL,slV_refs] using hn)) ?_|refine callK_c (hpu) (by simp only [go_sem,hg,decide_false,decide_true,hb,bne,wt1,wt3,wt4,wt5,List.length_map,hge,hlt2,Int.natCast_nonneg,Int.toNat_natCast,gm,encT,b1,b2,b3,b4,ha]) (by intro n hn;first|(cases hn;done)|(simpa [V.refs,V.refsL,slV_refs] using hn)) ?_|refine callK_plain (tm) (fun _=>rfl) ?_)
            refine hR _ (ends_c ?_)
            simp only [go_sem]
          have b4:(t.kind==4)=false:=by simp [k4]
          have e:leafX t=none:=by unfold leafX;simp [k1,k2,k3,k4]
          rw [bad e] at hR
          repeat (first|simp only [go_sem,hg,decide_false,decide_true,hb,bne,wt1,wt3,wt4,wt5,List.length_map,hge,hlt2,Int.natCast_nonneg,Int.toNat_natCast,gm,encT,b1,b2,b3,b4]|refine Unf.h ?_|refine callK_c (ht) (by simp only [go_sem,hg,decide_false,decide_true,hb,bne,wt1,wt3,wt4,wt5,List.length_map,hge,hlt2,Int.natCast_nonneg,Int.toNat_natCast,gm,encT,b1,b2,b3,b4]) (by intro n hn;first|(cases hn;done)|(simpa [V.refs,V.refsL,slV_refs] using hn)) ?_|refine callK_c (tf) (by simp only [go_sem,hg,decide_false,decide_true,hb,bne,wt1,wt3,wt4,wt5,List.length_map,hge,hlt2,Int.natCast_nonneg,Int.toNat_natCast,gm,encT,b1,b2,b3,b4]) (by intro n hn;first|(cases hn;done)|(simpa [V.refs,V.refsL,slV_refs] using hn)) ?_)
          refine hR _ (ends_c ?_)
          simp only [go_sem]
end Pay
