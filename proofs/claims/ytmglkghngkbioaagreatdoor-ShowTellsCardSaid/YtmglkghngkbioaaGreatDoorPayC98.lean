/- Contracts: equal programs; a sound one. -/
import Derived.Test.YtmglkghngkbioaaGreatDoorPayC66
set_option linter.unusedSimpArgs false
set_option linter.unusedVariables false
set_option maxHeartbeats 1000000
namespace Pay
open Go
attribute [local irreducible] wpB opsB treeB drawB
theorem shs_loop0 {C:Ctx}{I:Nat→Prop}{Q:Ex→St→Prop}{p q:Prog}(hl:p.rules.length=q.rules.length)(hp:p.rules.length<100000)
    (hT:p.rules=q.rules→∀ s,s 2 = .ptr 2 0→s 3 = .ptr 3 0→Q (.exit 0) (St.mk s (looko [(2,some (.box [.d (.sl (p.rules.map encRl)),.d (.sl (p.exprs.map encX))])),(3,some (.box [.d (.sl (q.rules.map encRl)),.d (.sl (q.exprs.map encX))]))])))
    (hF:p.rules≠q.rules→∀ s o,s 4=vB false→Q .ret (St.mk s o)) :
    ∀ (m k:Nat),k+m=p.rules.length→p.rules.take k=q.rules.take k →
      wpB C I g_show_same.l0 (St.mk (look [(2,.ptr 2 0),(3,.ptr 3 0),(25,vI p.rules.length),(26,vI k)]) (looko [(2,some (.box [.d (.sl (p.rules.map encRl)),.d (.sl (p.exprs.map encX))])),(3,some (.box [.d (.sl (q.rules.map encRl)),.d (.sl (q.exprs.map encX))]))])) Q:=by
  intro m
  induction m with
  | zero =>
    intro k hk he
    refine g_show_same_l0_sh rfl ?_
    have hk':k=p.rules.length:=by omega
    subst hk'
    rw [List.take_length,hl,List.take_length] at he
    repeat (first|simp only [go_sem,List.length_map,Int.lt_irrefl,decide_false]|refine Unf.h ?_)
    exact hT he _ rfl rfl
  | succ m ih =>
    intro k hk he
    refine g_show_same_l0_sh rfl ?_
    have hlt:k<p.rules.length:=by omega
    have hlt2:k<q.rules.length:=by omega
    have hlt':((k:Int)<(p.rules.length:Int)):=by omega
    have e1:=List.getElem?_eq_getElem hlt
    have e2:=List.getElem?_eq_getElem hlt2
    have hw:IntKind.i64.wrap ((k:Int)+1)=((k+1:Nat):Int):=by rw [wrapI (by omega) (by omega)];omega
    obtain ⟨a,ha⟩:∃ a,p.rules[k]=a:=⟨_,rfl⟩
    obtain ⟨b,hb⟩:∃ b,q.rules[k]=b:=⟨_,rfl⟩
    rw [ha] at e1
    rw [hb] at e2
    have hn:=rul_eq a b
    by_cases h:a=b
    · rw [decide_eq_true h] at hn
      repeat (first|simp only [go_sem,List.length_map,hlt',decide_true,Int.natCast_nonneg,Int.toNat_natCast,getMap encRl e1,getMap encRl e2,encRl,hn,hw]|refine Unf.h ?_)
      refine ih (k+1) (by omega) ?_
      rw [List.take_add_one,List.take_add_one,he,e1,e2,h]
    · rw [decide_eq_false h] at hn
      repeat (first|simp only [go_sem,List.length_map,hlt',decide_true,Int.natCast_nonneg,Int.toNat_natCast,getMap encRl e1,getMap encRl e2,encRl,hn,hw]|refine Unf.h ?_)
      refine hF (fun e=>h ?_) _ _ rfl
      rw [e,e2] at e1
      exact (Option.some.inj e1).symm
theorem shs_loop1 {C:Ctx}{I:Nat→Prop}{Q:Ex→St→Prop}{p q:Prog}(hl:p.exprs.length=q.exprs.length)(hp:p.exprs.length<100000)
    (hT:p.exprs=q.exprs→∀ s o,Q (.exit 2) (St.mk s o))
    (hF:p.exprs≠q.exprs→∀ s o,s 4=vB false→Q .ret (St.mk s o)) :
    ∀ (m k:Nat),k+m=p.exprs.length→p.exprs.take k=q.exprs.take k →
      wpB C I g_show_same.l1 (St.mk (look [(2,.ptr 2 0),(3,.ptr 3 0),(43,vI p.exprs.length),(44,vI k)]) (looko [(2,some (.box [.d (.sl (p.rules.map encRl)),.d (.sl (p.exprs.map encX))])),(3,some (.box [.d (.sl (q.rules.map encRl)),.d (.sl (q.exprs.map encX))]))])) Q:=by
  intro m
  induction m with
  | zero =>
    intro k hk he
    refine g_show_same_l1_sh rfl ?_
    have hk':k=p.exprs.length:=by omega
    subst hk'
    rw [List.take_length,hl,List.take_length] at he
    repeat (first|simp only [go_sem,List.length_map,Int.lt_irrefl,decide_false]|refine Unf.h ?_)
    exact hT he _ _
  | succ m ih =>
    intro k hk he
    refine g_show_same_l1_sh rfl ?_
    have hlt:k<p.exprs.length:=by omega
    have hlt2:k<q.exprs.length:=by omega
    have hlt':((k:Int)<(p.exprs.length:Int)):=by omega
    have e1:=List.getElem?_eq_getElem hlt
    have e2:=List.getElem?_eq_getElem hlt2
    have hw:IntKind.i64.wrap ((k:Int)+1)=((k+1:Nat):Int):=by rw [wrapI (by omega) (by omega)];omega
    obtain ⟨a,ha⟩:∃ a,p.exprs[k]=a:=⟨_,rfl⟩
    obtain ⟨b,hb⟩:∃ b,q.exprs[k]=b:=⟨_,rfl⟩
    rw [ha] at e1
    rw [hb] at e2
    have hn:=xpr_eq a b
    by_cases h:a=b
    · rw [decide_eq_true h] at hn
      repeat (first|simp only [go_sem,List.length_map,hlt',decide_true,Int.natCast_nonneg,Int.toNat_natCast,getMap encX e1,getMap encX e2,encX,hn,hw]|refine Unf.h ?_)
      refine ih (k+1) (by omega) ?_
      rw [List.take_add_one,List.take_add_one,he,e1,e2,h]
    · rw [decide_eq_false h] at hn
      repeat (first|simp only [go_sem,List.length_map,hlt',decide_true,Int.natCast_nonneg,Int.toNat_natCast,getMap encX e1,getMap encX e2,encX,hn,hw]|refine Unf.h ?_)
      refine hF (fun e=>h ?_) _ _ rfl
      rw [e,e2] at e1
      exact (Option.some.inj e1).symm
theorem showSame {C:Ctx}(h:okFn C.P C.φ 199 g_show_same=true)(p q:Prog)(h1:p.rules.length<100000)(h2:p.exprs.length<100000) :
    SoundAt C 199 ⟨[vProg p,vProg q],looko []⟩ ⟨vB (decide (p=q)),looko []⟩:=by
  refine SoundAt.of_run h rfl (fun Q hR hN => ?_)
  rw [entry2]
  by_cases hr:p.rules.length=q.rules.length
  case neg =>
    have hb:((p.rules.length:Int) != (q.rules.length:Int))=true:=by simp;omega
    rw [decide_eq_false (fun e=>hr (by rw [e]))] at hR
    repeat (first|simp only [go_sem,List.length_map,hb]|refine Unf.h ?_)
    refine hR _ ?_
    simp only [go_sem]
  have hb:((p.rules.length:Int) != (q.rules.length:Int))=false:=by simp;omega
  by_cases hx:p.exprs.length=q.exprs.length
  case neg =>
    have hb2:((p.exprs.length:Int) != (q.exprs.length:Int))=true:=by simp;omega
    rw [decide_eq_false (fun e=>hx (by rw [e]))] at hR
    repeat (first|simp only [go_sem,List.length_map,hb,hb2]|refine Unf.h ?_)
    refine hR _ ?_
    simp only [go_sem]
  have hb2:((p.exprs.length:Int) != (q.exprs.length:Int))=false:=by simp;omega
  repeat (first|simp only [go_sem,List.length_map,hb,hb2]|refine Unf.h ?_)
  refine shs_loop0 hr h1 (fun er s s2 s3 => ?_) (fun ne s o s4 => ?_) p.rules.length 0 (by omega) rfl
  · repeat (first|simp only [go_sem,s2,s3,List.length_map]|refine Unf.h ?_)
    refine shs_loop1 hx h2 (fun ex s o => ?_) (fun ne s o s4 => ?_) p.exprs.length 0 (by omega) rfl
    · rw [decide_eq_true ((prog_eq p q).2 ⟨er,ex⟩)] at hR
      repeat (first|simp only [go_sem]|refine Unf.h ?_)
      refine hR _ ?_
      simp only [go_sem]
    · rw [decide_eq_false (fun e=>ne (by rw [e]))] at hR
      refine hR _ ?_
      simp only [go_sem,s4]
  · rw [decide_eq_false (fun e=>ne (by rw [e]))] at hR
    refine hR _ ?_
    simp only [go_sem,s4]
def encQ9 (n:Int):List D:=[dI n]
abbrev pBox (p:Prog):Ob:=.box [.d (.sl (p.rules.map encRl)),.d (.sl (p.exprs.map encX))]
theorem part_loop {C:Ctx} {I:Nat→Prop} {Q:Ex→St→Prop} {ps:List Int} {i:Nat} {a b c d:V} {o1 o4:Option Ob} (hl:ps.length<100000)
    (hT:ps.all (shPartOk i)=true→Q (.exit 2) (St.mk (look [(1,a),(3,vI i),(4,b),(10,c),(11,d),(12,vI i),(23,.d (.sl (ps.map encQ9))),(24,vI ps.length),(25,vI ps.length),(26,vB false)]) (looko [(1,o1),(4,o4)])))
    (hF:ps.all (shPartOk i)=false→Q .ret (St.mk (look [(2,vB false)]) (looko []))) :
    ∀ (m k:Nat),k+m=ps.length→(ps.take k).all (shPartOk i)=true →
      wpB C I g_show_sound.l1 (St.mk (look [(1,a),(3,vI i),(4,b),(10,c),(11,d),(12,vI i),(23,.d (.sl (ps.map encQ9))),(24,vI ps.length),(25,vI k)]) (looko [(1,o1),(4,o4)])) Q:=by
  intro m
  induction m with
  | zero =>
    intro k hk he
    refine w_loopC (L:=g_show_sound.l1) rfl ?_
    have hk':k=ps.length:=by omega
    subst hk'
    rw [List.take_length] at he
    repeat (first|simp only [go_sem,Int.lt_irrefl,decide_false]|refine Unf.h ?_)
    exact hT he
  | succ m ih =>
    intro k hk he
    refine w_loopC (L:=g_show_sound.l1) rfl ?_
    have hlt:k<ps.length:=by omega
    have hlt':((k:Int)<(ps.length:Int)):=by omega
    have e1:=List.getElem?_eq_getElem hlt
    have hw:IntKind.i64.wrap ((k:Int)+1)=((k+1:Nat):Int):=by rw [wrapI (by omega) (by omega)];omega
    obtain ⟨q,hq⟩:∃ q,ps[k]=q:=⟨_,rfl⟩
    rw [hq] at e1
    have hbad:shPartOk i q=false→ps.all (shPartOk i)=false:=fun h=>by
      cases hh:ps.all (shPartOk i) with
      | false=>rfl
      | true=>rw [List.all_eq_true.1 hh q (List.mem_of_getElem? e1)] at h;cases h
    have hmx:(if (1:Int)>(i:Int) then (1:Int) else (i:Int))=max (i:Int) 1:=by split <;> omega
    by_cases h0:q<0
    · have hp:shPartOk i q=false:=by simp [shPartOk];omega
      repeat (first|simp only [go_sem,hlt',decide_true,decide_false,Int.natCast_nonneg,Int.toNat_natCast,getMap encQ9 e1,encQ9,h0]|refine Unf.h ?_)
      exact hF (hbad hp)
    · by_cases h1:max (i:Int) 1≤q
      · have hp:shPartOk i q=false:=by simp [shPartOk];omega
        have h1':q≥max (i:Int) 1:=h1
        repeat (first|simp only [go_sem,hlt',decide_true,decide_false,Int.natCast_nonneg,Int.toNat_natCast,getMap encQ9 e1,encQ9,h0,hmx,h1']|refine Unf.h ?_)
        exact hF (hbad hp)
      · have hp:shPartOk i q=true:=by simp [shPartOk];omega
        have h1':¬q≥max (i:Int) 1:=h1
        repeat (first|simp only [go_sem,hlt',decide_true,decide_false,Int.natCast_nonneg,Int.toNat_natCast,getMap encQ9 e1,encQ9,h0,hmx,h1',hw]|refine Unf.h ?_)
        refine ih (k+1) (by omega) ?_
        rw [List.take_add_one,e1,List.all_append,he]
        simp [hp]
theorem sx_loop {C:Ctx} {I:Nat→Prop} {Q:Ex→St→Prop} {p:Prog} (hI:¬I 4) (hl:p.exprs.length<100000)
    (hT:soundXs 0 p.exprs=true→Q (.exit 0) (St.mk (look [(1,.ptr 1 0),(10,.d (.sl (p.exprs.map encX))),(11,vI p.exprs.length),(12,vI p.exprs.length),(13,vB false)]) (looko [(1,some (pBox p))])))
    (hF:soundXs 0 p.exprs=false→Q .ret (St.mk (look [(2,vB false)]) (looko []))) :
    ∀ (m k:Nat),k+m=p.exprs.length→soundXs 0 p.exprs=soundXs k (p.exprs.drop k) →
      wpB C I g_show_sound.l0 (St.mk (look [(1,.ptr 1 0),(10,.d (.sl (p.exprs.map encX))),(11,vI p.exprs.length),(12,vI k)]) (looko [(1,some (pBox p))])) Q:=by
  intro m
  induction m with
  | zero =>
    intro k hk he
    refine w_loopC (L:=g_show_sound.l0) rfl ?_
    have hk':k=p.exprs.length:=by omega
    subst hk'
    rw [List.drop_length] at he
    repeat (first|simp only [go_sem,Int.lt_irrefl,decide_false]|refine Unf.h ?_)
    exact hT he
  | succ m ih =>
    intro k hk he
    refine w_loopC (L:=g_show_sound.l0) rfl ?_
    have hlt:k<p.exprs.length:=by omega
    have hlt':((k:Int)<(p.exprs.length:Int)):=by omega
    have e1:=List.getElem?_eq_getElem hlt
    have hw:IntKind.i64.wrap ((k:Int)+1)=((k+1:Nat):Int):=by rw [wrapI (by omega) (by omega)];omega
    rw [List.drop_eq_getElem_cons hlt] at he
    obtain ⟨x,hx⟩:∃ x,p.exprs[k]=x:=⟨_,rfl⟩
    rw [hx] at e1 he
    rw [soundXs] at he
    repeat (first|simp only [go_sem,hlt',decide_true,Int.natCast_nonneg,Int.toNat_natCast,List.length_map,getMap encX e1,encX,hI,partsN]|refine Unf.h ?_)
    have hps:[[D.int .i64 x.a],[D.int .i64 x.b],[D.int .i64 x.c]]=[x.a,x.b,x.c].map encQ9:=rfl
    rw [hps]
    refine part_loop (ps:=[x.a,x.b,x.c]) (i:=k) (by simp) (fun ha => ?_) (fun ha => ?_) 3 0 rfl rfl
    · have ha':shPartOk k x.a=true∧shPartOk k x.b=true∧shPartOk k x.c=true:=by simpa using ha
      by_cases h1:x.op.length≤12
      · have g1:¬((x.op.length:Int)>12):=by omega
        by_cases h2:x.name.length≤12
        · have g2:¬((x.name.length:Int)>12):=by omega
          have hs:soundX k x=true:=by simp [soundX,ha',h1,h2]
          repeat (first|simp only [go_sem,g1,g2,decide_false,hw]|refine Unf.h ?_)
          exact ih (k+1) (by omega) (by rw [he,hs,Bool.true_and])
        · have g2:((x.name.length:Int)>12):=by omega
          have hs:soundX k x=false:=by simp [soundX,h2]
          repeat (first|simp only [go_sem,g1,g2,decide_false,decide_true]|refine Unf.h ?_)
          exact hF (by rw [he,hs,Bool.false_and])
      · have g1:((x.op.length:Int)>12):=by omega
        have hs:soundX k x=false:=by simp [soundX,h1]
        repeat (first|simp only [go_sem,g1,decide_true]|refine Unf.h ?_)
        exact hF (by rw [he,hs,Bool.false_and])
    · have hs:soundX k x=false:=by
        have:¬(shPartOk k x.a=true∧shPartOk k x.b=true∧shPartOk k x.c=true):=fun h=>by simp [h] at ha
        cases hh:soundX k x with
        | false=>rfl
        | true =>
          simp only [soundX,Bool.and_eq_true] at hh
          exact absurd ⟨hh.1.1.1.1,hh.1.1.1.2,hh.1.1.2⟩ this
      repeat (first|simp only [go_sem]|refine Unf.h ?_)
      exact hF (by rw [he,hs,Bool.false_and])
theorem sr_loop {C:Ctx}{I:Nat→Prop}{Q:Ex→St→Prop}{p:Prog}(hI:¬I 8)(hl:p.rules.length<100000)
    (hT:p.rules.all (soundR p.exprs.length)=true→Q (.exit 4) (St.mk (look [(1,.ptr 1 0),(50,.d (.sl (p.rules.map encRl))),(51,vI p.rules.length),(52,vI p.rules.length),(53,vB false)]) (looko [(1,some (pBox p))])))
    (hF:p.rules.all (soundR p.exprs.length)=false→Q .ret (St.mk (look [(2,vB false)]) (looko []))) :
    ∀ (m k:Nat),k+m=p.rules.length→(p.rules.take k).all (soundR p.exprs.length)=true →
      wpB C I g_show_sound.l2 (St.mk (look [(1,.ptr 1 0),(50,.d (.sl (p.rules.map encRl))),(51,vI p.rules.length),(52,vI k)]) (looko [(1,some (pBox p))])) Q:=by
  intro m
  induction m with
  | zero =>
    intro k hk he
    refine w_loopC (L:=g_show_sound.l2) rfl ?_
    have hk':k=p.rules.length:=by omega
    subst hk'
    rw [List.take_length] at he
    repeat (first|simp only [go_sem,Int.lt_irrefl,decide_false]|refine Unf.h ?_)
    exact hT he
  | succ m ih =>
    intro k hk he
    refine w_loopC (L:=g_show_sound.l2) rfl ?_
    have hlt:k<p.rules.length:=by omega
    have hlt':((k:Int)<(p.rules.length:Int)):=by omega
    have e1:=List.getElem?_eq_getElem hlt
    have hw:IntKind.i64.wrap ((k:Int)+1)=((k+1:Nat):Int):=by rw [wrapI (by omega) (by omega)];omega
    obtain ⟨r,hr⟩:∃ r,p.rules[k]=r:=⟨_,rfl⟩
    rw [hr] at e1
    have hbad:soundR p.exprs.length r=false→p.rules.all (soundR p.exprs.length)=false:=fun h=>by
      cases hh:p.rules.all (soundR p.exprs.length) with
      | false=>rfl
      | true=>rw [List.all_eq_true.1 hh r (List.mem_of_getElem? e1)] at h;cases h
    by_cases h1:r.root<0
    · repeat (first|simp only [go_sem,hlt',decide_true,decide_false,Int.natCast_nonneg,Int.toNat_natCast,List.length_map,getMap encRl e1,encRl,hI,h1]|refine Unf.h ?_)
      exact hF (hbad (by simp [soundR];omega))
    by_cases h2:r.root≥(p.exprs.length:Int)
    · repeat (first|simp only [go_sem,hlt',decide_true,decide_false,Int.natCast_nonneg,Int.toNat_natCast,List.length_map,getMap encRl e1,encRl,hI,h1,h2]|refine Unf.h ?_)
      exact hF (hbad (by simp [soundR];omega))
    by_cases h3:((r.kind.length:Int)>12)
    · repeat (first|simp only [go_sem,hlt',decide_true,decide_false,Int.natCast_nonneg,Int.toNat_natCast,List.length_map,getMap encRl e1,encRl,hI,h1,h2,h3]|refine Unf.h ?_)
      exact hF (hbad (by simp [soundR];omega))
    by_cases h4:((r.name.length:Int)>12)
    · repeat (first|simp only [go_sem,hlt',decide_true,decide_false,Int.natCast_nonneg,Int.toNat_natCast,List.length_map,getMap encRl e1,encRl,hI,h1,h2,h3,h4]|refine Unf.h ?_)
      exact hF (hbad (by simp [soundR];omega))
    repeat (first|simp only [go_sem,hlt',decide_true,decide_false,Int.natCast_nonneg,Int.toNat_natCast,List.length_map,getMap encRl e1,encRl,hI,h1,h2,h3,h4,hw]|refine Unf.h ?_)
    refine ih (k+1) (by omega) ?_
    rw [List.take_add_one,e1,List.all_append,he]
    have:soundR p.exprs.length r=true:=by simp [soundR];omega
    simp [this]
theorem showSound {C:Ctx}(h:okFn C.P C.φ 197 g_show_sound=true)(p:Prog)(h1:p.rules.length<100000)(h2:p.exprs.length<100000):SoundAt C 197 ⟨[vProg p],looko []⟩ ⟨vB (soundP p),looko []⟩:=by
  refine SoundAt.of_run h rfl (fun Q hR hN => ?_)
  rw [entry1]
  repeat (first|simp only [go_sem,List.length_map]|refine Unf.h ?_)
  refine sx_loop (p:=p) (by simp [looko]) h2 (fun ha => ?_) (fun ha => ?_) p.exprs.length 0 (by omega) rfl
  · repeat (first|simp only [go_sem,List.length_map]|refine Unf.h ?_)
    refine sr_loop (p:=p) (by simp [looko]) h1 (fun hb => ?_) (fun hb => ?_) p.rules.length 0 (by omega) rfl
    · repeat (first|simp only [go_sem,List.length_map]|refine Unf.h ?_)
      refine hR _ ?_
      simp only [go_sem]
      simp [soundP,ha,hb]
      try omega
    · repeat (first|simp only [go_sem]|refine Unf.h ?_)
      refine hR _ ?_
      simp only [go_sem]
      simp [soundP,hb]
  · repeat (first|simp only [go_sem]|refine Unf.h ?_)
    refine hR _ ?_
    simp only [go_sem]
    simp [soundP,ha]
end Pay
