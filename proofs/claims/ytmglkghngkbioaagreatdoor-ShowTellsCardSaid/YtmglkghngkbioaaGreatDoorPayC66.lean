/- Contracts: programs compared, and as the document's; the fixed answer. -/
import Derived.Test.YtmglkghngkbioaaGreatDoorPayC65
set_option linter.unusedSimpArgs false
set_option linter.unusedVariables false
set_option maxHeartbeats 1000000
namespace Pay
open Go
attribute [local irreducible] wpB opsB treeB drawB
theorem rul_eq (a b:Rul):(!(a.kind==b.kind&&(a.name==b.name&&a.root==b.root))) = !decide (a=b):=by
  congr 1
  obtain ⟨a1,a2,a3⟩:=a
  obtain ⟨b1,b2,b3⟩:=b
  rw [Bool.eq_iff_iff]
  simp
theorem xpr_eq (a b:Xpr):(!(a.op==b.op&&(a.name==b.name&&(a.val==b.val&&(a.a==b.a&&(a.b==b.b&&a.c==b.c)))))) = !decide (a=b):=by
  congr 1
  obtain ⟨a1,a2,a3,a4,a5,a6⟩:=a
  obtain ⟨b1,b2,b3,b4,b5,b6⟩:=b
  rw [Bool.eq_iff_iff]
  simp
theorem same_loop0 {C:Ctx}{I:Nat→Prop}{Q:Ex→St→Prop}{p q:Prog}(hl:p.rules.length=q.rules.length)(hp:p.rules.length<100000)
    (hT:p.rules=q.rules→∀ s,s 2 = .ptr 2 0→s 3 = .ptr 3 0→Q (.exit 0) (St.mk s (looko [(2,some (.box [.d (.sl (p.rules.map encRl)),.d (.sl (p.exprs.map encX))])),(3,some (.box [.d (.sl (q.rules.map encRl)),.d (.sl (q.exprs.map encX))]))])))
    (hF:p.rules≠q.rules→∀ s o,s 4=vB false→Q .ret (St.mk s o)) :
    ∀ (m k:Nat),k+m=p.rules.length→p.rules.take k=q.rules.take k →
      wpB C I g_ref08_Same.l0 (St.mk (look [(2,.ptr 2 0),(3,.ptr 3 0),(5,vI k)]) (looko [(2,some (.box [.d (.sl (p.rules.map encRl)),.d (.sl (p.exprs.map encX))])),(3,some (.box [.d (.sl (q.rules.map encRl)),.d (.sl (q.exprs.map encX))]))])) Q:=by
  intro m
  induction m with
  | zero =>
    intro k hk he
    refine w_loopC (L:=g_ref08_Same.l0) rfl ?_
    have hk':k=p.rules.length:=by omega
    subst hk'
    rw [List.take_length,hl,List.take_length] at he
    repeat (first|simp only [go_sem,List.length_map,Int.lt_irrefl,decide_false]|refine Unf.h ?_)
    exact hT he _ rfl rfl
  | succ m ih =>
    intro k hk he
    refine w_loopC (L:=g_ref08_Same.l0) rfl ?_
    have hlt:k<p.rules.length:=by omega
    have hlt2:k<q.rules.length:=by omega
    have hlt':((k:Int)<(p.rules.length:Int)):=by omega
    have e1:=List.getElem?_eq_getElem hlt
    have e2:=List.getElem?_eq_getElem hlt2
    have hw:IntKind.i64.wrap ((k:Int)+1)=((k+1:Nat):Int):=by rw [wrapI (by omega) (by omega)];omega
    obtain ⟨a,ha⟩:∃ a,p.rules[k]=a:=⟨_,rfl⟩
    obtain ⟨b,hb⟩:∃ b,q.rules[k]=b:=⟨_,rfl⟩
    rw [ha] at e1
    rw [hb] at e2
    have hn:=rul_eq a b
    by_cases h:a=b
    · rw [decide_eq_true h] at hn
      repeat (first|simp only [go_sem,List.length_map,hlt',decide_true,Int.natCast_nonneg,Int.toNat_natCast,getMap encRl e1,getMap encRl e2,encRl,hn,hw]|refine Unf.h ?_)
      refine ih (k+1) (by omega) ?_
      rw [List.take_add_one,List.take_add_one,he,e1,e2,h]
    · rw [decide_eq_false h] at hn
      repeat (first|simp only [go_sem,List.length_map,hlt',decide_true,Int.natCast_nonneg,Int.toNat_natCast,getMap encRl e1,getMap encRl e2,encRl,hn,hw]|refine Unf.h ?_)
      refine hF (fun e=>h ?_) _ _ rfl
      rw [e,e2] at e1
      exact (Option.some.inj e1).symm
theorem same_loop1 {C:Ctx}{I:Nat→Prop}{Q:Ex→St→Prop}{p q:Prog}(hl:p.exprs.length=q.exprs.length)(hp:p.exprs.length<100000)
    (hT:p.exprs=q.exprs→∀ s o,Q (.exit 2) (St.mk s o))
    (hF:p.exprs≠q.exprs→∀ s o,s 4=vB false→Q .ret (St.mk s o)) :
    ∀ (m k:Nat),k+m=p.exprs.length→p.exprs.take k=q.exprs.take k →
      wpB C I g_ref08_Same.l1 (St.mk (look [(2,.ptr 2 0),(3,.ptr 3 0),(6,vI k)]) (looko [(2,some (.box [.d (.sl (p.rules.map encRl)),.d (.sl (p.exprs.map encX))])),(3,some (.box [.d (.sl (q.rules.map encRl)),.d (.sl (q.exprs.map encX))]))])) Q:=by
  intro m
  induction m with
  | zero =>
    intro k hk he
    refine w_loopC (L:=g_ref08_Same.l1) rfl ?_
    have hk':k=p.exprs.length:=by omega
    subst hk'
    rw [List.take_length,hl,List.take_length] at he
    repeat (first|simp only [go_sem,List.length_map,Int.lt_irrefl,decide_false]|refine Unf.h ?_)
    exact hT he _ _
  | succ m ih =>
    intro k hk he
    refine w_loopC (L:=g_ref08_Same.l1) rfl ?_
    have hlt:k<p.exprs.length:=by omega
    have hlt2:k<q.exprs.length:=by omega
    have hlt':((k:Int)<(p.exprs.length:Int)):=by omega
    have e1:=List.getElem?_eq_getElem hlt
    have e2:=List.getElem?_eq_getElem hlt2
    have hw:IntKind.i64.wrap ((k:Int)+1)=((k+1:Nat):Int):=by rw [wrapI (by omega) (by omega)];omega
    obtain ⟨a,ha⟩:∃ a,p.exprs[k]=a:=⟨_,rfl⟩
    obtain ⟨b,hb⟩:∃ b,q.exprs[k]=b:=⟨_,rfl⟩
    rw [ha] at e1
    rw [hb] at e2
    have hn:=xpr_eq a b
    by_cases h:a=b
    · rw [decide_eq_true h] at hn
      repeat (first|simp only [go_sem,List.length_map,hlt',decide_true,Int.natCast_nonneg,Int.toNat_natCast,getMap encX e1,getMap encX e2,encX,hn,hw]|refine Unf.h ?_)
      refine ih (k+1) (by omega) ?_
      rw [List.take_add_one,List.take_add_one,he,e1,e2,h]
    · rw [decide_eq_false h] at hn
      repeat (first|simp only [go_sem,List.length_map,hlt',decide_true,Int.natCast_nonneg,Int.toNat_natCast,getMap encX e1,getMap encX e2,encX,hn,hw]|refine Unf.h ?_)
      refine hF (fun e=>h ?_) _ _ rfl
      rw [e,e2] at e1
      exact (Option.some.inj e1).symm
theorem prog_eq (p q:Prog):p=q↔p.rules=q.rules∧p.exprs=q.exprs:=by
  obtain ⟨a,b⟩:=p
  obtain ⟨c,d⟩:=q
  simp
theorem treeSame {C:Ctx}(h:okFn C.P C.φ 147 g_ref08_Same=true)(p q:Prog)(h1:p.rules.length<100000)(h2:p.exprs.length<100000) :
    SoundAt C 147 ⟨[vProg p,vProg q],looko []⟩ ⟨vB (decide (p=q)),looko []⟩:=by
  refine SoundAt.of_run h rfl (fun Q hR hN => ?_)
  rw [entry2]
  by_cases hr:p.rules.length=q.rules.length
  case neg =>
    have hb:((p.rules.length:Int) != (q.rules.length:Int))=true:=by simp;omega
    rw [decide_eq_false (fun e=>hr (by rw [e]))] at hR
    repeat (first|simp only [go_sem,List.length_map,hb]|refine Unf.h ?_)
    refine hR _ ?_
    simp only [go_sem]
  have hb:((p.rules.length:Int) != (q.rules.length:Int))=false:=by simp;omega
  by_cases hx:p.exprs.length=q.exprs.length
  case neg =>
    have hb2:((p.exprs.length:Int) != (q.exprs.length:Int))=true:=by simp;omega
    rw [decide_eq_false (fun e=>hx (by rw [e]))] at hR
    repeat (first|simp only [go_sem,List.length_map,hb,hb2]|refine Unf.h ?_)
    refine hR _ ?_
    simp only [go_sem]
  have hb2:((p.exprs.length:Int) != (q.exprs.length:Int))=false:=by simp;omega
  repeat (first|simp only [go_sem,List.length_map,hb,hb2]|refine Unf.h ?_)
  refine same_loop0 hr h1 (fun er s s2 s3 => ?_) (fun ne s o s4 => ?_) p.rules.length 0 (by omega) rfl
  · repeat (first|simp only [go_sem,s2,s3]|refine Unf.h ?_)
    refine same_loop1 hx h2 (fun ex s o => ?_) (fun ne s o s4 => ?_) p.exprs.length 0 (by omega) rfl
    · rw [decide_eq_true ((prog_eq p q).2 ⟨er,ex⟩)] at hR
      repeat (first|simp only [go_sem]|refine Unf.h ?_)
      refine hR _ ?_
      simp only [go_sem]
    · rw [decide_eq_false (fun e=>ne (by rw [e]))] at hR
      refine hR _ ?_
      simp only [go_sem,s4]
  · rw [decide_eq_false (fun e=>ne (by rw [e]))] at hR
    refine hR _ ?_
    simp only [go_sem,s4]
theorem one_loop {C:Ctx}{I:Nat→Prop}{Q:Ex→St→Prop}{l:List (List UInt8)}{s:List UInt8}(hl:l.length<100000)
    (hT:l.contains s=false→∀ t,Q (.exit 0) (St.mk t (looko []))) (hF:l.contains s=true→∀ t,t 4=vB true→Q .ret (St.mk t (looko []))) :
    ∀ (m k:Nat),k+m=l.length→(l.take k).contains s=false→wpB C I g_ref08_one.l0 (St.mk (look [(0,vS s),(1,vStrs l),(5,vI k)]) (looko [])) Q:=by
  intro m
  induction m with
  | zero =>
    intro k hk hr
    refine w_loopC (L:=g_ref08_one.l0) rfl ?_
    have:k=l.length:=by omega
    subst this
    rw [List.take_length] at hr
    repeat (first|simp only [go_sem,List.length_map,Int.lt_irrefl,decide_false]|refine Unf.h ?_)
    exact hT hr _
  | succ m ih =>
    intro k hk hr
    refine w_loopC (L:=g_ref08_one.l0) rfl ?_
    have hlt:k<l.length:=by omega
    have hlt':((k:Int)<(l.length:Int)):=by omega
    have he:=List.getElem?_eq_getElem hlt
    have hw:IntKind.i64.wrap ((k:Int)+1)=((k+1:Nat):Int):=by rw [wrapI (by omega) (by omega)];omega
    by_cases h:l[k]=s
    · have hb:(l[k]==s)=true:=by simp [h]
      repeat (first|simp only [go_sem,List.length_map,hlt',decide_true,Int.natCast_nonneg,Int.toNat_natCast,getMap encS1 he,encS1,hb]|refine Unf.h ?_)
      refine hF ?_ _ rfl
      simp only [List.contains_iff_mem]
      rw [← h];exact List.getElem_mem hlt
    · have hb:(l[k]==s)=false:=by simpa using h
      repeat (first|simp only [go_sem,List.length_map,hlt',decide_true,Int.natCast_nonneg,Int.toNat_natCast,getMap encS1 he,encS1,hb,hw]|refine Unf.h ?_)
      refine ih (k+1) (by omega) ?_
      rw [List.take_add_one,he]
      simp only [Option.toList_some,List.contains_eq_mem,List.mem_append,List.mem_singleton,decide_eq_false_iff_not,not_or] at hr ⊢
      exact ⟨hr,fun e=>h e.symm⟩
theorem refOne {C:Ctx}(h:okFn C.P C.φ 154 g_ref08_one=true)(s:List UInt8)(l:List (List UInt8))(hl:l.length<100000):SoundAt C 154 ⟨[vS s,vStrs l],looko []⟩ ⟨vB (l.contains s),looko []⟩:=by
  refine SoundAt.of_run h rfl (fun Q hR hN => ?_)
  rw [entry2]
  repeat (first|simp only [go_sem]|refine Unf.h ?_)
  refine one_loop hl (fun hc t => ?_) (fun hc t h4 => ?_) l.length 0 (by omega) rfl
  · rw [hc] at hR
    repeat (first|simp only [go_sem]|refine Unf.h ?_)
    refine hR _ ?_
    simp only [go_sem]
  · rw [hc] at hR
    refine hR _ ?_
    simp only [go_sem,h4]
theorem refTaken {C:Ctx}(h:okFn C.P C.φ 152 g_ref08_Taken=true)(hOne:∀ (s:List UInt8)(l:List (List UInt8)),l.length<100000→SoundAt C 154 ⟨[vS s,vStrs l],looko []⟩ ⟨vB (l.contains s),looko []⟩)(s:List UInt8) :
    SoundAt C 152 ⟨[vS s],looko []⟩ ⟨vB (!namedB s),looko []⟩:=by
  have t1:=hOne s takenL (by decide)
  refine SoundAt.of_run h rfl (fun Q hR hN => ?_)
  rw [entry1]
  repeat (first|simp only [go_sem,partsN]|refine Unf.h ?_)
  refine callK_plain t1 (fun _=>rfl) ?_
  repeat (first|simp only [go_sem]|refine Unf.h ?_)
  refine hR _ ?_
  simp only [go_sem,namedB,Bool.not_not]
theorem slV_refs {α:Type}(f:α→List D)(l:List α)(n:Nat):V.refs n (slV f l)=false:=by cases l <;> rfl
def HParse (C:Ctx):Prop:=∀ s:List UInt8,s.length<100000→SoundAt C 144 ⟨[vS s],looko []⟩ ⟨vParse (parseP s),looko []⟩
end Pay
