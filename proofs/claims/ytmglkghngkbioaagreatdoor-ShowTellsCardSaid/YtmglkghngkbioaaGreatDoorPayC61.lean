/- Contracts: the parser's first functions. -/
import Derived.Test.YtmglkghngkbioaaGreatDoorPayMTr1
set_option linter.unusedSimpArgs false
set_option linter.unusedVariables false
set_option maxHeartbeats 1000000
namespace Pay
open Go
attribute [local irreducible] wpB opsB treeB drawB
theorem ucons_beq (a b:UInt8)(l m:List UInt8):(a::l==b::m)=((a.toNat==b.toNat)&&(l==m)):=by
  have:(a==b)=(a.toNat==b.toNat):=by
    by_cases h:a=b
    · subst h;simp
    · have h2:¬a.toNat=b.toNat:=fun e=>h (UInt8.toNat_inj.1 e)
      rw [beq_eq_false_iff_ne.2 h,beq_eq_false_iff_ne.2 h2]
  rw [List.cons_beq_cons,this]
theorem ucons_nil (a:UInt8)(l:List UInt8):(a::l==[])=false:=rfl
theorem unil_cons (a:UInt8)(l:List UInt8):([]==a::l)=false:=rfl
theorem unil_nil:(([]:List UInt8)==[])=true:=rfl
attribute [go_sem] ucons_beq ucons_nil unil_cons unil_nil
def encS1 (s:List UInt8):List D:=[.str s]
abbrev vStrs (l:List (List UInt8)):V:=.d (.sl (l.map encS1))
def indexS (l:List (List UInt8)) (s:List UInt8):Nat→Int
  | k=>match l with
    | [] => -1
    | a::r=>if s=a then k else indexS r s (k+1)
theorem index_ge:∀ (l:List (List UInt8))(s:List UInt8)(k:Nat),decide (indexS l s k≥0)=l.contains s
  | [],s,k=>by simp [indexS]
  | a::r,s,k=>by
    rw [indexS,List.contains_cons]
    by_cases h:s=a
    · subst h;simp
    · rw [if_neg h,index_ge r s (k+1)];simp [h]
theorem index_loop {C:Ctx}{I:Nat→Prop}{Q:Ex→St→Prop}{l:List (List UInt8)}{s:List UInt8}{r:Int}(hl:l.length<100000)
    (hT:∀ t,r = -1→Q (.exit 0) (St.mk t (looko []))) (hF:∀ t,t 4=vI r→Q .ret (St.mk t (looko []))) :
    ∀ (m k:Nat),k+m=l.length→indexS (l.drop k) s k=r→wpB C I g_slices_Index_string.l0 (St.mk (look [(0,vStrs l),(1,vS s),(7,vI l.length),(8,vI k)]) (looko [])) Q:=by
  intro m
  induction m with
  | zero =>
    intro k hk hr
    refine w_loopC (L:=g_slices_Index_string.l0) rfl ?_
    have:k=l.length:=by omega
    subst this
    rw [List.drop_length] at hr
    repeat (first|simp only [go_sem,Int.lt_irrefl,decide_false]|refine Unf.h ?_)
    exact hT _ hr.symm
  | succ m ih =>
    intro k hk hr
    refine w_loopC (L:=g_slices_Index_string.l0) rfl ?_
    have hlt:k<l.length:=by omega
    have hlt':((k:Int)<(l.length:Int)):=by omega
    have he:=List.getElem?_eq_getElem hlt
    have hw:IntKind.i64.wrap ((k:Int)+1)=((k+1:Nat):Int):=by rw [wrapI (by omega) (by omega)];omega
    rw [List.drop_eq_getElem_cons hlt,indexS] at hr
    by_cases h:s=l[k]
    · rw [if_pos h] at hr
      have hb:(s==l[k])=true:=by simp [h]
      repeat (first|simp only [go_sem,hlt',decide_true,Int.natCast_nonneg,Int.toNat_natCast,getMap encS1 he,encS1,hb]|refine Unf.h ?_)
      exact hF _ (by rw [← hr];rfl)
    · rw [if_neg h] at hr
      have hb:(s==l[k])=false:=by simpa using h
      repeat (first|simp only [go_sem,hlt',decide_true,Int.natCast_nonneg,Int.toNat_natCast,getMap encS1 he,encS1,hb,hw]|refine Unf.h ?_)
      exact ih (k+1) (by omega) hr
theorem slIndex {C:Ctx}(h:okFn C.P C.φ 156 g_slices_Index_string=true)(l:List (List UInt8))(s:List UInt8)(hl:l.length<100000):SoundAt C 156 ⟨[vStrs l,vS s],looko []⟩ ⟨vI (indexS l s 0),looko []⟩:=by
  refine SoundAt.of_run h rfl (fun Q hR hN => ?_)
  rw [entry2]
  repeat (first|simp only [go_sem,List.length_map]|refine Unf.h ?_)
  refine index_loop hl (fun t hr => ?_) (fun t h4 => ?_) l.length 0 (by omega) rfl
  · repeat (first|simp only [go_sem]|refine Unf.h ?_)
    refine hR _ ?_
    simp only [go_sem]
    rw [List.drop_zero] at hr
    rw [hr]
  · refine hR _ ?_
    simp only [go_sem,h4]
theorem slContains {C:Ctx}(h:okFn C.P C.φ 155 g_slices_Contains_string=true)(hI:∀ l s,l.length<100000→SoundAt C 156 ⟨[vStrs l,vS s],looko []⟩ ⟨vI (indexS l s 0),looko []⟩)(l:List (List UInt8))(s:List UInt8)(hl:l.length<100000):SoundAt C 155 ⟨[vStrs l,vS s],looko []⟩ ⟨vB (l.contains s),looko []⟩:=by
  have e:=index_ge l s 0
  refine SoundAt.of_run h rfl (fun Q hR hN => ?_)
  rw [entry2]
  repeat' (first|simp only [go_sem,e]|refine Unf.h ?_|refine callK_plain (hI _ _ hl) (fun _=>rfl) ?_|refine hR _ ?_|split)
theorem treeKindsO {C:Ctx}(h:okFn C.P C.φ 157 g_tree_kinds=true):SoundAt C 157 ⟨[],looko []⟩ ⟨.own 1,looko [(1,some (.row 1 (kindsL.map encS1)))]⟩:=by
  refine SoundAt.of_run h rfl (fun Q hR hN => ?_)
  rw [entry0]
  repeat (first|simp only [go_sem,partsN]|refine Unf.h ?_)
  refine hR _ ?_
  rw [ends_own_own rfl]
  simp only [go_sem,kindsL,encS1]
theorem treeKinds {C:Ctx}(h:okFn C.P C.φ 157 g_tree_kinds=true):SoundAt C 157 ⟨[],looko []⟩ ⟨vStrs kindsL,looko []⟩:=(treeKindsO h).freeze
theorem treeNamed {C:Ctx}(h:okFn C.P C.φ 158 g_tree_named=true)(hK:SoundAt C 157 ⟨[],looko []⟩ ⟨.own 1,looko [(1,some (.row 1 (kindsL.map encS1)))]⟩)
    (hCon:∀ (l:List (List UInt8)) (s:List UInt8),l.length<100000→SoundAt C 155 ⟨[vStrs l,vS s],looko []⟩ ⟨vB (l.contains s),looko []⟩) (s:List UInt8):SoundAt C 158 ⟨[vS s],looko []⟩ ⟨vB (namedB s),looko []⟩:=by
  have hc:=hCon takenL s (by decide)
  refine SoundAt.of_run h rfl (fun Q hR hN => ?_)
  rw [entry1]
  repeat (first|simp only [go_sem,partsN]|refine Unf.h ?_)
  refine callK_own hK (fun h=>h) (by simp only [go_sem]) ?_
  repeat (first|simp only [go_sem,partsN,kindsL,encS1]|refine Unf.h ?_)
  refine callK_plain hc (fun _=>rfl) ?_
  repeat (first|simp only [go_sem]|refine Unf.h ?_)
  refine hR _ ?_
  simp only [go_sem,namedB]
abbrev vTok (t:Tok):V:=.agg [vI t.kind,vS t.text,vI t.pos]
abbrev vX (x:Xpr):V:=.agg [vS x.op,vS x.name,vI x.val,vI x.a,vI x.b,vI x.c]
def atN (all:List Tok)(ts:List Tok):Nat:=all.length-ts.length
abbrev pB (all:List Tok) (en:Nat) (x:PS):List V:=[.d (.sl (all.map encT)),vI en,vI (atN all x.ts),.own 77,.own 13,vI x.err,vI x.place]
attribute [go_sem] pB
abbrev pL (all:List Tok) (en:Nat) (x:PS):List (Nat × Ob):=[(24,.box (pB all en x)),(77,.row 3 (x.rules.map encRl)),(13,.row 6 (x.exprs.map encX))]
theorem pL_refs (all:List Tok)(en:Nat)(x:PS):refsIn (pL all en x):=by
  intro p hp m hm
  simp only [pL,List.mem_cons,List.not_mem_nil,or_false] at hp
  rcases hp with rfl|rfl|rfl
  · simp [Ob.refs,V.refs,V.refsL] at hm
    rcases hm with rfl|rfl <;> simp [oL,looko]
  · simp [Ob.refs] at hm
  · simp [Ob.refs] at hm
structure PK (all:List Tok) (x:PS):Prop where
  suf:x.ts <:+ all
  len:all.length<100000
  many:x.exprs.length+x.ts.length≤all.length
  rules:x.rules.length+x.ts.length≤all.length
  good:∀ t∈all,Good t.kind t.text
  txt:∀ t∈all,t.text.length<100000
theorem PK.step {all:List Tok}{x y:PS}(h:PK all x)(s:Step x y):PK all y :=
  ⟨s.ts.trans h.suf,h.len,Nat.le_trans s.many h.many,by
    have:=s.ts.length_le
    have:=h.rules
    rw [s.rules];omega,h.good,h.txt⟩
theorem PK.le {all:List Tok}{x:PS}(h:PK all x):x.ts.length≤all.length:=h.suf.length_le
theorem PK.drop {all:List Tok}{x:PS}(h:PK all x):all.drop (atN all x.ts)=x.ts:=by
  obtain ⟨p,hp⟩:=h.suf
  rw [← hp,atN,List.length_append,Nat.add_sub_cancel,List.drop_left]
theorem PK.nil {all:List Tok}{x:PS}(h:PK all x)(hx:x.ts=[]):atN all x.ts=all.length:=by rw [hx];rfl
theorem PK.cons {all:List Tok}{x:PS}(h:PK all x){t:Tok}{r:List Tok}(hx:x.ts=t::r):atN all x.ts<all.length∧all[atN all x.ts]? = some t∧atN all r=atN all x.ts+1:=by
  have h1:=h.le
  have h2:=h.drop
  have h3:atN all x.ts<all.length:=by rw [hx] at h1 ⊢;simp at h1;simp [atN];omega
  refine ⟨h3,?_,?_⟩
  · have:(all.drop (atN all x.ts))[0]? = some t:=by rw [h2,hx];rfl
    rw [List.getElem?_drop] at this
    simpa using this
  · rw [hx] at h1 ⊢;simp at h1;simp [atN];omega
def tokS (en:Nat):List Tok→Tok
  | []=>⟨0,[],en⟩
  | t::_=>t
theorem tok_pos (en:Nat)(ts:List Tok):((tokS en ts).pos:Int)=posT en ts:=by cases ts <;> rfl
theorem treeToken {C:Ctx}(h:okFn C.P C.φ 217 g_tree_parser_token=true){all:List Tok}{en:Nat}{x:PS}(hp:PK all x) :
    SoundAt C 217 ⟨[.ptr 24 0],looko (oL (pL all en x))⟩ ⟨vTok (tokS en x.ts),looko (oL (pL all en x))⟩:=by
  refine SoundAt.of_run h rfl (fun Q hR hN => ?_)
  simp only [oL,pL,pB,List.map_cons,List.map_nil]
  rw [entry1]
  cases hts:x.ts with
  | nil =>
    have e:=hp.nil hts
    rw [hts] at e
    repeat (first|simp only [go_sem,List.length_map,e,Int.lt_irrefl,decide_false]|refine Unf.h ?_)
    refine hR _ (ends_objs ?_)
    simp only [go_sem,pB,pL,hts,e,tokS]
  | cons t r =>
    obtain ⟨e1,e2,e3⟩:=hp.cons hts
    rw [hts] at e1 e2
    have e1':((atN all (t::r):Int)<(all.length:Int)):=by omega
    repeat (first|simp only [go_sem,List.length_map,e1',decide_true,Int.natCast_nonneg,Int.toNat_natCast,getMap encT e2,encT]|refine Unf.h ?_)
    refine hR _ (ends_objs ?_)
    simp only [go_sem,pB,pL,hts,tokS]
theorem callK_ps {C:Ctx}{I:Nat→Prop}{st:St}{dst:Option Nat}{f:Nat}{xs:List V}{F:V→(Nat→Option Ob)→Prop}{r:V}{all:List Tok}{en:Nat}{x y:PS}
    (h:SoundAt C f ⟨xs,looko (oL (pL all en x))⟩ ⟨r,looko (oL (pL all en y))⟩) (ho:objsIn (pL all en x) st.o) (hr:∀ n,V.refs n r=false) (hK:F r (updL st.o (pL all en y))):callK C I st dst f xs F :=
  callK_objs (pL all en x) (pL all en y) ho rfl (pL_refs all en y) h (fun n hn=>by rw [hr n] at hn;cases hn) hK
theorem treeFail {C:Ctx}(h:okFn C.P C.φ 218 g_tree_parser_fail=true)(hTok:∀ {all:List Tok}{en:Nat}{x:PS},PK all x→SoundAt C 217 ⟨[.ptr 24 0],looko (oL (pL all en x))⟩ ⟨vTok (tokS en x.ts),looko (oL (pL all en x))⟩)
    {all:List Tok} {en:Nat} {x:PS} (hp:PK all x) (e:Int):SoundAt C 218 ⟨[.ptr 24 0,vI e],looko (oL (pL all en x))⟩ ⟨.tup [],looko (oL (pL all en (failS en e x)))⟩:=by
  refine SoundAt.of_run h rfl (fun Q hR hN => ?_)
  simp only [oL,pL,pB,List.map_cons,List.map_nil]
  rw [entry2]
  by_cases hx:x.err=0
  · have hb:(x.err==0)=true:=by simp [hx]
    have ht:=hTok (en:=en) hp
    repeat (first|simp only [go_sem,hb]|refine Unf.h ?_)
    refine callK_ps ht ?_ (fun _=>rfl) ?_
    · simp only [go_sem]
    repeat (first|simp only [go_sem,tok_pos]|refine Unf.h ?_)
    refine hN _ (ends_objs ?_)
    simp only [go_sem,pB,pL,failS,hx,tok_pos]
  · have hb:(x.err==0)=false:=by simp [hx]
    repeat (first|simp only [go_sem,hb]|refine Unf.h ?_)
    refine hN _ (ends_objs ?_)
    simp only [go_sem,pB,pL,failS,hx]
def HTok (C:Ctx):Prop:=∀ {all:List Tok}{en:Nat}{x:PS},PK all x→SoundAt C 217 ⟨[.ptr 24 0],looko (oL (pL all en x))⟩ ⟨vTok (tokS en x.ts),looko (oL (pL all en x))⟩
def HFail (C:Ctx):Prop:=∀ {all:List Tok}{en:Nat}{x:PS},PK all x→∀ e:Int,SoundAt C 218 ⟨[.ptr 24 0,vI e],looko (oL (pL all en x))⟩ ⟨.tup [],looko (oL (pL all en (failS en e x)))⟩
def HCon (C:Ctx):Prop:=∀ (l:List (List UInt8))(s:List UInt8),l.length<100000→SoundAt C 155 ⟨[vStrs l,vS s],looko []⟩ ⟨vB (l.contains s),looko []⟩
def takV:Option (List UInt8 × PS)→V
  | some (s,_)=>.tup [vS s,vB true]
  | none=>.tup [vS [],vB false]
def takP (x:PS):Option (List UInt8 × PS)→PS
  | some (_,y)=>y
  | none=>x
def HTake (C:Ctx):Prop:=∀ {all:List Tok}{en:Nat}{x:PS},PK all x→∀ l:List (List UInt8),l.length<100000→SoundAt C 219 ⟨[.ptr 24 0,vStrs l],looko (oL (pL all en x))⟩ ⟨takV (takeT l x),looko (oL (pL all en (takP x (takeT l x))))⟩
theorem treeTake {C:Ctx} (h:okFn C.P C.φ 219 g_tree_parser_take=true) (hTok:HTok C) (hCon:HCon C):HTake C:=by
  intro all en x hp l hl
  refine SoundAt.of_run h rfl (fun Q hR hN => ?_)
  simp only [oL,pL,pB,List.map_cons,List.map_nil]
  rw [entry2]
  have ht:=hTok (en:=en) hp
  have no:takeT l x=none→∀ o:List (Nat × Option Ob),o=(oL (pL all en x))→(takV (takeT l x) = .tup [vS [],vB false])∧takP x (takeT l x)=x:=by
    intro h;rw [h];intros;exact ⟨rfl,rfl⟩
  by_cases hx:x.err=0
  case neg =>
    have hb:(x.err != 0)=true:=by simp [hx]
    have e:takeT l x=none:=by unfold takeT;rw [if_neg hx]
    rw [e] at hR
    repeat (first|simp only [go_sem]|refine Unf.h ?_)
    refine callK_ps ht ?_ (fun _=>rfl) ?_
    · simp only [go_sem]
    repeat (first|simp only [go_sem,hb]|refine Unf.h ?_)
    refine hR _ (ends_objs ?_)
    simp only [go_sem,pB,pL,takV,takP]
  have hb:(x.err != 0)=false:=by simp [hx]
  cases hts:x.ts with
  | nil =>
    have e:takeT l x=none:=by unfold takeT;rw [if_pos hx,hts]
    rw [e] at hR
    rw [hts] at ht
    repeat (first|simp only [go_sem]|refine Unf.h ?_)
    refine callK_ps ht ?_ (fun _=>rfl) ?_
    · simp only [go_sem,pB,hts]
    repeat (first|simp only [go_sem,hb,tokS]|refine Unf.h ?_)
    refine hR _ (ends_objs ?_)
    simp only [go_sem,pB,pL,takV,takP,hts]
  | cons t r =>
    obtain ⟨e1,e2,e3⟩:=hp.cons hts
    rw [hts] at ht e1 e2 e3
    have hc:=hCon l t.text hl
    by_cases hs:signT t=true
    case neg =>
      have e:takeT l x=none:=by unfold takeT;rw [if_pos hx,hts];simp [hs]
      rw [e] at hR
      have h1:(t.kind != 1)=true:=by simp [signT] at hs;simp [hs.1]
      have h5:(t.kind != 5)=true:=by simp [signT] at hs;simp [hs.2]
      repeat (first|simp only [go_sem]|refine Unf.h ?_)
      refine callK_ps ht ?_ (fun _=>rfl) ?_
      · simp only [go_sem,pB,hts]
      repeat (first|simp only [go_sem,hb,tokS,h1,h5]|refine Unf.h ?_)
      refine hR _ (ends_objs ?_)
      simp only [go_sem,pB,pL,takV,takP,hts]
    obtain ⟨b,hb2⟩:∃ b,l.contains t.text=b:=⟨_,rfl⟩
    rw [hb2] at hc
    have hw:IntKind.i64.wrap ((atN all (t::r):Int)+1)=(atN all r:Int):=by
      have:=hp.len
      rw [e3,wrapI (by omega) (by omega)];omega
    have fin:∀ (P:Prop),(t.kind=1→P)→(t.kind≠1→t.kind=5→P)→P:=by
      intro P h1 h2
      by_cases h:t.kind=1
      · exact h1 h
      · refine h2 h ?_
        simp [signT,h] at hs;exact hs
    cases b with
    | false =>
      have e:takeT l x=none:=by unfold takeT;rw [if_pos hx,hts];simp only [hb2];simp
      rw [e] at hR
      refine fin _ (fun hk => ?_) (fun hk1 hk => ?_)
      · have h1:(t.kind != 1)=false:=by simp [hk]
        repeat (first|simp only [go_sem]|refine Unf.h ?_)
        refine callK_ps ht ?_ (fun _=>rfl) ?_
        · simp only [go_sem,pB,hts]
        repeat (first|simp only [go_sem,hb,tokS,h1]|refine Unf.h ?_)
        refine callK_plain hc (fun _=>rfl) ?_
        repeat (first|simp only [go_sem]|refine Unf.h ?_)
        refine hR _ (ends_objs ?_)
        simp only [go_sem,pB,pL,takV,takP,hts]
      · have h1:(t.kind != 1)=true:=by simp [hk]
        have h5:(t.kind != 5)=false:=by simp [hk]
        repeat (first|simp only [go_sem]|refine Unf.h ?_)
        refine callK_ps ht ?_ (fun _=>rfl) ?_
        · simp only [go_sem,pB,hts]
        repeat (first|simp only [go_sem,hb,tokS,h1,h5]|refine Unf.h ?_)
        refine callK_plain hc (fun _=>rfl) ?_
        repeat (first|simp only [go_sem]|refine Unf.h ?_)
        refine hR _ (ends_objs ?_)
        simp only [go_sem,pB,pL,takV,takP,hts]
    | true =>
      have e:takeT l x=some (t.text,x.go r):=by unfold takeT;rw [if_pos hx,hts];simp only [hb2,hs,and_self,if_true]
      rw [e] at hR
      refine fin _ (fun hk => ?_) (fun hk1 hk => ?_)
      · have h1:(t.kind != 1)=false:=by simp [hk]
        repeat (first|simp only [go_sem]|refine Unf.h ?_)
        refine callK_ps ht ?_ (fun _=>rfl) ?_
        · simp only [go_sem,pB,hts]
        repeat (first|simp only [go_sem,hb,tokS,h1]|refine Unf.h ?_)
        refine callK_plain hc (fun _=>rfl) ?_
        repeat (first|simp only [go_sem,hts,hw]|refine Unf.h ?_)
        refine hR _ (ends_objs ?_)
        simp only [go_sem,pB,pL,takV,takP,hts]
      · have h1:(t.kind != 1)=true:=by simp [hk]
        have h5:(t.kind != 5)=false:=by simp [hk]
        repeat (first|simp only [go_sem]|refine Unf.h ?_)
        refine callK_ps ht ?_ (fun _=>rfl) ?_
        · simp only [go_sem,pB,hts]
        repeat (first|simp only [go_sem,hb,tokS,h1,h5]|refine Unf.h ?_)
        refine callK_plain hc (fun _=>rfl) ?_
        repeat (first|simp only [go_sem,hts,hw]|refine Unf.h ?_)
        refine hR _ (ends_objs ?_)
        simp only [go_sem,pB,pL,takV,takP,hts]
def HNeed (C:Ctx):Prop:=∀ {all:List Tok}{en:Nat}{x:PS},PK all x→∀ s:List UInt8,SoundAt C 220 ⟨[.ptr 24 0,vS s],looko (oL (pL all en x))⟩ ⟨.tup [],looko (oL (pL all en (needS en s x)))⟩
theorem treeNeed {C:Ctx}(h:okFn C.P C.φ 220 g_tree_parser_need=true)(hTake:HTake C)(hFail:HFail C):HNeed C:=by
  intro all en x hp s
  refine SoundAt.of_run h rfl (fun Q hR hN => ?_)
  simp only [oL,pL,pB,List.map_cons,List.map_nil]
  rw [entry2]
  have ht:=hTake (en:=en) hp [s] (by simp)
  have hf:=hFail (en:=en) hp 2
  unfold needS at hR hN
  repeat (first|simp only [go_sem,partsN]|refine Unf.h ?_)
  refine callK_ps ht ?_ (fun n=>by cases takeT [s] x <;> rfl) ?_
  · simp only [go_sem]
  cases hk:takeT [s] x with
  | none =>
    rw [hk] at hN
    repeat (first|simp only [go_sem,takV,takP]|refine Unf.h ?_)
    refine callK_ps hf ?_ (fun _=>rfl) ?_
    · simp only [go_sem]
    repeat (first|simp only [go_sem]|refine Unf.h ?_)
    refine hN _ (ends_objs ?_)
    simp only [go_sem]
  | some p =>
    obtain ⟨t,y⟩:=p
    rw [hk] at hN
    repeat (first|simp only [go_sem,takV,takP]|refine Unf.h ?_)
    refine hN _ (ends_objs ?_)
    simp only [go_sem]
def X13 (n:Nat):Prop:=n=13
theorem I13 {all:List Tok}{en:Nat}{x:PS}{vs:List V}(n:Nat)(h:(⟨vs,looko (oL (pL all en x))⟩:CS).o n≠none)(hx:¬X13 n):n=24∨n=77:=by
  have h:(looko (oL (pL all en x)) n).isSome=true:=Option.isSome_iff_ne_none.2 h
  rw [oL_names] at h
  simp only [pL,List.map_cons,List.map_nil,List.contains_cons,List.contains_nil,Bool.or_false,Bool.or_eq_true,beq_iff_eq] at h
  unfold X13 at hx
  omega
theorem callK_px {C:Ctx}{I:Nat→Prop}{dst:Option Nat}{ls:List (Nat × V)}{m:List (Nat × Option Ob)}{f:Nat}{xs:List V}{F:V→(Nat→Option Ob)→Prop}{r:V}{all:List Tok}{en:Nat}{x y:PS}
    (h:SoundX C f X13 ⟨xs,looko (oL (pL all en x))⟩ ⟨r,looko (oL (pL all en y))⟩) (hs:¬I 13∧freshS 13 dst ls=true∧freshOE [24,77,13] 13 m=true∧objsIn (pL all en x) (looko m)) (hr:∀ n,V.refs n r=false) (hK:F r (updL (looko m) (pL all en y))):callK C I (St.mk (look ls) (looko m)) dst f xs F :=
  callKX_objs (pL all en x) (pL all en y) (fun n hn=>by unfold X13 at hn;subst hn;exact ⟨hs.1,lo_lists hs.2.1 hs.2.2.1⟩) hs.2.2.2 rfl (pL_refs all en y) h (fun n hn=>by rw [hr n] at hn;cases hn) hK
def HPut (C:Ctx):Prop:=∀ {all:List Tok}{en:Nat}{x:PS},PK all x→∀ e:Xpr,SoundX C 222 X13 ⟨[.ptr 24 0,vX e],looko (oL (pL all en x))⟩ ⟨vI (putS e x).2,looko (oL (pL all en (putS e x).1))⟩
theorem treePut {C:Ctx}(h:okFn C.P C.φ 222 g_tree_parser_put=true):HPut C:=by
  intro all en x hp e
  have hl:x.exprs.length<100000:=by have:=hp.many;have:=hp.len;omega
  have hl1:(x.exprs.length+1)*64≤140737488355328:=by omega
  have hl2:x.exprs.length≤140737488355327:=by omega
  have hw:IntKind.i64.wrap (((x.exprs.length+1:Nat):Int)-1)=(x.exprs.length:Int):=by rw [wrapI (by omega) (by omega)];omega
  refine SoundX.of_run h rfl (fun n=>n=24∨n=77) I13 (fun Q hR hN => ?_)
  simp only [oL,pL,pB,List.map_cons,List.map_nil]
  rw [entry2]
  repeat' (first|simp only [go_sem,partsN,List.length_map,hl1,hl2,List.length_append,hw]|refine Unf.h ?_|refine And.intro ?_ ?_)
  all_goals first|(refine hR _ (ends_objs ?_);simp only [go_sem,pB,pL,putS,List.map_append];rfl)|skip
end Pay
