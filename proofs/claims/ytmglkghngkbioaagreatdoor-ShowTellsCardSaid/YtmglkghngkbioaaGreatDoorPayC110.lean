/- Contracts: the document's texts of all expressions, and of a program. -/
import Derived.Test.YtmglkghngkbioaaGreatDoorPayC109
set_option linter.unusedSimpArgs false
set_option linter.unusedVariables false
set_option maxHeartbeats 1000000
namespace Pay
open Go
attribute [local irreducible] wpB opsB treeB drawB
theorem partR_len {es:List Xpr}{i:Nat}{k:Int}(hB:∀ (j:Nat)(x:Xpr),es[j]? = some x→(exR es (textsR es j) j x).length≤1000000)(hi:i≤es.length):(partR es (textsR es i) i k).1.length≤1000000:=by
  unfold partR
  split
  · rename_i h
    have hk:k.toNat<es.length:=by omega
    have e:=List.getElem?_eq_getElem hk
    rw [textsR_get es e i (by omega)]
    exact hB _ _ e
  · simp
theorem texts_loop {C:Ctx}(K:T9K C){I:Nat→Prop}(hI:∀ n,¬I n){Q:Ex→St→Prop}{p:Prog}(hl:p.exprs.length<100000)(hx:∀ x∈p.exprs,ExOk x)
    (hB:∀ (j:Nat) (x:Xpr),p.exprs[j]? = some x→(exR p.exprs (textsR p.exprs j) j x).length≤1000000)
    (hT:∀ t,t 3=wV 192 ((textsR p.exprs p.exprs.length).map encS1)→Q (.exit 0) (St.mk t (looko [(1,some (pBx p)),(192,wO ((textsR p.exprs p.exprs.length).map encS1))]))) :
    ∀ (m i:Nat),i+m=p.exprs.length →
      wpB C I g_ref09_Texts.l0 (St.mk (look [(1,.ptr 1 0),(3,wV 192 ((textsR p.exprs i).map encS1)),(4,vI i)]) (looko [(1,some (pBx p)),(192,wO ((textsR p.exprs i).map encS1))])) Q:=by
  intro m
  induction m with
  | zero =>
    intro i hi
    have:i=p.exprs.length:=by omega
    subst this
    refine w_loopC (L:=g_ref09_Texts.l0) rfl ?_
    repeat (first|simp only [go_sem,List.length_map,Int.lt_irrefl,decide_false]|refine Unf.h ?_|refine And.intro ?_ (noRv_of (by simp only [go_sem])))
    exact hT _ rfl
  | succ m ih =>
    intro i hi
    have hlt:i<p.exprs.length:=by omega
    have hlt':((i:Int)<(p.exprs.length:Int)):=by omega
    have he:=List.getElem?_eq_getElem hlt
    obtain ⟨x,hxx⟩:∃ x,p.exprs[i]=x:=⟨_,rfl⟩
    rw [hxx] at he
    have hxo:=hx x (List.mem_of_getElem? he)
    have hw:IntKind.i64.wrap ((i:Int)+1)=((i+1:Nat):Int):=by rw [wrapI (by omega) (by omega)];omega
    have ih':=ih (i+1) (by omega)
    have hb:=hB i x he
    have hts:=textsR_len p.exprs i
    have ba:=partR_len (k:=x.a) hB (Nat.le_of_lt hlt)
    have bb:=partR_len (k:=x.b) hB (Nat.le_of_lt hlt)
    have bc:=partR_len (k:=x.c) hB (Nat.le_of_lt hlt)
    rw [textsR,he] at ih'
    simp only [List.map_append,List.map_cons,List.map_nil,wV_snoc,wO_snoc] at ih'
    generalize hgt:textsR p.exprs i=ts at *
    refine w_loopC (L:=g_ref09_Texts.l0) rfl ?_
    repeat (first|simp only [go_sem,hI,freshO_wO,scrub_wO,refs_wV,Bool.and_false,List.length_map,hlt',decide_true,Int.natCast_nonneg,Int.toNat_natCast,getMap encX he,encX,partsN]|refine Unf.h (a:=wpB _ _ g_ref09_Texts.c11 _ _) ?_|refine Unf.h (a:=wpB _ _ g_ref09_Texts.c9 _ _) ?_|refine Unf.h (a:=wpB _ _ g_ref09_Texts.c4 _ _) ?_)
    refine part_it K hI hts hlt hl (x:=x) (ks:=[x.a,x.b,x.c]) (j:=0) (k:=x.a) rfl rfl (us:=[]) (ns:=[]) rfl rfl ?_
    refine part_it K hI hts hlt hl (x:=x) (ks:=[x.a,x.b,x.c]) (k:=x.b) rfl rfl rfl rfl ?_
    refine part_it K hI hts hlt hl (x:=x) (ks:=[x.a,x.b,x.c]) (k:=x.c) rfl rfl rfl rfl ?_
    refine w_loopC (L:=g_ref09_Texts.l1) rfl ?_
    unfold exR at hb ih'
    generalize partR p.exprs ts i x.a=A at *
    generalize partR p.exprs ts i x.b=B at *
    generalize partR p.exprs ts i x.c=G at *
    obtain ⟨a1,a2⟩:=A
    obtain ⟨b1,b2⟩:=B
    obtain ⟨c1,c2⟩:=G
    repeat (first|simp only [go_sem,Int.lt_irrefl,decide_false,wV_cons,wO_cons,encS1,encI1']|refine Unf.h (a:=wpB _ _ g_ref09_Texts.c3 _ _) ?_)
    refine op_it K hI hxo ba bb bc hb ?_
    cases hts':ts with
    | nil =>
      rw [hts'] at ih'
      repeat (first|simp only [go_sem,hI,wV_nil,wO_nil,partsN,hw]|refine Unf.h ?_|refine And.intro ?_ (noRv_of (by simp only [go_sem]))|refine And.intro (by omega) ?_)
      exact ih'
    | cons t r =>
      have hr:r.length+1=i:=by rw [← hts,hts'];rfl
      rw [hts'] at ih'
      repeat (first|simp only [go_sem,hI,wV_cons,wO_cons,partsN,hw,List.length_map]|refine Unf.h ?_|refine And.intro ?_ (noRv_of (by simp only [go_sem]))|refine And.intro (by omega) ?_)
      exact ih'
theorem ref9Texts {C:Ctx}(h:okFn C.P C.φ 177 g_ref09_Texts=true)(K:T9K C){p:Prog}(hl:p.exprs.length<100000)(hx:∀ x∈p.exprs,ExOk x)
    (hB:∀ (j:Nat) (x:Xpr),p.exprs[j]? = some x→(exR p.exprs (textsR p.exprs j) j x).length≤1000000):SoundAt C 177 ⟨[vProg p],looko []⟩ ⟨vStrs (textsR p.exprs p.exprs.length),looko []⟩:=by
  have hu:(slV encS1 (textsR p.exprs p.exprs.length)).up=vStrs (textsR p.exprs p.exprs.length):=slV_up _ _
  rw [← hu]
  refine SoundAt.res_up ?_
  refine SoundAt.of_run h rfl (fun Q hR hN => ?_)
  rw [entry1]
  have lp:∀ {I:Nat→Prop} {Q:Ex→St→Prop},(∀ n,¬I n)→(∀ t,t 3=wV 192 ((textsR p.exprs p.exprs.length).map encS1)→Q (.exit 0) (St.mk t (looko [(1,some (pBx p)),(192,wO ((textsR p.exprs p.exprs.length).map encS1))]))) →
      wpB C I g_ref09_Texts.l0 (St.mk (look [(1,.ptr 1 0),(3,.cap0),(4,vI 0)]) (looko [(1,some (pBx p)),(192,none)])) Q :=
    fun hI hT=>texts_loop (p:=p) K hI hl hx hB hT p.exprs.length 0 (by omega)
  repeat (first|simp only [go_sem]|refine Unf.h ?_)
  refine lp (fun n h=>by first|exact h|exact h rfl) (fun t h3 => ?_)
  generalize textsR p.exprs p.exprs.length=ts at *
  cases ts with
  | nil =>
    repeat (first|simp only [go_sem,h3,wV_nil,wO_nil]|refine Unf.h ?_)
    refine hR _ ?_
    rw [ends_frz]
    simp only [go_sem,wV_nil,wO_nil,slV,List.map_nil]
  | cons a b =>
    repeat (first|simp only [go_sem,h3,wV_cons,wO_cons]|refine Unf.h ?_)
    refine hR _ ?_
    rw [ends_frz]
    simp only [go_sem,wV_cons,wO_cons,slV]
def line9 (ts:List (List UInt8))(r:Rul):List UInt8:=r.kind++[32]++r.name++[32,61,32]++(ts[r.root.toNat]?).getD []++[59,10]
def text9 (rs:List Rul)(ts:List (List UInt8)):List UInt8:=rs.flatMap (line9 ts)
theorem text9_loop {C:Ctx}{I:Nat→Prop}(hI:∀ n,¬I n){Q:Ex→St→Prop}{p:Prog}{ts:List (List UInt8)}(hl:p.rules.length<100000)(hr:∀ r∈p.rules,0≤r.root∧r.root<(ts.length:Int))(hB:(text9 p.rules ts).length≤1000000000)
    (hT:∀ t o,t 4=vS (text9 p.rules ts)→Q (.exit 0) (St.mk t o)) :
    ∀ (m i:Nat),i+m=p.rules.length →
      wpB C I g_ref09_Text.l0 (St.mk (look [(3,vStrs ts),(4,vS (text9 (p.rules.take i) ts)),(10,.d (.sl (p.rules.map encRl))),(11,vI p.rules.length),(12,vI i)]) (looko [])) Q:=by
  intro m
  induction m with
  | zero =>
    intro i hi
    have:i=p.rules.length:=by omega
    subst this
    refine w_loopC (L:=g_ref09_Text.l0) rfl ?_
    rw [List.take_length]
    repeat (first|simp only [go_sem,Int.lt_irrefl,decide_false]|refine Unf.h ?_|refine And.intro ?_ (noRv_of (by simp only [go_sem])))
    exact hT _ _ rfl
  | succ m ih =>
    intro i hi
    have hlt:i<p.rules.length:=by omega
    have hlt':((i:Int)<(p.rules.length:Int)):=by omega
    have he:=List.getElem?_eq_getElem hlt
    obtain ⟨r,hrr⟩:∃ r,p.rules[i]=r:=⟨_,rfl⟩
    rw [hrr] at he
    have hro:=hr r (List.mem_of_getElem? he)
    have hw:IntKind.i64.wrap ((i:Int)+1)=((i+1:Nat):Int):=by rw [wrapI (by omega) (by omega)];omega
    have ih':=ih (i+1) (by omega)
    have hsp:text9 p.rules ts=text9 (p.rules.take i) ts++line9 ts r++text9 (p.rules.drop (i+1)) ts:=by
      unfold text9
      conv=>lhs;rw [← List.take_append_drop i p.rules,List.drop_eq_getElem_cons hlt,hrr]
      rw [List.flatMap_append,List.flatMap_cons,List.append_assoc]
    have htk:text9 (p.rules.take (i+1)) ts=text9 (p.rules.take i) ts++line9 ts r:=by
      unfold text9
      rw [List.take_add_one,he,List.flatMap_append]
      simp
    rw [htk] at ih'
    rw [hsp] at hB
    have gt:=List.getElem?_eq_getElem (l:=ts) (i:=r.root.toNat) (by omega)
    obtain ⟨t,ht⟩:∃ t,ts[r.root.toNat]=t:=⟨_,rfl⟩
    rw [ht] at gt
    have hln:line9 ts r=r.kind++[32]++r.name++[32,61,32]++t++[59,10]:=by unfold line9;rw [gt];rfl
    rw [hln] at hB ih'
    simp only [List.length_append,List.length_cons,List.length_nil] at hB
    have h0:=hro.1
    have h1:=hro.2
    generalize text9 (p.rules.take i) ts=s at *
    refine w_loopC (L:=g_ref09_Text.l0) rfl ?_
    repeat (first|simp only [go_sem,hI,hlt',decide_true,Int.natCast_nonneg,Int.toNat_natCast,List.length_map,getMap encRl he,encRl,h0,h1,getMap encS1 gt,encS1,hw,demand_if,List.length_append]|refine Unf.h ?_|refine And.intro ?_ (noRv_of (by simp only [go_sem]))|refine And.intro (by omega) ?_)
    have e9:s++(r.kind++[32]++r.name++[32,61,32]++t++[59,10])=s++r.kind++[32]++r.name++[32,61,32]++t++[59,10]:=by simp only [List.append_assoc]
    rw [e9] at ih'
    exact ih'
theorem ref9Text {C:Ctx}(h:okFn C.P C.φ 176 g_ref09_Text=true){p:Prog}{ts:List (List UInt8)}(hts:SoundAt C 177 ⟨[vProg p],looko []⟩ ⟨vStrs ts,looko []⟩)(hl:p.rules.length<100000)(hr:∀ r∈p.rules,0≤r.root∧r.root<(ts.length:Int))(hB:(text9 p.rules ts).length≤1000000000) :
    SoundAt C 176 ⟨[vProg p],looko []⟩ ⟨vS (text9 p.rules ts),looko []⟩:=by
  refine SoundAt.of_run h rfl (fun Q hR hN => ?_)
  rw [entry1]
  have lp:∀ {I:Nat→Prop} {Q:Ex→St→Prop},(∀ n,¬I n)→(∀ t o,t 4=vS (text9 p.rules ts)→Q (.exit 0) (St.mk t o)) →
      wpB C I g_ref09_Text.l0 (St.mk (look [(3,vStrs ts),(4,vS []),(10,.d (.sl (p.rules.map encRl))),(11,vI p.rules.length),(12,vI 0)]) (looko [])) Q:=by
    intro I Q hI hT
    have e:=text9_loop (C:=C) (I:=I) (Q:=Q) (p:=p) (ts:=ts) hI hl hr hB hT p.rules.length 0 (by omega)
    rw [List.take_zero] at e
    exact e
  repeat (first|simp only [go_sem,List.length_map]|refine Unf.h ?_|refine And.intro ?_ (noRv_of (by simp only [go_sem]))|refine callK_plain (hts) (fun _=>rfl) ?_|refine callE_plain (hts) (fun _=>rfl) ?_|refine ⟨_,hts,fun _=>rfl,?_⟩)
  refine lp (fun n h=>by first|exact h|exact h rfl) (fun t o h4 => ?_)
  repeat (first|simp only [go_sem,h4]|refine Unf.h ?_|refine And.intro ?_ (noRv_of (by simp only [go_sem])))
  refine hR _ ?_
  simp only [go_sem]
theorem root_in {l:List RT}(h:∀ q∈l,RtOk q)(hn:l.length≤60):∀ r∈(progOf l).rules,0≤r.root∧r.root<((progOf l).exprs.length:Int):=by
  have hs:=sound_prog h hn
  simp only [soundP,Bool.and_eq_true] at hs
  intro r hr
  have:=List.all_eq_true.1 hs.1.2 r hr
  simp only [soundR,Bool.and_eq_true] at this
  exact ⟨of_decide_eq_true this.1.1.1,of_decide_eq_true this.1.1.2⟩
theorem text9_prog {l:List RT}(h:∀ q∈l,RtOk q)(hn:l.length≤60):text9 (progOf l).rules (textsR (progOf l).exprs (progOf l).exprs.length)=progTx l:=by
  rw [← text_prog h]
  have key:∀ r∈(progOf l).rules,line9 (textsR (progOf l).exprs (progOf l).exprs.length) r=lineW (progOf l).exprs r:=by
    intro r hr
    obtain ⟨h0,h1⟩:=root_in h hn r hr
    obtain ⟨u,e1,e2,_⟩:=read_texts h (j:=r.root.toNat) (k:=(progOf l).exprs.length) (by omega) (by omega)
    rw [Int.toNat_of_nonneg h0] at e2
    unfold line9 lineW
    rw [e1,e2];rfl
  show (progOf l).rules.flatMap _=(progOf l).rules.flatMap _
  generalize (progOf l).rules=rs at key ⊢
  induction rs with
  | nil=>rfl
  | cons a b ih=>rw [List.flatMap_cons,List.flatMap_cons,key a (by simp),ih (fun r hr=>key r (List.mem_cons_of_mem _ hr))]
theorem read_exR {l:List RT}(h:∀ q∈l,RtOk q)(hx:(progOf l).exprs.length≤1000):∀ (j:Nat)(x:Xpr),(progOf l).exprs[j]? = some x→(exR (progOf l).exprs (textsR (progOf l).exprs j) j x).length≤1000000:=by
  intro j x he
  have hj:=(List.getElem?_eq_some_iff.1 he).1
  obtain ⟨u,e1,_,e3⟩:=read_texts h hj (Nat.lt_succ_self j)
  rw [textsR_get _ he (j+1) (Nat.lt_succ_self j)] at e1
  injection e1 with e1
  rw [e1];omega
end Pay
