/- Contracts: the document's parser of rule sets, its levels. -/
import Derived.Test.YtmglkghngkbioaaGreatDoorPayC72
set_option linter.unusedSimpArgs false
set_option linter.unusedVariables false
set_option maxHeartbeats 1000000
namespace Pay
open Go
attribute [local irreducible] wpB opsB treeB drawB
def rV (r:Option (List (List D))):V:=match r with|none=>.cap0|some _=>.own 108
def oC (r:Option (List (List D))):Option Ob:=r.map (Ob.row 3)
theorem refs_rV (n:Nat)(r:Option (List (List D))):V.refs n (rV r)=(r.isSome&&(108==n)):=by cases r <;> rfl
theorem freshO_oC (nm k:Nat)(r:Option (List (List D)))(m:List (Nat × Option Ob)):freshO nm ((k,oC r)::m)=freshO nm m:=by
  cases r <;> simp [oC,freshO,Ob.refs]
theorem scrub_oC (n:Nat)(r:Option (List (List D))):Option.map (Ob.scrub n) (oC r)=oC r:=by cases r <;> rfl
theorem oC_none:looko [(108,oC none)]=looko []:=by funext n;simp [looko,oC]
theorem oC_some (es:List (List D)):looko [(108,oC (some es))]=looko (oL [(108,.row 3 es)]):=rfl
attribute [go_sem] refs_rV freshO_oC scrub_oC Bool.and_false
theorem callK_c {C:Ctx} {I:Nat→Prop} {st:St} {dst:Option Nat} {f:Nat} {xs:List V} {F:V→(Nat→Option Ob)→Prop} {rr:V} {r:Option (List (List D))}
    (h:SoundAt C f ⟨xs,looko [(108,oC r)]⟩ ⟨rr,looko [(108,oC r)]⟩) (ho:st.o 108=oC r) (hr:∀ n,V.refs n rr=true→V.refs n (rV r)=true) (hK:F rr st.o):callK C I st dst f xs F:=by
  cases r with
  | none =>
    rw [oC_none] at h
    exact callK_plain h (fun n=>by
      cases hn:V.refs n rr with
      | false=>rfl
      | true=>exact absurd (hr n hn) (by simp [rV,V.refs])) hK
  | some es =>
    rw [oC_some] at h
    refine callK_objs [(108,.row 3 es)] [(108,.row 3 es)] ⟨ho,trivial⟩ rfl (RuS.refsIn (.inr ⟨es,rfl,rfl⟩)) h (fun n hn => ?_) ?_
    · have:=hr n hn
      simp only [rV,V.refs,beq_iff_eq] at this
      subst this
      simp [oL,looko]
    · have e:updL st.o [(108,.row 3 es)]=st.o:=by
        funext n
        simp only [updL,upd]
        split
        · rename_i e;rw [e,ho];rfl
        · rfl
      rw [e];exact hK
abbrev cC (r:Option (List (List D))) (all:List Tok) (en:Nat) (x:PS):List V:=[.d (.sl (all.map encT)),vI en,vI (atN all x.ts),rV r,slV encX x.exprs,vI x.err,vI x.place]
abbrev sC (r:Option (List (List D))) (all:List Tok) (en:Nat) (x:PS):V:=.agg (cC r all en x)
abbrev zC:Ob:=.box [.cap0,vI 0,vI 0,.cap0,.cap0,vI 0,vI 0]
def HStC (C:Ctx)(f:Nat)(args:List V)(g:Nat→PS→PS):Prop:=∀ {r:Option (List (List D))}{all:List Tok}{en:Nat}{x:PS},PK all x→SoundAt C f ⟨sC r all en x::args,looko [(108,oC r)]⟩ ⟨sC r all en (g en x),looko [(108,oC r)]⟩
def HExC (C:Ctx)(f:Nat)(args:List V)(g:Nat→Pr):Prop:=∀ {r:Option (List (List D))}{all:List Tok}{en:Nat}{x:PS},PK all x→SoundAt C f ⟨sC r all en x::args,looko [(108,oC r)]⟩ ⟨.tup [sC r all en (g en x).1,vI (g en x).2],looko [(108,oC r)]⟩
theorem HSt.c {C:Ctx}{f:Nat}{args:List V}{g:Nat→PS→PS}(h:HSt C f args g):HStC C f args g:=by
  intro r all en x hp
  cases r with
  | none=>rw [oC_none];exact h (.inl ⟨rfl,rfl⟩) hp
  | some es=>exact h (.inr ⟨es,rfl,rfl⟩) hp
theorem HEx.c {C:Ctx}{f:Nat}{args:List V}{g:Nat→Pr}(h:HEx C f args g):HExC C f args g:=by
  intro r all en x hp
  cases r with
  | none=>rw [oC_none];exact h (.inl ⟨rfl,rfl⟩) hp
  | some es=>exact h (.inr ⟨es,rfl,rfl⟩) hp
def HTextC (C:Ctx):Prop:=∀ {r:Option (List (List D))}{all:List Tok}{en:Nat}{x:PS},PK all x→SoundAt C 193 ⟨[sC r all en x],looko [(108,oC r)]⟩ ⟨vS (wordT x),looko [(108,oC r)]⟩
theorem HText.c {C:Ctx}(h:HText C):HTextC C:=by
  intro r all en x hp
  cases r with
  | none=>rw [oC_none];exact h (.inl ⟨rfl,rfl⟩) hp
  | some es=>exact h (.inr ⟨es,rfl,rfl⟩) hp
theorem ends_c {I:Nat→Prop}{res:List ARes}{st:St}{rr:V}{r:Option (List (List D))}(h:lstK (resVs st res) (fun vs=>rr=tupV vs∧st.o 108=oC r)):EndsA I [] [] res st ⟨rr,looko [(108,oC r)]⟩:=by
  rw [← lst_ex] at h
  obtain ⟨vs,h1,h2,h3⟩:=h
  refine ⟨vs,h1,h2,fun n x hx => ?_⟩
  simp only [looko] at hx
  split at hx
  · rename_i e;subst e;show st.o 108=some x;rw [h3,hx]
  · cases hx
structure R8K (C:Ctx):Prop where
  text:HTextC C
  wrong:∀ e:Int,HStC C 194 [vI e] (fun en x=>failS en e x)
  must:∀ s:List UInt8,s≠[]→HStC C 195 [vS s] (fun en x=>needS en s x)
  put:∀ e:Xpr,HExC C 209 [vX e] (fun _ x=>putS e x)
  level:SoundAt C 215 ⟨[vI 0],looko []⟩ ⟨vStrs cmpL,looko []⟩∧SoundAt C 215 ⟨[vI 1],looko []⟩ ⟨vStrs sumL,looko []⟩∧SoundAt C 215 ⟨[vI 2],looko []⟩ ⟨vStrs mulL,looko []⟩
  one:∀ (s:List UInt8) (l:List (List UInt8)),l.length<100000→SoundAt C 154 ⟨[vS s,vStrs l],looko []⟩ ⟨vB (l.contains s),looko []⟩
  taken:∀ s:List UInt8,SoundAt C 152 ⟨[vS s],looko []⟩ ⟨vB (takenL.contains s),looko []⟩
  amt:∀ s:List UInt8,s.length<100000→(parseS s).2=true→SoundAt C 52 ⟨[vS s],looko []⟩ ⟨vIB (parseS s),looko []⟩
  rate:∀ s:List UInt8,s.length<100000→SoundAt C 93 ⟨[vS s],looko []⟩ ⟨vIB (rateP s),looko []⟩
theorem ref8Chain3 {C:Ctx}(h:okFn C.P C.φ 208 g_ref08_chain=true){d:Nat}{f:Nat→Pr}(hF:HExC C 214 [vI d] f):HExC C 208 [vI d,vI 3] f:=by
  intro r all en x hp
  have h1:=hF (r:=r) (en:=en) hp
  refine SoundAt.of_run h rfl (fun Q hR hN => ?_)
  rw [entry3]
  repeat (first|simp only [go_sem,decide_true]|refine Unf.h ?_|refine callK_c (h1) (by simp only [go_sem,decide_true]) (by intro n hn;first|(cases hn;done)|(simpa [V.refs,V.refsL,slV_refs] using hn)) ?_)
  refine hR _ (ends_c ?_)
  simp only [go_sem]
theorem chain_loop {C:Ctx} (K:R8K C) {d:Nat} {n:Int} {ops:List (List UInt8)} (hn:(n==0)=false) {f:Nat→Pr} (hf:∀ en,Good1 (f en)) {n':Int} (hw:IntKind.i64.wrap (n+1)=n') (hF:HExC C 208 [vI d,vI n'] f) (hl:SoundAt C 215 ⟨[vI n],looko []⟩ ⟨vStrs ops,looko []⟩) (hne:ops.contains []=false) (hol:ops.length<100000)
    {Q:Ex→St→Prop} {r:Option (List (List D))} {all:List Tok} {en:Nat} {res:PS × Nat} {I:Nat→Prop} (hI:∀ n,n≠108→¬I n)
    (hT:∀ t,t 3 = .ptr 3 0→t 6 = .ptr 6 0→t 8=vI res.2→Q (.exit 0) (St.mk t (looko [(3,some (.box (cC r all en res.1))),(6,some zC),(108,oC r)]))) :
    ∀ (k:Nat) (x:PS) (a:Nat),PK all x→x.ts.length≤k→chainL (f en) ops k x a=res →
      wpB C I g_ref08_chain.l0 (St.mk (look [(1,vI d),(2,vI n),(3,.ptr 3 0),(6,.ptr 6 0),(8,vI a)]) (looko [(3,some (.box (cC r all en x))),(6,some zC),(108,oC r)])) Q:=by
  intro k
  induction k with
  | zero =>
    intro x a hp hx hr
    have hn0:=take_nil (l:=ops) (List.eq_nil_of_length_eq_zero (Nat.le_zero.1 hx))
    unfold chainL at hr
    subst hr
    have ht:=K.text (r:=r) (en:=en) hp
    have h1:=K.one (wordT x) ops hol
    refine w_loopC (L:=g_ref08_chain.l0) rfl ?_
    by_cases he:x.err=0
    · rw [word_none hne he hn0] at h1
      have hb:(x.err==0)=true:=by simp [he]
      repeat (first|simp only [go_sem,hb]|refine Unf.h ?_|refine callK_c (ht) (by simp only [go_sem,hb]) (by intro n hn;first|(cases hn;done)|(simpa [V.refs,V.refsL,slV_refs] using hn)) ?_|refine callK_plain (hl) (fun _=>rfl) ?_|refine callK_plain (h1) (fun _=>rfl) ?_)
      exact hT _ rfl rfl rfl
    · have hb:(x.err==0)=false:=by simp [he]
      repeat (first|simp only [go_sem,hb]|refine Unf.h ?_|refine callK_c (ht) (by simp only [go_sem,hb]) (by intro n hn;first|(cases hn;done)|(simpa [V.refs,V.refsL,slV_refs] using hn)) ?_|refine callK_plain (hl) (fun _=>rfl) ?_|refine callK_plain (h1) (fun _=>rfl) ?_)
      exact hT _ rfl rfl rfl
  | succ k ih =>
    intro x a hp hx hr
    have ht:=K.text (r:=r) (en:=en) hp
    have h1:=K.one (wordT x) ops hol
    unfold chainL at hr
    refine w_loopC (L:=g_ref08_chain.l0) rfl ?_
    by_cases he:x.err=0
    case neg =>
      have hb:(x.err==0)=false:=by simp [he]
      have hn0:takeT ops x=none:=by unfold takeT;rw [if_neg he]
      rw [hn0] at hr
      subst hr
      repeat (first|simp only [go_sem,hb]|refine Unf.h ?_|refine callK_c (ht) (by simp only [go_sem,hb]) (by intro n hn;first|(cases hn;done)|(simpa [V.refs,V.refsL,slV_refs] using hn)) ?_|refine callK_plain (hl) (fun _=>rfl) ?_|refine callK_plain (h1) (fun _=>rfl) ?_)
      exact hT _ rfl rfl rfl
    have hb:(x.err==0)=true:=by simp [he]
    cases hk:takeT ops x with
    | none =>
      rw [hk] at hr
      rw [word_none hne he hk] at h1
      subst hr
      repeat (first|simp only [go_sem,hb]|refine Unf.h ?_|refine callK_c (ht) (by simp only [go_sem,hb]) (by intro n hn;first|(cases hn;done)|(simpa [V.refs,V.refsL,slV_refs] using hn)) ?_|refine callK_plain (hl) (fun _=>rfl) ?_|refine callK_plain (h1) (fun _=>rfl) ?_)
      exact hT _ rfl rfl rfl
    | some p =>
      obtain ⟨op,y⟩:=p
      rw [hk] at hr
      simp only at hr
      obtain ⟨wt,we,t,rr,hts,rfl⟩:=word_some hk
      rw [wt,we] at h1
      have ha:=hp.at1 hts
      have hs:=take_step hk
      have hp1:=hp.step hs.step
      have h2:=hF (r:=r) (en:=en) hp1
      have hp2:=hp1.step (hf en (x.go rr))
      have h3:=K.put (xNode op a (f en (x.go rr)).2 0) (r:=r) (en:=en) hp2
      have hs2:=(hs.trans (hf en (x.go rr))).put (xNode op a (f en (x.go rr)).2 0)
      have hlen:(x.go rr).ts.length+1≤x.ts.length:=by rw [hts];simp
      have ih':=ih _ _ (hp.step hs2) (by
        have:=(hf en (x.go rr)).ts.length_le
        show (f en (x.go rr)).1.ts.length≤k
        omega) hr
      have hno:¬(n=0):=by simpa using hn
      rw [we] at ht
      repeat (first|simp only [go_sem,hb,ha,hw,hn,hI,we,hno]|refine Unf.h ?_|refine callK_c (ht) (by simp only [go_sem,hb,ha,hw,hn,hI,we,hno]) (by intro n hn;first|(cases hn;done)|(simpa [V.refs,V.refsL,slV_refs] using hn)) ?_|refine callK_c (h2) (by simp only [go_sem,hb,ha,hw,hn,hI,we,hno]) (by intro n hn;first|(cases hn;done)|(simpa [V.refs,V.refsL,slV_refs] using hn)) ?_|refine callK_c (h3) (by simp only [go_sem,hb,ha,hw,hn,hI,we,hno]) (by intro n hn;first|(cases hn;done)|(simpa [V.refs,V.refsL,slV_refs] using hn)) ?_|refine callK_plain (hl) (fun _=>rfl) ?_|refine callK_plain (h1) (fun _=>rfl) ?_)
      exact ih'
theorem ref8Chain {C:Ctx}(h:okFn C.P C.φ 208 g_ref08_chain=true)(K:R8K C){d:Nat}{n:Int}{ops:List (List UInt8)}(hn:(n==0)=false)(hn3:(n==3)=false){f:Nat→Pr}(hf:∀ en,Good1 (f en)){n':Int}(hw:IntKind.i64.wrap (n+1)=n')(hF:HExC C 208 [vI d,vI n'] f)(hl:SoundAt C 215 ⟨[vI n],looko []⟩ ⟨vStrs ops,looko []⟩)(hne:ops.contains []=false)(hol:ops.length<100000) :
    HExC C 208 [vI d,vI n] (fun en=>chainS (f en) ops):=by
  intro r all en x hp
  have h1:=hF (r:=r) (en:=en) hp
  have hno:¬(n=3):=by simpa using hn3
  refine SoundAt.of_run h rfl (fun Q hR hN => ?_)
  rw [entry3]
  repeat (first|simp only [go_sem,hn3,hno,hw]|refine Unf.h ?_|refine callK_c (h1) (by simp only [go_sem,hn3,hno,hw]) (by intro n hn;first|(cases hn;done)|(simpa [V.refs,V.refsL,slV_refs] using hn)) ?_)
  refine chain_loop K hn hf hw hF hl hne hol (res:=chainS (f en) ops x) (fun n hn=>by simp [looko,hn]) (fun t h3 h6 h8 => ?_) (f en x).1.ts.length (f en x).1 (f en x).2 (hp.step (hf en x)) (Nat.le_refl _) rfl
  repeat (first|simp only [go_sem,h3,h6,h8]|refine Unf.h ?_)
  refine hR _ (ends_c ?_)
  simp only [go_sem]
theorem ref8Chain0 {C:Ctx}(h:okFn C.P C.φ 208 g_ref08_chain=true)(K:R8K C){d:Nat}{f:Nat→Pr}(hf:∀ en,Good1 (f en))(hF:HExC C 208 [vI d,vI 1] f) :
    HExC C 208 [vI d,vI 0] (fun en=>cmpS (f en)):=by
  intro r all en x hp
  have h0:=hF (r:=r) (en:=en) hp
  have hpx:=hp.step (hf en x)
  have ht:=K.text (r:=r) (en:=en) hpx
  have h1:=K.one (wordT (f en x).1) cmpL (by decide)
  have hl:=K.level.1
  have hne:cmpL.contains []=false:=by decide
  have w1:IntKind.i64.wrap (0+1)=1:=by decide
  refine SoundAt.of_run h rfl (fun Q hR hN => ?_)
  dsimp only at hR
  unfold cmpS at hR
  generalize f en x=y at *
  obtain ⟨y,a⟩:=y
  simp only at hpx ht h1 hR
  rw [entry3]
  repeat (first|simp only [go_sem,w1]|refine Unf.h ?_|refine callK_c (h0) (by simp only [go_sem,w1]) (by intro n hn;first|(cases hn;done)|(simpa [V.refs,V.refsL,slV_refs] using hn)) ?_)
  refine w_loopC (L:=g_ref08_chain.l0) rfl ?_
  by_cases he:y.err=0
  case neg =>
    have hb:(y.err==0)=false:=by simp [he]
    have hn0:takeT cmpL y=none:=by unfold takeT;rw [if_neg he]
    rw [hn0] at hR
    repeat (first|simp only [go_sem,hb]|refine Unf.h ?_|refine callK_c (ht) (by simp only [go_sem,hb]) (by intro n hn;first|(cases hn;done)|(simpa [V.refs,V.refsL,slV_refs] using hn)) ?_|refine callK_plain (hl) (fun _=>rfl) ?_|refine callK_plain (h1) (fun _=>rfl) ?_)
    refine hR _ (ends_c ?_)
    simp only [go_sem]
  have hb:(y.err==0)=true:=by simp [he]
  cases hk:takeT cmpL y with
  | none =>
    rw [hk] at hR
    rw [word_none hne he hk] at h1
    repeat (first|simp only [go_sem,hb]|refine Unf.h ?_|refine callK_c (ht) (by simp only [go_sem,hb]) (by intro n hn;first|(cases hn;done)|(simpa [V.refs,V.refsL,slV_refs] using hn)) ?_|refine callK_plain (hl) (fun _=>rfl) ?_|refine callK_plain (h1) (fun _=>rfl) ?_)
    refine hR _ (ends_c ?_)
    simp only [go_sem]
  | some p =>
    obtain ⟨op,z⟩:=p
    rw [hk] at hR
    simp only at hR
    obtain ⟨wt,we,t,rr,hts,rfl⟩:=word_some hk
    rw [wt,we] at h1
    have ha:=hpx.at1 hts
    have hs:=take_step hk
    have hp1:=hpx.step hs.step
    have h2:=hF (r:=r) (en:=en) hp1
    have hp2:=hp1.step (hf en (y.go rr))
    have h3:=K.put (xNode op a (f en (y.go rr)).2 0) (r:=r) (en:=en) hp2
    rw [we] at ht
    repeat (first|simp only [go_sem,hb,ha,w1,we]|refine Unf.h ?_|refine callK_c (ht) (by simp only [go_sem,hb,ha,w1,we]) (by intro n hn;first|(cases hn;done)|(simpa [V.refs,V.refsL,slV_refs] using hn)) ?_|refine callK_c (h2) (by simp only [go_sem,hb,ha,w1,we]) (by intro n hn;first|(cases hn;done)|(simpa [V.refs,V.refsL,slV_refs] using hn)) ?_|refine callK_c (h3) (by simp only [go_sem,hb,ha,w1,we]) (by intro n hn;first|(cases hn;done)|(simpa [V.refs,V.refsL,slV_refs] using hn)) ?_|refine callK_plain (hl) (fun _=>rfl) ?_|refine callK_plain (h1) (fun _=>rfl) ?_)
    refine hR _ (ends_c ?_)
    simp only [go_sem]
end Pay
