/- Contracts: a rule set is read. -/
import Derived.Test.YtmglkghngkbioaaGreatDoorPayC64
set_option linter.unusedSimpArgs false
set_option linter.unusedVariables false
set_option maxHeartbeats 1000000
namespace Pay
open Go
attribute [local irreducible] wpB opsB treeB drawB
abbrev vProg (p:Prog):V:=.agg [.d (.sl (p.rules.map encRl)),.d (.sl (p.exprs.map encX))]
abbrev vParse (x:Prog × Int × Int):V:=.tup [vProg x.1,vI x.2.1,vI x.2.2]
theorem fail_err (en:Nat){e:Int}(he:e≠0)(x:PS):(failS en e x).err≠0:=by
  unfold failS
  split
  · exact he
  · assumption
theorem rule_cases (en:Nat) (x:PS):(Step x (ruleS en x)∧(ruleS en x).err≠0) ∨
    ∃ t n r z q,x.ts=t::n::r∧Step (x.go r) z∧ruleS en x = { z with rules:=z.rules++[q] }:=by
  unfold ruleS
  cases hts:x.ts with
  | nil=>exact .inl ⟨fail_step en 2 x,fail_err en (by decide) x⟩
  | cons t r =>
    simp only
    split
    · exact .inl ⟨fail_step en 9 x,fail_err en (by decide) x⟩
    · split
      · exact .inl ⟨fail_step en 2 x,fail_err en (by decide) x⟩
      · rename_i kind y hk
        have hs:=(take_step hk).step
        obtain ⟨_,t1,r1,e1,_,_,_,rfl⟩:=take_some hk
        rw [hts] at e1
        obtain ⟨rfl,rfl⟩:t=t1∧r=r1:=by injection e1 with a b;exact ⟨a,b⟩
        simp only
        cases hr:r with
        | nil=>simp only;exact .inl ⟨by rw [hr] at hs;exact hs.trans (fail_step en 2 _),fail_err en (by decide) _⟩
        | cons n r1 =>
          simp only
          split
          · exact .inr ⟨t,n,r1,_,_,rfl,((need_step en _ _).trans (exprP_step en 20 _)).trans (need_step en _ _),rfl⟩
          · exact .inl ⟨by rw [hr] at hs;exact hs.trans (fail_step en 2 _),fail_err en (by decide) _⟩
theorem PK.rule {all:List Tok}{en:Nat}{x:PS}(h:PK all x):PK all (ruleS en x):=by
  rcases rule_cases en x with ⟨h1,_⟩|⟨t,n,r,z,q,h1,h2,h3⟩
  · exact h.step h1
  · rw [h3]
    have hs:r <:+ x.ts:=by rw [h1];exact (List.suffix_cons n r).trans (List.suffix_cons t _)
    have hl:=h2.ts.length_le
    have hm:=h2.many
    have k1:=h.many
    have k2:=h.rules
    rw [h1] at k1 k2
    simp only [List.length_cons] at k1 k2
    exact ⟨(h2.ts.trans hs).trans h.suf,h.len,by show z.exprs.length+z.ts.length≤_;simp only at hm;omega,by
      show (z.rules++[q]).length+z.ts.length≤_
      rw [List.length_append,h2.rules]
      simp only [List.length_cons,List.length_nil] at hl ⊢
      omega,h.good,h.txt⟩
theorem rule_less (en:Nat)(x:PS):(ruleS en x).err≠0∨(ruleS en x).ts.length<x.ts.length:=by
  rcases rule_cases en x with ⟨_,h⟩|⟨t,n,r,z,q,h1,h2,h3⟩
  · exact .inl h
  · right
    have:=h2.ts.length_le
    rw [h3,h1]
    simp only [List.length_cons] at this ⊢
    omega
theorem progL_stop (en:Nat):∀ (f:Nat)(x:PS),x.ts=[]∨x.err≠0→progL en f x=x
  | 0,_,_=>rfl
  | f+1,x,h=>by unfold progL;rw [if_pos h]
theorem callK_pr {C:Ctx}{I:Nat→Prop}{dst:Option Nat}{ls:List (Nat × V)}{m:List (Nat × Option Ob)}{f:Nat}{xs:List V}{F:V→(Nat→Option Ob)→Prop}{r:V}{all:List Tok}{en:Nat}{x y:PS}
    (h:SoundX C f X77 ⟨xs,looko (oL (pL all en x))⟩ ⟨r,looko (oL (pL all en y))⟩) (hs:¬I 13∧¬I 77∧freshS 13 dst ls=true∧freshS 77 dst ls=true∧freshOE [24,77,13] 13 m=true∧freshOE [24,77,13] 77 m=true∧objsIn (pL all en x) (looko m)) (hr:∀ n,V.refs n r=false) (hK:F r (updL (looko m) (pL all en y))):callK C I (St.mk (look ls) (looko m)) dst f xs F:=by
  obtain ⟨h1,h2,h3,h4,h5,h6,h7⟩:=hs
  refine callKX_objs (pL all en x) (pL all en y) (fun n hn => ?_) h7 rfl (pL_refs all en y) h (fun n hn=>by rw [hr n] at hn;cases hn) hK
  rcases hn with rfl|rfl
  · exact ⟨h1,lo_lists h3 h5⟩
  · exact ⟨h2,lo_lists h4 h6⟩
abbrev pL0 (all:List Tok) (en:Nat) (x:PS):List (Nat × Ob):=[(24,.box [.d (.sl (all.map encT)),vI en,vI (atN all x.ts),.cap0,.cap0,vI x.err,vI x.place])]
theorem first_up {C:Ctx} {f:Nat} {X:Nat→Prop} {vs:List V} {cout:RS} {all:List Tok} {en:Nat} {x:PS} (hr:x.rules=[]) (he:x.exprs=[]) (hv1:V.refsL 77 vs=false) (hv2:V.refsL 13 vs=false)
    (h:SoundX C f X ⟨vs,looko (oL (pL all en x))⟩ cout):SoundX C f X ⟨vs,looko (oL (pL0 all en x))⟩ cout:=by
  refine SoundX.own_cell (n:=24) (k:=3) (nm:=77) (sz:=3) (by simp [oL,pL0,looko];rfl) rfl (by simp [oL,pL0,looko]) hv1 (fun m y hm => ?_) ?_
  · obtain ⟨p,hp,rfl⟩:=looko_memL hm
    simp only [pL0,List.mem_singleton] at hp
    subst hp
    rfl
  refine SoundX.own_cell (n:=24) (k:=4) (nm:=13) (sz:=6) (cs:=[.d (.sl (all.map encT)),vI en,vI (atN all x.ts),.own 77,.cap0,vI x.err,vI x.place]) (by simp [upd,oL,pL0,looko]) rfl (by simp [upd,oL,pL0,looko]) hv2 (fun m y hm => ?_) ?_
  · have:m=77∨m=24:=by
      by_cases h1:m=77
      · exact .inl h1
      · by_cases h2:m=24
        · exact .inr h2
        · simp [upd,oL,pL0,looko,h1,h2] at hm
    rcases this with rfl|rfl <;> simp [upd] at hm <;> subst hm <;> rfl
  have e:upd (upd (upd (upd (looko (oL (pL0 all en x))) 24 (some (.box ([.d (.sl (all.map encT)),vI en,vI (atN all x.ts),.cap0,.cap0,vI x.err,vI x.place].set 3 (.own 77))))) 77 (some (.row 3 []))) 24 (some (.box ([.d (.sl (all.map encT)),vI en,vI (atN all x.ts),.own 77,.cap0,vI x.err,vI x.place].set 4 (.own 13))))) 13 (some (.row 6 []))=looko (oL (pL all en x)):=by
    funext m
    simp only [upd,oL,pL,pL0,List.map_cons,List.map_nil,looko,hr,he]
    by_cases h1:m=13
    · subst h1;simp
    · by_cases h2:m=24
      · subst h2;simp
      · by_cases h3:m=77
        · subst h3;simp
        · simp [h1,h2,h3]
  rw [e]
  exact h
theorem callK_pr0 {C:Ctx}{I:Nat→Prop}{dst:Option Nat}{ls:List (Nat × V)}{m:List (Nat × Option Ob)}{f:Nat}{xs:List V}{F:V→(Nat→Option Ob)→Prop}{r:V}{all:List Tok}{en:Nat}{x y:PS}
    (h:SoundX C f X77 ⟨xs,looko (oL (pL0 all en x))⟩ ⟨r,looko (oL (pL all en y))⟩) (hs:¬I 13∧¬I 77∧(freshS 13 dst ls&&freshO 13 m)=true∧(freshS 77 dst ls&&freshO 77 m)=true∧objsIn (pL0 all en x) (looko m)) (hr:∀ n,V.refs n r=false) (hK:F r (updL (looko m) (pL all en y))):callK C I (St.mk (look ls) (looko m)) dst f xs F:=by
  obtain ⟨h1,h2,h3,h4,h7⟩:=hs
  refine callKX_new (pL0 all en x) (pL all en y) (fun n hn hl => ?_) h7 (fun n hn => ?_) (fun n hn hl => ?_) (pL_refs all en y) h (fun n hn=>by rw [hr n] at hn;cases hn) hK
  · rw [oL_names] at hl
    simp [pL0] at hl
    subst hl
    rcases hn with h|h <;> cases h
  · rw [oL_names] at hn ⊢
    simp [pL0] at hn
    subst hn
    simp [pL]
  · rw [oL_names] at hn hl
    simp [pL] at hn
    simp [pL0] at hl
    rcases hn with hn|hn|hn
    · exact absurd hn hl
    · subst hn
      simp only [Bool.and_eq_true] at h4
      exact ⟨h2,fresh_mk h4.1 h4.2⟩
    · subst hn
      simp only [Bool.and_eq_true] at h3
      exact ⟨h1,fresh_mk h3.1 h3.2⟩
theorem watch_undef {o:Nat→Option Ob}{ps xs:List V}:watchV o (.undef::ps) xs=watchV o ps xs:=by
  apply propext
  constructor
  · exact fun h p hp=>h p (List.mem_cons_of_mem _ hp)
  · intro h p hp
    rcases List.mem_cons.1 hp with rfl|hp
    · exact ⟨fun _ _ _ _=>rfl,fun m hm=>by cases hm⟩
    · exact h p hp
abbrev pM (all:List Tok) (en:Nat) (x:PS):List (Nat × Option Ob):=(2,some (.box [.cap0,.cap0]))::oL (pL all en x)
attribute [go_sem] pM pL0 watch_undef watch_nil watch_ptr rowF_b rowF_m
theorem tparse_loop {C : Ctx} (hR:∀ {all:List Tok} {en:Nat} {x:PS},PK all x→SoundX C 153 X77 ⟨[.ptr 24 0],looko (oL (pL all en x))⟩ ⟨.tup [],looko (oL (pL all en (ruleS en x)))⟩) {I:Nat→Prop} (hI:∀ n,¬I n) {Q:Ex→St→Prop} {all:List Tok} {en:Nat} {r:PS}
    (hT:∀ t,t 2 = .ptr 2 0→t 8 = .ptr 24 0→PK all r→Q (.exit 0) (St.mk t (looko (pM all en r)))) :
    ∀ (n:Nat) (x:PS),PK all x→(x.ts.length≤n∨x.err≠0)→progL en n x=r →
      wpB C I g_tree_Parse.l0 (St.mk (look [(2,.ptr 2 0),(5,.d (.sl (all.map encT))),(8,.ptr 24 0)]) (looko (pM all en x))) Q:=by
  intro n
  induction n with
  | zero =>
    intro x hp hx hr
    refine w_loopC (L:=g_tree_Parse.l0) rfl ?_
    have hs:x.ts=[]∨x.err≠0:=by
      rcases hx with h|h
      · exact .inl (List.eq_nil_of_length_eq_zero (Nat.le_zero.1 h))
      · exact .inr h
    have hr':x=r:=by rw [← hr];rfl
    subst hr'
    by_cases h0:x.ts=[]
    · have e:¬((atN all x.ts:Int)<(all.length:Int)):=by rw [hp.nil h0];omega
      repeat (first|simp only [go_sem,List.length_map,e,decide_false]|refine Unf.h ?_)
      refine hT _ ?_ ?_ hp <;> rfl
    · have h1:((atN all x.ts:Int)<(all.length:Int)):=by
        obtain ⟨t,r,h⟩:∃ t r,x.ts=t::r:=by cases h:x.ts with|nil=>exact absurd h h0|cons t r=>exact ⟨t,r,rfl⟩
        have:=(hp.cons h).1
        omega
      have hb:(x.err==0)=false:=by simpa using hs.resolve_left h0
      repeat (first|simp only [go_sem,List.length_map,h1,decide_true,hb]|refine Unf.h ?_)
      refine hT _ ?_ ?_ hp <;> rfl
  | succ n ih =>
    intro x hp hx hr
    refine w_loopC (L:=g_tree_Parse.l0) rfl ?_
    by_cases h0:x.ts=[]
    · have e:¬((atN all x.ts:Int)<(all.length:Int)):=by rw [hp.nil h0];omega
      rw [progL_stop en _ x (.inl h0)] at hr
      subst hr
      repeat (first|simp only [go_sem,List.length_map,e,decide_false]|refine Unf.h ?_)
      refine hT _ ?_ ?_ hp <;> rfl
    · have h1:((atN all x.ts:Int)<(all.length:Int)):=by
        obtain ⟨t,r,h⟩:∃ t r,x.ts=t::r:=by cases h:x.ts with|nil=>exact absurd h h0|cons t r=>exact ⟨t,r,rfl⟩
        have:=(hp.cons h).1
        omega
      by_cases hb:x.err=0
      · have hb':(x.err==0)=true:=by simpa using hb
        have t1:=hR (en:=en) hp
        unfold progL at hr
        rw [if_neg (by simp [h0,hb])] at hr
        repeat (first|simp only [go_sem,List.length_map,h1,decide_true,hb']|refine Unf.h ?_)
        refine callK_pr t1 ?_ (fun _=>rfl) ?_
        · simp only [go_sem,hI]
        repeat (first|simp only [go_sem]|refine Unf.h ?_)
        refine ih _ hp.rule ?_ hr
        rcases rule_less en x with h|h
        · exact .inr h
        · exact .inl (by rcases hx with hx|hx
                         · omega
                         · exact absurd hb hx)
      · have hb':(x.err==0)=false:=by simpa using hb
        rw [progL_stop en _ x (.inr hb)] at hr
        subst hr
        repeat (first|simp only [go_sem,List.length_map,h1,decide_true,hb']|refine Unf.h ?_)
        refine hT _ ?_ ?_ hp <;> rfl
theorem chain_text {s:List UInt8}:∀ {ts:List Tok}{e:Nat},Chain s e ts→∀ t∈ts,t.text.length≤s.length
  | [],_,_,t,ht=>by cases ht
  | x::r,e,h,t,ht=>by
    rcases List.mem_cons.1 ht with rfl|ht
    · have:=h.2.2.1;omega
    · exact chain_text h.2.2.2.2 t ht
theorem chain_many {s:List UInt8}:∀ {ts:List Tok}{e:Nat},Chain s e ts→e≤s.length→ts.length+e≤s.length
  | [],e,_,he=>by simpa using he
  | x :: r,e,h,he=>by
    have h1:1≤x.text.length:=by
      have:=h.2.1
      cases hx:x.text with
      | nil=>exact absurd hx this
      | cons c l=>simp
    have:=chain_many h.2.2.2.2 (by have:=h.2.2.1;omega)
    have:=h.1
    simp only [List.length_cons]
    omega
theorem lex_PK {s:List UInt8}{ts:List Tok}(hs:s.length<100000)(h:lexS s=(ts,none)):PK ts (ps0 ts):=by
  have hc:Chain s 0 ts:=by
    have:=lex_chain s s 0 rfl (Nat.zero_le _)
    rw [← lexS_T,h] at this
    exact this
  have hm:=chain_many hc (Nat.zero_le _)
  refine ⟨List.suffix_refl _,by omega,by simp [ps0],by simp [ps0],fun t ht => ?_,fun t ht => ?_⟩
  · exact lex_good s 0 t (by rw [← lexS_T,h];exact ht)
  · have:=chain_text hc t ht;omega
theorem parse_end {C:Ctx}{I J:Nat→Prop}{Q:Ex→St→Prop}{all:List Tok}{en:Nat}{r:PS}{cout:RS}
    (hR:∀ st,EndsA J [] [2] [.cell 2 (some 2),.slot 3,.slot 4] st cout→Q .ret st)
    (hc:cout=⟨vParse (if r.err=0 then (⟨r.rules,r.exprs⟩,0,0) else (⟨[],[]⟩,r.place,r.err)),looko []⟩∨(r.err≠0∧cout=⟨.tup [.agg [.cap0,.cap0],vI r.place,vI r.err],looko []⟩)) {s:Nat→V} (h2:s 2 = .ptr 2 0) (h8:s 8 = .ptr 24 0)
    (hq:r.err≠0→cout=⟨.tup [.agg [.cap0,.cap0],vI r.place,vI r.err],looko []⟩) :
    wpB C I g_tree_Parse.c3 (St.mk s (looko (pM all en r))) Q:=by
  by_cases hx:r.err=0
  · have hb:(r.err != 0)=false:=by simp [hx]
    have hc:=hc.resolve_right (fun h=>h.1 hx)
    rw [if_pos hx] at hc
    subst hc
    repeat (first|simp only [go_sem,h2,h8,hb]|refine Unf.h ?_)
    refine hR _ ?_
    rw [ends_frz]
    simp only [go_sem]
  · have hb:(r.err != 0)=true:=by simp [hx]
    have hc:=hq hx
    subst hc
    repeat' (first|simp only [go_sem,h2,h8,hb]|refine Unf.h ?_|refine And.intro ?_ ?_)
    refine hR _ ?_
    rw [ends_frz]
    simp only [go_sem]
theorem treeParse {C:Ctx} (h:okFn C.P C.φ 144 g_tree_Parse=true) (hLex:∀ s:List UInt8,s.length<100000→SoundAt C 74 ⟨[vS s],looko []⟩ ⟨vLex (lexS s),looko []⟩)
    (hRule:∀ {all:List Tok} {en:Nat} {x:PS},PK all x→SoundX C 153 X77 ⟨[.ptr 24 0],looko (oL (pL all en x))⟩ ⟨.tup [],looko (oL (pL all en (ruleS en x)))⟩) (s:List UInt8) (hs:s.length<100000) :
    SoundAt C 144 ⟨[vS s],looko []⟩ ⟨vParse (parseP s),looko []⟩:=by
  have tl:=hLex s hs
  have hI:∀ n:Nat,¬(looko [] n≠none):=fun n h=>h rfl
  cases hl:lexS s with|mk ts o =>
  cases o with
  | some e =>
    have e0:parseP s=((⟨[],[]⟩:Prog),(e:Int),(2:Int)):=by unfold parseP;rw [hl]
    rw [e0]
    refine SoundAt.res_up (r:=.tup [.agg [.cap0,.cap0],vI e,vI 2]) ?_
    refine SoundAt.of_run h rfl (fun Q hR hN => ?_)
    rw [entry1]
    rw [hl] at tl
    repeat (first|simp only [go_sem]|refine Unf.h ?_)
    refine callK_plain tl (fun _=>rfl) ?_
    repeat (first|simp only [go_sem,vLex]|refine Unf.h ?_)
    refine hR _ ?_
    rw [ends_frz]
    simp only [go_sem]
  | none =>
    have hp:=lex_PK hs hl
    have e0:parseP s=parseT s.length ts:=by unfold parseP;rw [hl]
    rw [e0]
    rw [hl] at tl
    by_cases h0:ts=[]
    · subst h0
      have e1:parseT s.length []=((⟨[],[]⟩:Prog),(0:Int),(0:Int)):=rfl
      rw [e1]
      refine SoundAt.res_up (r:=.tup [.agg [.cap0,.cap0],vI 0,vI 0]) ?_
      refine SoundAt.of_run h rfl (fun Q hR hN => ?_)
      rw [entry1]
      repeat (first|simp only [go_sem]|refine Unf.h ?_)
      refine callK_plain tl (fun _=>rfl) ?_
      repeat (first|simp only [go_sem,vLex]|refine Unf.h ?_)
      refine w_loopC (L:=g_tree_Parse.l0) rfl ?_
      repeat (first|simp only [go_sem,Int.lt_irrefl,decide_false]|refine Unf.h ?_)
      refine hR _ ?_
      rw [ends_frz]
      simp only [go_sem]
    · have key:∀ cout:RS,(let r:=progL s.length ts.length (ps0 ts);(cout=⟨vParse (if r.err=0 then (⟨r.rules,r.exprs⟩,0,0) else (⟨[],[]⟩,r.place,r.err)),looko []⟩∨(r.err≠0∧cout=⟨.tup [.agg [.cap0,.cap0],vI r.place,vI r.err],looko []⟩))∧(r.err≠0→cout=⟨.tup [.agg [.cap0,.cap0],vI r.place,vI r.err],looko []⟩))→SoundAt C 144 ⟨[vS s],looko []⟩ cout:=by
        intro cout hc
        obtain ⟨n,hn⟩:∃ n,ts.length=n+1:=by
          cases ts with
          | nil=>exact absurd rfl h0
          | cons t r=>exact ⟨r.length,rfl⟩
        have hpr:progL s.length ts.length (ps0 ts)=progL s.length n (ruleS s.length (ps0 ts)):=by
          rw [hn]
          show (if (ps0 ts).ts=[]∨(ps0 ts).err≠0 then _ else _)=_
          rw [if_neg]
          rintro (h|h)
          · exact h0 h
          · exact h rfl
        have hlt:¬((0:Int)≥(ts.length:Int)):=by omega
        have hlt':((0:Int)<(ts.length:Int)):=by omega
        have t1:=first_up (vs:=[.ptr 24 0]) rfl rfl rfl rfl (hRule (en:=s.length) hp)
        have e24:atN ts ts=0:=by simp [atN]
        refine SoundAt.of_run h rfl (fun Q hR hN => ?_)
        rw [entry1]
        repeat (first|simp only [go_sem]|refine Unf.h ?_)
        refine callK_plain tl (fun _=>rfl) ?_
        repeat (first|simp only [go_sem,vLex]|refine Unf.h ?_)
        refine w_loopC (L:=g_tree_Parse.l0) rfl ?_
        repeat (first|simp only [go_sem,List.length_map,hlt',decide_true]|refine Unf.h ?_)
        refine callK_pr0 t1 ?_ (fun _=>rfl) ?_
        · simp only [go_sem,hI,ps0,e24]
        repeat (first|simp only [go_sem]|refine Unf.h ?_)
        have sw:∀ (a b:Nat × Option Ob) (u v:Option Ob),looko [a,b,(13,u),(77,v)]=looko [a,b,(77,v),(13,u)]:=by
          intro a b u v
          funext n
          simp only [looko]
          by_cases h:n=13
          · subst h;simp
          · simp [h]
        rw [sw]
        refine tparse_loop hRule (I:=fun n=>False) (fun n h=>h) (r:=progL s.length ts.length (ps0 ts)) (fun t h2 h8 hpk => ?_) n _ hp.rule ?_ hpr.symm
        · repeat (first|simp only [go_sem]|refine Unf.h (a:=wpB _ _ g_tree_Parse.c4 _ _) ?_)
          refine parse_end (r:=progL s.length ts.length (ps0 ts)) hR hc.1 ?_ ?_ hc.2
          · simp only [go_sem,h2]
          · simp only [go_sem,h8]
        · rcases rule_less s.length (ps0 ts) with h|h
          · exact .inr h
          · have h:(ruleS s.length (ps0 ts)).ts.length<ts.length:=h
            exact .inl (by omega)
      unfold parseT
      simp only
      by_cases hx:(progL s.length ts.length (ps0 ts)).err=0
      · exact key _ ⟨.inl rfl,fun h=>absurd hx h⟩
      · rw [if_neg hx]
        exact SoundAt.res_up (r:=.tup [.agg [.cap0,.cap0],vI (progL s.length ts.length (ps0 ts)).place,vI (progL s.length ts.length (ps0 ts)).err]) (key _ ⟨.inr ⟨hx,rfl⟩,fun _=>rfl⟩)
end Pay
