/- Contracts: the document's parser of rule sets, its rules. -/
import Derived.Test.YtmglkghngkbioaaGreatDoorPayC75
set_option linter.unusedSimpArgs false
set_option linter.unusedVariables false
set_option maxHeartbeats 1000000
namespace Pay
open Go
attribute [local irreducible] wpB opsB treeB drawB
theorem ref8Levels {C:Ctx}(h1:okFn C.P C.φ 196 g_ref08_whole=true)(h2:okFn C.P C.φ 208 g_ref08_chain=true)(h3:okFn C.P C.φ 214 g_ref08_factor=true)(K:R8K C) :
    ∀ k:Nat,k≤20→HExC C 214 [vI ((21-k:Nat):Int)] (fun en=>facP en k)∧HExC C 196 [vI ((21-k:Nat):Int)] (fun en=>exprP en k)
  | 0,_=>⟨ref8Factor0 h3 K,ref8Whole0 h1 K⟩
  | k+1,hk=>by
    obtain ⟨i1,i2⟩:=ref8Levels h1 h2 h3 K k (by omega)
    have ed:21-k=21-(k+1)+1:=by omega
    rw [ed] at i1 i2
    have hd:21-(k+1)≤20:=by omega
    generalize 21-(k+1)=d at *
    have w1:IntKind.i64.wrap (0+1)=1:=by decide
    have w2:IntKind.i64.wrap (1+1)=2:=by decide
    have w3:IntKind.i64.wrap (2+1)=3:=by decide
    have f1:HExC C 214 [vI d] (fun en=>facP en (k+1)):=ref8Factor h3 K hd (fun en=>facP_step en k) (fun en=>exprP_step en k) i1 i2
    have c3:HExC C 208 [vI d,vI 3] (fun en=>facP en (k+1)):=ref8Chain3 (f:=fun en=>facP en (k+1)) h2 f1
    have c2:HExC C 208 [vI d,vI 2] (fun en=>prodS (facP en (k+1))):=ref8Chain (n:=2) (ops:=mulL) h2 K rfl rfl (fun en=>facP_step en (k+1)) w3 c3 K.level.2.2 (by decide) (by decide)
    have c1:HExC C 208 [vI d,vI 1] (fun en=>sumS (facP en (k+1))):=ref8Chain (n:=1) (ops:=sumL) h2 K rfl rfl (fun en=>prod_step (facP_step en (k+1))) w2 c2 K.level.2.1 (by decide) (by decide)
    have c0:HExC C 208 [vI d,vI 0] (fun en=>cmpS (sumS (facP en (k+1)))):=ref8Chain0 h2 K (fun en=>sum_step (facP_step en (k+1))) c1
    exact ⟨f1,ref8Whole h1 K hd (fun en=>sum_step (facP_step en (k+1))) (fun en=>exprP_step en k) c0 i2⟩
def rR:List Rul→Option (List (List D))
  | []=>none
  | r::l=>some ((r::l).map encRl)
theorem rR_snoc (l:List Rul)(x:Rul):rR (l++[x])=some (l.map encRl++[encRl x]):=by cases l <;> simp [rR]
theorem word_kind {all:List Tok}{x:PS}(hp:PK all x){t:Tok}{r:List Tok}(hts:x.ts=t::r)(hw:kindsL.contains (wordT x)=true):t.kind=1∧wordT x=t.text:=by
  have hg:=hp.good t (hp.head hts)
  unfold wordT at hw ⊢
  rw [hts] at hw ⊢
  simp only at hw ⊢
  by_cases hs:signT t=true
  · rw [if_pos hs] at hw ⊢
    refine ⟨?_,rfl⟩
    have hm:t.text∈kindsL:=by simpa using hw
    obtain ⟨c,u,e,hl⟩:∃ c u,t.text=c::u∧letB c=true:=by
      simp only [kindsL,List.mem_cons,List.not_mem_nil,or_false] at hm
      rcases hm with e|e|e|e <;> rw [e] <;> exact ⟨_,_,rfl,by decide⟩
    rw [e] at hg
    have:=(good_kind hg).1
    rw [hl] at this
    simpa using this
  · rw [if_neg hs] at hw
    exact absurd hw (by decide)
abbrev zP:Ob:=.box [.cap0,.cap0]
abbrev mP (all:List Tok) (en:Nat) (x:PS):List (Nat × Option Ob):=[(2,some zP),(7,some (.box (cC (rR x.rules) all en x))),(108,oC (rR x.rules))]
theorem wrongP {C:Ctx}(K:R8K C){all:List Tok}{en:Nat}{x:PS}(hp:PK all x)(e:Int):SoundAt C 194 ⟨[sC (rR x.rules) all en x,vI e],looko [(108,oC (rR x.rules))]⟩ ⟨sC (rR (failS en e x).rules) all en (failS en e x),looko [(108,oC (rR x.rules))]⟩:=by
  have:=K.wrong e (r:=rR x.rules) (en:=en) hp
  have h:(failS en e x).rules=x.rules:=(fail_step en e x).rules
  rw [h];exact this
theorem rV_n:rV none = .cap0:=rfl
theorem rV_s (es:List (List D)):rV (some es) = .own 108:=rfl
theorem oC_n:oC none=none:=rfl
theorem oC_s (es:List (List D)):oC (some es)=some (.row 3 es):=rfl
theorem rR_cases (l:List Rul):(l=[]∧rR l=none)∨rR l=some (l.map encRl):=by cases l <;> simp [rR]
theorem scrub_slV {α:Type}(m:Nat)(f:α→List D)(l:List α):scrubV m (slV f l)=slV f l:=by unfold scrubV;rw [slV_refs];rfl
theorem fail_rules (en:Nat)(e:Int)(x:PS):(failS en e x).rules=x.rules:=(fail_step en e x).rules
set_option maxHeartbeats 4000000 in
theorem parse8_loop {C:Ctx} (K:R8K C) (hE:HExC C 196 [vI 1] (fun en=>exprP en 20)) {I:Nat→Prop} (hI:∀ n,¬I n) {Q:Ex→St→Prop} {all:List Tok} {en:Nat} {res:PS}
    (hT:∀ t,t 2 = .ptr 2 0→t 7 = .ptr 7 0→PK all res→Q (.exit 0) (St.mk t (looko (mP all en res)))) :
    ∀ (n:Nat) (x:PS),PK all x→x.ts.length≤n∨x.err≠0→progL en n x=res →
      wpB C I g_ref08_Parse.l0 (St.mk (look [(2,.ptr 2 0),(5,.d (.sl (all.map encT))),(7,.ptr 7 0)]) (looko (mP all en x))) Q:=by
  intro n
  induction n with
  | zero =>
    intro x hp hn hr
    have hr:x=res:=hr
    subst hr
    refine w_loopC (L:=g_ref08_Parse.l0) rfl ?_
    by_cases hx:x.err=0
    · have hts:x.ts=[]:=List.eq_nil_of_length_eq_zero (by
        rcases hn with h|h
        · omega
        · exact absurd hx h)
      have e:=hp.nil hts
      have hb:(x.err==0)=true:=by simp [hx]
      repeat (first|simp only [go_sem,List.length_map,e,Int.lt_irrefl,decide_false,hb]|refine Unf.h ?_)
      exact hT _ rfl rfl hp
    · have hb:(x.err==0)=false:=by simp [hx]
      by_cases hlt:((atN all x.ts:Int)<(all.length:Int))
      · repeat (first|simp only [go_sem,List.length_map,hlt,decide_true,hb]|refine Unf.h ?_)
        exact hT _ rfl rfl hp
      · repeat (first|simp only [go_sem,List.length_map,hlt,decide_false,hb]|refine Unf.h ?_)
        exact hT _ rfl rfl hp
  | succ n ih =>
    intro x hp hn hr
    rw [show progL en (n+1) x=if x.ts=[]∨x.err≠0 then x else progL en n (ruleS en x) from rfl] at hr
    refine w_loopC (L:=g_ref08_Parse.l0) rfl ?_
    by_cases hx:x.err=0
    case neg =>
      rw [if_pos (.inr hx)] at hr
      subst hr
      have hb:(x.err==0)=false:=by simp [hx]
      by_cases hlt:((atN all x.ts:Int)<(all.length:Int))
      · repeat (first|simp only [go_sem,List.length_map,hlt,decide_true,hb]|refine Unf.h ?_)
        exact hT _ rfl rfl hp
      · repeat (first|simp only [go_sem,List.length_map,hlt,decide_false,hb]|refine Unf.h ?_)
        exact hT _ rfl rfl hp
    have hb:(x.err==0)=true:=by simp [hx]
    cases hts:x.ts with
    | nil =>
      rw [if_pos (.inl hts)] at hr
      subst hr
      have e:=hp.nil hts
      repeat (first|simp only [go_sem,List.length_map,e,Int.lt_irrefl,decide_false,hb]|refine Unf.h ?_)
      exact hT _ rfl rfl hp
    | cons t r =>
      rw [if_neg (by rw [hts];simp [hx])] at hr
      obtain ⟨e1,e2,e3⟩:=hp.cons hts
      have ha:=hp.at1 hts
      have hlt:((atN all x.ts:Int)<(all.length:Int)):=by omega
      have ht:=K.text (r:=rR x.rules) (en:=en) hp
      have h1:=K.one (wordT x) kindsL (by decide)
      have hrl:x.rules.length<100000:=by have:=hp.rules;have:=hp.len;omega
      have hstop:∀ y:PS,y.err≠0→ruleS en x=y→y=res:=fun y hy he=>by
        rw [he,progL_stop en n y (.inr hy)] at hr
        exact hr
      by_cases hc:kindsL.contains (wordT x)=true
      case neg =>
        have hc:kindsL.contains (wordT x)=false:=by simpa using hc
        have hk:takeT kindsL x=none:=by
          cases hk:takeT kindsL x with
          | none=>rfl
          | some p =>
            obtain ⟨wt,_⟩:=word_some (u:=p.1) (y:=p.2) hk
            rw [wt] at hc;cases hc
        have hru:ruleS en x=failS en 2 x:=by
          have hno:¬(60≤x.rules.length∧t.kind=1∧kindsL.contains t.text=true):=by
            rintro ⟨_,k1,k2⟩
            have:wordT x=t.text:=by unfold wordT signT;rw [hts];simp [k1]
            rw [this,k2] at hc;cases hc
          unfold ruleS;rw [hts];simp only;rw [if_neg hno,hk]
        rw [hc] at h1
        have tw:=wrongP K (en:=en) hp 2
        have hfe:=fail_err en (e:=2) (by decide) x
        have hbf:((failS en 2 x).err==0)=false:=by simp [hfe]
        have hres:=hstop _ hfe hru
        rw [← fail_rules en 2 x] at tw
        have hTT:=hT
        rw [← hres] at hTT
        have hp':=hp.step (fail_step en 2 x)
        rw [fail_rules] at tw
        simp only [mP,fail_rules] at hTT
        repeat (first|simp only [go_sem,List.length_map,hlt,decide_true,hb,bne,partsN,hbf]|refine Unf.h ?_|refine callK_c (ht) (by simp only [go_sem,List.length_map,hlt,decide_true,hb,bne,partsN,hbf]) (by intro n hn;first|(cases hn;done)|(simpa [V.refs,V.refsL,slV_refs] using hn)) ?_|refine callK_c (tw) (by simp only [go_sem,List.length_map,hlt,decide_true,hb,bne,partsN,hbf]) (by intro n hn;first|(cases hn;done)|(simpa [V.refs,V.refsL,slV_refs] using hn)) ?_|refine callK_plain (h1) (fun _=>rfl) ?_)
        exact hTT _ rfl rfl hp'
      rw [hc] at h1
      obtain ⟨k1,hwt⟩:=word_kind hp hts hc
      have hwr:∀ (e:Int) (y:PS),ruleS en x=failS en e y→e≠0→y.rules=x.rules→PK all y→(∀ t,t 2 = .ptr 2 0→t 7 = .ptr 7 0→Q (.exit 0) (St.mk t (looko [(2,some zP),(7,some (.box (cC (rR x.rules) all en (failS en e y)))),(108,oC (rR x.rules))]))) ∧
          SoundAt C 194 ⟨[sC (rR x.rules) all en y,vI e],looko [(108,oC (rR x.rules))]⟩ ⟨sC (rR x.rules) all en (failS en e y),looko [(108,oC (rR x.rules))]⟩∧((failS en e y).err==0)=false:=by
        intro e y hru he hy hpy
        have hfe:=fail_err en he y
        have hres:=hstop _ hfe hru
        have hTT:=hT
        rw [← hres] at hTT
        simp only [mP,fail_rules,hy] at hTT
        exact ⟨fun t q1 q2=>hTT t q1 q2 (hpy.step (fail_step en e y)),K.wrong e (r:=rR x.rules) (en:=en) hpy,by simp [hfe]⟩
      by_cases h60:60≤x.rules.length
      · have hru:ruleS en x=failS en 9 x:=by
          unfold ruleS;rw [hts];simp only
          rw [if_pos ⟨h60,k1,by rw [← hwt];exact hc⟩]
        obtain ⟨hTT,tw,hbf⟩:=hwr 9 x hru (by decide) rfl hp
        have hgt:((x.rules.length:Int)>59):=by omega
        rcases rR_cases x.rules with ⟨e0,e⟩|e
        · rw [e0] at h60;simp at h60
        · simp only [mP]
          rw [e] at hTT tw ht ⊢
          repeat (first|simp only [go_sem,List.length_map,hlt,decide_true,hb,bne,partsN,hbf,hgt,rV_s,oC_s]|refine Unf.h ?_|refine callK_c (ht) (by simp only [go_sem,List.length_map,hlt,decide_true,hb,bne,partsN,hbf,hgt,rV_s,oC_s]) (by intro n hn;first|(cases hn;done)|(simpa [V.refs,V.refsL,slV_refs] using hn)) ?_|refine callK_c (tw) (by simp only [go_sem,List.length_map,hlt,decide_true,hb,bne,partsN,hbf,hgt,rV_s,oC_s]) (by intro n hn;first|(cases hn;done)|(simpa [V.refs,V.refsL,slV_refs] using hn)) ?_|refine callK_plain (h1) (fun _=>rfl) ?_)
          exact hTT _ rfl rfl
      have hgt:¬((x.rules.length:Int)>59):=by omega
      have hgt0:¬((0:Int)>59):=by omega
      have hk:takeT kindsL x=some (t.text,x.go r):=by
        unfold takeT;rw [if_pos hx,hts];simp only
        rw [if_pos ⟨by unfold signT;simp [k1],by rw [← hwt];exact hc⟩]
      obtain ⟨hp0,hm0⟩:=hp.take hk
      have hru0:∀ q,q=r→ruleS en x=match q with
          | []=>failS en 2 (x.go r)
          | m :: r2=>if m.kind=1∧namedB m.text=true then
              let e:=exprP en 20 (needS en [61] ((x.go r).go r2))
              let z:=needS en [59] e.1
              { z with rules:=z.rules++[⟨t.text,m.text,e.2⟩] }
            else failS en 2 (x.go r):=by
        intro q hq
        subst hq
        unfold ruleS;rw [hts];simp only
        rw [if_neg (fun h=>h60 h.1),hk]
        cases q <;> rfl
      rw [hwt] at ht h1
      cases r with
      | nil =>
        obtain ⟨hTT,tw,hbf⟩:=hwr 2 (x.go []) (hru0 [] rfl) (by decide) rfl hp0
        have e:=hp0.nil rfl
        have e:atN all ([]:List Tok)=all.length:=e
        have hge:((all.length:Int)≥(all.length:Int)):=by omega
        rw [e] at ha
        rcases rR_cases x.rules with ⟨e0,er⟩|er
        · simp only [mP]
          rw [er] at hTT tw ht ⊢
          repeat (first|simp only [go_sem,List.length_map,hlt,decide_true,decide_false,hb,bne,partsN,hbf,hgt0,rV_n,oC_n,ha,hge]|refine Unf.h ?_|refine callK_c (ht) (by simp only [go_sem,List.length_map,hlt,decide_true,decide_false,hb,bne,partsN,hbf,hgt0,rV_n,oC_n,ha,hge]) (by intro n hn;first|(cases hn;done)|(simpa [V.refs,V.refsL,slV_refs] using hn)) ?_|refine callK_c (tw) (by simp only [go_sem,List.length_map,hlt,decide_true,decide_false,hb,bne,partsN,hbf,hgt0,rV_n,oC_n,ha,hge]) (by intro n hn;first|(cases hn;done)|(simpa [V.refs,V.refsL,slV_refs] using hn)) ?_|refine callK_plain (h1) (fun _=>rfl) ?_)
          exact hTT _ rfl rfl
        · simp only [mP]
          rw [er] at hTT tw ht ⊢
          repeat (first|simp only [go_sem,List.length_map,hlt,decide_true,decide_false,hb,bne,partsN,hbf,hgt,rV_s,oC_s,ha,hge]|refine Unf.h ?_|refine callK_c (ht) (by simp only [go_sem,List.length_map,hlt,decide_true,decide_false,hb,bne,partsN,hbf,hgt,rV_s,oC_s,ha,hge]) (by intro n hn;first|(cases hn;done)|(simpa [V.refs,V.refsL,slV_refs] using hn)) ?_|refine callK_c (tw) (by simp only [go_sem,List.length_map,hlt,decide_true,decide_false,hb,bne,partsN,hbf,hgt,rV_s,oC_s,ha,hge]) (by intro n hn;first|(cases hn;done)|(simpa [V.refs,V.refsL,slV_refs] using hn)) ?_|refine callK_plain (h1) (fun _=>rfl) ?_)
          exact hTT _ rfl rfl
      | cons m r2 =>
        have hru1:=hru0 _ rfl
        simp only at hru1
        obtain ⟨f1,f2,f3⟩:=hp0.cons rfl
        have f1:atN all (m::r2)<all.length:=f1
        have f2:all[atN all (m::r2)]? = some m:=f2
        have hb2:=hp0.at1 rfl
        have hb2:IntKind.i64.wrap ((atN all (m::r2):Int)+1)=(atN all r2:Int):=hb2
        have hge:¬((atN all (m::r2):Int)≥(all.length:Int)):=by omega
        have hl2:((atN all (m::r2):Int)<(all.length:Int)):=by omega
        have gm:=getMap encT f2
        have tt:=K.taken m.text
        by_cases hm:m.kind=1∧namedB m.text=true
        case neg =>
          rw [if_neg hm] at hru1
          obtain ⟨hTT,tw,hbf⟩:=hwr 2 (x.go (m::r2)) hru1 (by decide) rfl hp0
          by_cases hm1:m.kind=1
          · have b1:(m.kind==1)=true:=by simp [hm1]
            have b2:takenL.contains m.text=true:=by
              cases hcc:takenL.contains m.text with
              | true=>rfl
              | false=>exact absurd ⟨hm1,by unfold namedB;rw [hcc];rfl⟩ hm
            rw [b2] at tt
            rcases rR_cases x.rules with ⟨e0,er⟩|er
            · simp only [mP]
              rw [er] at hTT tw ht ⊢
              repeat (first|simp only [go_sem,List.length_map,hlt,decide_true,decide_false,hb,bne,partsN,hbf,hgt0,rV_n,oC_n,ha,hge,hl2,Int.natCast_nonneg,Int.toNat_natCast,gm,encT,b1]|refine Unf.h ?_|refine callK_c (ht) (by simp only [go_sem,List.length_map,hlt,decide_true,decide_false,hb,bne,partsN,hbf,hgt0,rV_n,oC_n,ha,hge,hl2,Int.natCast_nonneg,Int.toNat_natCast,gm,encT,b1]) (by intro n hn;first|(cases hn;done)|(simpa [V.refs,V.refsL,slV_refs] using hn)) ?_|refine callK_c (tw) (by simp only [go_sem,List.length_map,hlt,decide_true,decide_false,hb,bne,partsN,hbf,hgt0,rV_n,oC_n,ha,hge,hl2,Int.natCast_nonneg,Int.toNat_natCast,gm,encT,b1]) (by intro n hn;first|(cases hn;done)|(simpa [V.refs,V.refsL,slV_refs] using hn)) ?_|refine callK_plain (h1) (fun _=>rfl) ?_|refine callK_plain (tt) (fun _=>rfl) ?_)
              exact hTT _ rfl rfl
            · simp only [mP]
              rw [er] at hTT tw ht ⊢
              repeat (first|simp only [go_sem,List.length_map,hlt,decide_true,decide_false,hb,bne,partsN,hbf,hgt,rV_s,oC_s,ha,hge,hl2,Int.natCast_nonneg,Int.toNat_natCast,gm,encT,b1]|refine Unf.h ?_|refine callK_c (ht) (by simp only [go_sem,List.length_map,hlt,decide_true,decide_false,hb,bne,partsN,hbf,hgt,rV_s,oC_s,ha,hge,hl2,Int.natCast_nonneg,Int.toNat_natCast,gm,encT,b1]) (by intro n hn;first|(cases hn;done)|(simpa [V.refs,V.refsL,slV_refs] using hn)) ?_|refine callK_c (tw) (by simp only [go_sem,List.length_map,hlt,decide_true,decide_false,hb,bne,partsN,hbf,hgt,rV_s,oC_s,ha,hge,hl2,Int.natCast_nonneg,Int.toNat_natCast,gm,encT,b1]) (by intro n hn;first|(cases hn;done)|(simpa [V.refs,V.refsL,slV_refs] using hn)) ?_|refine callK_plain (h1) (fun _=>rfl) ?_|refine callK_plain (tt) (fun _=>rfl) ?_)
              exact hTT _ rfl rfl
          · have b1:(m.kind==1)=false:=by simp [hm1]
            rcases rR_cases x.rules with ⟨e0,er⟩|er
            · simp only [mP]
              rw [er] at hTT tw ht ⊢
              repeat (first|simp only [go_sem,List.length_map,hlt,decide_true,decide_false,hb,bne,partsN,hbf,hgt0,rV_n,oC_n,ha,hge,hl2,Int.natCast_nonneg,Int.toNat_natCast,gm,encT,b1]|refine Unf.h ?_|refine callK_c (ht) (by simp only [go_sem,List.length_map,hlt,decide_true,decide_false,hb,bne,partsN,hbf,hgt0,rV_n,oC_n,ha,hge,hl2,Int.natCast_nonneg,Int.toNat_natCast,gm,encT,b1]) (by intro n hn;first|(cases hn;done)|(simpa [V.refs,V.refsL,slV_refs] using hn)) ?_|refine callK_c (tw) (by simp only [go_sem,List.length_map,hlt,decide_true,decide_false,hb,bne,partsN,hbf,hgt0,rV_n,oC_n,ha,hge,hl2,Int.natCast_nonneg,Int.toNat_natCast,gm,encT,b1]) (by intro n hn;first|(cases hn;done)|(simpa [V.refs,V.refsL,slV_refs] using hn)) ?_|refine callK_plain (h1) (fun _=>rfl) ?_|refine callK_plain (tt) (fun _=>rfl) ?_)
              exact hTT _ rfl rfl
            · simp only [mP]
              rw [er] at hTT tw ht ⊢
              repeat (first|simp only [go_sem,List.length_map,hlt,decide_true,decide_false,hb,bne,partsN,hbf,hgt,rV_s,oC_s,ha,hge,hl2,Int.natCast_nonneg,Int.toNat_natCast,gm,encT,b1]|refine Unf.h ?_|refine callK_c (ht) (by simp only [go_sem,List.length_map,hlt,decide_true,decide_false,hb,bne,partsN,hbf,hgt,rV_s,oC_s,ha,hge,hl2,Int.natCast_nonneg,Int.toNat_natCast,gm,encT,b1]) (by intro n hn;first|(cases hn;done)|(simpa [V.refs,V.refsL,slV_refs] using hn)) ?_|refine callK_c (tw) (by simp only [go_sem,List.length_map,hlt,decide_true,decide_false,hb,bne,partsN,hbf,hgt,rV_s,oC_s,ha,hge,hl2,Int.natCast_nonneg,Int.toNat_natCast,gm,encT,b1]) (by intro n hn;first|(cases hn;done)|(simpa [V.refs,V.refsL,slV_refs] using hn)) ?_|refine callK_plain (h1) (fun _=>rfl) ?_|refine callK_plain (tt) (fun _=>rfl) ?_)
              exact hTT _ rfl rfl
        rw [if_pos hm] at hru1
        have b1:(m.kind==1)=true:=by simp [hm.1]
        have b2:takenL.contains m.text=false:=by
          have:=hm.2
          unfold namedB at this
          simpa using this
        rw [b2] at tt
        have hp1:PK all ((x.go (m::r2)).go r2):=hp0.go rfl
        have hpn:=hp1.step (need_step en [61] _)
        have hpe:=hpn.step (exprP_step en 20 _)
        have hpz:=hpe.step (need_step en [59] _)
        have s1:=K.must [61] (by decide) (r:=rR x.rules) (en:=en) hp1
        have s2:=hE (r:=rR x.rules) (en:=en) hpn
        have s3:=K.must [59] (by decide) (r:=rR x.rules) (en:=en) hpe
        have hzr:(needS en [59] (exprP en 20 (needS en [61] ((x.go (m::r2)).go r2))).1).rules=x.rules :=
          (((need_step en [61] _).trans (exprP_step en 20 _)).trans (need_step en [59] _)).rules
        rw [hru1] at hr
        have hp':=hp.rule (en:=en)
        rw [hru1] at hp'
        have hless:=rule_less en x
        rw [hru1] at hless
        have ih':=ih _ hp' (by
          rcases hless with h|h
          · exact .inr h
          · refine .inl ?_
            rcases hn with h'|h'
            · omega
            · exact absurd hx h') hr
        simp only [mP,hzr,rR_snoc] at ih'
        clear hp' hless hzr hru1 hru0 hwr hstop ih hr
        dsimp only at s1 s2 s3
        generalize needS en [61] ((x.go (m::r2)).go r2)=y1 at *
        generalize exprP en 20 y1=y2 at *
        obtain ⟨y2,a2⟩:=y2
        simp only at s2 s3 ih' hpe hpz
        generalize needS en [59] y2=y3 at *
        have hbd:((x.rules.map encRl).length+1)*40≤140737488355328:=by rw [List.length_map];omega
        have hbd2:(x.rules.map encRl).length+1≤140737488355328:=by rw [List.length_map];omega
        rcases rR_cases x.rules with ⟨e0,er⟩|er
        · simp only [mP]
          rw [er] at s1 s2 s3 ht ⊢
          repeat (first|simp only [go_sem,List.length_map,hlt,decide_true,decide_false,hb,bne,partsN,hgt0,rV_n,oC_n,ha,hb2,hge,hl2,Int.natCast_nonneg,Int.toNat_natCast,gm,encT,b1,hI]|refine Unf.h ?_|refine callK_c (ht) (by simp only [go_sem,List.length_map,hlt,decide_true,decide_false,hb,bne,partsN,hgt0,rV_n,oC_n,ha,hb2,hge,hl2,Int.natCast_nonneg,Int.toNat_natCast,gm,encT,b1,hI]) (by intro n hn;first|(cases hn;done)|(simpa [V.refs,V.refsL,slV_refs] using hn)) ?_|refine callK_c (s1) (by simp only [go_sem,List.length_map,hlt,decide_true,decide_false,hb,bne,partsN,hgt0,rV_n,oC_n,ha,hb2,hge,hl2,Int.natCast_nonneg,Int.toNat_natCast,gm,encT,b1,hI]) (by intro n hn;first|(cases hn;done)|(simpa [V.refs,V.refsL,slV_refs] using hn)) ?_|refine callK_c (s2) (by simp only [go_sem,List.length_map,hlt,decide_true,decide_false,hb,bne,partsN,hgt0,rV_n,oC_n,ha,hb2,hge,hl2,Int.natCast_nonneg,Int.toNat_natCast,gm,encT,b1,hI]) (by intro n hn;first|(cases hn;done)|(simpa [V.refs,V.refsL,slV_refs] using hn)) ?_|refine callK_c (s3) (by simp only [go_sem,List.length_map,hlt,decide_true,decide_false,hb,bne,partsN,hgt0,rV_n,oC_n,ha,hb2,hge,hl2,Int.natCast_nonneg,Int.toNat_natCast,gm,encT,b1,hI]) (by intro n hn;first|(cases hn;done)|(simpa [V.refs,V.refsL,slV_refs] using hn)) ?_|refine callK_plain (h1) (fun _=>rfl) ?_|refine callK_plain (tt) (fun _=>rfl) ?_)
          rw [e0] at ih'
          exact ih'
        · simp only [mP]
          rw [er] at s1 s2 s3 ht ⊢
          repeat (first|simp only [go_sem,List.length_map,hlt,decide_true,decide_false,hb,bne,partsN,hgt,rV_s,oC_s,ha,hb2,hge,hl2,Int.natCast_nonneg,Int.toNat_natCast,gm,encT,b1,hI]|refine Unf.h ?_|refine callK_c (ht) (by simp only [go_sem,List.length_map,hlt,decide_true,decide_false,hb,bne,partsN,hgt,rV_s,oC_s,ha,hb2,hge,hl2,Int.natCast_nonneg,Int.toNat_natCast,gm,encT,b1,hI]) (by intro n hn;first|(cases hn;done)|(simpa [V.refs,V.refsL,slV_refs] using hn)) ?_|refine callK_c (s1) (by simp only [go_sem,List.length_map,hlt,decide_true,decide_false,hb,bne,partsN,hgt,rV_s,oC_s,ha,hb2,hge,hl2,Int.natCast_nonneg,Int.toNat_natCast,gm,encT,b1,hI]) (by intro n hn;first|(cases hn;done)|(simpa [V.refs,V.refsL,slV_refs] using hn)) ?_|refine callK_c (s2) (by simp only [go_sem,List.length_map,hlt,decide_true,decide_false,hb,bne,partsN,hgt,rV_s,oC_s,ha,hb2,hge,hl2,Int.natCast_nonneg,Int.toNat_natCast,gm,encT,b1,hI]) (by intro n hn;first|(cases hn;done)|(simpa [V.refs,V.refsL,slV_refs] using hn)) ?_|refine callK_c (s3) (by simp only [go_sem,List.length_map,hlt,decide_true,decide_false,hb,bne,partsN,hgt,rV_s,oC_s,ha,hb2,hge,hl2,Int.natCast_nonneg,Int.toNat_natCast,gm,encT,b1,hI]) (by intro n hn;first|(cases hn;done)|(simpa [V.refs,V.refsL,slV_refs] using hn)) ?_|refine callK_plain (h1) (fun _=>rfl) ?_|refine callK_plain (tt) (fun _=>rfl) ?_)
          refine ⟨by omega,by omega,?_⟩
          rw [scrub_slV]
          exact ih'
end Pay
