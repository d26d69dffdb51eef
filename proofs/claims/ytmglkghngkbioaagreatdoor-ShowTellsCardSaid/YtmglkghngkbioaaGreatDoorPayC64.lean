/- Contracts: a rule; a rule set. -/
import Derived.Test.YtmglkghngkbioaaGreatDoorPayC63
set_option linter.unusedSimpArgs false
set_option linter.unusedVariables false
set_option maxHeartbeats 1000000
namespace Pay
open Go
attribute [local irreducible] wpB opsB treeB drawB
def X77 (n:Nat):Prop:=n=13∨n=77
theorem I77 {all:List Tok}{en:Nat}{x:PS}{vs:List V}(n:Nat)(h:(⟨vs,looko (oL (pL all en x))⟩:CS).o n≠none)(hx:¬X77 n):n=24:=by
  have h:(looko (oL (pL all en x)) n).isSome=true:=Option.isSome_iff_ne_none.2 h
  rw [oL_names] at h
  simp only [pL,List.map_cons,List.map_nil,List.contains_cons,List.contains_nil,Bool.or_false,Bool.or_eq_true,beq_iff_eq] at h
  unfold X77 at hx
  omega
def ruleB (en:Nat)(x:PS):Bool:=decide (60≤x.rules.length)&&((tokS en x.ts).kind==1)&&kindsL.contains (tokS en x.ts).text
theorem rule_eq (en:Nat) (x:PS):ruleS en x=if ruleB en x=true then failS en 9 x else match takeT kindsL x with
    | none=>failS en 2 x
    | some (kind,y)=>if (tokS en y.ts).kind=1∧namedB (tokS en y.ts).text=true then
        let e:=exprP en 20 (needS en [61] (y.go y.ts.tail))
        let z:=needS en [59] e.1
        { z with rules:=z.rules++[⟨kind,(tokS en y.ts).text,e.2⟩] }
      else failS en 2 y:=by
  have key:∀ (k:List UInt8) (y:PS),(match y.ts with
        | []=>failS en 2 y
        | n :: r=>if n.kind=1∧namedB n.text=true then
            let e:=exprP en 20 (needS en [61] (y.go r))
            let z:=needS en [59] e.1
            { z with rules:=z.rules++[⟨k,n.text,e.2⟩] }
          else failS en 2 y)=if (tokS en y.ts).kind=1∧namedB (tokS en y.ts).text=true then
        let e:=exprP en 20 (needS en [61] (y.go y.ts.tail))
        let z:=needS en [59] e.1
        { z with rules:=z.rules++[⟨k,(tokS en y.ts).text,e.2⟩] }
      else failS en 2 y:=by
    intro k y
    cases hy:y.ts with
    | nil=>rw [if_neg (fun h=>by cases h.1)]
    | cons n r=>rfl
  unfold ruleS ruleB
  cases hts:x.ts with
  | nil =>
    rw [take_nil hts]
    simp [tokS]
  | cons t r =>
    rw [show tokS en (t::r)=t from rfl]
    simp only
    by_cases h:60≤x.rules.length∧t.kind=1∧kindsL.contains t.text=true
    · rw [if_pos h,if_pos (by simp [h.1,h.2.1];simpa using h.2.2)]
    · rw [if_neg h,if_neg (by simp only [Bool.and_eq_true,decide_eq_true_eq,beq_iff_eq,and_assoc];exact h)]
      cases takeT kindsL x with
      | none=>rfl
      | some p=>exact key p.1 p.2
abbrev pT (all:List Tok) (en:Nat) (x:PS) (l:List (Nat × Option Ob)):List (Nat × Option Ob):=oL (pL all en x)++l
abbrev tB (t:Tok):Ob:=.box [vI t.kind,vS t.text,vI t.pos]
attribute [go_sem] pT tB pL oL
theorem rule_end {C:Ctx}(K:TreeK C)(hE:HPr C 221 [vI 1] (fun en=>exprP en 20)){all:List Tok}{en:Nat}{y:PS}{t n:Tok}{r:List Tok}{kind:List UInt8}(hp:PK all y)(hm:y.rules.length+1+y.ts.length≤all.length)(hts:y.ts=n::r){Q:Ex→St→Prop}{s:Nat→V}
    (h0:s 0 = .ptr 24 0) (h3:s 3=vS kind) (h5:s 5 = .ptr 5 0)
    (hT:∀ s o,objsIn (pL all en (let e:=exprP en 20 (needS en [61] (y.go r));let z:=needS en [59] e.1;{ z with rules:=z.rules++[⟨kind,n.text,e.2⟩] })) o→Q .normal (St.mk s o)) :
    wpB C (fun n=>n=24) g_tree_parser_rule.c3 (St.mk s (looko (pT all en y [(2,some (tB t)),(5,some (tB n))]))) Q:=by
  obtain ⟨e1,e2,e3⟩:=hp.cons hts
  rw [hts] at e1 e2 e3
  have hw:IntKind.i64.wrap ((atN all (n::r):Int)+1)=(atN all r:Int):=by
    have:=hp.len
    rw [e3,wrapI (by omega) (by omega)];omega
  have hp0:=hp.go hts
  have hp1:=hp0.step (need_step en [61] _)
  have hp2:=hp1.step (exprP_step en 20 _)
  have t1:=K.need (en:=en) hp0 [61]
  have t2:=hE (en:=en) hp1
  dsimp only at t2
  have t3:=K.need (en:=en) hp2 [59]
  have hlast:Step y (needS en [59] (exprP en 20 (needS en [61] (y.go r))).1):=by
    have s0:Step y (y.go r):=⟨by rw [hts];exact List.suffix_cons n r,rfl,by rw [hts];simp,List.prefix_refl _,fun _=>⟨rfl,rfl⟩⟩
    exact ((s0.trans (need_step en _ _)).trans (exprP_step en 20 _)).trans (need_step en _ _)
  have hl:(needS en [59] (exprP en 20 (needS en [61] (y.go r))).1).rules.length<100000:=by
    have:=hp.len
    rw [hlast.rules];omega
  simp only at hT
  obtain ⟨z,hz⟩:∃ z,needS en [59] (exprP en 20 (needS en [61] (y.go r))).1=z:=⟨_,rfl⟩
  obtain ⟨e,he⟩:∃ e,exprP en 20 (needS en [61] (y.go r))=e:=⟨_,rfl⟩
  obtain ⟨w,hw'⟩:∃ w,needS en [61] (y.go r)=w:=⟨_,rfl⟩
  rw [hw'] at t1 t2 he t3 hT hz hl
  rw [he] at t2 t3 hT hz hl
  rw [hz] at t3 hT hl
  have hl1:(z.rules.length+1)*40≤140737488355328:=by omega
  have hl2:z.rules.length≤140737488355327:=by omega
  repeat (first|simp only [go_sem,h0,h3,h5,hts,hw]|refine Unf.h ?_)
  refine callK_ps (t1) ?_ (fun _=>rfl) ?_
  · simp only [go_sem,pB,h0,h3,h5]
  repeat (first|simp only [go_sem,h0,h3,h5]|refine Unf.h ?_)
  refine callK_px t2 ?_ (fun _=>rfl) ?_
  · simp only [go_sem,h0,h3,h5,pB]
  repeat (first|simp only [go_sem,h0,h3,h5]|refine Unf.h ?_)
  refine callK_ps (t3) ?_ (fun _=>rfl) ?_
  · simp only [go_sem,pB,h0,h3,h5]
  repeat' (first|simp only [go_sem,h0,h3,h5,partsN,List.length_map,hl1,hl2]|refine Unf.h ?_|refine And.intro ?_ ?_)
  all_goals first|(refine hT _ _ ?_;simp only [go_sem,List.map_append];rfl)|skip
theorem rule_tail {C:Ctx} (K:TreeK C) (hKi:SoundAt C 157 ⟨[],looko []⟩ ⟨vStrs kindsL,looko []⟩) (hE:HPr C 221 [vI 1] (fun en=>exprP en 20)) {all:List Tok} {en:Nat} {x:PS} {t:Tok} (hp:PK all x) {Q:Ex→St→Prop} {s:Nat→V}
    (h0:s 0 = .ptr 24 0) (h26:s 26=vB (ruleB en x))
    (hT:∀ e s o,(e = .normal∨e = .ret)→objsIn (pL all en (ruleS en x)) o→Q e (St.mk s o)) :
    wpB C (fun n=>n=24) g_tree_parser_rule.c0 (St.mk s (looko (pT all en x [(2,some (tB t))]))) (seqK (fun st=>wpB C (fun n=>n=24) g_tree_parser_rule.c7 st Q) Q):=by
  rw [rule_eq] at hT
  have f9:=K.fail (en:=en) hp 9
  have f2:=K.fail (en:=en) hp 2
  cases hb:ruleB en x with
  | true =>
    rw [hb] at h26
    rw [if_pos hb] at hT
    repeat (first|simp only [go_sem,h0,h26]|refine Unf.h ?_)
    refine callK_ps (f9) ?_ (fun _=>rfl) ?_
    · simp only [go_sem,pB,h0]
    repeat (first|simp only [go_sem,h0]|refine Unf.h ?_)
    refine hT .ret _ _ (.inr rfl) ?_
    simp only [go_sem]
  | false =>
    rw [hb] at h26
    rw [if_neg (by rw [hb];simp)] at hT
    have ht:=K.take (en:=en) hp kindsL (by decide)
    repeat (first|simp only [go_sem,h0,h26]|refine Unf.h ?_)
    refine callK_plain hKi (fun _=>rfl) ?_
    repeat (first|simp only [go_sem,h0]|refine Unf.h ?_)
    refine callK_ps (ht) ?_ (takV_refs _) ?_
    · simp only [go_sem,pB,h0]
    cases hk:takeT kindsL x with
    | none =>
      rw [hk] at hT
      simp only at hT
      repeat (first|simp only [go_sem,h0,takV,takP]|refine Unf.h ?_)
      refine callK_ps (f2) ?_ (fun _=>rfl) ?_
      · simp only [go_sem,pB,h0]
      repeat (first|simp only [go_sem,h0]|refine Unf.h ?_)
      refine hT .ret _ _ (.inr rfl) ?_
      simp only [go_sem]
    | some p =>
      obtain ⟨kind,y⟩:=p
      rw [hk] at hT
      simp only at hT
      obtain ⟨hp1,hm1⟩:=hp.take hk
      have tk:=K.tok (en:=en) hp1
      have f2:=K.fail (en:=en) hp1 2
      obtain ⟨u,hu⟩:∃ u,tokS en y.ts=u:=⟨_,rfl⟩
      rw [hu] at tk hT
      repeat (first|simp only [go_sem,h0,takV,takP]|refine Unf.h ?_)
      refine callK_ps (tk) ?_ (fun _=>rfl) ?_
      · simp only [go_sem,pB,h0]
      by_cases k1:u.kind=1
      case neg =>
        have b1:(u.kind != 1)=true:=by simp [k1]
        rw [if_neg (fun h=>k1 h.1)] at hT
        repeat (first|simp only [go_sem,h0,b1]|refine Unf.h ?_)
        refine callK_ps (f2) ?_ (fun _=>rfl) ?_
        · simp only [go_sem,pB,h0]
        repeat (first|simp only [go_sem,h0]|refine Unf.h ?_)
        refine hT .ret _ _ (.inr rfl) ?_
        simp only [go_sem]
      have b1:(u.kind != 1)=false:=by simp [k1]
      have nm:=K.named u.text
      cases hn:namedB u.text with
      | false =>
        rw [hn] at nm
        rw [if_neg (fun h=>by rw [hn] at h;cases h.2)] at hT
        repeat (first|simp only [go_sem,h0,b1]|refine Unf.h ?_)
        refine callK_plain nm (fun _=>rfl) ?_
        repeat (first|simp only [go_sem,h0]|refine Unf.h ?_)
        refine callK_ps (f2) ?_ (fun _=>rfl) ?_
        · simp only [go_sem,pB,h0]
        repeat (first|simp only [go_sem,h0]|refine Unf.h ?_)
        refine hT .ret _ _ (.inr rfl) ?_
        simp only [go_sem]
      | true =>
        rw [hn] at nm
        rw [if_pos ⟨k1,hn⟩] at hT
        repeat (first|simp only [go_sem,h0,b1]|refine Unf.h ?_)
        refine callK_plain nm (fun _=>rfl) ?_
        repeat (first|simp only [go_sem,h0]|refine Unf.h (a:=opsB _ _ g_tree_parser_rule.o23 _ _) ?_|refine Unf.h (a:=wpB _ _ g_tree_parser_rule.c1 _ _) ?_)
        have hyr:y.rules.length+1+y.ts.length≤all.length:=by
          obtain ⟨_,t1,r1,e1,_,_,_,rfl⟩:=take_some hk
          have:=hp.rules
          rw [e1] at this
          simp at this ⊢;omega
        obtain ⟨n,r,hy⟩:∃ n r,y.ts=n::r:=by
          cases hy:y.ts with
          | nil=>rw [hy] at hu;subst hu;cases k1
          | cons n r=>exact ⟨n,r,rfl⟩
        have hu:n=u:=by rw [hy] at hu;exact hu
        subst hu
        have fin:=rule_end (t:=t) (kind:=kind) K hE hp1 hyr hy (Q:=Q) (s:=look [(0,V.ptr 24 0),(3,vS kind),(5,V.ptr 5 0),(49,V.d (D.bool false))]) rfl rfl rfl (fun s o h=>hT .normal s o (.inl rfl) (by rw [hy];exact h))
        exact fin
theorem treeRule {C:Ctx}(h:okFn C.P C.φ 153 g_tree_parser_rule=true)(K:TreeK C)(hKi:SoundAt C 157 ⟨[],looko []⟩ ⟨vStrs kindsL,looko []⟩)(hCon:HCon C)(hE:HPr C 221 [vI 1] (fun en=>exprP en 20)){all:List Tok}{en:Nat}{x:PS}(hp:PK all x) :
    SoundX C 153 X77 ⟨[.ptr 24 0],looko (oL (pL all en x))⟩ ⟨.tup [],looko (oL (pL all en (ruleS en x)))⟩:=by
  refine SoundX.of_run h rfl (fun n=>n=24) I77 (fun Q hR hN => ?_)
  simp only [oL,pL,pB,List.map_cons,List.map_nil]
  rw [entry1]
  have tk:=K.tok (en:=en) hp
  obtain ⟨u,hu⟩:∃ u,tokS en x.ts=u:=⟨_,rfl⟩
  rw [hu] at tk
  repeat (first|simp only [go_sem]|refine Unf.h ?_)
  refine callK_ps (tk) ?_ (fun _=>rfl) ?_
  · simp only [go_sem,pB]
  have key:∀ s:Nat→V,s 0 = .ptr 24 0→s 26=vB (ruleB en x)→wpB C (fun n=>n=24) g_tree_parser_rule.c0 (St.mk s (looko (pT all en x [(2,some (tB u))]))) (seqK (fun st=>wpB C (fun n=>n=24) g_tree_parser_rule.c7 st Q) Q) :=
    fun s h0 h26=>rule_tail K hKi hE hp h0 h26 (fun e s o he h=>by
      rcases he with rfl|rfl
      · exact hN _ (ends_objs (by simp only [go_sem] at h ⊢;exact h))
      · exact hR _ (ends_objs (by simp only [go_sem] at h ⊢;exact h)))
  unfold ruleB at key
  rw [hu] at key
  repeat (first|simp only [go_sem]|refine Unf.h (a:=wpB _ _ g_tree_parser_rule.code _ _) ?_|refine g_tree_parser_rule_c8_sh.mpr ?_)
  by_cases h1:60≤x.rules.length
  case neg =>
    have h1':¬((x.rules.length:Int)≥60):=by omega
    rw [decide_eq_false h1] at key
    simp only [Bool.false_and] at key
    repeat' (first|exact key _ rfl rfl|simp only [go_sem,List.length_map,h1',decide_false]|refine Unf.h ?_|refine And.intro ?_ ?_)
  have h1':((x.rules.length:Int)≥60):=by omega
  rw [decide_eq_true h1] at key
  simp only [Bool.true_and] at key
  cases hk:u.kind==1 with
  | false =>
    rw [hk] at key
    repeat' (first|exact key _ rfl rfl|simp only [go_sem,List.length_map,h1',decide_true,hk]|refine Unf.h ?_|refine And.intro ?_ ?_)
  | true =>
    rw [hk] at key
    have hc:=hCon kindsL u.text (by decide)
    obtain ⟨b,hb⟩:∃ b,kindsL.contains u.text=b:=⟨_,rfl⟩
    rw [hb] at hc key
    rw [Bool.true_and] at key
    repeat' (first|exact key _ rfl rfl|simp only [go_sem,List.length_map,h1',decide_true,hk]|refine Unf.h ?_|refine callE_plain hKi (fun _=>rfl) ?_|refine callE_plain hc (fun _=>rfl) ?_|refine And.intro ?_ ?_)
end Pay
