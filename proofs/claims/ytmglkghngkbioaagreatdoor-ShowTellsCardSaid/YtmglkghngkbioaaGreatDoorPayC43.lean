/- Contracts: what begins at a place of a rule set's text. -/
import Derived.Test.YtmglkghngkbioaaGreatDoorPayC41
import Derived.Test.YtmglkghngkbioaaGreatDoorPayC42
set_option linter.unusedSimpArgs false
set_option linter.unusedVariables false
set_option maxHeartbeats 1000000
namespace Pay
open Go
attribute [local irreducible] wpB opsB treeB drawB
def wholeB (s:List UInt8):Bool:=decide (s.length≤9)&&s.all digB&&(s==[48]||s.head? != some 48)
def figS (s:List UInt8):Int:=if (parseS s).2=true then 3 else if (rateP s).2=true then 4 else if wholeB s=true then 2 else 0
theorem runN_all (p:UInt8→Bool):∀ s:List UInt8,((runN p s:Int)==(s.length:Int))=s.all p
  | []=>rfl
  | c :: r=>by
    have ih:=runN_all p r
    rw [List.all_cons]
    cases hp:p c with
    | true =>
      rw [Bool.true_and,← ih]
      have e:runN p (c::r)=runN p r+1:=by rw [runN,List.takeWhile_cons,hp];rfl
      rw [e,List.length_cons,Bool.eq_iff_iff,beq_iff_eq,beq_iff_eq]
      omega
    | false =>
      have e:runN p (c::r)=0:=by rw [runN,List.takeWhile_cons,hp];rfl
      rw [e,List.length_cons,Bool.false_and,beq_eq_false_iff_ne]
      omega
theorem lexFigure {C:Ctx} (h:okFn C.P C.φ 109 g_lex_figure=true) (hP:∀ s:List UInt8,s.length<100000→SoundAt C 51 ⟨[vS s],looko []⟩ ⟨vIB (parseS s),looko []⟩)
    (hRt:∀ s:List UInt8,s.length<100000→SoundAt C 92 ⟨[vS s],looko []⟩ ⟨vIB (rateP s),looko []⟩)
    (hRun:∀ (s:List UInt8) (k:Nat),s.length<4611686018427387904→k≤s.length→SoundAt C 102 ⟨[vS s,vI k,.fn 107 []],looko []⟩ ⟨vI (runN digB (s.drop k)),looko []⟩)
    {c:UInt8} {s:List UInt8} (hc:s[0]? = some c) (hs:s.length<100000):SoundAt C 109 ⟨[vS s],looko []⟩ ⟨vI (figS s),looko []⟩:=by
  have t1:=hRun s 0 (by omega) (by omega)
  rw [List.drop_zero] at t1
  have e1:=runN_all digB s
  have e2:((c.toNat:Int) != 48)=(c != 48):=congrArg (!·) (byte_eq c 48)
  have e3:(s.head? != some (48:UInt8))=(c != 48):=by rw [List.head?_eq_getElem?,hc];simp [bne]
  refine SoundAt.of_run h rfl (fun Q hR hN => ?_)
  rw [entry1]
  cases h1:(parseS s).2 with
  | true=>repeat' (first|simp only [go_sem,h1,figS]|refine Unf.h ?_|refine callK_plain (hP _ hs) (fun _=>rfl) ?_|refine callK_plain (hRt _ hs) (fun _=>rfl) ?_|refine hR _ ?_|split)
  | false =>
    cases h2:(rateP s).2 with
    | true=>repeat' (first|simp only [go_sem,h1,h2,figS]|refine Unf.h ?_|refine callK_plain (hP _ hs) (fun _=>rfl) ?_|refine callK_plain (hRt _ hs) (fun _=>rfl) ?_|refine hR _ ?_|split)
    | false =>
      by_cases h3:s.length≤9
      · have h3':((s.length:Int)≤9):=by omega
        cases h4:s.all digB with
        | false =>
          have hw:wholeB s=false:=by rw [wholeB,h4,Bool.and_false,Bool.false_and]
          rw [h4] at e1
          repeat' (first|simp only [go_sem,h1,h2,figS,h3',e1,hw,decide_true]|refine Unf.h ?_|refine callK_plain (hP _ hs) (fun _=>rfl) ?_|refine callK_plain (hRt _ hs) (fun _=>rfl) ?_|refine callK_plain (t1) (fun _=>rfl) ?_|refine hR _ ?_|split)
        | true =>
          rw [h4] at e1
          cases h5:s==[48] with
          | true =>
            have hw:wholeB s=true:=by rw [wholeB,h4,h5,decide_eq_true h3];rfl
            repeat' (first|simp only [go_sem,h1,h2,figS,h3',e1,h5,hw,decide_true]|refine Unf.h ?_|refine callK_plain (hP _ hs) (fun _=>rfl) ?_|refine callK_plain (hRt _ hs) (fun _=>rfl) ?_|refine callK_plain (t1) (fun _=>rfl) ?_|refine hR _ ?_|split)
          | false =>
            have hw:wholeB s=(c != 48):=by rw [wholeB,h4,h5,decide_eq_true h3,Bool.true_and,Bool.true_and,Bool.false_or];exact e3
            cases h6:c != 48
            all_goals (
              rw [h6] at e2 hw
              repeat' (first|simp only [go_sem,h1,h2,figS,h3',e1,h5,e2,hw,decide_true,hc,Int.le_refl]|refine Unf.h ?_|refine callK_plain (hP _ hs) (fun _=>rfl) ?_|refine callK_plain (hRt _ hs) (fun _=>rfl) ?_|refine callK_plain (t1) (fun _=>rfl) ?_|refine hR _ ?_|split))
      · have h3':¬((s.length:Int)≤9):=by omega
        have hw:wholeB s=false:=by rw [wholeB,decide_eq_false h3];rfl
        repeat' (first|simp only [go_sem,h1,h2,figS,h3',hw,decide_false]|refine Unf.h ?_|refine callK_plain (hP _ hs) (fun _=>rfl) ?_|refine callK_plain (hRt _ hs) (fun _=>rfl) ?_|refine hR _ ?_|split)
def signSet:List UInt8:=[61,60,62,43,45,42,40,41,44,59]
def signN (s:List UInt8):Nat :=
  if [60,61].isPrefixOf s=true∨[62,61].isPrefixOf s=true∨[60,62].isPrefixOf s=true then 2
  else match s with | []=>0|c::_=>if signSet.contains c=true then 1 else 0
theorem signN_head {s:List UInt8}{c:UInt8}(hc:s[0]? = some c)(h1:[60,61].isPrefixOf s=false)(h2:[62,61].isPrefixOf s=false)(h3:[60,62].isPrefixOf s=false):signN s=if signSet.contains c=true then 1 else 0:=by
  unfold signN
  rw [if_neg (by rw [h1,h2,h3];simp)]
  cases s with
  | nil=>simp at hc
  | cons d r=>simp at hc;subst hc;rfl
theorem indexByte_has (c:UInt8):∀ (l:List UInt8),Lib.indexByte l c≥0↔l.contains c=true
  | []=>by simp [Lib.indexByte]
  | b :: l=>by
    have ih:=indexByte_has c l
    have hge:=Lib.indexByte_ge l c
    rw [Lib.indexByte,List.contains_cons]
    by_cases hb:b=c
    · subst hb;simp
    · have h1:(b==c)=false:=by simpa using hb
      have h2:(c==b)=false:=by simpa using fun e=>hb e.symm
      rw [h1,h2,Bool.false_or,← ih,if_neg (by simp)]
      by_cases hx:Lib.indexByte l c = -1
      · rw [if_pos (by rw [hx];rfl),hx]
      · rw [if_neg (by simpa using hx)]
        constructor <;> intro <;> omega
theorem lexSign {C:Ctx} (h:okFn C.P C.φ 110 g_lex_sign=true) (hPre:∀ s p:List UInt8,SoundAt C 123 ⟨[vS s,vS p],looko []⟩ ⟨vB (p.isPrefixOf s),looko []⟩)
    (hIx:∀ (s:List UInt8) (c:UInt8),SoundAt C 124 ⟨[vS s,vC c],looko []⟩ ⟨vI (Lib.indexByte s c),looko []⟩) {c:UInt8} {s:List UInt8} (hc:s[0]? = some c) :
    SoundAt C 110 ⟨[vS s],looko []⟩ ⟨vI (signN s),looko []⟩:=by
  have w1:IntKind.i64.wrap 1=1:=by decide
  have w2:IntKind.i64.wrap 2=2:=by decide
  have w3:IntKind.i64.wrap 3=3:=by decide
  refine SoundAt.of_run h rfl (fun Q hR hN => ?_)
  rw [entry1]
  repeat (first|simp only [go_sem]|refine Unf.h ?_)
  refine w_loopC (L:=g_lex_sign.l0) rfl ?_
  have t1:=hPre s [60,61]
  have t2:=hPre s [62,61]
  have t3:=hPre s [60,62]
  have t4:=hIx signSet c
  cases h1:[60,61].isPrefixOf s with
  | true =>
    have e:signN s=2:=by unfold signN;rw [if_pos (.inl h1)]
    rw [h1] at t1
    repeat' (first|simp only [go_sem,Int.reduceAdd,w1,w2,w3,e]|refine Unf.h ?_|refine callK_plain t1 (fun _=>rfl) ?_|refine hR _ ?_|refine w_loopC (L:=g_lex_sign.l0) rfl ?_)
  | false =>
    rw [h1] at t1
    cases h2:[62,61].isPrefixOf s with
    | true =>
      have e:signN s=2:=by unfold signN;rw [if_pos (.inr (.inl h2))]
      rw [h2] at t2
      repeat' (first|simp only [go_sem,Int.reduceAdd,w1,w2,w3,e]|refine Unf.h ?_|refine callK_plain t1 (fun _=>rfl) ?_|refine callK_plain t2 (fun _=>rfl) ?_|refine hR _ ?_|refine w_loopC (L:=g_lex_sign.l0) rfl ?_)
    | false =>
      rw [h2] at t2
      cases h3:[60,62].isPrefixOf s with
      | true =>
        have e:signN s=2:=by unfold signN;rw [if_pos (.inr (.inr h3))]
        rw [h3] at t3
        repeat' (first|simp only [go_sem,Int.reduceAdd,w1,w2,w3,e]|refine Unf.h ?_|refine callK_plain t1 (fun _=>rfl) ?_|refine callK_plain t2 (fun _=>rfl) ?_|refine callK_plain t3 (fun _=>rfl) ?_|refine hR _ ?_|refine w_loopC (L:=g_lex_sign.l0) rfl ?_)
      | false =>
        rw [h3] at t3
        have e:=signN_head hc h1 h2 h3
        have e5:(Lib.indexByte signSet c≥0)=(signSet.contains c=true):=propext (indexByte_has c signSet)
        cases h5:signSet.contains c <;> rw [h5] at e e5
        all_goals (
          repeat' (first|simp only [go_sem,Int.reduceAdd,w1,w2,w3,e,hc,Int.le_refl,e5,decide_true,decide_false]|refine Unf.h ?_|refine callK_plain t1 (fun _=>rfl) ?_|refine callK_plain t2 (fun _=>rfl) ?_|refine callK_plain t3 (fun _=>rfl) ?_|refine callK_plain t4 (fun _=>rfl) ?_|refine hR _ ?_|refine w_loopC (L:=g_lex_sign.l0) rfl ?_))
def oneS:List UInt8→Int × Nat
  | []=>(0,0)
  | c::r =>
    if letB c=true then (if runN wordB (c::r)>12 then (0,0) else (1,runN wordB (c::r)))
    else if digB c=true then (figS ((c::r).take (runN numB (c::r))),runN numB (c::r))
    else if signN (c::r)=0 then (0,0) else (5,signN (c::r))
theorem runN_pos {p:UInt8→Bool}{c:UInt8}{r:List UInt8}(h:p c=true):1≤runN p (c::r):=by
  rw [runN,List.takeWhile_cons,h];simp
theorem lexOne {C:Ctx} (h:okFn C.P C.φ 104 g_lex_one=true) (hL:∀ c,SoundAt C 105 ⟨[vC c],looko []⟩ ⟨vB (letB c),looko []⟩) (hD:∀ c,SoundAt C 107 ⟨[vC c],looko []⟩ ⟨vB (digB c),looko []⟩)
    (hW:∀ (s:List UInt8) (k:Nat),s.length<4611686018427387904→k≤s.length→SoundAt C 102 ⟨[vS s,vI k,.fn 106 []],looko []⟩ ⟨vI (runN wordB (s.drop k)),looko []⟩)
    (hN':∀ (s:List UInt8) (k:Nat),s.length<4611686018427387904→k≤s.length→SoundAt C 102 ⟨[vS s,vI k,.fn 108 []],looko []⟩ ⟨vI (runN numB (s.drop k)),looko []⟩)
    (hF:∀ (c:UInt8) (s:List UInt8),s[0]? = some c→s.length<100000→SoundAt C 109 ⟨[vS s],looko []⟩ ⟨vI (figS s),looko []⟩)
    (hS:∀ (c:UInt8) (s:List UInt8),s[0]? = some c→SoundAt C 110 ⟨[vS s],looko []⟩ ⟨vI (signN s),looko []⟩)
    (s:List UInt8) (k:Nat) (hk:k<s.length) (hs:s.length<100000):SoundAt C 104 ⟨[vS s,vI k],looko []⟩ ⟨.tup [vI (oneS (s.drop k)).1,vI (oneS (s.drop k)).2],looko []⟩:=by
  have t1:=hW s k (by omega) (by omega)
  have t2:=hN' s k (by omega) (by omega)
  have he:=List.getElem?_eq_getElem hk
  obtain ⟨c,hc⟩:∃ c,s[k]=c:=⟨_,rfl⟩
  obtain ⟨r,hr⟩:∃ r,s.drop k=c::r:=⟨_,by rw [List.drop_eq_getElem_cons hk,hc]⟩
  rw [hc] at he
  rw [hr] at t1 t2
  have hlr:r.length+1+k=s.length:=by
    have:=congrArg List.length hr
    simp at this;omega
  refine SoundAt.of_run h rfl (fun Q hR hN => ?_)
  rw [entry2]
  cases h1:letB c with
  | true =>
    by_cases h2:runN wordB (c::r)>12
    · have h2':((runN wordB (c::r):Int)>12):=by omega
      have e:oneS (c::r)=(0,0):=by rw [oneS,if_pos h1,if_pos h2]
      repeat' (first|simp only [go_sem,Int.natCast_nonneg,Int.toNat_natCast,he,hr,h1,h2',decide_true,e]|refine Unf.h ?_|refine callK_plain (hL _) (fun _=>rfl) ?_|refine callK_plain (hD _) (fun _=>rfl) ?_|refine callK_plain (t1) (fun _=>rfl) ?_|refine hR _ ?_|split)
    · have h2':¬((runN wordB (c::r):Int)>12):=by omega
      have e:oneS (c::r)=(1,runN wordB (c::r)):=by rw [oneS,if_pos h1,if_neg h2]
      repeat' (first|simp only [go_sem,Int.natCast_nonneg,Int.toNat_natCast,he,hr,h1,h2',decide_false,e]|refine Unf.h ?_|refine callK_plain (hL _) (fun _=>rfl) ?_|refine callK_plain (hD _) (fun _=>rfl) ?_|refine callK_plain (t1) (fun _=>rfl) ?_|refine hR _ ?_|split)
  | false =>
    cases h2:digB c with
    | true =>
      have hle:=runN_le numB (c::r)
      rw [List.length_cons] at hle
      have hpos:1≤runN numB (c::r):=runN_pos (by simp [numB,h2])
      have hw:IntKind.i64.wrap ((k:Int)+(runN numB (c::r):Int))=((k+runN numB (c::r):Nat):Int):=by rw [wrapI (by omega) (by omega)];omega
      have e:oneS (c::r)=(figS ((c::r).take (runN numB (c::r))),runN numB (c::r)):=by rw [oneS,if_neg (by rw [h1];simp),if_pos h2]
      have hb1:((k+runN numB (c::r):Nat):Int)≤(s.length:Int):=by omega
      have hb2:(k:Int)≤((k+runN numB (c::r):Nat):Int):=by omega
      have hcut:(s.take (k+runN numB (c::r))).drop k=(c::r).take (runN numB (c::r)):=by rw [List.drop_take,hr];congr 1;omega
      have h0:((c::r).take (runN numB (c::r)))[0]? = some c:=by
        rw [List.getElem?_take_of_lt (by omega)];rfl
      have t3:=hF c ((c::r).take (runN numB (c::r))) h0 (by rw [List.length_take,List.length_cons];omega)
      obtain ⟨n,hn⟩:∃ n,runN numB (c::r)=n:=⟨_,rfl⟩
      obtain ⟨u,hu⟩:∃ u,(c::r).take n=u:=⟨_,rfl⟩
      rw [hn] at hw hb1 hb2 hcut t3 e t2
      rw [hu] at hcut t3 e
      repeat' (first|simp only [go_sem,Int.natCast_nonneg,Int.toNat_natCast,he,hr,h1,h2,hw,hb1,hb2,hcut,and_self,if_true,decide_true,e]|refine Unf.h ?_|refine callK_plain (hL _) (fun _=>rfl) ?_|refine callK_plain (hD _) (fun _=>rfl) ?_|refine callK_plain (t2) (fun _=>rfl) ?_|refine callK_plain (t3) (fun _=>rfl) ?_|refine hR _ ?_|split)
    | false =>
      have e:oneS (c::r)=if signN (c::r)=0 then (0,0) else (5,signN (c::r)):=by rw [oneS,if_neg (by rw [h1];simp),if_neg (by rw [h2];simp)]
      have hb:(k:Int)≤(s.length:Int):=by omega
      have t3:=hS c (c::r) rfl
      obtain ⟨u,hu⟩:∃ u,c::r=u:=⟨_,rfl⟩
      rw [hu] at e t3 hr
      by_cases h3:signN u=0
      · have h3':((signN u:Int)==0)=true:=by rw [beq_iff_eq];omega
        rw [if_pos h3] at e
        repeat' (first|simp only [go_sem,Int.natCast_nonneg,Int.toNat_natCast,he,hr,h1,h2,hb,h3',List.take_length,Int.le_refl,and_self,if_true,decide_true,e]|refine Unf.h ?_|refine callK_plain (hL _) (fun _=>rfl) ?_|refine callK_plain (hD _) (fun _=>rfl) ?_|refine callK_plain (t3) (fun _=>rfl) ?_|refine hR _ ?_|split)
      · have h3':((signN u:Int)==0)=false:=by rw [beq_eq_false_iff_ne];omega
        rw [if_neg h3] at e
        repeat' (first|simp only [go_sem,Int.natCast_nonneg,Int.toNat_natCast,he,hr,h1,h2,hb,h3',List.take_length,Int.le_refl,and_self,if_true,decide_true,e]|refine Unf.h ?_|refine callK_plain (hL _) (fun _=>rfl) ?_|refine callK_plain (hD _) (fun _=>rfl) ?_|refine callK_plain (t3) (fun _=>rfl) ?_|refine hR _ ?_|split)
end Pay
