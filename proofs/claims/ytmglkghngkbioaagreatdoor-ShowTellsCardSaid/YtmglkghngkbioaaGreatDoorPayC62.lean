/- Contracts: the parser's expressions. -/
import Derived.Test.YtmglkghngkbioaaGreatDoorPayC61
set_option linter.unusedSimpArgs false
set_option linter.unusedVariables false
set_option maxHeartbeats 1000000
namespace Pay
open Go
attribute [local irreducible] wpB opsB treeB drawB
structure TreeK (C:Ctx):Prop where
  tok:HTok C
  fail:HFail C
  take:HTake C
  need:HNeed C
  put:HPut C
  named:∀ s:List UInt8,SoundAt C 158 ⟨[vS s],looko []⟩ ⟨vB (namedB s),looko []⟩
  atoi:∀ s:List UInt8,s.length<100000→SoundAt C 70 ⟨[vS s],looko []⟩ ⟨.tup [vI (atoiV s),.d (.err (atoiOk s))],looko []⟩
  money:∀ s:List UInt8,s.length<100000→SoundAt C 51 ⟨[vS s],looko []⟩ ⟨vIB (parseS s),looko []⟩
  rate:∀ s:List UInt8,s.length<100000→SoundAt C 92 ⟨[vS s],looko []⟩ ⟨vIB (rateP s),looko []⟩
theorem PK.head {all:List Tok}{x:PS}(h:PK all x){t:Tok}{r:List Tok}(hx:x.ts=t::r):t∈all:=by
  obtain ⟨p,hp⟩:=h.suf
  rw [← hp,hx];simp
theorem PK.go {all:List Tok}{x:PS}(h:PK all x){t:Tok}{r:List Tok}(hx:x.ts=t::r):PK all (x.go r) :=
  ⟨(hx▸List.suffix_cons t r:r <:+ x.ts).trans h.suf,h.len,by have:=h.many;rw [hx] at this;simp at this ⊢;omega,by have:=h.rules;rw [hx] at this;simp at this ⊢;omega,h.good,h.txt⟩
def HPr (C:Ctx)(n:Nat)(args:List V)(f:Nat→Pr):Prop:=∀ {all:List Tok}{en:Nat}{x:PS},PK all x→SoundX C n X13 ⟨.ptr 24 0::args,looko (oL (pL all en x))⟩ ⟨vI (f en x).2,looko (oL (pL all en (f en x).1))⟩
theorem treeLeaf {C:Ctx} (h:okFn C.P C.φ 227 g_tree_parser_leaf=true) (K:TreeK C):HPr C 227 [] leafS:=by
  intro all en x hp
  refine SoundX.of_run h rfl (fun n=>n=24∨n=77) I13 (fun Q hR hN => ?_)
  simp only [oL,pL,pB,List.map_cons,List.map_nil]
  rw [entry1]
  have ht:=K.tok (en:=en) hp
  have hf:=K.fail (en:=en) hp 2
  cases hts:x.ts with
  | nil =>
    rw [hts] at ht
    have e:leafS en x=(failS en 2 x,0):=by unfold leafS;rw [hts]
    rw [e] at hR
    repeat (first|simp only [go_sem]|refine Unf.h ?_)
    refine callK_ps ht ?_ (fun _=>rfl) ?_
    · simp only [go_sem,pB,hts]
    repeat (first|simp only [go_sem,tokS]|refine Unf.h ?_)
    refine callK_ps hf ?_ (fun _=>rfl) ?_
    · simp only [go_sem,pB,hts]
    repeat (first|simp only [go_sem]|refine Unf.h ?_)
    refine hR _ (ends_objs ?_)
    simp only [go_sem]
  | cons t r =>
    obtain ⟨e1,e2,e3⟩:=hp.cons hts
    have hm:=hp.head hts
    have hl:=hp.txt t hm
    rw [hts] at ht e1 e2 e3
    have hw:IntKind.i64.wrap ((atN all (t::r):Int)+1)=(atN all r:Int):=by
      have:=hp.len
      rw [e3,wrapI (by omega) (by omega)];omega
    have bad:leafX t=none→leafS en x=(failS en 2 x,0):=by intro h;unfold leafS;rw [hts];simp only [h]
    have ok:∀ e,leafX t=some e→leafS en x=putS e (x.go r):=by intro e h;unfold leafS;rw [hts];simp only [h]
    have done:∀ e,leafX t=some e→(∀ n,V.refs n (vI (putS e (x.go r)).2)=false):=fun _ _ _=>rfl
    by_cases k2:t.kind=2
    · have b2:(t.kind==2)=true:=by simp [k2]
      have e:leafX t=some (xLeaf wWhole [] (valW t.text)):=by unfold leafX;simp [k2]
      rw [ok _ e] at hR
      have hpu:=K.put (en:=en) (hp.go hts) (xLeaf wWhole [] (valW t.text))
      repeat (first|simp only [go_sem]|refine Unf.h ?_)
      refine callK_ps (ht) ?_ (fun _=>rfl) ?_
      · simp only [go_sem,pB,hts]
      repeat (first|simp only [go_sem,tokS,b2]|refine Unf.h ?_)
      refine callK_plain (K.atoi t.text hl) (fun _=>rfl) ?_
      repeat (first|simp only [go_sem,hts,hw]|refine Unf.h ?_)
      refine callK_px (hpu) ?_ (fun _=>rfl) ?_
      · simp only [go_sem,pB,hts]
      repeat (first|simp only [go_sem]|refine Unf.h ?_)
      refine hR _ (ends_objs ?_)
      simp only [go_sem]
    have b2:(t.kind==2)=false:=by simp [k2]
    by_cases k3:t.kind=3
    · have b3:(t.kind==3)=true:=by simp [k3]
      have e:leafX t=some (xLeaf wAmount [] (amtV t.text)):=by unfold leafX;simp [k3]
      rw [ok _ e] at hR
      have hpu:=K.put (en:=en) (hp.go hts) (xLeaf wAmount [] (amtV t.text))
      repeat (first|simp only [go_sem]|refine Unf.h ?_)
      refine callK_ps (ht) ?_ (fun _=>rfl) ?_
      · simp only [go_sem,pB,hts]
      repeat (first|simp only [go_sem,tokS,b2,b3]|refine Unf.h ?_)
      refine callK_plain (K.money t.text hl) (fun _=>rfl) ?_
      repeat (first|simp only [go_sem,hts,hw]|refine Unf.h ?_)
      refine callK_px (hpu) ?_ (fun _=>rfl) ?_
      · simp only [go_sem,pB,hts]
      repeat (first|simp only [go_sem]|refine Unf.h ?_)
      refine hR _ (ends_objs ?_)
      simp only [go_sem]
    have b3:(t.kind==3)=false:=by simp [k3]
    by_cases k4:t.kind=4
    · have b4:(t.kind==4)=true:=by simp [k4]
      have e:leafX t=some (xLeaf wRate [] (rateV t.text)):=by unfold leafX;simp [k4]
      rw [ok _ e] at hR
      have hpu:=K.put (en:=en) (hp.go hts) (xLeaf wRate [] (rateV t.text))
      repeat (first|simp only [go_sem]|refine Unf.h ?_)
      refine callK_ps (ht) ?_ (fun _=>rfl) ?_
      · simp only [go_sem,pB,hts]
      repeat (first|simp only [go_sem,tokS,b2,b3,b4]|refine Unf.h ?_)
      refine callK_plain (K.rate t.text hl) (fun _=>rfl) ?_
      repeat (first|simp only [go_sem,hts,hw]|refine Unf.h ?_)
      refine callK_px (hpu) ?_ (fun _=>rfl) ?_
      · simp only [go_sem,pB,hts]
      repeat (first|simp only [go_sem]|refine Unf.h ?_)
      refine hR _ (ends_objs ?_)
      simp only [go_sem]
    have b4:(t.kind==4)=false:=by simp [k4]
    by_cases k1:t.kind=1
    · have b1:(t.kind==1)=true:=by simp [k1]
      obtain ⟨b,hb⟩:∃ b,namedB t.text=b:=⟨_,rfl⟩
      have hn:=K.named t.text
      rw [hb] at hn
      cases b with
      | true =>
        have e:leafX t=some (xLeaf wName t.text 0):=by unfold leafX;simp [k1,hb]
        rw [ok _ e] at hR
        have hpu:=K.put (en:=en) (hp.go hts) (xLeaf wName t.text 0)
        repeat (first|simp only [go_sem]|refine Unf.h ?_)
        refine callK_ps (ht) ?_ (fun _=>rfl) ?_
        · simp only [go_sem,pB,hts]
        repeat (first|simp only [go_sem,tokS,b2,b3,b4,b1]|refine Unf.h ?_)
        refine callK_plain hn (fun _=>rfl) ?_
        repeat (first|simp only [go_sem,hts,hw]|refine Unf.h ?_)
        refine callK_px (hpu) ?_ (fun _=>rfl) ?_
        · simp only [go_sem,pB,hts]
        repeat (first|simp only [go_sem]|refine Unf.h ?_)
        refine hR _ (ends_objs ?_)
        simp only [go_sem]
      | false =>
        have e:leafX t=none:=by unfold leafX;simp [k1,hb]
        rw [bad e] at hR
        repeat (first|simp only [go_sem]|refine Unf.h ?_)
        refine callK_ps (ht) ?_ (fun _=>rfl) ?_
        · simp only [go_sem,pB,hts]
        repeat (first|simp only [go_sem,tokS,b2,b3,b4,b1]|refine Unf.h ?_)
        refine callK_plain hn (fun _=>rfl) ?_
        repeat (first|simp only [go_sem,hts,hw]|refine Unf.h ?_)
        refine callK_ps (hf) ?_ (fun _=>rfl) ?_
        · simp only [go_sem,pB,hts]
        repeat (first|simp only [go_sem]|refine Unf.h ?_)
        refine hR _ (ends_objs ?_)
        simp only [go_sem]
    have b1:(t.kind==1)=false:=by simp [k1]
    have e:leafX t=none:=by unfold leafX;simp [k1,k2,k3,k4]
    rw [bad e] at hR
    repeat (first|simp only [go_sem]|refine Unf.h ?_)
    refine callK_ps (ht) ?_ (fun _=>rfl) ?_
    · simp only [go_sem,pB,hts]
    repeat (first|simp only [go_sem,tokS,b2,b3,b4,b1]|refine Unf.h ?_)
    refine callK_ps (hf) ?_ (fun _=>rfl) ?_
    · simp only [go_sem,pB,hts]
    repeat (first|simp only [go_sem]|refine Unf.h ?_)
    refine hR _ (ends_objs ?_)
    simp only [go_sem]
theorem depth_wrap {d:Nat}(h:d≤21):IntKind.i64.wrap ((d:Int)+1)=((d+1:Nat):Int):=by rw [wrapI (by omega) (by omega)];omega
theorem treePair {C:Ctx}(h:okFn C.P C.φ 226 g_tree_parser_pair=true)(K:TreeK C){d:Nat}(hd:d≤21){e:Nat→Pr}(he:∀ en,Good1 (e en))(hE:HPr C 221 [vI ((d+1:Nat):Int)] e)
    (op:List UInt8) {all:List Tok} {en:Nat} {x:PS} (hp:PK all x) (hm:x.exprs.length+1+x.ts.length≤all.length):SoundX C 226 X13 ⟨[.ptr 24 0,vS op,vI d],looko (oL (pL all en x))⟩ ⟨vI (pairS en (e en) op x).2,looko (oL (pL all en (pairS en (e en) op x).1))⟩:=by
  have hw:=depth_wrap hd
  have hp1:=hp.step (need_step en [40] x)
  have hp2:=hp1.step (he en _)
  have hp3:=hp2.step (need_step en [44] _)
  have hp4:=hp3.step (he en _)
  have hp5:=hp4.step (need_step en [41] _)
  refine SoundX.of_run h rfl (fun n=>n=24∨n=77) I13 (fun Q hR hN => ?_)
  simp only [oL,pL,pB,List.map_cons,List.map_nil]
  rw [entry3]
  unfold pairS at hR
  simp only at hR
  have t1:=K.need (en:=en) hp [40]
  have t2:=hE (en:=en) hp1
  have t3:=K.need (en:=en) hp2 [44]
  have t4:=hE (en:=en) hp3
  have t5:=K.need (en:=en) hp4 [41]
  have t6:=K.put (en:=en) hp5 (xNode op (e en (needS en [40] x)).2 (e en (needS en [44] (e en (needS en [40] x)).1)).2 0)
  repeat (first|simp only [go_sem]|refine Unf.h ?_)
  refine callK_ps (t1) ?_ (fun _=>rfl) ?_
  · simp only [go_sem,pB]
  repeat (first|simp only [go_sem,hw]|refine Unf.h ?_)
  refine callK_px (t2) ?_ (fun _=>rfl) ?_
  · simp only [go_sem,pB]
  repeat (first|simp only [go_sem,hw]|refine Unf.h ?_)
  refine callK_ps (t3) ?_ (fun _=>rfl) ?_
  · simp only [go_sem,pB]
  repeat (first|simp only [go_sem,hw]|refine Unf.h ?_)
  refine callK_px (t4) ?_ (fun _=>rfl) ?_
  · simp only [go_sem,pB]
  repeat (first|simp only [go_sem,hw]|refine Unf.h ?_)
  refine callK_ps (t5) ?_ (fun _=>rfl) ?_
  · simp only [go_sem,pB]
  repeat (first|simp only [go_sem,hw]|refine Unf.h ?_)
  refine callK_px (t6) ?_ (fun _=>rfl) ?_
  · simp only [go_sem,pB]
  repeat (first|simp only [go_sem]|refine Unf.h ?_)
  refine hR _ (ends_objs ?_)
  simp only [go_sem]
end Pay
