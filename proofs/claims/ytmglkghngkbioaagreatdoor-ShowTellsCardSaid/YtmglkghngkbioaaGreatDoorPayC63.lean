/- Contracts: the parser's levels of expressions. -/
import Derived.Test.YtmglkghngkbioaaGreatDoorPayC62
set_option linter.unusedSimpArgs false
set_option linter.unusedVariables false
set_option maxHeartbeats 1000000
namespace Pay
open Go
attribute [local irreducible] wpB opsB treeB drawB
theorem takV_refs (o:Option (List UInt8 × PS))(n:Nat):V.refs n (takV o)=false:=by cases o <;> rfl
theorem take_nil {l:List (List UInt8)}{x:PS}(h:x.ts=[]):takeT l x=none:=by unfold takeT;rw [h];split <;> rfl
theorem take_mem {l:List (List UInt8)}{x y:PS}{s:List UInt8}(h:takeT l x=some (s,y)):s∈l:=by
  obtain ⟨_,t,r,_,_,hc,rfl,_⟩:=take_some h
  simpa using hc
theorem product_loop {C:Ctx} (K:TreeK C) {d:Nat} {f:Nat→Pr} (hf:∀ en,Good1 (f en)) (hF:HPr C 225 [vI d] f) {Q:Ex→St→Prop} {all:List Tok} {en:Nat} {r:PS × Nat}
    (hT:∀ t,t 4=vI r.2→Q .ret (St.mk t (looko (oL (pL all en r.1))))) :
    ∀ (n:Nat) (x:PS) (a:Nat),PK all x→x.ts.length≤n→chainL (f en) mulL n x a=r →
      wpB C (fun n=>n=24∨n=77) g_tree_parser_product.l0 (St.mk (look [(0,.ptr 24 0),(1,vI d),(5,vI a)]) (looko (oL (pL all en x)))) Q:=by
  intro n
  induction n with
  | zero =>
    intro x a hp hx hr
    have hn:=take_nil (l:=mulL) (List.eq_nil_of_length_eq_zero (Nat.le_zero.1 hx))
    have ht:=K.take (en:=en) hp mulL (by decide)
    rw [hn] at ht
    unfold chainL at hr
    subst hr
    refine w_loopC (L:=g_tree_parser_product.l0) rfl ?_
    repeat (first|simp only [go_sem,partsN]|refine Unf.h ?_)
    refine callK_ps (ht) ?_ (fun _=>rfl) ?_
    · simp only [go_sem,pB]
    repeat (first|simp only [go_sem,takV,takP]|refine Unf.h ?_)
    exact hT _ rfl
  | succ n ih =>
    intro x a hp hx hr
    have ht:=K.take (en:=en) hp mulL (by decide)
    unfold chainL at hr
    refine w_loopC (L:=g_tree_parser_product.l0) rfl ?_
    cases hk:takeT mulL x with
    | none =>
      rw [hk] at hr ht
      simp only at hr
      subst hr
      repeat (first|simp only [go_sem,partsN]|refine Unf.h ?_)
      refine callK_ps (ht) ?_ (fun _=>rfl) ?_
      · simp only [go_sem,pB]
      repeat (first|simp only [go_sem,takV,takP]|refine Unf.h ?_)
      exact hT _ rfl
    | some p =>
      obtain ⟨op,y⟩:=p
      rw [hk] at hr ht
      simp only at hr
      have hs:=take_step hk
      have hop:op=[42]:=by simpa using take_mem hk
      subst hop
      have hp1:=hp.step hs.step
      have h2:=hF (en:=en) hp1
      have hp2:=hp1.step (hf en y)
      have h3:=K.put (en:=en) hp2 (xNode [42] a (f en y).2 0)
      have hs2:=(hs.trans (hf en y)).put (xNode [42] a (f en y).2 0)
      repeat (first|simp only [go_sem,partsN]|refine Unf.h ?_)
      refine callK_ps (ht) ?_ (fun _=>rfl) ?_
      · simp only [go_sem,pB]
      repeat (first|simp only [go_sem,takV,takP]|refine Unf.h ?_)
      refine callK_px (h2) ?_ (fun _=>rfl) ?_
      · simp only [go_sem,pB]
      repeat (first|simp only [go_sem]|refine Unf.h ?_)
      refine callK_px (h3) ?_ (fun _=>rfl) ?_
      · simp only [go_sem,pB]
      repeat (first|simp only [go_sem]|refine Unf.h ?_)
      have hlen:y.ts.length+1≤x.ts.length:=by
        obtain ⟨_,t,r,e1,_,_,_,rfl⟩:=take_some hk
        rw [e1];simp
      refine ih _ _ (hp.step hs2) ?_ hr
      have:=(hf en y).ts.length_le
      show (f en y).1.ts.length≤n
      omega
theorem treeProduct {C:Ctx}(h:okFn C.P C.φ 224 g_tree_parser_product=true)(K:TreeK C){d:Nat}{f:Nat→Pr}(hf:∀ en,Good1 (f en))(hF:HPr C 225 [vI d] f):HPr C 224 [vI d] (fun en=>prodS (f en)):=by
  intro all en x hp
  have h1:=hF (en:=en) hp
  refine SoundX.of_run h rfl (fun n=>n=24∨n=77) I13 (fun Q hR hN => ?_)
  simp only [oL,pL,pB,List.map_cons,List.map_nil]
  rw [entry2]
  repeat (first|simp only [go_sem]|refine Unf.h ?_)
  refine callK_px (h1) ?_ (fun _=>rfl) ?_
  · simp only [go_sem,pB]
  repeat (first|simp only [go_sem]|refine Unf.h ?_)
  refine product_loop K hf hF (r:=prodS (f en) x) (fun t h4 => ?_) (f en x).1.ts.length (f en x).1 (f en x).2 (hp.step (hf en x)) (Nat.le_refl _) rfl
  refine hR _ (ends_objs ?_)
  simp only [go_sem,h4]
theorem tsum_loop {C:Ctx} (K:TreeK C) {d:Nat} {f:Nat→Pr} (hf:∀ en,Good1 (f en)) (hF:HPr C 224 [vI d] f) {Q:Ex→St→Prop} {all:List Tok} {en:Nat} {r:PS × Nat}
    (hT:∀ t,t 4=vI r.2→Q .ret (St.mk t (looko (oL (pL all en r.1))))) :
    ∀ (n:Nat) (x:PS) (a:Nat),PK all x→x.ts.length≤n→chainL (f en) sumL n x a=r →
      wpB C (fun n=>n=24∨n=77) g_tree_parser_sum.l0 (St.mk (look [(0,.ptr 24 0),(1,vI d),(5,vI a)]) (looko (oL (pL all en x)))) Q:=by
  intro n
  induction n with
  | zero =>
    intro x a hp hx hr
    have hn:=take_nil (l:=sumL) (List.eq_nil_of_length_eq_zero (Nat.le_zero.1 hx))
    have ht:=K.take (en:=en) hp sumL (by decide)
    rw [hn] at ht
    unfold chainL at hr
    subst hr
    refine w_loopC (L:=g_tree_parser_sum.l0) rfl ?_
    repeat (first|simp only [go_sem,partsN]|refine Unf.h ?_)
    refine callK_ps (ht) ?_ (fun _=>rfl) ?_
    · simp only [go_sem,pB]
    repeat (first|simp only [go_sem,takV,takP]|refine Unf.h ?_)
    exact hT _ rfl
  | succ n ih =>
    intro x a hp hx hr
    have ht:=K.take (en:=en) hp sumL (by decide)
    unfold chainL at hr
    refine w_loopC (L:=g_tree_parser_sum.l0) rfl ?_
    cases hk:takeT sumL x with
    | none =>
      rw [hk] at hr ht
      simp only at hr
      subst hr
      repeat (first|simp only [go_sem,partsN]|refine Unf.h ?_)
      refine callK_ps (ht) ?_ (fun _=>rfl) ?_
      · simp only [go_sem,pB]
      repeat (first|simp only [go_sem,takV,takP]|refine Unf.h ?_)
      exact hT _ rfl
    | some p =>
      obtain ⟨op,y⟩:=p
      rw [hk] at hr ht
      simp only at hr
      have hs:=take_step hk
      have hp1:=hp.step hs.step
      have h2:=hF (en:=en) hp1
      have hp2:=hp1.step (hf en y)
      have h3:=K.put (en:=en) hp2 (xNode op a (f en y).2 0)
      have hs2:=(hs.trans (hf en y)).put (xNode op a (f en y).2 0)
      repeat (first|simp only [go_sem,partsN]|refine Unf.h ?_)
      refine callK_ps (ht) ?_ (fun _=>rfl) ?_
      · simp only [go_sem,pB]
      repeat (first|simp only [go_sem,takV,takP]|refine Unf.h ?_)
      refine callK_px (h2) ?_ (fun _=>rfl) ?_
      · simp only [go_sem,pB]
      repeat (first|simp only [go_sem]|refine Unf.h ?_)
      refine callK_px (h3) ?_ (fun _=>rfl) ?_
      · simp only [go_sem,pB]
      repeat (first|simp only [go_sem]|refine Unf.h ?_)
      have hlen:y.ts.length+1≤x.ts.length:=by
        obtain ⟨_,t,r,e1,_,_,_,rfl⟩:=take_some hk
        rw [e1];simp
      refine ih _ _ (hp.step hs2) ?_ hr
      have:=(hf en y).ts.length_le
      show (f en y).1.ts.length≤n
      omega
theorem treeSum {C:Ctx}(h:okFn C.P C.φ 223 g_tree_parser_sum=true)(K:TreeK C){d:Nat}{f:Nat→Pr}(hf:∀ en,Good1 (f en))(hF:HPr C 224 [vI d] f):HPr C 223 [vI d] (fun en=>chainS (f en) sumL):=by
  intro all en x hp
  have h1:=hF (en:=en) hp
  refine SoundX.of_run h rfl (fun n=>n=24∨n=77) I13 (fun Q hR hN => ?_)
  simp only [oL,pL,pB,List.map_cons,List.map_nil]
  rw [entry2]
  repeat (first|simp only [go_sem]|refine Unf.h ?_)
  refine callK_px (h1) ?_ (fun _=>rfl) ?_
  · simp only [go_sem,pB]
  repeat (first|simp only [go_sem]|refine Unf.h ?_)
  refine tsum_loop K hf hF (r:=chainS (f en) sumL x) (fun t h4 => ?_) (f en x).1.ts.length (f en x).1 (f en x).2 (hp.step (hf en x)) (Nat.le_refl _) rfl
  refine hR _ (ends_objs ?_)
  simp only [go_sem,h4]
theorem err_fail (en:Nat)(x:PS):(failS en 9 x).err≠0:=by
  unfold failS
  split
  · show (9:Int)≠0;decide
  · assumption
theorem treeFactor0 {C:Ctx}(h:okFn C.P C.φ 225 g_tree_parser_factor=true)(K:TreeK C):HPr C 225 [vI 21] longS:=by
  intro all en x hp
  have t1:=K.fail (en:=en) hp 9
  have hb:((failS en 9 x).err != 0)=true:=by simpa using err_fail en x
  refine SoundX.of_run h rfl (fun n=>n=24∨n=77) I13 (fun Q hR hN => ?_)
  simp only [oL,pL,pB,List.map_cons,List.map_nil]
  rw [entry2]
  repeat (first|simp only [go_sem,decide_true]|refine Unf.h ?_)
  refine callK_ps (t1) ?_ (fun _=>rfl) ?_
  · simp only [go_sem,pB]
  repeat (first|simp only [go_sem,hb]|refine Unf.h ?_)
  refine hR _ (ends_objs ?_)
  simp only [go_sem,longS]
theorem treeExpr0 {C:Ctx}(h:okFn C.P C.φ 221 g_tree_parser_expression=true)(K:TreeK C):HPr C 221 [vI 21] longS:=by
  intro all en x hp
  have t1:=K.fail (en:=en) hp 9
  have hb:((failS en 9 x).err != 0)=true:=by simpa using err_fail en x
  refine SoundX.of_run h rfl (fun n=>n=24∨n=77) I13 (fun Q hR hN => ?_)
  simp only [oL,pL,pB,List.map_cons,List.map_nil]
  rw [entry2]
  repeat (first|simp only [go_sem,decide_true]|refine Unf.h ?_)
  refine callK_ps (t1) ?_ (fun _=>rfl) ?_
  · simp only [go_sem,pB]
  repeat (first|simp only [go_sem,hb]|refine Unf.h ?_)
  refine hR _ (ends_objs ?_)
  simp only [go_sem,longS]
theorem PK.take {all:List Tok}{l:List (List UInt8)}{x y:PS}{s:List UInt8}(hp:PK all x)(h:takeT l x=some (s,y)):PK all y∧y.exprs.length+1+y.ts.length≤all.length:=by
  have hs:=take_step h
  refine ⟨hp.step hs.step,?_⟩
  have:=hs.many
  have:=hp.many
  omega
theorem treeFactor {C:Ctx} (h:okFn C.P C.φ 225 g_tree_parser_factor=true) (hP:okFn C.P C.φ 226 g_tree_parser_pair=true) (K:TreeK C) (hL:HPr C 227 [] leafS) {d:Nat} (hd:d≤20) {f e:Nat→Pr} (hf:∀ en,Good1 (f en)) (he:∀ en,Good1 (e en))
    (hF:HPr C 225 [vI ((d+1:Nat):Int)] f) (hE:HPr C 221 [vI ((d+1:Nat):Int)] e):HPr C 225 [vI d] (fun en=>facStep en (f en) (e en)):=by
  intro all en x hp
  have hw:=depth_wrap (d:=d) (by omega)
  have hg:¬((d:Int)>20):=by omega
  refine SoundX.of_run h rfl (fun n=>n=24∨n=77) I13 (fun Q hR hN => ?_)
  simp only [oL,pL,pB,List.map_cons,List.map_nil]
  rw [entry2]
  dsimp only at hR
  by_cases hx:x.err=0
  case neg =>
    have hb:(x.err != 0)=true:=by simp [hx]
    have e0:facStep en (f en) (e en) x=(x,0):=by unfold facStep;rw [if_neg hx]
    rw [e0] at hR
    repeat (first|simp only [go_sem,hg,decide_false,hb]|refine Unf.h ?_)
    refine hR _ (ends_objs ?_)
    simp only [go_sem]
  have hb:(x.err != 0)=false:=by simp [hx]
  have ht1:=K.take (en:=en) hp [[45]] (by decide)
  unfold facStep at hR
  rw [if_pos hx] at hR
  repeat (first|simp only [go_sem,hg,decide_false,hb,partsN]|refine Unf.h ?_)
  refine callK_ps (ht1) ?_ (takV_refs _) ?_
  · simp only [go_sem,pB]
  cases hk1:takeT [[45]] x with
  | some p =>
    obtain ⟨s,y⟩:=p
    rw [hk1] at hR
    simp only at hR
    obtain ⟨hp1,hm1⟩:=hp.take hk1
    have t2:=hF (en:=en) hp1
    have t3:=K.put (en:=en) (hp1.step (hf en y)) (xNode wNeg (f en y).2 0 0)
    repeat (first|simp only [go_sem,takV,takP,hw]|refine Unf.h ?_)
    refine callK_px (t2) ?_ (fun _=>rfl) ?_
    · simp only [go_sem,pB]
    repeat (first|simp only [go_sem]|refine Unf.h ?_)
    refine callK_px (t3) ?_ (fun _=>rfl) ?_
    · simp only [go_sem,pB]
    repeat (first|simp only [go_sem]|refine Unf.h ?_)
    refine hR _ (ends_objs ?_)
    simp only [go_sem]
  | none =>
    rw [hk1] at hR
    simp only at hR
    have ht2:=K.take (en:=en) hp [wMin,wMax] (by decide)
    repeat (first|simp only [go_sem,takV,takP,partsN]|refine Unf.h ?_)
    refine callK_ps (ht2) ?_ (takV_refs _) ?_
    · simp only [go_sem,pB]
    cases hk2:takeT [wMin,wMax] x with
    | some p =>
      obtain ⟨op,y⟩:=p
      rw [hk2] at hR
      simp only at hR
      obtain ⟨hp1,hm1⟩:=hp.take hk2
      have t2:=treePair hP K (d:=d) (by omega) he hE op (en:=en) hp1 hm1
      repeat (first|simp only [go_sem,takV,takP]|refine Unf.h ?_)
      refine callK_px (t2) ?_ (fun _=>rfl) ?_
      · simp only [go_sem,pB]
      repeat (first|simp only [go_sem]|refine Unf.h ?_)
      refine hR _ (ends_objs ?_)
      simp only [go_sem]
    | none =>
      rw [hk2] at hR
      simp only at hR
      have ht3:=K.take (en:=en) hp [[40]] (by decide)
      repeat (first|simp only [go_sem,takV,takP,partsN]|refine Unf.h ?_)
      refine callK_ps (ht3) ?_ (takV_refs _) ?_
      · simp only [go_sem,pB]
      cases hk3:takeT [[40]] x with
      | some p =>
        obtain ⟨s,y⟩:=p
        rw [hk3] at hR
        simp only at hR
        obtain ⟨hp1,hm1⟩:=hp.take hk3
        have t2:=hE (en:=en) hp1
        have t3:=K.need (en:=en) (hp1.step (he en y)) [41]
        repeat (first|simp only [go_sem,takV,takP,hw]|refine Unf.h ?_)
        refine callK_px (t2) ?_ (fun _=>rfl) ?_
        · simp only [go_sem,pB]
        repeat (first|simp only [go_sem]|refine Unf.h ?_)
        refine callK_ps (t3) ?_ (fun _=>rfl) ?_
        · simp only [go_sem,pB]
        repeat (first|simp only [go_sem]|refine Unf.h ?_)
        refine hR _ (ends_objs ?_)
        simp only [go_sem]
      | none =>
        rw [hk3] at hR
        simp only at hR
        have t2:=hL (en:=en) hp
        repeat (first|simp only [go_sem,takV,takP]|refine Unf.h ?_)
        refine callK_px (t2) ?_ (fun _=>rfl) ?_
        · simp only [go_sem,pB]
        repeat (first|simp only [go_sem]|refine Unf.h ?_)
        refine hR _ (ends_objs ?_)
        simp only [go_sem]
theorem treeExpr {C:Ctx}(h:okFn C.P C.φ 221 g_tree_parser_expression=true)(K:TreeK C){d:Nat}(hd:d≤20){s e:Nat→Pr}(hs:∀ en,Good1 (s en))(he:∀ en,Good1 (e en))
    (hS:HPr C 223 [vI d] s) (hE:HPr C 221 [vI ((d+1:Nat):Int)] e) :
    HPr C 221 [vI d] (fun en x=>if x.err=0 then match takeT [wIf] x with
      | some (_,y)=>iteS en (e en) y
      | none=>cmpS (s en) x
    else (x,0)):=by
  intro all en x hp
  have hw:=depth_wrap (d:=d) (by omega)
  have hg:¬((d:Int)>20):=by omega
  refine SoundX.of_run h rfl (fun n=>n=24∨n=77) I13 (fun Q hR hN => ?_)
  simp only [oL,pL,pB,List.map_cons,List.map_nil]
  rw [entry2]
  dsimp only at hR
  by_cases hx:x.err=0
  case neg =>
    have hb:(x.err != 0)=true:=by simp [hx]
    rw [if_neg hx] at hR
    repeat (first|simp only [go_sem,hg,decide_false,hb]|refine Unf.h ?_)
    refine hR _ (ends_objs ?_)
    simp only [go_sem]
  have hb:(x.err != 0)=false:=by simp [hx]
  have ht1:=K.take (en:=en) hp [wIf] (by decide)
  rw [if_pos hx] at hR
  repeat (first|simp only [go_sem,hg,decide_false,hb,partsN]|refine Unf.h ?_)
  refine callK_ps (ht1) ?_ (takV_refs _) ?_
  · simp only [go_sem,pB]
  cases hk1:takeT [wIf] x with
  | some p =>
    obtain ⟨s1,y⟩:=p
    rw [hk1] at hR
    unfold iteS at hR
    simp only at hR
    obtain ⟨hp0,hm0⟩:=hp.take hk1
    have hp1:=hp0.step (he en y)
    have hp2:=hp1.step (need_step en wThen _)
    have hp3:=hp2.step (he en _)
    have hp4:=hp3.step (need_step en wElse _)
    have hp5:=hp4.step (he en _)
    have t1:=hE (en:=en) hp0
    have t2:=K.need (en:=en) hp1 wThen
    have t3:=hE (en:=en) hp2
    have t4:=K.need (en:=en) hp3 wElse
    have t5:=hE (en:=en) hp4
    have t6:=K.put (en:=en) hp5 (xNode wIf (e en y).2 (e en (needS en wThen (e en y).1)).2 (e en (needS en wElse (e en (needS en wThen (e en y).1)).1)).2)
    repeat (first|simp only [go_sem,takV,takP,hw]|refine Unf.h ?_)
    refine callK_px (t1) ?_ (fun _=>rfl) ?_
    · simp only [go_sem,pB]
    repeat (first|simp only [go_sem,hw]|refine Unf.h ?_)
    refine callK_ps (t2) ?_ (fun _=>rfl) ?_
    · simp only [go_sem,pB]
    repeat (first|simp only [go_sem,hw]|refine Unf.h ?_)
    refine callK_px (t3) ?_ (fun _=>rfl) ?_
    · simp only [go_sem,pB]
    repeat (first|simp only [go_sem,hw]|refine Unf.h ?_)
    refine callK_ps (t4) ?_ (fun _=>rfl) ?_
    · simp only [go_sem,pB]
    repeat (first|simp only [go_sem,hw]|refine Unf.h ?_)
    refine callK_px (t5) ?_ (fun _=>rfl) ?_
    · simp only [go_sem,pB]
    repeat (first|simp only [go_sem,hw]|refine Unf.h ?_)
    refine callK_px (t6) ?_ (fun _=>rfl) ?_
    · simp only [go_sem,pB]
    repeat (first|simp only [go_sem]|refine Unf.h ?_)
    refine hR _ (ends_objs ?_)
    simp only [go_sem]
  | none =>
    rw [hk1] at hR
    unfold cmpS at hR
    simp only at hR
    have t1:=hS (en:=en) hp
    have hp1:=hp.step (hs en x)
    have ht2:=K.take (en:=en) hp1 cmpL (by decide)
    repeat (first|simp only [go_sem,takV,takP,partsN]|refine Unf.h ?_)
    refine callK_px (t1) ?_ (fun _=>rfl) ?_
    · simp only [go_sem,pB]
    repeat (first|simp only [go_sem,partsN]|refine Unf.h ?_)
    refine callK_ps (ht2) ?_ (takV_refs _) ?_
    · simp only [go_sem,pB]
    cases hk2:takeT cmpL (s en x).1 with
    | some p =>
      obtain ⟨op,y⟩:=p
      rw [hk2] at hR
      simp only at hR
      obtain ⟨hp2,hm2⟩:=hp1.take hk2
      have t2:=hS (en:=en) hp2
      have t3:=K.put (en:=en) (hp2.step (hs en y)) (xNode op (s en x).2 (s en y).2 0)
      repeat (first|simp only [go_sem,takV,takP]|refine Unf.h ?_)
      refine callK_px (t2) ?_ (fun _=>rfl) ?_
      · simp only [go_sem,pB]
      repeat (first|simp only [go_sem]|refine Unf.h ?_)
      refine callK_px (t3) ?_ (fun _=>rfl) ?_
      · simp only [go_sem,pB]
      repeat (first|simp only [go_sem]|refine Unf.h ?_)
      refine hR _ (ends_objs ?_)
      simp only [go_sem]
    | none =>
      rw [hk2] at hR
      simp only at hR
      repeat (first|simp only [go_sem,takV,takP]|refine Unf.h ?_)
      refine hR _ (ends_objs ?_)
      simp only [go_sem]
theorem treeExprs {C:Ctx}(hfac:okFn C.P C.φ 225 g_tree_parser_factor=true)(hpair:okFn C.P C.φ 226 g_tree_parser_pair=true)(hprod:okFn C.P C.φ 224 g_tree_parser_product=true)(hsum:okFn C.P C.φ 223 g_tree_parser_sum=true)(hexp:okFn C.P C.φ 221 g_tree_parser_expression=true)(hleaf:okFn C.P C.φ 227 g_tree_parser_leaf=true)(K:TreeK C) :
    ∀ k,k≤20→HPr C 225 [vI ((21-k:Nat):Int)] (fun en=>facP en k)∧HPr C 221 [vI ((21-k:Nat):Int)] (fun en=>exprP en k)
  | 0,_=>⟨treeFactor0 hfac K,treeExpr0 hexp K⟩
  | k+1,hk=>by
    obtain ⟨ih1,ih2⟩:=treeExprs hfac hpair hprod hsum hexp hleaf K k (by omega)
    have e:21-k=(21-(k+1))+1:=by omega
    rw [e] at ih1 ih2
    have h1:HPr C 225 [vI ((21-(k+1):Nat):Int)] (fun en=>facP en (k+1)):=treeFactor hfac hpair K (treeLeaf hleaf K) (d:=21-(k+1)) (by omega) (fun en=>facP_step en k) (fun en=>exprP_step en k) ih1 ih2
    have hg:∀ en,Good1 (facP en (k+1)):=fun en=>facP_step en (k+1)
    have h2:HPr C 223 [vI ((21-(k+1):Nat):Int)] (fun en=>sumS (facP en (k+1))):=treeSum hsum K (fun en=>prod_step (hg en)) (treeProduct hprod K hg h1)
    exact ⟨h1,treeExpr hexp K (by omega) (fun en=>sum_step (hg en)) (fun en=>exprP_step en k) h2 ih2⟩
end Pay
