/- Contracts: the tokens of a text. -/
import Derived.Test.YtmglkghngkbioaaGreatDoorPayC43
set_option linter.unusedSimpArgs false
set_option linter.unusedVariables false
set_option maxHeartbeats 1000000
namespace Pay
open Go
attribute [local irreducible] wpB opsB treeB drawB
structure Tok where
  kind:Int
  text:List UInt8
  pos:Nat
def encT (t:Tok):List D:=[dI t.kind,.str t.text,dI t.pos]
def lexGo (one:List UInt8→Int × Nat):Nat→Nat→List UInt8→List Tok × Option Nat
  | 0,_,_=>([],none)
  | _+1,_,[]=>([],none)
  | f + 1,p,c::r =>
    if c=32∨c=10 then lexGo one f (p+1) r
    else if c=35 then lexGo one f (p+runN lineB (c::r)) ((c::r).drop (runN lineB (c::r)))
    else if (one (c::r)).1=0 then ([],some p)
    else match lexGo one f (p+(one (c::r)).2) ((c::r).drop (one (c::r)).2) with
      | (ts,none)=>(⟨(one (c::r)).1,(c::r).take (one (c::r)).2,p⟩::ts,none)
      | (_,some e)=>([],some e)
def lexS (s:List UInt8):List Tok × Option Nat:=lexGo oneS s.length 0 s
def vLex (x:List Tok × Option Nat):V:=.tup [.d (.sl (x.1.map encT)),vI (match x.2 with|none=>0|some e=>e),vI (match x.2 with|none=>0|some _=>2)]
theorem oneS_pos {t:List UInt8} (h:(oneS t).1≠0):1≤(oneS t).2∧(oneS t).2≤t.length:=by
  cases t with
  | nil=>exact absurd rfl h
  | cons c r =>
    have l1:=runN_le wordB (c::r)
    have l2:=runN_le numB (c::r)
    rw [oneS] at h ⊢
    split
    · rename_i h1
      rw [if_pos h1] at h
      split
      · rename_i h2;rw [if_pos h2] at h;exact absurd rfl h
      · exact ⟨runN_pos (by simp [wordB,h1]),l1⟩
    · rename_i h1
      rw [if_neg h1] at h
      split
      · rename_i h2
        exact ⟨runN_pos (by simp [numB,h2]),l2⟩
      · rename_i h2
        rw [if_neg h2] at h
        split
        · rename_i h3;rw [if_pos h3] at h;exact absurd rfl h
        · rename_i h3
          refine ⟨by omega,?_⟩
          show signN (c::r)≤_
          unfold signN
          split
          · rename_i h4
            rcases h4 with h4|h4|h4 <;> exact (List.isPrefixOf_iff_prefix.1 h4).length_le
          · simp only
            split <;> simp
theorem lexGo_none (one:List UInt8→Int × Nat):∀ (f p:Nat) (t:List UInt8) (e:Nat),(lexGo one f p t).2=some e→(lexGo one f p t).1=[]
  | 0,_,_,_,h=>rfl
  | _+1,_,[],_,h=>rfl
  | f + 1,p,c::r,e,h=>by
    have ih1:=lexGo_none one f (p+1) r e
    have ih2:=lexGo_none one f (p+runN lineB (c::r)) ((c::r).drop (runN lineB (c::r))) e
    rw [lexGo] at h ⊢
    by_cases h1:c=32∨c=10
    · rw [if_pos h1] at h ⊢;exact ih1 h
    · rw [if_neg h1] at h ⊢
      by_cases h2:c=35
      · rw [if_pos h2] at h ⊢;exact ih2 h
      · rw [if_neg h2] at h ⊢
        by_cases h3:(one (c::r)).1=0
        · rw [if_pos h3]
        · rw [if_neg h3] at h ⊢
          revert h
          rcases lexGo one f (p+(one (c::r)).2) ((c::r).drop (one (c::r)).2) with ⟨ts,_|e⟩
          · intro h;cases h
          · intro _;rfl
theorem lexGo_err (one:List UInt8→Int × Nat)(f p:Nat)(t:List UInt8):(match lexGo one f p t with|(ts,none)=>(ts,none)|(_,some e)=>(([]:List Tok),some e))=lexGo one f p t:=by
  have:=lexGo_none one f p t
  rcases hx:lexGo one f p t with ⟨ts,_|e⟩
  · rfl
  · rw [hx] at this
    have hts:ts=[]:=this e rfl
    subst hts
    rfl
theorem all_loop {C:Ctx} (hOne:∀ (s:List UInt8) (k:Nat),k<s.length→s.length<100000→SoundAt C 104 ⟨[vS s,vI k],looko []⟩ ⟨.tup [vI (oneS (s.drop k)).1,vI (oneS (s.drop k)).2],looko []⟩)
    (hRun:∀ (s:List UInt8) (k:Nat),s.length<4611686018427387904→k≤s.length→SoundAt C 102 ⟨[vS s,vI k,.fn 103 []],looko []⟩ ⟨vI (runN lineB (s.drop k)),looko []⟩)
    {I:Nat→Prop} (hI:∀ n,¬I n) {Q:Ex→St→Prop} {s:List UInt8} (hs:s.length<100000) {x:List Tok × Option Nat}
    (hT:∀ ts,x=(ts,none)→Q .ret (St.mk (look [(2,ownV 55 ts),(3,vI 0),(4,vI 0)]) (looko [(55,ownO 3 encT ts)])))
    (hE:∀ e,x=([],some e)→∀ ob,Q .ret (St.mk (look [(2,.cap0),(3,vI e),(4,vI 2)]) (looko [(55,ob)]))) :
    ∀ (f k:Nat) (acc:List Tok),k≤s.length→s.length≤k+f→acc.length≤k →
      (match lexGo oneS f k (s.drop k) with|(ts,none)=>(acc++ts,none)|(_,some e)=>([],some e))=x →
      wpB C I g_lex_All.c7 (St.mk (look [(0,vS s),(5,ownV 55 acc),(6,vI k)]) (looko [(55,ownO 3 encT acc)])) (jumpK 0 (fun s=>wpA C I (.scope 0 [0,5,6] (some [55]) (.seq .skip g_lex_All.c7) (.seq .skip g_lex_All.c7)) (s.trim [0,5,6] (some [55])) Q) Q):=by
  intro f
  induction f with
  | zero =>
    intro k acc hk hf ha hx
    have hge:((k:Int)≥(s.length:Int)):=by omega
    simp only [lexGo,List.append_nil] at hx
    repeat (first|simp only [go_sem,hge,decide_true]|refine Unf.h ?_)
    exact hT _ hx.symm
  | succ f ih =>
    intro k acc hk hf ha hx
    by_cases hend:k=s.length
    · have hge:((k:Int)≥(s.length:Int)):=by omega
      rw [hend,List.drop_length] at hx
      simp only [lexGo,List.append_nil] at hx
      repeat (first|simp only [go_sem,hge,decide_true]|refine Unf.h ?_)
      exact hT _ hx.symm
    have hlt:k<s.length:=by omega
    have hge:¬((k:Int)≥(s.length:Int)):=by omega
    have he:=List.getElem?_eq_getElem hlt
    obtain ⟨c,hc⟩:∃ c,s[k]=c:=⟨_,rfl⟩
    obtain ⟨r,hr⟩:∃ r,s.drop k=c::r:=⟨_,by rw [List.drop_eq_getElem_cons hlt,hc]⟩
    have hr1:s.drop (k+1)=r:=by
      rw [← List.drop_drop,hr];rfl
    have hlr:r.length+1+k=s.length:=by
      have:=congrArg List.length hr
      simp at this;omega
    rw [hc] at he
    rw [hr] at hx
    have e32:((c.toNat:Int)==32)=(c==32):=byte_eq c 32
    have e10:((c.toNat:Int)==10)=(c==10):=byte_eq c 10
    have e35:((c.toNat:Int)==35)=(c==35):=byte_eq c 35
    have hw:IntKind.i64.wrap ((k:Int)+1)=((k+1:Nat):Int):=by rw [wrapI (by omega) (by omega)];omega
    simp only [lexGo] at hx
    have again:∀ k',k'≤s.length→s.length≤k'+f→acc.length≤k'→(match lexGo oneS f k' (s.drop k') with|(ts,none)=>(acc++ts,none)|(_,some e)=>([],some e))=x →
        wpA C I (.scope 0 [0,5,6] (some [55]) (.seq .skip g_lex_All.c7) (.seq .skip g_lex_All.c7)) (St.mk (look [(0,vS s),(5,ownV 55 acc),(6,vI k')]) (looko [(55,ownO 3 encT acc)])) Q :=
      fun k' h1 h2 h3 h4=>w_again (ih k' acc h1 h2 h3 h4)
    by_cases h1:c=32
    · have h1':(c==32)=true:=by simpa using h1
      rw [if_pos (.inl h1),← hr1] at hx
      repeat (first|simp only [go_sem,hge,decide_false,he,Int.natCast_nonneg,Int.toNat_natCast,e32,h1',hw]|refine Unf.h ?_)
      exact again (k+1) (by omega) (by omega) (by omega) hx
    have h1':(c==32)=false:=by simpa using h1
    by_cases h2:c=10
    · have h2':(c==10)=true:=by simpa using h2
      rw [if_pos (.inr h2),← hr1] at hx
      repeat (first|simp only [go_sem,hge,decide_false,he,Int.natCast_nonneg,Int.toNat_natCast,e32,e10,h1',h2',hw]|refine Unf.h ?_)
      exact again (k+1) (by omega) (by omega) (by omega) hx
    have h2':(c==10)=false:=by simpa using h2
    rw [if_neg (by simp [h1,h2])] at hx
    by_cases h3:c=35
    · have h3':(c==35)=true:=by simpa using h3
      have t1:=hRun s k (by omega) (by omega)
      rw [hr] at t1
      rw [if_pos h3] at hx
      have hp:1≤runN lineB (c::r):=runN_pos (by subst h3;rfl)
      have hle:=runN_le lineB (c::r)
      rw [List.length_cons] at hle
      have hw2:IntKind.i64.wrap ((k:Int)+(runN lineB (c::r):Int))=((k+runN lineB (c::r):Nat):Int):=by rw [wrapI (by omega) (by omega)];omega
      have hdr:(c::r).drop (runN lineB (c::r))=s.drop (k+runN lineB (c::r)):=by rw [← hr,List.drop_drop]
      rw [hdr] at hx
      obtain ⟨n,hn⟩:∃ n,runN lineB (c::r)=n:=⟨_,rfl⟩
      rw [hn] at hw2 t1 hx hp hle
      repeat (first|simp only [go_sem,hge,decide_false,he,Int.natCast_nonneg,Int.toNat_natCast,e32,e10,e35,h1',h2',h3',hw2]|refine callK_plain t1 (fun _=>rfl) ?_|refine Unf.h ?_)
      exact again (k+n) (by omega) (by omega) (by omega) hx
    have h3':(c==35)=false:=by simpa using h3
    rw [if_neg h3] at hx
    have t1:=hOne s k hlt hs
    rw [hr] at t1
    by_cases h4:(oneS (c::r)).1=0
    · have h4':((oneS (c::r)).1==0)=true:=by simpa using h4
      rw [if_pos h4] at hx
      repeat (first|simp only [go_sem,hge,decide_false,he,Int.natCast_nonneg,Int.toNat_natCast,e32,e10,e35,h1',h2',h3',h4']|refine callK_plain t1 (fun _=>rfl) ?_|refine Unf.h ?_)
      exact hE k hx.symm _
    have h4':((oneS (c::r)).1==0)=false:=by simpa using h4
    rw [if_neg h4] at hx
    obtain ⟨hp,hle⟩:=oneS_pos h4
    rw [List.length_cons] at hle
    have hw2:IntKind.i64.wrap ((k:Int)+((oneS (c::r)).2:Int))=((k+(oneS (c::r)).2:Nat):Int):=by rw [wrapI (by omega) (by omega)];omega
    have hdr:(c::r).drop (oneS (c::r)).2=s.drop (k+(oneS (c::r)).2):=by rw [← hr,List.drop_drop]
    have hcut:(s.take (k+(oneS (c::r)).2)).drop k=(c::r).take (oneS (c::r)).2:=by rw [List.drop_take,hr];congr 1;omega
    rw [hdr] at hx
    obtain ⟨kind,hkind⟩:∃ n,(oneS (c::r)).1=n:=⟨_,rfl⟩
    obtain ⟨n,hn⟩:∃ n,(oneS (c::r)).2=n:=⟨_,rfl⟩
    obtain ⟨u,hu⟩:∃ u,(c::r).take n=u:=⟨_,rfl⟩
    rw [hn] at hw2 t1 hx hp hle hcut
    rw [hkind] at t1 hx h4'
    rw [hu] at hx hcut
    have hb1:((k+n:Nat):Int)≤(s.length:Int):=by omega
    have hb2:(k:Int)≤((k+n:Nat):Int):=by omega
    have next:wpA C I (.scope 0 [0,5,6] (some [55]) (.seq .skip g_lex_All.c7) (.seq .skip g_lex_All.c7)) (St.mk (look [(0,vS s),(5,ownV 55 (acc++[⟨kind,u,k⟩])),(6,vI ((k+n:Nat):Int))]) (looko [(55,ownO 3 encT (acc++[⟨kind,u,k⟩]))])) Q:=by
      refine w_again (ih (k+n) (acc++[⟨kind,u,k⟩]) (by omega) (by omega) (by simp;omega) ?_)
      rw [← hx]
      rcases lexGo oneS f (k+n) (s.drop (k+n)) with ⟨ts,_|e⟩ <;> simp
    rw [ownV_snoc,ownO_snoc] at next
    cases acc with
    | nil =>
      repeat (first|simp only [go_sem,hI,ownV,ownO,partsN,hge,decide_false,he,Int.natCast_nonneg,Int.toNat_natCast,e32,e10,e35,h1',h2',h3',h4',hw2,hb1,hb2,hcut,and_self]|refine callK_plain t1 (fun _=>rfl) ?_|refine Unf.h ?_)
      exact next
    | cons a l =>
      have ha1:l.length+1+1≤140737488355328:=by simp at ha;omega
      have ha2:(l.length+1+1)*32≤140737488355328:=by simp at ha;omega
      repeat (first|simp only [go_sem,hI,ownV,ownO,partsN,hge,decide_false,he,Int.natCast_nonneg,Int.toNat_natCast,e32,e10,e35,h1',h2',h3',h4',hw2,hb1,hb2,hcut,and_self,List.length_map,ha1,ha2]|refine callK_plain t1 (fun _=>rfl) ?_|refine Unf.h ?_)
      exact next
theorem lexAll {C:Ctx}(h:okFn C.P C.φ 74 g_lex_All=true)(hOne:∀ (s:List UInt8)(k:Nat),k<s.length→s.length<100000→SoundAt C 104 ⟨[vS s,vI k],looko []⟩ ⟨.tup [vI (oneS (s.drop k)).1,vI (oneS (s.drop k)).2],looko []⟩)
    (hRun:∀ (s:List UInt8) (k:Nat),s.length<4611686018427387904→k≤s.length→SoundAt C 102 ⟨[vS s,vI k,.fn 103 []],looko []⟩ ⟨vI (runN lineB (s.drop k)),looko []⟩) (s:List UInt8) (hs:s.length<100000) :
    SoundAt C 74 ⟨[vS s],looko []⟩ ⟨vLex (lexS s),looko []⟩:=by
  have key:∀ r,(match lexS s with|(ts,none)=>r = .tup [slV encT ts,vI 0,vI 0]|(_,some e)=>r = .tup [.cap0,vI e,vI 2])→SoundAt C 74 ⟨[vS s],looko []⟩ ⟨r,looko []⟩:=by
    intro r hr
    refine SoundAt.of_run h rfl (fun Q hR hN => ?_)
    rw [entry1]
    repeat (first|simp only [go_sem]|refine Unf.h (a:=wpB _ _ g_lex_All.code _ _) ?_)
    refine all_loop hOne hRun (I:=fun n=>False) (fun n h=>h) (Q:=Q) hs (x:=lexS s) (fun ts hx => ?_) (fun e hx ob => ?_) s.length 0 [] (by omega) (by omega) (by simp) (lexGo_err oneS s.length 0 s)
    · refine hR _ ?_
      rw [hx] at hr
      subst hr
      cases ts with
      | nil=>simp only [go_sem,ownV,ownO,slV]
      | cons a l=>simp only [go_sem,ownV,ownO,slV]
    · refine hR _ ?_
      rw [hx] at hr
      subst hr
      simp only [go_sem]
  rcases hx:lexS s with ⟨ts,_|e⟩
  · have:=SoundAt.res_up (key (.tup [slV encT ts,vI 0,vI 0]) (by rw [hx]))
    simpa [V.up,V.ups,slV_up,vLex] using this
  · have he:=lexGo_err oneS s.length 0 s
    rw [show lexGo oneS s.length 0 s=(ts,some e) from hx] at he
    simp only [Prod.mk.injEq,and_true] at he
    subst he
    have:=SoundAt.res_up (key (.tup [.cap0,vI e,vI 2]) (by rw [hx]))
    simpa [V.up,V.ups,slV_up,vLex] using this
end Pay
