/- Contracts: the document's texts of all expressions. -/
import Derived.Test.YtmglkghngkbioaaGreatDoorPayMSw5
set_option linter.unusedSimpArgs false
set_option linter.unusedVariables false
set_option maxHeartbeats 1000000
namespace Pay
open Go
attribute [local irreducible] wpB opsB treeB drawB
def wV (nm:Nat)(l:List (List D)):V:=match l with | []=>.cap0|_::_=>.own nm
def wO (l:List (List D)):Option Ob:=match l with | []=>none|e::r=>some (.row 1 (e::r))
theorem refs_wV (n nm:Nat)(l:List (List D)):V.refs n (wV nm l)=(!l.isEmpty&&(nm==n)):=by cases l <;> rfl
theorem freshO_wO (nm k:Nat)(r:List (List D))(m:List (Nat × Option Ob)):freshO nm ((k,wO r)::m)=freshO nm m:=by
  cases r <;> simp [wO,freshO,Ob.refs]
theorem scrub_wO (n:Nat)(r:List (List D)):Option.map (Ob.scrub n) (wO r)=wO r:=by cases r <;> rfl
theorem quietL_wO {vs:List V}{k:Nat}(r:List (List D))(m:List (Nat × Option Ob))(h:V.refsL k vs=false):quietL vs ((k,wO r)::m)=quietL vs m:=by
  cases r <;> simp [wO,quietL,h]
theorem scrub_wV (n nm:Nat)(r:List (List D))(h:(nm==n)=false):scrubV n (wV nm r)=wV nm r:=by
  unfold scrubV;rw [refs_wV,h];simp
theorem wV_snoc (nm:Nat)(l:List (List D))(e:List D):wV nm (l++[e]) = .own nm:=by cases l <;> rfl
theorem wO_snoc (l:List (List D))(e:List D):wO (l++[e])=some (.row 1 (l++[e])):=by cases l <;> rfl
theorem wV_nil (nm:Nat):wV nm [] = .cap0:=rfl
theorem wV_cons (nm:Nat)(e:List D)(l:List (List D)):wV nm (e::l) = .own nm:=rfl
theorem wO_nil:wO []=none:=rfl
theorem wO_cons (e:List D)(l:List (List D)):wO (e::l)=some (.row 1 (e::l)):=rfl
def encI1' (n:Int):List D:=[dI n]
structure T9K (C:Ctx):Prop where
  level:∀ op:List UInt8,SoundAt C 201 ⟨[vS op],looko []⟩ ⟨vI (lvlS op),looko []⟩
  held:∀ (s:List UInt8) (a b:Int),s.length<1000000000→SoundAt C 202 ⟨[vS s,vI a,vI b],looko []⟩ ⟨vS (heldS (decide (a<b)) s),looko []⟩
  dig:∀ n:Nat,n<9223372036854775808→SoundAt C 71 ⟨[vI n],looko []⟩ ⟨vS (Lib.decDigits n),looko []⟩
  text:∀ n:Int,-9223372036854775808<n→n<9223372036854775808→SoundAt C 54 ⟨[vI n],looko []⟩ ⟨vS (textR n),looko []⟩
abbrev cX9 (x:Xpr):List V:=[vS x.op,vS x.name,vI x.val,vI x.a,vI x.b,vI x.c]
abbrev pBx (p:Prog):Ob:=.box [.d (.sl (p.rules.map encRl)),.d (.sl (p.exprs.map encX))]
theorem part_it {C:Ctx} (K:T9K C) {I:Nat→Prop} (hI:∀ n,¬I n) {Q:Ex→St→Prop} {p:Prog} {ts:List (List UInt8)} {i:Nat} (hts:ts.length=i) (hi:i<p.exprs.length) (hl:p.exprs.length<100000) {x:Xpr}
    {ks:List Int} {j:Nat} {k:Int} (hk:ks[j]? = some k) (hj:ks.length=3) {us:List (List UInt8)} {ns:List Int} (hu:us.length=j) (hn:ns.length=j)
    (hK:wpB C I g_ref09_Texts.l1 (St.mk (look [(1,.ptr 1 0),(3,wV 192 (ts.map encS1)),(4,vI i),(5,.ptr 5 0),(6,wV 58 ((us++[(partR p.exprs ts i k).1]).map encS1)),(7,wV 62 ((ns++[(partR p.exprs ts i k).2]).map encI1')),(31,.d (.sl (ks.map encI1'))),(32,vI 3),(33,vI (j+1:Nat))])
      (looko [(1,some (pBx p)),(5,some (.box (cX9 x))),(58,wO ((us++[(partR p.exprs ts i k).1]).map encS1)),(62,wO ((ns++[(partR p.exprs ts i k).2]).map encI1')),(192,wO (ts.map encS1))])) Q) :
    wpB C I g_ref09_Texts.l1 (St.mk (look [(1,.ptr 1 0),(3,wV 192 (ts.map encS1)),(4,vI i),(5,.ptr 5 0),(6,wV 58 (us.map encS1)),(7,wV 62 (ns.map encI1')),(31,.d (.sl (ks.map encI1'))),(32,vI 3),(33,vI j)])
      (looko [(1,some (pBx p)),(5,some (.box (cX9 x))),(58,wO (us.map encS1)),(62,wO (ns.map encI1')),(192,wO (ts.map encS1))])) Q:=by
  have hj3:j<3:=by have:=(List.getElem?_eq_some_iff.1 hk).1;omega
  have hlt:((j:Int)<3):=by omega
  have hlt2:((j:Int)<((ks.map encI1').length:Int)):=by rw [List.length_map];omega
  have gk:=getMap encI1' hk
  have hw:IntKind.i64.wrap ((j:Int)+1)=((j+1:Nat):Int):=by rw [wrapI (by omega) (by omega)];omega
  refine w_loopC (L:=g_ref09_Texts.l1) rfl ?_
  by_cases hin:0≤k∧k<(i:Int)
  · obtain ⟨h0,h1⟩:=hin
    have hkn:k.toNat<i:=by omega
    have gt:=List.getElem?_eq_getElem (l:=ts) (i:=k.toNat) (by omega)
    have gx:=List.getElem?_eq_getElem (l:=p.exprs) (i:=k.toNat) (by omega)
    obtain ⟨t,ht⟩:∃ t,ts[k.toNat]=t:=⟨_,rfl⟩
    obtain ⟨y,hy⟩:∃ y,p.exprs[k.toNat]=y:=⟨_,rfl⟩
    rw [ht] at gt
    rw [hy] at gx
    have hp:partR p.exprs ts i k=(t,lvlS y.op):=by unfold partR;rw [if_pos ⟨h0,h1⟩,gt,gx];rfl
    rw [hp] at hK
    have tl:=K.level y.op
    have hki:k<((ts.map encS1).length:Int):=by rw [List.length_map];omega
    have hkp:k<((p.exprs.map encX).length:Int):=by rw [List.length_map];omega
    have g1:=getMap encS1 gt
    have g2:=getMap encX gx
    obtain ⟨e,r,er⟩:∃ e r,ts.map encS1=e::r:=by
      cases hts':ts with
      | nil=>rw [hts'] at gt;simp at gt
      | cons a b=>exact ⟨_,_,rfl⟩
    rw [er] at hK hki g1 ⊢
    have hki:k<((r.length+1:Nat):Int):=hki
    rcases j with _|j
    · have e1:us=[]:=List.eq_nil_of_length_eq_zero hu
      have e2:ns=[]:=List.eq_nil_of_length_eq_zero hn
      subst e1 e2
      repeat (first|simp only [go_sem,hI,wV_nil,wV_cons,wO_nil,wO_cons,hlt,hlt2,decide_true,Int.natCast_nonneg,Int.toNat_natCast,gk,encI1',h0,h1,ge_iff_le,hki,hkp,g1,g2,encS1,encX,partsN,hw,List.length_map]|refine Unf.h ?_|refine And.intro ?_ (noRv_of (by simp only [go_sem]))|refine callK_plain (tl) (fun _=>rfl) ?_|refine callE_plain (tl) (fun _=>rfl) ?_|refine ⟨_,tl,fun _=>rfl,?_⟩|refine And.intro (by omega) ?_)
      exact hK
    · obtain ⟨ua,ub,rfl⟩:∃ a b,us=a::b:=by cases us with|nil=>simp at hu|cons a b=>exact ⟨a,b,rfl⟩
      obtain ⟨na,nb,rfl⟩:∃ a b,ns=a::b:=by cases ns with|nil=>simp at hn|cons a b=>exact ⟨a,b,rfl⟩
      simp only [List.length_cons] at hu hn
      repeat (first|simp only [go_sem,hI,wV_nil,wV_cons,wO_nil,wO_cons,hlt,hlt2,decide_true,Int.natCast_nonneg,Int.toNat_natCast,gk,encI1',h0,h1,ge_iff_le,hki,hkp,g1,g2,encS1,encX,partsN,hw,List.length_map]|refine Unf.h ?_|refine And.intro ?_ (noRv_of (by simp only [go_sem]))|refine callK_plain (tl) (fun _=>rfl) ?_|refine callE_plain (tl) (fun _=>rfl) ?_|refine ⟨_,tl,fun _=>rfl,?_⟩|refine And.intro (by omega) ?_)
      simp only [List.cons_append,List.map_cons,List.map_append,List.map_nil,wV_cons,wO_cons,encS1,encI1'] at hK
      exact hK
  · have hp:partR p.exprs ts i k=([],0):=by unfold partR;rw [if_neg hin]
    rw [hp] at hK
    have hcase:(¬(k≥0))∨(k≥0∧¬(k<(i:Int))):=by omega
    rcases j with _|j
    · have e1:us=[]:=List.eq_nil_of_length_eq_zero hu
      have e2:ns=[]:=List.eq_nil_of_length_eq_zero hn
      subst e1 e2
      rcases hcase with h0|⟨h0,h1⟩
      · repeat (first|simp only [go_sem,hI,wV_nil,wO_nil,freshO_wO,scrub_wO,refs_wV,hlt,hlt2,decide_true,decide_false,Int.natCast_nonneg,Int.toNat_natCast,gk,encI1',h0,encS1,encX,partsN,hw,List.length_map,Bool.and_false]|refine Unf.h ?_|refine And.intro ?_ (noRv_of (by simp only [go_sem]))|refine And.intro (by omega) ?_)
        trace_state
        exact hK
      · repeat (first|simp only [go_sem,hI,wV_nil,wO_nil,freshO_wO,scrub_wO,refs_wV,hlt,hlt2,decide_true,decide_false,Int.natCast_nonneg,Int.toNat_natCast,gk,encI1',h0,h1,encS1,encX,partsN,hw,List.length_map,Bool.and_false]|refine Unf.h ?_|refine And.intro ?_ (noRv_of (by simp only [go_sem]))|refine And.intro (by omega) ?_)
        exact hK
    · obtain ⟨ua,ub,rfl⟩:∃ a b,us=a::b:=by cases us with|nil=>simp at hu|cons a b=>exact ⟨a,b,rfl⟩
      obtain ⟨na,nb,rfl⟩:∃ a b,ns=a::b:=by cases ns with|nil=>simp at hn|cons a b=>exact ⟨a,b,rfl⟩
      simp only [List.length_cons] at hu hn
      simp only [List.cons_append,List.map_cons,List.map_append,List.map_nil,wV_cons,wO_cons,encS1,encI1'] at hK
      rcases hcase with h0|⟨h0,h1⟩
      · repeat (first|simp only [go_sem,hI,wV_cons,wO_cons,freshO_wO,scrub_wO,scrub_wV,refs_wV,hlt,hlt2,decide_true,decide_false,Int.natCast_nonneg,Int.toNat_natCast,gk,encI1',h0,encS1,encX,partsN,hw,List.length_map,Bool.and_false]|refine Unf.h ?_|refine And.intro ?_ (noRv_of (by simp only [go_sem]))|refine And.intro (by omega) ?_)
        trace_state
        exact hK
      · repeat (first|simp only [go_sem,hI,wV_cons,wO_cons,freshO_wO,scrub_wO,scrub_wV,refs_wV,hlt,hlt2,decide_true,decide_false,Int.natCast_nonneg,Int.toNat_natCast,gk,encI1',h0,h1,encS1,encX,partsN,hw,List.length_map,Bool.and_false]|refine Unf.h ?_|refine And.intro ?_ (noRv_of (by simp only [go_sem]))|refine And.intro (by omega) ?_)
        exact hK
end Pay
