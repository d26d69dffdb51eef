/- A contract: a row is turned round. -/
import Derived.Test.YtmglkghngkbioaaGreatDoorPaySh0_0
set_option linter.unusedSimpArgs false
set_option linter.unusedVariables false
set_option maxHeartbeats 1000000
namespace Pay
open Go
attribute [local irreducible] wpB opsB treeB drawB
def RevI (es:List (List D))(i:Nat)(cur:List (List D)):Prop:=cur.length=es.length∧∀ k,k<es.length→cur[k]? = if k<i∨es.length≤k+i then es[es.length-1-k]? else es[k]?
theorem rev_start (es:List (List D)):RevI es 0 es:=⟨rfl,fun k hk=>by rw [if_neg (by omega)]⟩
theorem rev_end {es cur:List (List D)}{i:Nat}(h:RevI es i cur)(hi:es.length≤2*i+1):cur=es.reverse:=by
  apply List.ext_getElem?
  intro k
  by_cases hk:k<es.length
  · rw [h.2 k hk,List.getElem?_reverse hk]
    split
    · rfl
    · rename_i hn
      congr 1
      omega
  · rw [List.getElem?_eq_none (by rw [h.1];omega),List.getElem?_eq_none (by rw [List.length_reverse];omega)]
theorem rev_step {es cur:List (List D)}{i j:Nat}(h:RevI es i cur)(hj:i+j+1=es.length)(hij:i<j){a b:List D}(ha:cur[i]? = some a)(hb:cur[j]? = some b):RevI es (i+1) ((cur.set i b).set j a):=by
  refine ⟨by simp [h.1],fun k hk => ?_⟩
  have e1:es[i]? = some a:=by rw [← ha,h.2 i (by omega),if_neg (by omega)]
  have e2:es[j]? = some b:=by rw [← hb,h.2 j (by omega),if_neg (by omega)]
  have hlen:=h.1
  by_cases hkj:k=j
  · subst hkj
    rw [List.getElem?_set_self (by simp;omega),if_pos (by omega),← e1]
    congr 1;omega
  · rw [List.getElem?_set_ne (by omega)]
    by_cases hki:k=i
    · subst hki
      rw [List.getElem?_set_self (by omega),if_pos (by omega),← e2]
      congr 1;omega
    · rw [List.getElem?_set_ne (by omega),h.2 k hk]
      by_cases hc:k<i∨es.length≤k+i
      · rw [if_pos hc,if_pos (by omega)]
      · rw [if_neg hc,if_neg (by omega)]
theorem len3 {e:List D}(h:e.length=3):∃ a b c,e=[a,b,c]:=by
  match e,h with
  | [a,b,c],_=>exact ⟨a,b,c,rfl⟩
theorem rev_all {es cur:List (List D)}{i:Nat}(h:RevI es i cur)(h3:∀ e∈es,e.length=3):∀ e∈cur,e.length=3:=by
  intro e he
  obtain ⟨k,hk,rfl⟩:=List.mem_iff_getElem.1 he
  have h1:=h.2 k (by rw [← h.1];exact hk)
  rw [List.getElem?_eq_getElem hk] at h1
  split at h1
  · exact h3 _ (List.mem_of_getElem? h1.symm)
  · exact h3 _ (List.mem_of_getElem? h1.symm)
theorem rev_loop {C:Ctx}{I:Nat→Prop}{Q:Ex→St→Prop}{n:Nat}{es:List (List D)}(hl:es.length<100000000)(h3:∀ e∈es,e.length=3)
    (hQ:∀ t,Q (.exit 0) (St.mk t (looko [(n,some (.row 3 es.reverse))]))) :
    ∀ (m i:Nat) (cur:List (List D)),es.length≤2*i+m→i≤es.length→RevI es i cur →
      wpB C I g_slices_Reverse_item.l0 (St.mk (look [(0,.own n),(2,vI i),(3,vI ((es.length:Int)-1-i))]) (looko [(n,some (.row 3 cur))])) Q:=by
  intro m
  induction m with
  | zero =>
    intro i cur hm hi hr
    refine g_slices_Reverse_item_l0_sh rfl ?_
    have hn:¬((i:Int)<(es.length:Int)-1-i):=by omega
    have e:=rev_end hr (by omega)
    repeat (first|simp only [go_sem,hn,decide_false,e]|refine Unf.h ?_)
    exact hQ _
  | succ m ih =>
    intro i cur hm hi hr
    refine g_slices_Reverse_item_l0_sh rfl ?_
    by_cases hij:(i:Int)<(es.length:Int)-1-i
    · obtain ⟨j,hj⟩:∃ j,i+j+1=es.length:=⟨es.length-1-i,by omega⟩
      have ej:(es.length:Int)-1-i=(j:Int):=by omega
      rw [ej] at hij ⊢
      have hlen:=hr.1
      have hi1:i<cur.length:=by omega
      have hj1:j<cur.length:=by omega
      have ga:=List.getElem?_eq_getElem hi1
      have gb:=List.getElem?_eq_getElem hj1
      have w1:=wrapI (x:=(i:Int)+1) (by omega) (by omega)
      have w2:=wrapI (x:=(j:Int)-1) (by omega) (by omega)
      have st:=rev_step hr hj (by omega) ga gb
      have ih':=ih (i+1) _ (by omega) (by omega) st
      rw [show (es.length:Int)-1-((i+1:Nat):Int)=(j:Int)-1 by omega] at ih'
      obtain ⟨a0,a1,a2,ea⟩:=len3 (rev_all hr h3 _ (List.getElem_mem hi1))
      obtain ⟨b0,b1,b2,eb⟩:=len3 (rev_all hr h3 _ (List.getElem_mem hj1))
      rw [ea] at ga ih'
      rw [eb] at gb ih'
      have gs:(cur.set i [b0,b1,b2])[j]? = some [b0,b1,b2]:=by rw [List.getElem?_set_ne (by omega)];exact gb
      have hi2:(i:Int)<(cur.length:Int):=by omega
      have hj2:(j:Int)<(cur.length:Int):=by omega
      rw [Int.natCast_add,Int.natCast_one] at ih'
      repeat' (first|simp only [go_sem,hij,decide_true,Int.natCast_nonneg,Int.toNat_natCast,hi2,hj2,ga,gb,gs,List.length_set,w1,w2,Nat.le_refl]|refine Unf.h ?_|refine And.intro ?_ ?_)
      all_goals exact ih'
    · have e:=rev_end hr (by omega)
      repeat (first|simp only [go_sem,hij,decide_false,e]|refine Unf.h ?_)
      exact hQ _
theorem slReverse {C:Ctx}(h:okFn C.P C.φ 212 g_slices_Reverse_item=true)(n:Nat)(es:List (List D))(hl:es.length<100000000)(h3:∀ e∈es,e.length=3) :
    SoundAt C 212 ⟨[.own n],looko (oL [(n,.row 3 es)])⟩ ⟨.tup [],looko (oL [(n,.row 3 es.reverse)])⟩:=by
  have hw:=wrapI (x:=(es.length:Int)-1) (by omega) (by omega)
  refine SoundAt.of_run h rfl (fun Q hR hN => ?_)
  simp only [oL,List.map_cons,List.map_nil]
  rw [entry1]
  have e0:∀ {I:Nat→Prop},wpB C I g_slices_Reverse_item.l0 (St.mk (look [(0,.own n),(2,vI 0),(3,vI ((es.length:Int)-1))]) (looko [(n,some (.row 3 es))])) (blockK 0 [] none Q):=by
    intro I
    have e:=rev_loop (C:=C) (I:=I) (Q:=blockK 0 [] none Q) (n:=n) (es:=es) hl h3 (fun t=>by
      repeat (first|simp only [go_sem]|refine Unf.h ?_)
      refine hN _ (ends_objs ?_)
      simp only [go_sem]
      first|done|exact ⟨rfl,rfl,trivial⟩|trace_state) es.length 0 es (by omega) (by omega) (rev_start es)
    rw [Int.natCast_zero,Int.sub_zero] at e
    exact e
  repeat (first|simp only [go_sem,hw]|refine Unf.h ?_)
  exact e0
end Pay
