/- Contracts: a program's text, and an expression's. -/
import Derived.Test.YtmglkghngkbioaaGreatDoorPayC98
import Derived.Test.YtmglkghngkbioaaGreatDoorPayMSw5
set_option linter.unusedSimpArgs false
set_option linter.unusedVariables false
set_option maxHeartbeats 1000000
namespace Pay
open Go
attribute [local irreducible] wpB opsB treeB drawB
structure TxK (C:Ctx) (p:Prog):Prop where
  write:∀ i:Int,0≤i∧i<(p.exprs.length:Int)→SoundAt C 200 ⟨[vProg p,vI i],looko []⟩ ⟨vS (writeW p.exprs i),looko []⟩
  bw:BdW C
  bs:BdS C
theorem line_len {es:List Xpr}(hE:OkE es){r:Rul}(h1:r.kind.length≤12)(h2:r.name.length≤12):(lineW es r).length≤52000000:=by
  have h:=writeW_len hE r.root
  have h3:=hE.len
  simp only [lineW,List.length_append,List.length_cons,List.length_nil]
  omega
theorem shLines_len {es:List Xpr}(hE:OkE es){N:Nat}:∀ (l:List Rul),(∀ r∈l,soundR N r=true)→(l.flatMap (lineW es)).length≤52000000*l.length
  | [],_=>by simp
  | r::l,h=>by
    have hr:=h r (by simp)
    simp only [soundR,Bool.and_eq_true,decide_eq_true_eq] at hr
    have h1:=line_len hE hr.1.2 hr.2
    have h2:=shLines_len hE l (fun x hx=>h x (List.mem_cons_of_mem _ hx))
    rw [List.flatMap_cons,List.length_append,List.length_cons]
    omega
theorem tx_loop {C:Ctx}{I:Nat→Prop}{Q:Ex→St→Prop}{p:Prog}(hI:∀ n,¬I n)(K:TxK C p)(hE:OkE p.exprs)(hR:∀ r∈p.rules,soundR p.exprs.length r=true)(h60:p.rules.length≤60)
    (hT:∀ t o,t 3 = .ptr 3 0→Q (.exit 0) (St.mk t (looko [(1,o),(3,some (.bld 503)),(503,some (.brow (textW p)))]))) :
    ∀ (m k:Nat),k+m=p.rules.length →
      wpB C I g_show_text.l0 (St.mk (look [(1,.ptr 1 0),(3,.ptr 3 0),(7,.d (.sl (p.rules.map encRl))),(8,vI p.rules.length),(9,vI k)]) (looko [(1,some (pBox p)),(3,some (.bld 503)),(503,some (.brow ((p.rules.take k).flatMap (lineW p.exprs))))])) Q:=by
  intro m
  induction m with
  | zero =>
    intro k hk
    have hk':k=p.rules.length:=by omega
    subst hk'
    rw [List.take_length]
    refine w_loopC (L:=g_show_text.l0) rfl ?_
    repeat (first|simp only [go_sem,Int.lt_irrefl,decide_false]|refine Unf.h ?_)
    refine hT _ _ ?_
    rfl
  | succ m ih =>
    intro k hk
    have hlt:k<p.rules.length:=by omega
    have hlt':((k:Int)<(p.rules.length:Int)):=by omega
    have e1:=List.getElem?_eq_getElem hlt
    obtain ⟨r,hr⟩:∃ r,p.rules[k]=r:=⟨_,rfl⟩
    rw [hr] at e1
    have hw:IntKind.i64.wrap ((k:Int)+1)=((k+1:Nat):Int):=by rw [wrapI (by omega) (by omega)];omega
    have hsr:=hR r (List.mem_of_getElem? e1)
    simp only [soundR,Bool.and_eq_true,decide_eq_true_eq] at hsr
    obtain ⟨⟨⟨r1,r2⟩,r3⟩,r4⟩:=hsr
    have tw:=K.write r.root ⟨r1,r2⟩
    have hwl:=writeW_len hE r.root
    have hel:=hE.len
    have hll:=line_len hE r3 r4
    have hol:=shLines_len hE (p.rules.take k) (fun x hx=>hR x (List.mem_of_mem_take hx))
    have ih':=ih (k+1) (by omega)
    have et:(p.rules.take (k+1)).flatMap (lineW p.exprs)=(p.rules.take k).flatMap (lineW p.exprs)++lineW p.exprs r:=by
      rw [List.take_add_one,e1,List.flatMap_append];simp
    rw [et] at ih'
    have hbl:((p.rules.take k).flatMap (lineW p.exprs)).length+(lineW p.exprs r).length≤140737488355328:=by
      rw [List.length_take] at hol
      omega
    generalize (p.rules.take k).flatMap (lineW p.exprs)=out at *
    clear hol hR ih
    have hlw:lineW p.exprs r=r.kind++[32]++r.name++[32,61,32]++writeW p.exprs r.root++[59,10]:=rfl
    refine w_loopC (L:=g_show_text.l0) rfl ?_
    repeat (first|simp only [go_sem,hlt',decide_true,Int.natCast_nonneg,Int.toNat_natCast,List.length_map,getMap encRl e1,encRl,hI,demand_if,List.length_append]|refine Unf.h ?_|refine And.intro ?_ (noRv_of (by simp only [go_sem]))|refine callK_plain (tw) (fun _=>rfl) ?_|refine callE_plain (tw) (fun _=>rfl) ?_|refine ⟨_,tw,fun _=>rfl,?_⟩|refine And.intro (by omega) ?_)
    rw [← hlw]
    refine callK_bw (n:=3) (k:=503) (l:=out) K.bw hbl (by simp only [go_sem,bL,freshOE,objsIn_cons,objsIn_nil,hI,List.contains_cons,List.contains_nil]) ?_
    repeat (first|simp only [go_sem,bL,updL_cons,updL_nil,hw]|refine Unf.h ?_|refine And.intro ?_ (noRv_of (by simp only [go_sem])))
    exact ih'
theorem showTextK {C:Ctx}(h:okFn C.P C.φ 198 g_show_text=true){p:Prog}(K:TxK C p)(hE:OkE p.exprs)(hs:soundP p=true):SoundAt C 198 ⟨[vProg p],looko []⟩ ⟨vS (textW p),looko []⟩:=by
  simp only [soundP,Bool.and_eq_true] at hs
  obtain ⟨⟨_,h2⟩,h3⟩:=hs
  have h60:=of_decide_eq_true h3
  refine SoundAt.of_run h rfl (fun Q hR hN => ?_)
  rw [entry1]
  repeat (first|simp only [go_sem,List.length_map]|refine Unf.h ?_|refine And.intro ?_ (noRv_of (by simp only [go_sem])))
  refine tx_loop (fun _ h=>h) K hE (List.all_eq_true.1 h2) h60 (fun t o h5 => ?_) p.rules.length 0 (by omega)
  repeat (first|simp only [go_sem,h5]|refine Unf.h ?_|refine And.intro ?_ (noRv_of (by simp only [go_sem])))
  refine callK_bs (n:=3) (k:=503) (l:=textW p) K.bs ⟨by decide,by simp only [go_sem,bL,objsIn_cons,objsIn_nil]⟩ ?_
  repeat (first|simp only [go_sem]|refine Unf.h ?_|refine And.intro ?_ (noRv_of (by simp only [go_sem])))
  refine hR _ ?_
  simp only [go_sem]
structure ShK (C:Ctx):Prop where
  sound:∀ p:Prog,p.rules.length<100000→p.exprs.length<100000→SoundAt C 197 ⟨[vProg p],looko []⟩ ⟨vB (soundP p),looko []⟩
  text:∀ p:Prog,OkE p.exprs→soundP p=true→SoundAt C 198 ⟨[vProg p],looko []⟩ ⟨vS (textW p),looko []⟩
  same:∀ p q:Prog,p.rules.length<100000→p.exprs.length<100000→SoundAt C 199 ⟨[vProg p,vProg q],looko []⟩ ⟨vB (decide (p=q)),looko []⟩
  parse:HParse C
  write:∀ p:Prog,OkE p.exprs→∀ i:Int,0≤i∧i<(p.exprs.length:Int)→SoundAt C 200 ⟨[vProg p,vI i],looko []⟩ ⟨vS (writeW p.exprs i),looko []⟩
theorem showText {C:Ctx} (h:okFn C.P C.φ 174 g_show_Text=true) (K:ShK C) (p:Prog) (h1:p.rules.length<100000) (h2:p.exprs.length<100000) (hv:∀ x∈p.exprs,IRange x.val) (ht:soundP p=true→(textW p).length<100000) :
    SoundAt C 174 ⟨[vProg p],looko []⟩ ⟨.tup [vS (showW p).1,vI (showW p).2],looko []⟩:=by
  have t1:=K.sound p h1 h2
  refine SoundAt.of_run h rfl (fun Q hR hN => ?_)
  rw [entry1]
  cases hs:soundP p with
  | false =>
    have e:showW p=([],1):=if_neg (by rw [hs];simp)
    rw [hs] at t1
    rw [e] at hR
    repeat (first|simp only [go_sem]|refine Unf.h ?_|refine And.intro ?_ (noRv_of (by simp only [go_sem]))|refine callK_plain (t1) (fun _=>rfl) ?_|refine callE_plain (t1) (fun _=>rfl) ?_|refine ⟨_,t1,fun _=>rfl,?_⟩)
    refine hR _ ?_
    simp only [go_sem]
  | true =>
    have hE:OkE p.exprs:=⟨by simp only [soundP,Bool.and_eq_true] at hs;exact hs.1.1,hv,h2⟩
    have t2:=K.text p hE hs
    have t3:=K.parse (textW p) (ht hs)
    have t4:=K.same p (parseP (textW p)).1 h1 h2
    rw [hs] at t1
    by_cases he:(parseP (textW p)).2.2=0
    · by_cases hq:p=(parseP (textW p)).1
      · have e:showW p=(textW p,0):=if_pos ⟨hs,he,hq.symm⟩
        rw [decide_eq_true hq] at t4
        rw [e] at hR
        repeat (first|simp only [go_sem,he,bne]|refine Unf.h ?_|refine And.intro ?_ (noRv_of (by simp only [go_sem]))|refine callK_plain (t1) (fun _=>rfl) ?_|refine callE_plain (t1) (fun _=>rfl) ?_|refine ⟨_,t1,fun _=>rfl,?_⟩|refine callK_plain (t2) (fun _=>rfl) ?_|refine callE_plain (t2) (fun _=>rfl) ?_|refine ⟨_,t2,fun _=>rfl,?_⟩|refine callK_plain (t3) (fun _=>rfl) ?_|refine callE_plain (t3) (fun _=>rfl) ?_|refine ⟨_,t3,fun _=>rfl,?_⟩|refine callK_plain (t4) (fun _=>rfl) ?_|refine callE_plain (t4) (fun _=>rfl) ?_|refine ⟨_,t4,fun _=>rfl,?_⟩)
        refine hR _ ?_
        simp only [go_sem]
      · have e:showW p=([],1):=if_neg (fun h=>hq h.2.2.symm)
        rw [decide_eq_false hq] at t4
        rw [e] at hR
        repeat (first|simp only [go_sem,he,bne]|refine Unf.h ?_|refine And.intro ?_ (noRv_of (by simp only [go_sem]))|refine callK_plain (t1) (fun _=>rfl) ?_|refine callE_plain (t1) (fun _=>rfl) ?_|refine ⟨_,t1,fun _=>rfl,?_⟩|refine callK_plain (t2) (fun _=>rfl) ?_|refine callE_plain (t2) (fun _=>rfl) ?_|refine ⟨_,t2,fun _=>rfl,?_⟩|refine callK_plain (t3) (fun _=>rfl) ?_|refine callE_plain (t3) (fun _=>rfl) ?_|refine ⟨_,t3,fun _=>rfl,?_⟩|refine callK_plain (t4) (fun _=>rfl) ?_|refine callE_plain (t4) (fun _=>rfl) ?_|refine ⟨_,t4,fun _=>rfl,?_⟩)
        refine hR _ ?_
        simp only [go_sem]
    · have e:showW p=([],1):=if_neg (fun h=>he h.2.1)
      have hb:((parseP (textW p)).2.2==0)=false:=by simp [he]
      rw [e] at hR
      repeat (first|simp only [go_sem,hb,bne]|refine Unf.h ?_|refine And.intro ?_ (noRv_of (by simp only [go_sem]))|refine callK_plain (t1) (fun _=>rfl) ?_|refine callE_plain (t1) (fun _=>rfl) ?_|refine ⟨_,t1,fun _=>rfl,?_⟩|refine callK_plain (t2) (fun _=>rfl) ?_|refine callE_plain (t2) (fun _=>rfl) ?_|refine ⟨_,t2,fun _=>rfl,?_⟩|refine callK_plain (t3) (fun _=>rfl) ?_|refine callE_plain (t3) (fun _=>rfl) ?_|refine ⟨_,t3,fun _=>rfl,?_⟩|refine callK_plain (t4) (fun _=>rfl) ?_|refine callE_plain (t4) (fun _=>rfl) ?_|refine ⟨_,t4,fun _=>rfl,?_⟩)
      refine hR _ ?_
      simp only [go_sem]
theorem showExpr {C:Ctx} (h:okFn C.P C.φ 175 g_show_Expr=true) (p:Prog) (hE:OkE p.exprs) (i:Int) (hT:SoundAt C 174 ⟨[vProg p],looko []⟩ ⟨.tup [vS (showW p).1,vI (showW p).2],looko []⟩)
    (hW:∀ i:Int,0≤i∧i<(p.exprs.length:Int)→SoundAt C 200 ⟨[vProg p,vI i],looko []⟩ ⟨vS (writeW p.exprs i),looko []⟩) :
    SoundAt C 175 ⟨[vProg p,vI i],looko []⟩ ⟨.tup [vS (exprW p i).1,vI (exprW p i).2],looko []⟩:=by
  refine SoundAt.of_run h rfl (fun Q hR hN => ?_)
  rw [entry2]
  by_cases h0:(showW p).2=0
  · have hb:((showW p).2==0)=true:=by simp [h0]
    by_cases h1:i<0
    · have e:exprW p i=([],1):=if_neg (by omega)
      rw [e] at hR
      repeat (first|simp only [go_sem,hb,h1,bne,decide_true]|refine Unf.h ?_|refine And.intro ?_ (noRv_of (by simp only [go_sem]))|refine callK_plain (hT) (fun _=>rfl) ?_|refine callE_plain (hT) (fun _=>rfl) ?_|refine ⟨_,hT,fun _=>rfl,?_⟩)
      refine hR _ ?_
      simp only [go_sem]
    · by_cases h2:i≥(p.exprs.length:Int)
      · have e:exprW p i=([],1):=if_neg (by omega)
        rw [e] at hR
        repeat (first|simp only [go_sem,hb,h1,h2,bne,decide_true,decide_false,List.length_map]|refine Unf.h ?_|refine And.intro ?_ (noRv_of (by simp only [go_sem]))|refine callK_plain (hT) (fun _=>rfl) ?_|refine callE_plain (hT) (fun _=>rfl) ?_|refine ⟨_,hT,fun _=>rfl,?_⟩)
        refine hR _ ?_
        simp only [go_sem]
      · have hi:0≤i∧i<(p.exprs.length:Int):=by omega
        have e:exprW p i=(writeW p.exprs i,0):=if_pos ⟨h0,hi⟩
        have tw:=hW i hi
        rw [e] at hR
        repeat (first|simp only [go_sem,hb,h1,h2,bne,decide_true,decide_false,List.length_map]|refine Unf.h ?_|refine And.intro ?_ (noRv_of (by simp only [go_sem]))|refine callK_plain (hT) (fun _=>rfl) ?_|refine callE_plain (hT) (fun _=>rfl) ?_|refine ⟨_,hT,fun _=>rfl,?_⟩|refine callK_plain (tw) (fun _=>rfl) ?_|refine callE_plain (tw) (fun _=>rfl) ?_|refine ⟨_,tw,fun _=>rfl,?_⟩)
        refine hR _ ?_
        simp only [go_sem]
  · have hb:((showW p).2==0)=false:=by simp [h0]
    have e:exprW p i=([],1):=if_neg (fun h=>h0 h.1)
    rw [e] at hR
    repeat (first|simp only [go_sem,hb,bne]|refine Unf.h ?_|refine And.intro ?_ (noRv_of (by simp only [go_sem]))|refine callK_plain (hT) (fun _=>rfl) ?_|refine callE_plain (hT) (fun _=>rfl) ?_|refine ⟨_,hT,fun _=>rfl,?_⟩)
    refine hR _ ?_
    simp only [go_sem]
end Pay
