/- The theory: texts of the dev place in one; each part's head says what it holds. -/
import Derived.ScopeJumps
import Derived.Test.YtmglkghngkbioaaGreatDoorPayBa0
/- Contracts: what a function makes of values and objects; a call keeps the relation. -/
section
set_option linter.unusedSimpArgs false
set_option linter.unusedVariables false
namespace Pay
open Go
structure CS where
  vs:List V
  o:Nat→Option Ob
structure RS where
  r:V
  o:Nat→Option Ob
def Enters (P:Program)(f:FuncId)(us:Array Value)(w:World)(R:Value→World→Prop):Prop :=
  match (callFunc f us).run P w with
  | .ok (.value v) w'=>R v w'
  | .ok .skip w'=>R undef w'
  | .ok (.enter f' us') w'=>Calls P f' us' w' (fun e w''=>match e with | .returned v=>R v w''|_=>False)
  | _=>False
theorem Enters.mono {P:Program}{f:FuncId}{us:Array Value}{w:World}{R R':Value→World→Prop}(h:Enters P f us w R)(hr:∀ v w',R v w'→R' v w'):Enters P f us w R':=by
  unfold Enters at *
  split at h
  · exact hr _ _ h
  · exact hr _ _ h
  · exact Calls.mono h (fun e w' he=>by cases e <;> first|exact hr _ _ he|exact he)
  · exact h.elim
structure Pre (C:Ctx) (w:World) (S M:Nat→Prop) (γ:Nat→Value) (cin:CS) (us:List Value):Prop where
  env:Env C w S M
  args:RepVs C w (okOf w S γ cin.o w) γ cin.vs us
  objs:∀ n x,cin.o n=some x→RepO C w (okOf w S γ cin.o w) γ x (γ n)
  sep:∀ n m x y g,cin.o n=some x→cin.o m=some y→blk (γ n)=some g→blk (γ m)=some g→n=m
  muts:∀ n x g,cin.o n=some x→blk (γ n)=some g→M g
structure Post (C:Ctx) (w:World) (S M:Nat→Prop) (γ:Nat→Value) (X:Nat→Prop) (cin:CS) (cout:RS) (v:Value) (w':World) (γ':Nat→Value):Prop where
  res:RepV C w' (okOf w S γ' cout.o w') γ' cout.r v
  objs:∀ n x,cout.o n=some x→RepO C w' (okOf w S γ' cout.o w') γ' x (γ' n)
  sep:∀ n m x y g,cout.o n=some x→cout.o m=some y→blk (γ' n)=some g→blk (γ' m)=some g→n=m
  muts:∀ n x g,cout.o n=some x→blk (γ' n)=some g→M g∨w.heap.size≤g
  fram:Fram w w' M
  hdr:∀ n,cin.o n≠none→¬X n→γ' n=γ n
def SoundX (C:Ctx)(f:Nat)(X:Nat→Prop)(cin:CS)(cout:RS):Prop :=
  ∀ (w:World) (S M:Nat→Prop) (γ:Nat→Value) (us:List Value),Pre C w S M γ cin us→Enters C.P (C.φ f) ⟨us⟩ w (fun v w'=>∃ γ',Post C w S M γ X cin cout v w' γ')
abbrev SoundAt (C:Ctx) (f:Nat) (cin:CS) (cout:RS):Prop:=SoundX C f (fun _=>False) cin cout
def exO (E:Nat→Bool)(o:Nat→Option Ob):Nat→Option Ob:=fun n=>if E n=true then o n else none
structure Names (I:Nat→Prop) (st:St) (dst:Option Nat) (E:Nat→Bool) (X:Nat→Prop) (cout:RS):Prop where
  new:∀ n,cout.o n≠none→(E n=true∧st.o n≠none)∨(¬I n∧Fresh st n dst)
  res:∀ n,V.refs n cout.r=true→cout.o n≠none∨(E n=true∧st.o n≠none)
  obj:∀ n x,cout.o n=some x→∀ m,x.refs m=true→cout.o m≠none∨(E m=true∧st.o m≠none)
  lo:∀ n,X n→E n=true→st.o n≠none→¬I n∧(∀ t,dst≠some t→V.refs n (st.s t)=false)∧∀ m x,E m=false→st.o m=some x→x.refs n=false
def mixO (E:Nat→Bool)(o o':Nat→Option Ob):Nat→Option Ob:=fun n=>match o' n with|some x=>some x|none=>if E n=true then none else o n
section
variable {C:Ctx}{w0:World}{S M:Nat→Prop}{N:Nat}{γ:Nat→Value}{st:St}{a:Act}{w:World}
theorem Rel.env (hr:Rel C w0 S M N γ st a w)(he:Env C w0 S M):C.gi w:=by
  refine C.keep w0 w he.gi (fun g hg=>hr.fram.block g (Nat.lt_of_lt_of_le hg he.bs) (fun hM => ?_))
  have:=(he.mb g hM).1
  omega
theorem exO_some {E:Nat→Bool}{o:Nat→Option Ob}{n:Nat}{x:Ob}(h:exO E o n=some x):E n=true∧o n=some x:=by
  unfold exO at h
  split at h
  · rename_i he;exact ⟨he,h⟩
  · cases h
theorem call_sound (hr:Rel C w0 S M N γ st a w) (he:Env C w0 S M) {dst:Option Nat} (hd:∀ d,dst=some d→d<N) {I:Nat→Prop} {f:Nat} {xs:List V} {us:List Value} {E:Nat→Bool} {X:Nat→Prop} {cout:RS}
    (hxs:RepVs C w (okOf w0 S γ st.o w) γ xs us) (hs:SoundX C f X ⟨xs,exO E st.o⟩ cout) (hn:Names I st dst E X cout) :
    Enters C.P (C.φ f) ⟨us⟩ w (fun v w'=>∃ γ'',(∀ n,I n→γ'' n=γ n)∧Rel C w0 S M N γ'' { s:=(st.put dst cout.r).s,o:=mixO E st.o cout.o } (a.put dst v) w'):=by
  let cin:CS:=⟨xs,exO E st.o⟩
  let Mc:Nat→Prop:=fun g=>∃ n x,exO E st.o n=some x∧blk (γ n)=some g
  let Sc:Nat→Prop:=fun g=>okOf w0 S γ st.o w g∨Mc g
  have hMc:∀ g,Mc g→(M g∨w0.heap.size≤g)∧g<w.heap.size:=by
    rintro g ⟨n,x,hx,hg⟩
    obtain ⟨_,hx⟩:=exO_some hx
    exact ⟨hr.muts n x g hx hg,blk_lt (hr.objs n x hx) hg⟩
  have henv:Env C w Sc Mc:=by
    refine ⟨hr.env he,Nat.le_trans he.bs hr.fram.size,fun g hg=>⟨?_,(hMc g hg).2⟩,fun g hg => ?_,fun g hg=>.inr hg⟩
    · rcases (hMc g hg).1 with h|h
      · exact (he.mb g h).1
      · exact Nat.le_trans he.bs h
    · rcases hg with h|h
      · exact h.2.1
      · exact (hMc g h).2
  have hokc:∀ g,okOf w0 S γ st.o w g→w.heap[g]? = w.heap[g]? ∧ okOf w Sc γ (exO E st.o) w g:=fun g hg =>
    ⟨rfl,.inl (.inl hg),hg.2.1,fun n x hx=>hg.2.2 n x (exO_some hx).2⟩
  have hpre:Pre C w Sc Mc γ cin us:=by
    refine ⟨henv,RepVs.mono hokc _ _ (fun _ _=>rfl) hxs,fun n x hx => ?_,fun n m x y g hx hy => ?_,fun n x g hx hg=>⟨n,x,hx,hg⟩⟩
    · exact RepO.mono hokc (fun _ _=>rfl) (fun _ _=>rfl) (hr.objs n x (exO_some hx).2)
    · exact hr.sep n m x y g (exO_some hx).2 (exO_some hy).2
  refine Enters.mono (hs w Sc Mc γ us hpre) ?_
  rintro v w' ⟨γ',hp⟩
  let γ'':Nat→Value:=fun n=>if (cout.o n).isSome=true∨(E n=true∧(st.o n).isSome=true) then γ' n else γ n
  have hcin:∀ n,E n=true→st.o n≠none→¬X n→γ' n=γ n:=fun n h1 h2 h3=>hp.hdr n (by show exO E st.o n≠none;unfold exO;rw [if_pos h1];exact h2) h3
  have g2:∀ n,(cout.o n≠none∨(E n=true∧st.o n≠none))→γ'' n=γ' n:=fun n h=>by
    show (if (cout.o n).isSome=true∨(E n=true∧(st.o n).isSome=true) then γ' n else γ n)=γ' n
    rw [if_pos (by rw [Option.isSome_iff_ne_none,Option.isSome_iff_ne_none];exact h)]
  have g1:∀ n,cout.o n≠none→γ'' n=γ' n:=fun n h=>g2 n (.inl h)
  have g3:∀ n,((cout.o n≠none∨(E n=true∧st.o n≠none))→E n=true∧st.o n≠none∧¬X n)→γ'' n=γ n:=fun n h=>by
    show (if (cout.o n).isSome=true∨(E n=true∧(st.o n).isSome=true) then γ' n else γ n)=γ n
    split
    · rename_i hsome
      rw [Option.isSome_iff_ne_none,Option.isSome_iff_ne_none] at hsome
      obtain ⟨h1,h2,h3⟩:=h hsome
      exact hcin n h1 h2 h3
    · rfl
  have g0:∀ n,cout.o n=none→E n=false→γ'' n=γ n:=fun n h1 h2=>g3 n (fun h=>by
    rcases h with h|⟨h,_⟩
    · exact absurd h1 h
    · rw [h2] at h;cases h)
  have mix:∀ n x,mixO E st.o cout.o n=some x→cout.o n=some x∨(cout.o n=none∧E n=false∧st.o n=some x):=by
    intro n x hx
    unfold mixO at hx
    split at hx
    · rename_i y hy;injection hx with hx;subst hx;exact .inl hy
    · rename_i hy
      split at hx
      · cases hx
      · rename_i hE;exact .inr ⟨hy,by simpa using hE,hx⟩
  have hnM:∀ n x g,E n=false→st.o n=some x→blk (γ n)=some g→¬Mc g:=by
    rintro n x g hE hx hg ⟨m,y,hy,hgm⟩
    obtain ⟨hEm,hy⟩:=exO_some hy
    have:=hr.sep n m x y g hx hy hg hgm
    subst this
    rw [hE] at hEm;cases hEm
  have okk:∀ g,g<w'.heap.size→(S g∨w0.heap.size≤g)→(∀ n x,E n=false→st.o n=some x→cout.o n=none→blk (γ n)≠some g)→(∀ n x,cout.o n=some x→blk (γ' n)≠some g)→okOf w0 S γ'' (mixO E st.o cout.o) w' g:=by
    intro g h1 h2 h3 h4
    refine ⟨h2,h1,fun n x hx => ?_⟩
    rcases mix n x hx with h|⟨k1,k2,k3⟩
    · rw [g1 n (by rw [h];simp)]
      exact h4 n x h
    · rw [g0 n k1 k2]
      exact h3 n x k2 k3 k1
  have hold:∀ g,okOf w0 S γ st.o w g→w'.heap[g]? = w.heap[g]? ∧ okOf w0 S γ'' (mixO E st.o cout.o) w' g:=by
    intro g hg
    have hnm:¬Mc g:=by
      rintro ⟨n,x,hx,hb⟩
      exact hg.2.2 n x (exO_some hx).2 hb
    refine ⟨hp.fram.block g hg.2.1 hnm,okk g (Nat.lt_of_lt_of_le hg.2.1 hp.fram.size) hg.1 (fun n x _ hx _=>hg.2.2 n x hx) (fun n x hx hb => ?_)⟩
    rcases hp.muts n x g hx hb with h|h
    · exact hnm h
    · have:=hg.2.1;omega
  have hnew:∀ g,okOf w Sc γ' cout.o w' g→w'.heap[g]? = w'.heap[g]? ∧ okOf w0 S γ'' (mixO E st.o cout.o) w' g:=by
    intro g hg
    refine ⟨rfl,okk g hg.2.1 ?_ (fun n x hE hx hcn hb => ?_) hg.2.2⟩
    · rcases hg.1 with (h|h)|h
      · exact h.1
      · rcases (hMc g h).1 with h|h
        · exact .inl (he.ms g h)
        · exact .inr h
      · exact .inr (Nat.le_trans hr.fram.size h)
    · rcases hg.1 with (h|h)|h
      · exact h.2.2 n x hx hb
      · exact hnM n x g hE hx hb h
      · have:=blk_lt (hr.objs n x hx) hb;omega
  have old:∀ n,(∀ h:¬I n∧Fresh st n dst,False)→(∀ h:X n∧E n=true∧st.o n≠none,False)→γ'' n=γ n:=fun n k1 k2=>g3 n (fun h=>by
    have he:E n=true∧st.o n≠none:=by
      rcases h with h|h
      · exact (hn.new n h).resolve_right k1
      · exact h
    exact ⟨he.1,he.2,fun hx=>k2 ⟨hx,he⟩⟩)
  refine ⟨γ'',fun n hI=>old n (fun k=>k.1 hI) (fun k=>(hn.lo n k.1 k.2.1 k.2.2).1 hI),?_⟩
  have hres:RepV C w' (okOf w0 S γ'' (mixO E st.o cout.o) w') γ'' cout.r v:=RepV.mono hnew _ _ (fun m hm=>g2 m (hn.res m hm)) hp.res
  have hlt:∀ d,dst=some d→d<a.tmps.size:=fun d h=>Nat.lt_of_lt_of_le (hd d h) hr.size
  refine ⟨fun t => ?_,fun n x hx => ?_,fun n m x y g hx hy hgn hgm => ?_,fun n x g hx hg => ?_,?_,by cases dst <;> exact hr.defers,by cases dst <;> simpa [Act.put] using hr.size⟩
  · by_cases ht:dst=some t
    · subst ht
      have:=hlt t rfl
      simp only [St.put,Act.put,upd_same]
      simpa [this] using hres
    · have h1:(st.put dst cout.r).s t=st.s t:=by
        cases dst with
        | none=>rfl
        | some d=>exact upd_other _ _ (fun e=>ht (by rw [e]))
      have h2:(a.put dst v).tmps.getD t undef=a.tmps.getD t undef:=by
        cases dst with
        | none=>rfl
        | some d=>simp [Act.put,Array.getElem?_setIfInBounds_ne (show d≠t from fun e=>ht (by rw [e]))]
      simp only
      rw [h1,h2]
      refine RepV.mono hold _ _ (fun m hm=>old m (fun k => ?_) (fun k => ?_)) (hr.slots t)
      · rw [k.2.1 t ht] at hm;cases hm
      · rw [(hn.lo m k.1 k.2.1 k.2.2).2.1 t ht] at hm;cases hm
  · rcases mix n x hx with h|⟨k1,k2,k3⟩
    · rw [g1 n (by rw [h];simp)]
      exact RepO.mono hnew (fun m hm=>g2 m (hn.obj n x h m hm)) (fun _ _=>rfl) (hp.objs n x h)
    · rw [g0 n k1 k2]
      refine RepO.mono hold (fun m hm => ?_) (fun g hb => ?_) (hr.objs n x k3)
      · by_cases hne:n=m
        · subst hne;exact g0 n k1 k2
        · refine old m (fun k => ?_) (fun k => ?_)
          · rw [k.2.2 n x hne k3] at hm;cases hm
          · rw [(hn.lo m k.1 k.2.1 k.2.2).2.2 n x k2 k3] at hm;cases hm
      · exact hp.fram.block g (blk_lt (hr.objs n x k3) hb) (hnM n x g k2 k3 hb)
  · rcases mix n x hx with h|⟨k1,k2,k3⟩
    · rw [g1 n (by rw [h];simp)] at hgn
      rcases mix m y hy with h'|⟨k1',k2',k3'⟩
      · rw [g1 m (by rw [h'];simp)] at hgm
        exact hp.sep n m x y g h h' hgn hgm
      · rw [g0 m k1' k2'] at hgm
        rcases hp.muts n x g h hgn with q|q
        · exact absurd q (hnM m y g k2' k3' hgm)
        · have:=blk_lt (hr.objs m y k3') hgm;omega
    · rw [g0 n k1 k2] at hgn
      rcases mix m y hy with h'|⟨k1',k2',k3'⟩
      · rw [g1 m (by rw [h'];simp)] at hgm
        rcases hp.muts m y g h' hgm with q|q
        · exact absurd q (hnM n x g k2 k3 hgn)
        · have:=blk_lt (hr.objs n x k3) hgn;omega
      · rw [g0 m k1' k2'] at hgm
        exact hr.sep n m x y g k3 k3' hgn hgm
  · rcases mix n x hx with h|⟨k1,k2,k3⟩
    · rw [g1 n (by rw [h];simp)] at hg
      rcases hp.muts n x g h hg with q|q
      · exact (hMc g q).1
      · exact .inr (Nat.le_trans hr.fram.size q)
    · rw [g0 n k1 k2] at hg
      exact hr.muts n x g k3 hg
  · refine ⟨hp.fram.os.trans hr.fram.os,hp.fram.tape.trans hr.fram.tape,hp.fram.output.trans hr.fram.output,Nat.le_trans hr.fram.size hp.fram.size,fun g hg hM => ?_⟩
    rw [← hr.fram.block g hg hM]
    refine hp.fram.block g (Nat.lt_of_lt_of_le hg hr.fram.size) (fun h => ?_)
    rcases (hMc g h).1 with q|q
    · exact hM q
    · omega
end
end Pay
end
/- One operation, whichever; slices that are given up; regions in the order of the text. -/
section
set_option linter.unusedSimpArgs false
set_option linter.unusedVariables false
namespace Pay
open Go
def V.owns:V→List Nat
  | .own n=>[n]
  | .agg cs=>ownsL cs
  | .tup cs=>ownsL cs
  | _=>[]
where ownsL:List V→List Nat
  | []=>[]
  | c::cs=>V.owns c++ownsL cs
def St.frees (st:St):List Nat→St
  | []=>st
  | n::ns=>St.frees (st.free n) ns
def St.ownsAt (st:St)(t:Nat):List Nat:=match st.s t with
  | .ptr n _=>(match st.o n with|some (.box cs)=>V.owns.ownsL cs|_=>[])
  | v=>V.owns v
def St.frz (st:St):List Nat→St
  | []=>st
  | t::ts=>St.frz (st.frees (st.ownsAt t)) ts
section
variable {C:Ctx}{w0:World}{S M:Nat→Prop}{N:Nat}{γ:Nat→Value}{st:St}{a:Act}{w:World}
theorem Rel.frees (he:Env C w0 S M):∀ (ns:List Nat){st:St},Rel C w0 S M N γ st a w→Rel C w0 S M N γ (st.frees ns) a w
  | [],_,hr=>hr
  | n::ns,_,hr=>Rel.frees he ns (hr.free he n)
theorem Rel.frz (he:Env C w0 S M):∀ (ts:List Nat){st:St},Rel C w0 S M N γ st a w→Rel C w0 S M N γ (st.frz ts) a w
  | [],_,hr=>hr
  | t::ts,_,hr=>Rel.frz he ts (Rel.frees he _ hr)
end
def isP:AOp→Bool
  | .store .. | .alloc .. | .allocB .. | .box .. | .bsl .. | .mks .. | .app .. | .appD .. | .cut .. | .mkmap .. | .mset .. | .mget .. | .nilS .. | .call .. | .callv .. => false
  | _=>true
def demand (x:Option V)(K:V→Prop):Prop:=match x with|some v=>K v|none=>False
def callA (C:Ctx)(I:Nat→Prop)(st:St)(dst:Option Nat)(K:St→Prop)(f:Nat)(xs:List V):Prop :=
  ∃ E X cout,SoundX C f X ⟨xs,exO E st.o⟩ cout∧Names I st dst E X cout∧K { s:=(st.put dst cout.r).s,o:=mixO E st.o cout.o }
def stepA (C:Ctx)(I:Nat→Prop)(st:St)(dst:Option Nat)(K:St→Prop)(op:AOp):Prop :=
  match op with
  | .call f args=>callA C I st dst K f (args.map (opd st.s))
  | .callv x args=>(match opd st.s x with | .fn f caps=>callA C I st dst K f (args.map (opd st.s)++caps)|_=>False)
  | op=>if isP op=true then demand (evP st op) (fun v=>K (st.put dst v)) else stepS I st dst K op
def okA (P:Program)(φ:Nat→FuncId)(o:Oper)(op:AOp):Bool :=
  match op with
  | .call f args=>(match o.op with | .call { callee:=.value fo,args:=⟨as⟩,.. }=>okOpd φ fo (.f f)&&okOpds φ as args|_=>false)
  | .callv x args=>(match o.op with | .call { callee:=.value fo,args:=⟨as⟩,.. }=>okOpd φ fo x&&okOpds φ as args|_=>false)
  | op=>if isP op=true then okP P φ o op else okS P φ o op
section
variable {C:Ctx}{w0:World}{S M:Nat→Prop}{N:Nat}{γ:Nat→Value}{st:St}{a:Act}{w:World}{o:Oper}{Q:Exit→Act→World→Prop}
theorem wp_enters {f:FuncId}{us:Array Value}{K:Act→World→Prop}(hrun:(execOp a.eval o).run C.P w=(callFunc f us).run C.P w)(h:Enters C.P f us w (fun v w'=>K (a.put o.dst v) w')):o.wp C.P a w K Q:=by
  unfold Oper.wp
  rw [hrun]
  unfold Enters at h
  split at h
  · rename_i e;rw [e];exact h
  · rename_i e;rw [e];exact h
  · rename_i e
    rw [e]
    exact Calls.mono h (fun e w' he=>by cases e <;> first|exact he|exact he.elim)
  · exact h.elim
theorem stepA_sound (hr:Rel C w0 S M N γ st a w)(he:Env C w0 S M)(hd:∀ d,o.dst=some d→d<N){I:Nat→Prop}{op:AOp}{K:St→Prop}(hk:okA C.P C.φ o op=true)(hs:stepA C I st o.dst K op) :
    o.wp C.P a w (Lands C w0 S M N I γ K) Q:=by
  have pure:isP op=true→okP C.P C.φ o op=true→demand (evP st op) (fun v=>K (st.put o.dst v))→o.wp C.P a w (Lands C w0 S M N I γ K) Q:=by
    intro _ h1 h2
    unfold demand at h2
    split at h2
    · rename_i v hv
      obtain ⟨u,hrun,hrep⟩:=evP_sound hr h1 hv
      exact wp_value hrun ⟨γ,_,h2,fun _ _=>rfl,hr.put hd hrep⟩
    · exact h2.elim
  have call:∀ (f:Nat) (xs:List V) (us:List Value),RepVs C w (okOf w0 S γ st.o w) γ xs us→(execOp a.eval o).run C.P w=(callFunc (C.φ f) ⟨us⟩).run C.P w→callA C I st o.dst K f xs→o.wp C.P a w (Lands C w0 S M N I γ K) Q:=by
    intro f xs us hxs hrun ⟨E,X,cout,h1,h2,h3⟩
    refine wp_enters hrun ?_
    refine Enters.mono (call_sound hr he hd hxs h1 h2) ?_
    rintro v w' ⟨γ'',hI,hr'⟩
    exact ⟨γ'',_,h3,hI,hr'⟩
  cases op
  case call f args =>
    obtain ⟨dst,op,ty,pos,aft,gd⟩:=o
    simp only [okA] at hk
    split at hk
    case h_2=>cases hk
    rename_i fo as _
    simp only [Bool.and_eq_true] at hk
    obtain ⟨h1,h2⟩:=hk
    obtain ⟨us,hf,hus⟩:=opd_rep hr h1
    simp only [RepVs] at hus
    subst hus
    refine call f _ _ (opds_rep hr h2) ?_ hs
    simp [execOp,resolve,Deferred.ofValue,hf,invoke]
  case callv x args =>
    obtain ⟨dst,op,ty,pos,aft,gd⟩:=o
    simp only [okA] at hk
    split at hk
    case h_2=>cases hk
    rename_i fo as _
    simp only [Bool.and_eq_true] at hk
    obtain ⟨h1,h2⟩:=hk
    have hrx:=opd_rep hr h1
    simp only [stepA] at hs
    split at hs
    · rename_i f caps hx
      rw [hx] at hrx
      obtain ⟨us,hf,hus⟩:=hrx
      refine call f _ _ ((opds_rep hr h2).append hus) ?_ hs
      simp [execOp,resolve,Deferred.ofValue,hf,invoke]
    · exact hs.elim
  case cut=>exact ss_cut hr hd hk hs
  case appD=>exact ss_appD hr he hd hk hs
  case store=>exact ss_store hr hd hk hs
  case alloc=>exact ss_alloc hr hd hk hs
  case allocB=>exact ss_allocB hr hd hk hs
  case box=>exact ss_box hr hd hk hs
  case bsl=>exact ss_bsl hr hd hk hs
  case mks=>exact ss_mks hr hd hk hs
  case app=>exact ss_app hr he hd hk hs
  case mkmap=>exact ss_mkmap hr hd hk hs
  case nilS=>exact ss_nilS hr hd hk hs
  case mset=>exact ss_mset hr hd hk hs
  case mget=>exact ss_mget hr hd hk hs
  all_goals exact pure rfl hk hs
end
end Pay
end
/- Regions in the order of the text; code; functions. -/
section
set_option linter.unusedSimpArgs false
set_option linter.unusedVariables false
namespace Pay
open Go
def look:List (Nat × V)→Nat→V
  | [],_=>.undef
  | (k,v)::l,n=>if n=k then v else look l n
def looko:List (Nat × Option Ob)→Nat→Option Ob
  | [],_=>none
  | (k,v)::l,n=>if n=k then v else looko l n
theorem look_map (ks:List Nat)(f:Nat→V)(n:Nat):look (ks.map fun k=>(k,f k)) n=if ks.contains n=true then f n else .undef:=by
  induction ks with
  | nil=>rfl
  | cons k ks ih =>
    simp only [List.map_cons,look,ih,List.contains_cons,Bool.or_eq_true,beq_iff_eq]
    by_cases h:n=k
    · simp [h]
    · simp [h]
theorem looko_map (ks:List Nat)(f:Nat→Option Ob)(n:Nat):looko (ks.map fun k=>(k,f k)) n=if ks.contains n=true then f n else none:=by
  induction ks with
  | nil=>rfl
  | cons k ks ih =>
    simp only [List.map_cons,looko,ih,List.contains_cons,Bool.or_eq_true,beq_iff_eq]
    by_cases h:n=k
    · simp [h]
    · simp [h]
def St.trim (st:St)(tr:List Nat)(tro:Option (List Nat)):St :=
  { s:=look (tr.map fun k=>(k,st.s k)),o:=match tro with|none=>st.o|some ns=>looko (ns.map fun n=>(n,st.o n)) }
theorem Rel.trim {C:Ctx}{w0:World}{S M:Nat→Prop}{N:Nat}{γ:Nat→Value}{st:St}{a:Act}{w:World}(hr:Rel C w0 S M N γ st a w)(tr:List Nat)(tro:Option (List Nat)):Rel C w0 S M N γ (st.trim tr tro) a w:=by
  have hsub:∀ n x,(st.trim tr tro).o n=some x→st.o n=some x:=by
    intro n x h
    simp only [St.trim] at h
    split at h
    · exact h
    · rw [looko_map] at h
      split at h
      · exact h
      · cases h
  have hok:∀ g,okOf w0 S γ st.o w g→w.heap[g]? = w.heap[g]? ∧ okOf w0 S γ (st.trim tr tro).o w g:=fun g hg=>⟨rfl,hg.1,hg.2.1,fun n x hx=>hg.2.2 n x (hsub n x hx)⟩
  refine ⟨fun t => ?_,fun n x hx=>RepO.mono hok (fun _ _=>rfl) (fun _ _=>rfl) (hr.objs n x (hsub n x hx)),fun n m x y g hx hy=>hr.sep n m x y g (hsub n x hx) (hsub m y hy),fun n x g hx=>hr.muts n x g (hsub n x hx),hr.fram,hr.defers,hr.size⟩
  show RepV C w _ γ (look (tr.map fun k=>(k,st.s k)) t) _
  rw [look_map]
  split
  · exact RepV.mono hok _ _ (fun _ _=>rfl) (hr.slots t)
  · exact trivial
def St.trimO (st:St):Option (List Nat × Option (List Nat))→St
  | none=>st
  | some (tr,tro)=>st.trim tr tro
theorem Rel.trimO {C:Ctx}{w0:World}{S M:Nat→Prop}{N:Nat}{γ:Nat→Value}{st:St}{a:Act}{w:World}(hr:Rel C w0 S M N γ st a w)(t:Option (List Nat × Option (List Nat))):Rel C w0 S M N γ (st.trimO t) a w:=by
  rcases t with _|⟨tr,tro⟩
  · exact hr
  · exact hr.trim tr tro
def opA (C:Ctx) (I:Nat→Prop) (o:AOper) (st:St) (K:St→Prop):Prop :=
  match o.guard with
  | none=>stepA C I (st.frz o.frz) o.dst K o.op
  | some (_,g,want)=>(match st.s g with
    | .d (.bool b)=>if b=want then stepA C I (st.frz o.frz) o.dst K o.op else K (st.put o.dst (.tup []))
    | .tup []=>K (st.put o.dst (.tup []))
    | _=>False)
def opsA (C:Ctx)(I:Nat→Prop):List AOper→St→(St→Prop)→Prop
  | [],st,K=>K st
  | o::os,st,K=>opA C I o st (fun st=>opsA C I os (st.trimO o.tr) K)
def okG (ops:Array Oper):Option (Nat × Bool)→Option (Nat × Nat × Bool)→Bool
  | none,none=>true
  | some (j,w),some (p,g,w')=>j==p&&w==w'&&(ops[j]?).bind (·.dst)==some g
  | _,_=>false
def okOper (P:Program)(φ:Nat→FuncId)(N:Nat)(ops:Array Oper)(o:Oper)(ao:AOper):Bool :=
  o.dst==ao.dst&&(match o.dst with|some d=>decide (d<N)|none=>true)&&okG ops o.guard ao.guard&&okA P φ o ao.op
def okOpers (P:Program)(φ:Nat→FuncId)(N:Nat)(ops:Array Oper):List Oper→List AOper→Bool
  | [],[]=>true
  | o::os,ao::aos=>okOper P φ N ops o ao&&okOpers P φ N ops os aos
  | _,_=>false
section
variable {C:Ctx}{w0:World}{S M:Nat→Prop}{N:Nat}{γ γ0:Nat→Value}{st:St}{a:Act}{w:World}{Q:Exit→Act→World→Prop}
theorem yield_bool (hr:Rel C w0 S M N γ st a w){ops:Array Oper}{j g:Nat}(hj:(ops[j]?).bind (·.dst)=some g){b:Bool}(hg:st.s g = .d (.bool b)):yielded ops a.tmps j=some b:=by
  have h:=hr.slots g
  rw [hg] at h
  simp only [RepV,RepD] at h
  unfold yielded
  rw [hj]
  simp only [Option.bind_some]
  cases hs:a.tmps[g]? with
  | none=>simp [hs,undef] at h
  | some u=>simp [hs] at h;subst h;rfl
theorem yield_none (hr:Rel C w0 S M N γ st a w){ops:Array Oper}{j g:Nat}(hj:(ops[j]?).bind (·.dst)=some g)(hg:st.s g = .tup []):yielded ops a.tmps j=none:=by
  have h:=hr.slots g
  rw [hg] at h
  obtain ⟨us,h,hus⟩:=h
  simp only [RepVs] at hus
  subst hus
  unfold yielded
  rw [hj]
  simp only [Option.bind_some]
  cases hs:a.tmps[g]? with
  | none=>rfl
  | some u=>simp [hs] at h;subst h;rfl
theorem okOper_spec {P:Program}{φ:Nat→FuncId}{ops:Array Oper}{o:Oper}{ao:AOper}(h:okOper P φ N ops o ao=true):o.dst=ao.dst∧(∀ d,o.dst=some d→d<N)∧okG ops o.guard ao.guard=true∧okA P φ o ao.op=true:=by
  simp only [okOper,Bool.and_eq_true,beq_iff_eq] at h
  obtain ⟨⟨⟨h1,h2⟩,h3⟩,h4⟩:=h
  refine ⟨h1,fun d hd => ?_,h3,h4⟩
  rw [hd] at h2
  simpa using h2
theorem opA_sound (hr:Rel C w0 S M N γ st a w) (he:Env C w0 S M) {I:Nat→Prop} (hγ:∀ n,I n→γ n=γ0 n) {ops:Array Oper} {i:Nat} {o:Oper} (hi:ops[i]? = some o) {ao:AOper} (hk:okOper C.P C.φ N ops o ao=true)
    {K:St→Prop} (hs:opA C I ao st K):wpOp C.P ops Q i (fun a' w'=>∃ γ' st',K st'∧(∀ n,I n→γ' n=γ0 n)∧Rel C w0 S M N γ' st' a' w') a w:=by
  obtain ⟨hdst,hd,hg,ha⟩:=okOper_spec hk
  have run:stepA C I (st.frz ao.frz) ao.dst K ao.op→o.wp C.P a w (fun a' w'=>∃ γ' st',K st'∧(∀ n,I n→γ' n=γ0 n)∧Rel C w0 S M N γ' st' a' w') Q:=by
    intro h
    rw [← hdst] at h
    refine Oper.wp_mono ?_ (stepA_sound (Rel.frz he ao.frz hr) he hd ha h)
    rintro a' w' ⟨γ',st',h1,h2,h3⟩
    exact ⟨γ',st',h1,fun n hn=>(h2 n hn).trans (hγ n hn),h3⟩
  have skip:K (st.put ao.dst (.tup []))→∃ γ' st',K st'∧(∀ n,I n→γ' n=γ0 n)∧Rel C w0 S M N γ' st' (a.put o.dst undef) w:=by
    intro h
    exact ⟨γ,_,h,hγ,by rw [← hdst];exact hr.put hd ⟨[],rfl,rfl⟩⟩
  unfold wpOp
  simp only [hi]
  unfold opA at hs
  cases hgo:o.guard with
  | none =>
    rw [hgo] at hg
    cases hga:ao.guard with
    | some x=>rw [hga] at hg;simp [okG] at hg
    | none =>
      rw [hga] at hs
      simp only [Region.wanted,hgo,if_true]
      exact .inl (run hs)
  | some jw =>
    obtain ⟨j,want⟩:=jw
    rw [hgo] at hg
    cases hga:ao.guard with
    | none=>rw [hga] at hg;simp [okG] at hg
    | some x =>
      obtain ⟨p,g,want'⟩:=x
      rw [hga] at hg hs
      simp only [okG,Bool.and_eq_true,beq_iff_eq] at hg
      obtain ⟨⟨rfl,rfl⟩,hj⟩:=hg
      simp only at hs
      split at hs
      · rename_i b hb
        have hy:=yield_bool hr hj hb
        simp only [Region.wanted,hgo,hy]
        split at hs
        · rename_i hbw
          subst hbw
          simp only [beq_self_eq_true,if_true]
          exact .inl (run hs)
        · rename_i hbw
          rw [if_neg (by simpa using hbw)]
          exact skip hs
      · rename_i hb
        have hy:=yield_none hr hj hb
        simp only [Region.wanted,hgo,hy]
        rw [if_neg (by simp)]
        exact skip hs
      · exact hs.elim
theorem opsA_sound (he:Env C w0 S M){I:Nat→Prop}{ops:Array Oper}{K:St→Prop}(hQ:∀ γ' st' a' w',K st'→(∀ n,I n→γ' n=γ0 n)→Rel C w0 S M N γ' st' a' w'→Q .normal a' w') :
    ∀ (aos:List AOper) (os:List Oper) (k:Nat),(∀ i o,os[i]? = some o→ops[k+i]? = some o)→okOpers C.P C.φ N ops os aos=true→∀ {γ:Nat→Value} {st:St} {a:Act} {w:World},Rel C w0 S M N γ st a w→(∀ n,I n→γ n=γ0 n) →
      opsA C I aos st K→wpOps C.P ops Q (List.range' k os.length) a w
  | [],[],k,_,_,γ,st,a,w,hr,hγ,hs=>hQ γ st a w hs hγ hr
  | ao::aos,o::os,k,hi,hk,γ,st,a,w,hr,hγ,hs=>by
    simp only [okOpers,Bool.and_eq_true] at hk
    rw [List.length_cons,List.range'_succ,wpOps_cons]
    refine wpOp_mono ?_ (opA_sound hr he hγ (by simpa using hi 0 o rfl) hk.1 hs)
    rintro a' w' ⟨γ',st',h1,h2,h3⟩
    exact opsA_sound he hQ aos os (k+1) (fun i o' ho=>by rw [show k+1+i=k+(i+1) by omega];exact hi (i+1) o' (by simpa using ho)) hk.2 (h3.trimO ao.tr) h2 h1
  | [],_::_,_,_,hk,_,_,_,_,_,_,_=>by simp [okOpers] at hk
  | _::_,[],_,_,hk,_,_,_,_,_,_,_=>by simp [okOpers] at hk
end
inductive Ex where
  | normal
  | exit (id:Nat)
  | ret
  deriving DecidableEq
def Ex.go:Ex→Exit
  | .normal=>.normal
  | .exit id=>if id<1000000 then .exit id else .goto (id-1000000)
  | .ret=>.ret
inductive Tr where
  | done
  | one (i:Nat) (t:Tr)
  | two (i : Nat) (t : Tr) (r : Tr)   -- this one next, or as 'r' says
inductive ACode where
  | skip
  | region (tr:List Nat) (tro:Option (List Nat)) (draw:Option (List Nat × Tr)) (ops:List AOper)
  | seq (a b:ACode)
  | cond (c:Opd) (a b:ACode)
  | block (id:Nat) (tr:List Nat) (tro:Option (List Nat)) (c:ACode)
  | loop (tr:List Nat) (tro:Option (List Nat)) (c:ACode)
  | exit (id:Nat)
  | ret
  | scope (l:Nat) (tr:List Nat) (tro:Option (List Nat)) (first rest:ACode)
def jumpK (l:Nat)(J:St→Prop)(Q:Ex→St→Prop):Ex→St→Prop
  | .normal,st=>Q .normal st
  | .exit k,st=>if k<1000000 then Q (.exit k) st else k=1000000+l∧J st
  | .ret,st=>Q .ret st
theorem Ex.go_exit {id:Nat}(h:id<1000000):Ex.go (.exit id) = .exit id:=if_pos h
theorem Ex.go_goto {id:Nat}(h:¬id<1000000):Ex.go (.exit id) = .goto (id-1000000):=if_neg h
end Pay
end
/- Regions that draw their order: what turns nothing may be taken first; what is left is followed in each order. -/
section
set_option linter.unusedSimpArgs false
set_option linter.unusedVariables false
namespace Pay
open Go
def Opd.slot:Opd→List Nat
  | .t n=>[n]
  | _=>[]
def Opd.plain:Opd→Bool
  | .t _ | .f _ | .c (.d _) | .c .cap0 | .c .nilp=>true
  | _=>false
def AOp.opds:AOp→List Opd
  | .mv x | .un _ x | .conv _ x | .same x | .bstr x | .ext x _ | .load _ x | .faddr _ x | .fld _ _ x | .len x | .lenS x | .nilc x | .nilE _ x | .nilP _ x | .nilS _ x | .box _ _ x | .mks _ _ _ _ x=>[x]
  | .pick c a b=>[c,a,b]
  | .bin _ x y | .iaddr _ x y | .iaddrA _ _ x y | .idx x y | .idxA _ _ _ x y | .eqs _ _ x y | .beq _ x y | .store _ x y | .app _ _ _ x y | .appD _ _ x y | .cut x y | .mget _ _ x y _=>[x,y]
  | .slc _ x lo hi | .slcS x lo hi=>x::(lo.toList++hi.toList)
  | .mm _ xs | .fnv _ xs | .call _ xs=>xs
  | .callv x xs=>x::xs
  | .build _ ps=>ps.map (·.2.2)
  | .bsl _ _ _ _ ps=>ps.map (·.2)
  | .mset _ m k x=>[m,k,x]
  | .alloc _ _ | .allocB _ _ | .mkmap _ | .never=>[]
def AOper.uses (o:AOper):List Nat:=o.op.opds.flatMap Opd.slot++(match o.guard with|some (_,g,_)=>[g]|none=>[])
theorem loadV_congr {o o':Nat→Option Ob}{k:Option Nat}{x:V}(h:∀ n,V.refs n x=true→o' n=o n):loadV o' k x=loadV o k x:=by
  cases x <;> cases k <;> simp only [loadV] <;> (try rw [h _ (by simp [V.refs])])
theorem iaddrV_congr {o o':Nat→Option Ob}{sz:Nat}{x i:V}(h:∀ n,V.refs n x=true→o' n=o n):iaddrV o' sz x i=iaddrV o sz x i:=by
  cases x
  case own n =>
    have e:=h n (by simp [V.refs])
    cases i
    case d y=>cases y <;> simp only [iaddrV,e]
    all_goals rfl
  case d x =>
    cases x
    case sl es =>
      cases i
      case d y=>cases y <;> rfl
      all_goals rfl
    all_goals (cases i <;> rfl)
  all_goals (cases i <;> rfl)
theorem lenV_congr {o o':Nat→Option Ob}{x:V}(h:∀ n,V.refs n x=true→o' n=o n):lenV o' x=lenV o x:=by
  cases x
  case own n=>simp only [lenV,h n (by simp [V.refs])]
  case d x=>cases x <;> rfl
  all_goals rfl
theorem buildV_congr {f g:Opd→V}:∀ {ps:List (Nat × Nat × Opd)}{cs:List V},(∀ x∈ps.map (·.2.2),g x=f x)→buildV g cs ps=buildV f cs ps
  | [],_,_=>rfl
  | (off,sz,x)::ps,cs,h=>by
    simp only [buildV,h x (by simp)]
    split
    · split
      · exact buildV_congr (fun y hy=>h y (by simp only [List.map_cons,List.mem_cons];exact .inr hy))
      · rfl
    · rfl
theorem partsD_congr {f g:Opd→V}{sz:Nat}:∀ {ps:List Opd},(∀ x∈ps,g x=f x)→partsD sz g ps=partsD sz f ps
  | [],_=>rfl
  | x::ps,h=>by
    simp only [partsD,h x (by simp)]
    rw [partsD_congr (fun y hy=>h y (by simp [hy]))]
theorem map_congr' {f g:Opd→V}{xs:List Opd}(h:∀ x∈xs,g x=f x):xs.map g=xs.map f:=List.map_congr_left h
theorem evP_congr {st st':St}{op:AOp}(h1:∀ x∈op.opds,opd st'.s x=opd st.s x)(h2:∀ x∈op.opds,∀ n,V.refs n (opd st.s x)=true→st'.o n=st.o n):evP st' op=evP st op:=by
  cases op
  case load n p=>simp only [evP,h1 p (by simp [AOp.opds])];exact loadV_congr (h2 p (by simp [AOp.opds]))
  case iaddr sz x i=>simp only [evP,h1 x (by simp [AOp.opds]),h1 i (by simp [AOp.opds])];exact iaddrV_congr (h2 x (by simp [AOp.opds]))
  case len x=>simp only [evP,h1 x (by simp [AOp.opds])];exact lenV_congr (h2 x (by simp [AOp.opds]))
  case mm mx xs=>simp only [evP];rw [map_congr' (f:=opd st.s) (g:=opd st'.s) (xs:=xs) (fun x hx=>h1 x hx)]
  case fnv f xs=>simp only [evP];rw [map_congr' (f:=opd st.s) (g:=opd st'.s) (xs:=xs) (fun x hx=>h1 x hx)]
  case build z ps=>simp only [evP];rw [buildV_congr (fun x hx=>h1 x hx)]
  case slc sz x lo hi =>
    cases lo <;> cases hi <;> simp only [evP,Option.map_none,Option.map_some] <;> simp only [h1 x (by simp [AOp.opds])] <;> (try rw [h1 _ (by simp [AOp.opds])]) <;> (try rw [h1 _ (by simp [AOp.opds])])
  case slcS x lo hi =>
    cases lo <;> cases hi <;> simp only [evP,Option.map_none,Option.map_some] <;> simp only [h1 x (by simp [AOp.opds])] <;> (try rw [h1 _ (by simp [AOp.opds])]) <;> (try rw [h1 _ (by simp [AOp.opds])])
  all_goals first
    | rfl
    | (rename_i x y z;simp only [evP,h1 x (by simp [AOp.opds]),h1 y (by simp [AOp.opds]),h1 z (by simp [AOp.opds])];done)
    | (rename_i x y;simp only [evP,h1 x (by simp [AOp.opds]),h1 y (by simp [AOp.opds])];done)
    | (rename_i x;simp only [evP,h1 x (by simp [AOp.opds])];done)
    | (rename_i x _;simp only [evP,h1 x (by simp [AOp.opds])];done)
def freeOp:AOp→Bool
  | .load _ _ | .iaddr _ _ _ | .len _=>false
  | _=>true
theorem evP_free {st st':St}{op:AOp}(hf:freeOp op=true)(h1:∀ x∈op.opds,opd st'.s x=opd st.s x):evP st' op=evP st op:=by
  have e:=evP_congr (st:=st) (st':={ s:=st'.s,o:=st.o }) (op:=op) h1 (fun _ _ _ _=>rfl)
  cases op
  case load=>cases hf
  case iaddr=>cases hf
  case len=>cases hf
  all_goals exact e
def pureA (C:Ctx)(st:St)(op:AOp)(v:V):Prop :=
  match op with
  | .call f args=>SoundAt C f ⟨args.map (opd st.s),fun _=>none⟩ ⟨v,fun _=>none⟩∧∀ n,V.refs n v=false
  | .bsl none sz _ _ ps=>∃ es,partsD sz (opd st.s) (ps.map (·.2))=some es∧v = .d (.sl es)
  | .bsl (some _) _ _ n _=>n=0∧v = .cap0
  | op=>isP op=true∧evP st op=some v
def stepD (C:Ctx)(I:Nat→Prop)(lo:Bool)(st:St)(dst:Option Nat)(K:St→Prop)(op:AOp):Prop :=
  match op with
  | .call f args=>∃ cout,SoundAt C f ⟨args.map (opd st.s),fun _=>none⟩ cout∧Names I st dst (fun _=>false) (fun _=>False) cout∧K { s:=(st.put dst cout.r).s,o:=mixO (fun _=>false) st.o cout.o }
  | .callv x args=>(match opd st.s x with | .fn f caps=>callA C I st dst K f (args.map (opd st.s)++caps)|_=>False)
  | .cut _ _=>False
  | .appD _ _ _ _=>False
  | .allocB _ _=>False
  | .app own sz bytes x y=>stepS I st dst K (.app own sz bytes x y)∧(match lo with|true=>True|false=>∀ m,opd st.s x = .own m→∀ n ob,st.o n=some ob→ob.refs m=false)
  | op=>if isP op=true then demand (evP st op) (fun v=>K (st.put dst v)) else stepS I st dst K op
theorem exO_none (o:Nat→Option Ob):exO (fun _=>false) o=fun _=>none:=by funext n;simp [exO]
theorem stepD_A {C:Ctx}{I:Nat→Prop}{lo:Bool}{st:St}{dst:Option Nat}{K:St→Prop}{op:AOp}(h:stepD C I lo st dst K op):stepA C I st dst K op:=by
  cases op
  case call f args =>
    obtain ⟨cout,h1,h2,h3⟩:=h
    exact ⟨fun _=>false,fun _=>False,cout,by rw [exO_none];exact h1,h2,h3⟩
  case app=>exact h.1
  case callv=>exact h
  case allocB=>exact h.elim
  case cut=>exact h.elim
  case appD=>exact h.elim
  all_goals exact h
def opD (C:Ctx) (I:Nat→Prop) (o:AOper) (st:St) (K:St→Prop):Prop :=
  o.frz=[]∧match o.guard with
  | none=>stepD C I o.tr.isSome st o.dst K o.op
  | some (_,g,want)=>(match st.s g with
    | .d (.bool b)=>if b=want then stepD C I o.tr.isSome st o.dst K o.op else K (st.put o.dst (.tup []))
    | .tup []=>K (st.put o.dst (.tup []))
    | _=>False)
theorem opD_A {C:Ctx}{I:Nat→Prop}{st:St}{K:St→Prop}{o:AOper}(h:opD C I o st K):opA C I o st K:=by
  obtain ⟨h0,h⟩:=h
  unfold opA
  split
  · rename_i hg
    rw [hg] at h
    rw [h0]
    exact stepD_A h
  · rename_i g want hg
    rw [hg] at h
    simp only at h
    split at h
    · rename_i b hb
      try simp only [hb]
      split at h
      · rename_i hw;rw [if_pos hw,h0];exact stepD_A h
      · rename_i hw;rw [if_neg hw];exact h
    · rename_i hb;try simp only [hb]
      exact h
    · exact h.elim
def readyA (aos:List AOper)(l:List Nat):List Nat :=
  (List.range aos.length).filter fun i => !l.contains i&&((aos[i]?).map (fun o=>o.deps.all (fun j=>l.contains j))).getD false
def anyA (C:Ctx)(I:Nat→Prop)(aos:List AOper):Nat→List Nat→St→(St→Prop)→Prop
  | 0,l,st,K=>readyA aos l=[]∧K st
  | n+1,l,st,K=>(readyA aos l=[]→K st)∧∀ i∈readyA aos l,∃ ao,aos[i]? = some ao∧opD C I ao st (fun st=>anyA C I aos n (i::l) st K)
theorem stepS_mono {I:Nat→Prop} {st:St} {dst:Option Nat} {K K':St→Prop} {op:AOp} (h:∀ st,K st→K' st) (hs:stepS I st dst K op):stepS I st dst K' op:=by
  cases op
  case store => 
    simp only [stepS] at hs ⊢
    split at hs
    · obtain ⟨cs,h1,h2,h3,h4⟩:=hs;exact ⟨cs,h1,h2,h3,h _ h4⟩
    · obtain ⟨es,e,ds,h1,h2,h3,h4,h5,h6⟩:=hs;exact ⟨es,e,ds,h1,h2,h3,h4,h5,h _ h6⟩
    · exact hs.elim
  case alloc=>obtain ⟨h1,h2,h3,h4⟩:=hs;exact ⟨h1,h2,h3,h _ h4⟩
  case allocB=>obtain ⟨h1,h2,h3,h4,h5,h6⟩:=hs;exact ⟨h1,h2,h3,h4,h5,h _ h6⟩
  case box=>obtain ⟨cs,h1,h2,h3,h4,h5,h6⟩:=hs;exact ⟨cs,h1,h2,h3,h4,h5,h _ h6⟩
  case bsl own sz z n ps =>
    cases own
    · obtain ⟨es,h1,h2⟩:=hs;exact ⟨es,h1,h _ h2⟩
    · simp only [stepS] at hs ⊢
      split
      · rename_i hn;rw [if_pos hn] at hs;exact h _ hs
      · rename_i hn;rw [if_neg hn] at hs
        obtain ⟨es,h1,h2,h3,h4⟩:=hs;exact ⟨es,h1,h2,h3,h _ h4⟩
  case mks own sz b z x =>
    cases own <;> simp only [stepS] at hs ⊢ <;> split at hs
    · obtain ⟨h1,h2,h3,h4⟩:=hs;exact ⟨h1,h2,h3,h _ h4⟩
    · exact hs.elim
    · obtain ⟨h1,h2,h3,h4,h5,h6⟩:=hs;exact ⟨h1,h2,h3,h4,h5,h _ h6⟩
    · exact hs.elim
  case app own sz b x y =>
    simp only [stepS] at hs ⊢
    obtain ⟨ys,h1,h2,hs⟩:=hs
    refine ⟨ys,h1,h2,?_⟩
    split at hs
    · obtain ⟨h3,h4,hs⟩:=hs
      refine ⟨h3,h4,?_⟩
      split at hs
      · exact h _ hs
      · exact ⟨hs.1,hs.2.1,h _ hs.2.2⟩
    · obtain ⟨es,h3,h4,h5,h6,h7⟩:=hs
      refine ⟨es,h3,h4,h5,h6,?_⟩
      cases own <;> exact h _ h7
    · exact hs.elim
  case appD sz b x y =>
    simp only [stepS] at hs ⊢
    obtain ⟨ys,h1,h2,hs⟩:=hs
    refine ⟨ys,h1,h2,?_⟩
    split at hs
    · obtain ⟨es,h3,h4,h5,h6,h7⟩:=hs;exact ⟨es,h3,h4,h5,h6,h _ h7⟩
    · exact hs.elim
  case cut x hi =>
    simp only [stepS] at hs ⊢
    split at hs
    · obtain ⟨sz,es,k,h1,h2,h3,h4⟩:=hs;exact ⟨sz,es,k,h1,h2,h3,h _ h4⟩
    · exact hs.elim
  case mkmap=>obtain ⟨h1,h2,h3⟩:=hs;exact ⟨h1,h2,h _ h3⟩
  case nilS =>
    simp only [stepS] at hs ⊢
    split at hs
    · exact fun b=>h _ (hs b)
    · exact h _ hs
    · exact fun b=>h _ (hs b)
    · exact hs.elim
  case mset =>
    simp only [stepS] at hs ⊢
    split at hs
    · obtain ⟨kvs,kvs',h1,h2,h3,h4⟩:=hs;exact ⟨kvs,kvs',h1,h2,h3,h _ h4⟩
    · exact hs.elim
  case mget =>
    simp only [stepS] at hs ⊢
    split at hs
    · obtain ⟨kvs,r,h1,h2,h3,h4⟩:=hs;exact ⟨kvs,r,h1,h2,h3,h _ h4⟩
    · exact hs.elim
  all_goals exact hs.elim
theorem demand_mono {x:Option V}{K K':V→Prop}(h:∀ v,K v→K' v)(hs:demand x K):demand x K':=by
  cases x with
  | none=>exact hs
  | some v=>exact h v hs
theorem stepD_mono {C:Ctx}{I:Nat→Prop}{lo:Bool}{st:St}{dst:Option Nat}{K K':St→Prop}{op:AOp}(h:∀ st,K st→K' st)(hs:stepD C I lo st dst K op):stepD C I lo st dst K' op:=by
  cases op
  case call=>obtain ⟨cout,h1,h2,h3⟩:=hs;exact ⟨cout,h1,h2,h _ h3⟩
  case callv x args =>
    simp only [stepD] at hs ⊢
    split at hs
    · obtain ⟨E,X,cout,h1,h2,h3⟩:=hs
      exact ⟨E,X,cout,h1,h2,h _ h3⟩
    · exact hs.elim
  case cut|appD|never|allocB=>exact hs.elim
  case app=>exact ⟨stepS_mono h hs.1,hs.2⟩
  case store|alloc|box|bsl|mks|mkmap|mset|mget|nilS =>
    simp only [stepD,isP,Bool.false_eq_true,if_false] at hs ⊢
    exact stepS_mono h hs
  case mv x=>exact h _ hs
  case fnv f xs=>exact h _ hs
  all_goals exact demand_mono (K:=fun v=>K (st.put dst v)) (K':=fun v=>K' (st.put dst v)) (fun v=>h _) hs
theorem opD_mono {C:Ctx}{I:Nat→Prop}{st:St}{K K':St→Prop}{o:AOper}(h:∀ st,K st→K' st)(hs:opD C I o st K):opD C I o st K':=by
  obtain ⟨h0,hs⟩:=hs
  refine ⟨h0,?_⟩
  cases hg:o.guard with
  | none =>
    rw [hg] at hs
    exact stepD_mono h hs
  | some x =>
    obtain ⟨p,g,want⟩:=x
    rw [hg] at hs
    have hs:match st.s g with
      | .d (.bool b)=>if b=want then stepD C I o.tr.isSome st o.dst K o.op else K (st.put o.dst (.tup []))
      | .tup []=>K (st.put o.dst (.tup []))
      | _=>False:=hs
    show match st.s g with
      | .d (.bool b)=>if b=want then stepD C I o.tr.isSome st o.dst K' o.op else K' (st.put o.dst (.tup []))
      | .tup []=>K' (st.put o.dst (.tup []))
      | _=>False
    split at hs
    · split at hs
      · rename_i hw;rw [if_pos hw];exact stepD_mono h hs
      · rename_i hw;rw [if_neg hw];exact h _ hs
    · exact h _ hs
    · exact hs.elim
end Pay
namespace Pay
open Go
def appJ:AOp→Bool
  | .app .. => true
  | _=>false
def Kept (hh:Bool) (ok:Nat→Prop) (st st':St) (dj:Option Nat) (v:V):Prop :=
  ∃ X Y:Nat→Prop,(∀ n,¬X n→¬Y n→st'.o n=st.o n)∧(∀ n,Y n→ok n∧∀ sz es,st'.o n=some (.row sz es)→∃ sz es,st.o n=some (.row sz es))∧(∀ n,X n→(hh=true∧∃ sz es,st.o n=some (.row sz es))∨((∀ t,dj≠some t→V.refs n (st.s t)=false)∧V.refs n v=false)) ∧
    ∀ t,dj≠some t→st'.s t=st.s t∨∃ m,X m∧V.refs m (st.s t)=true
section
variable {C:Ctx}{I:Nat→Prop}{st:St}{d:Nat}{v:V}{dj:Option Nat}{K:St→Prop}{ok:Nat→Prop}{hh:Bool}
theorem Kept.of {st st':St}{dj:Option Nat}{v:V}(h:∃ X:Nat→Prop,(∀ n,¬X n→st'.o n=st.o n)∧(∀ n,X n→(hh=true∧∃ sz es,st.o n=some (.row sz es))∨((∀ t,dj≠some t→V.refs n (st.s t)=false)∧V.refs n v=false)) ∧
    ∀ t,dj≠some t→st'.s t=st.s t∨∃ m,X m∧V.refs m (st.s t)=true):Kept hh ok st st' dj v:=by
  obtain ⟨X,h1,h2,h3⟩:=h
  exact ⟨X,fun _=>False,fun n hn _=>h1 n hn,fun n h=>h.elim,h2,h3⟩
theorem put_comm {dj:Option Nat}(h:dj≠some d)(u:V):(st.put (some d) v).put dj u=(st.put dj u).put (some d) v:=by
  cases dj with
  | none=>rfl
  | some e =>
    have hne:e≠d:=fun x=>h (by rw [x])
    simp only [St.put]
    congr 1
    funext t
    simp only [upd]
    by_cases h1:t=e <;> by_cases h2:t=d <;> simp_all
theorem put_s {t:Nat}{dj:Option Nat}{u:V}(h:dj≠some t):(st.put dj u).s t=st.s t:=by
  cases dj with
  | none=>rfl
  | some e=>exact upd_other _ _ (fun x=>h (by rw [x]))
theorem put_o {dj:Option Nat}{u:V}:(st.put dj u).o=st.o:=by cases dj <;> rfl
theorem Kept.put (u:V):Kept hh ok st (st.put dj u) dj v:=Kept.of ⟨fun _=>False,fun n _=>by rw [put_o],fun n h=>h.elim,fun t ht=>.inl (put_s ht)⟩
theorem fresh_back {nm:Nat}(hu:st.s d = .undef)(hj:dj≠some d)(h:Fresh (st.put (some d) v) nm dj):Fresh st nm dj∧V.refs nm v=false:=by
  refine ⟨⟨fun t ht => ?_,fun m x hm hx=>h.2 m x hm (by rw [put_o];exact hx)⟩,?_⟩
  · by_cases e:t=d
    · subst e;rw [hu];rfl
    · rw [← h.1 t ht,put_s (fun x=>e (by injection x with x;exact x.symm))]
  · rw [← h.1 d hj];simp [St.put,upd]
theorem newK {nm:Nat}{u:V}{ob:Ob}(hu:st.s d = .undef)(hj:dj≠some d)(hf:Fresh (st.put (some d) v) nm dj)(hK:K { s:=((st.put (some d) v).put dj u).s,o:=upd (st.put (some d) v).o nm (some ob) }) :
    Fresh st nm dj∧(Kept hh ok st { s:=(st.put dj u).s,o:=upd st.o nm (some ob) } dj v∧(st.put dj u).s d = .undef∧K (({ s:=(st.put dj u).s,o:=upd st.o nm (some ob) }:St).put (some d) v)):=by
  obtain ⟨h1,h2⟩:=fresh_back hu hj hf
  refine ⟨h1,Kept.of ⟨fun n=>n=nm,fun n hn=>upd_other _ _ hn,fun n hn=>.inr (by subst hn;exact ⟨h1.1,h2⟩),fun t ht=>.inl (put_s ht)⟩,by rw [put_s hj,hu],?_⟩
  rw [put_comm hj] at hK
  simpa [St.put] using hK
theorem opd_put {x:Opd}(h:d∉x.slot):opd (st.put (some d) v).s x=opd st.s x:=by
  cases x with
  | t n=>exact put_s (fun e=>h (by simp [Opd.slot];injection e))
  | c _=>rfl
  | f _=>rfl
def kindJ:AOp→Bool
  | .store .. | .mset .. | .cut .. | .appD .. | .callv .. => false
  | _=>true
theorem scrub_id {m:Nat}:∀ {cs:List V},V.refsL m cs=false→cs.map (scrubV m)=cs
  | [],_=>rfl
  | c::cs,h=>by
    simp only [V.refsL,Bool.or_eq_false_iff] at h
    rw [List.map_cons,scrub_id h.2]
    unfold scrubV
    rw [h.1];rfl
mutual
theorem thaw_id {m:Nat}{es:List (List D)}:∀ (v:V)(u:Unit),V.refs m v=false→V.thaw m es v=v
  | .own n,_,h=>by simp only [V.refs,beq_eq_false_iff_ne] at h;simp [V.thaw,h]
  | .eptr n _ _ _,_,h=>by simp only [V.refs,beq_eq_false_iff_ne] at h;simp [V.thaw,h]
  | .mref n,_,h=>by simp only [V.refs,beq_eq_false_iff_ne] at h;simp [V.thaw,h]
  | .ptr n _,_,h=>by simp only [V.refs,beq_eq_false_iff_ne] at h;simp [V.thaw,h]
  | .fn f caps,u,h=>by rw [V.thaw,thaws_id caps u (by simpa [V.refs] using h)]
  | .agg cs,u,h=>by rw [V.thaw,thaws_id cs u (by simpa [V.refs] using h)]
  | .tup cs,u,h=>by rw [V.thaw,thaws_id cs u (by simpa [V.refs] using h)]
  | .d _,_,_=>rfl
  | .cap0,_,_=>rfl
  | .nilp,_,_=>rfl
  | .cptr _,_,_=>rfl
  | .undef,_,_=>rfl
theorem thaws_id {m:Nat}{es:List (List D)}:∀ (cs:List V)(u:Unit),V.refsL m cs=false→V.thaws m es cs=cs
  | [],_,_=>rfl
  | c::cs,u,h=>by
    simp only [V.refsL,Bool.or_eq_false_iff] at h
    rw [V.thaws,thaw_id c u h.1,thaws_id cs u h.2]
end
theorem stepD_put {op:AOp} {lo:Bool} (hap:hh=false→appJ op=false) (hlo:lo=true→∀ n,ok n) (hk:kindJ op=true∨∃ n p x,op = .store n p x∧∀ m,V.refs m (opd st.s p)=true→ok m) (hu:st.s d = .undef) (hj:dj≠some d) (hd:d∉op.opds.flatMap Opd.slot) (hq:hh=true→∀ m sz es,st.o m=some (.row sz es)→V.refs m v=false)
    (hs:stepD C I lo (st.put (some d) v) dj K op):stepD C I lo st dj (fun st'=>Kept hh ok st st' dj v∧st'.s d = .undef∧K (st'.put (some d) v)) op:=by
  have ho:∀ x∈op.opds,opd (st.put (some d) v).s x=opd st.s x:=fun x hx=>opd_put (fun h=>hd (List.mem_flatMap.2 ⟨x,hx,h⟩))
  have hpo:(st.put (some d) v).o=st.o:=rfl
  have putK:∀ u,K ((st.put (some d) v).put dj u)→Kept hh ok st (st.put dj u) dj v∧(st.put dj u).s d = .undef∧K ((st.put dj u).put (some d) v):=fun u h =>
    ⟨Kept.put u,by rw [put_s hj,hu],by rw [← put_comm hj];exact h⟩
  have pure:evP (st.put (some d) v) op=evP st op:=evP_congr ho (fun _ _ _ _=>rfl)
  have dem:demand (evP (st.put (some d) v) op) (fun u=>K ((st.put (some d) v).put dj u))→demand (evP st op) (fun u=>Kept hh ok st (st.put dj u) dj v∧(st.put dj u).s d = .undef∧K ((st.put dj u).put (some d) v)):=by
    intro h
    rw [pure] at h
    exact demand_mono putK h
  cases op
  case call f args =>
    obtain ⟨cout,h1,h2,h3⟩:=hs
    have e:args.map (opd (st.put (some d) v).s)=args.map (opd st.s):=map_congr' ho
    rw [e] at h1
    have hf:∀ n,cout.o n≠none→¬I n∧Fresh st n dj∧V.refs n v=false:=by
      intro n hn
      rcases h2.new n hn with h|⟨h,h'⟩
      · exact absurd h.1 (by simp)
      · exact ⟨h,fresh_back hu hj h'⟩
    refine ⟨cout,h1,⟨fun n hn=>.inr ⟨(hf n hn).1,(hf n hn).2.1⟩,h2.res,h2.obj,fun n h=>h.elim⟩,Kept.of ⟨fun n=>cout.o n≠none,fun n hn => ?_,fun n hn=>.inr ⟨(hf n hn).2.1.1,(hf n hn).2.2⟩,fun t ht=>.inl (put_s ht)⟩,by rw [put_s hj,hu],?_⟩
    · simp only [ne_eq,Decidable.not_not] at hn
      simp [mixO,hn]
    · have e2:({ s:=((st.put (some d) v).put dj cout.r).s,o:=mixO (fun _=>false) (st.put (some d) v).o cout.o }:St)=({ s:=(st.put dj cout.r).s,o:=mixO (fun _=>false) st.o cout.o }:St).put (some d) v:=by
        rw [put_comm hj]
        simp [St.put]
      rw [e2] at h3
      exact h3
  case callv=>simp [kindJ] at hk
  case cut=>simp [kindJ] at hk
  case appD=>simp [kindJ] at hk
  case mset=>simp [kindJ] at hk
  case store n p x =>
    have hok:∀ m,V.refs m (opd st.s p)=true→ok m:=by
      rcases hk with hk|⟨n',p',x',e,hk⟩
      · simp [kindJ] at hk
      · injection e with e1 e2 e3;subst e2;exact hk
    simp only [stepD,isP,Bool.false_eq_true,if_false,stepS] at hs ⊢
    rw [ho p (by simp [AOp.opds]),ho x (by simp [AOp.opds])] at hs
    split at hs
    · rename_i m off new hp hx
      obtain ⟨cs,h1,h2,h3,h4⟩:=hs
      refine ⟨cs,h1,h2,h3,⟨fun _=>False,fun k=>k=m,fun k _ hk => ?_,fun k hk => ?_,fun k hk=>hk.elim,fun t ht=>.inl (put_s ht)⟩,by rw [put_s hj];exact hu,?_⟩
      · rw [put_o];exact upd_other _ _ hk
      · subst hk
        refine ⟨hok k (by rw [hp];simp [V.refs]),fun sz es h => ?_⟩
        rw [put_o] at h
        have h2:upd st.o k (some (.box (setRange cs off new))) k=some (.row sz es):=h
        rw [upd_same] at h2
        cases h2
      · have e:=put_comm (st:={ st with o:=upd st.o m (some (.box (setRange cs off new))) }) (v:=v) hj .undef
        rw [← e];exact h4
    · rename_i m sz i off new hp hx
      obtain ⟨es,e0,ds,h1,h2,h3,h4,h5,h6⟩:=hs
      refine ⟨es,e0,ds,h1,h2,h3,h4,h5,⟨fun _=>False,fun k=>k=m,fun k _ hk => ?_,fun k hk => ?_,fun k hk=>hk.elim,fun t ht=>.inl (put_s ht)⟩,by rw [put_s hj];exact hu,?_⟩
      · rw [put_o];exact upd_other _ _ hk
      · subst hk
        exact ⟨hok k (by rw [hp];simp [V.refs]),fun _ _ _=>⟨_,_,h1⟩⟩
      · have e:=put_comm (st:={ st with o:=upd st.o m (some (.row sz (es.set i (setRange e0 off ds)))) }) (v:=v) hj .undef
        rw [← e];exact h6
    · exact hs.elim
  case alloc nm zs =>
    obtain ⟨h1,h2,h3,h4⟩:=hs
    obtain ⟨k1,k2⟩:=newK hu hj h2 h4
    exact ⟨h1,k1,h3,k2⟩
  case box nm n x =>
    obtain ⟨cs,h0,h00,h1,h2,h3,h4⟩:=hs
    rw [ho x (by simp [AOp.opds])] at h0
    obtain ⟨k1,k2⟩:=newK hu hj h2 h4
    exact ⟨cs,h0,h00,h1,k1,h3,k2⟩
  case bsl own sz z n ps =>
    have hp:partsD sz (opd (st.put (some d) v).s) (ps.map (·.2))=partsD sz (opd st.s) (ps.map (·.2)):=partsD_congr (fun x hx=>ho x hx)
    cases own with
    | none =>
      obtain ⟨es,h1,h2⟩:=hs
      rw [hp] at h1
      exact ⟨es,h1,putK _ h2⟩
    | some nm =>
      simp only [stepD,isP,Bool.false_eq_true,if_false,stepS] at hs ⊢
      split
      · rename_i hn
        rw [if_pos hn] at hs
        exact putK _ hs
      · rename_i hn
        rw [if_neg hn] at hs
        obtain ⟨es,h1,h2,h3,h4⟩:=hs
        rw [hp] at h1
        obtain ⟨k1,k2⟩:=newK hu hj h3 h4
        exact ⟨es,h1,h2,k1,k2⟩
  case mks own sz b z x =>
    cases own with
    | none =>
      simp only [stepD,isP,Bool.false_eq_true,if_false,stepS] at hs ⊢
      rw [ho x (by simp [AOp.opds])] at hs
      split at hs
      · obtain ⟨h1,h2,h3,h4⟩:=hs
        exact ⟨h1,h2,h3,putK _ h4⟩
      · exact hs.elim
    | some nm =>
      simp only [stepD,isP,Bool.false_eq_true,if_false,stepS] at hs ⊢
      rw [ho x (by simp [AOp.opds])] at hs
      split at hs
      · obtain ⟨h1,h2,h3,h4,h5,h6⟩:=hs
        obtain ⟨k1,k2⟩:=newK hu hj h5 h6
        exact ⟨h1,h2,h3,h4,k1,k2⟩
      · exact hs.elim
  case mkmap nm =>
    obtain ⟨h1,h2,h3⟩:=hs
    obtain ⟨k1,k2⟩:=newK hu hj h2 h3
    exact ⟨h1,k1,k2⟩
  case nilS q x =>
    simp only [stepD,isP,Bool.false_eq_true,if_false,stepS] at hs ⊢
    rw [ho x (by simp [AOp.opds])] at hs
    split at hs
    · exact fun b=>putK _ (hs b)
    · exact putK _ hs
    · exact fun b=>putK _ (hs b)
    · exact hs.elim
  case mget str z m k okk =>
    simp only [stepD,isP,Bool.false_eq_true,if_false,stepS] at hs ⊢
    rw [ho m (by simp [AOp.opds]),ho k (by simp [AOp.opds])] at hs
    split at hs
    · obtain ⟨kvs,r,h1,h2,h3,h4⟩:=hs
      exact ⟨kvs,r,h1,h2,h3,putK _ h4⟩
    · exact hs.elim
  case app own sz b x y =>
    have hht:hh=true:=by
      cases hh with
      | true=>rfl
      | false=>exact absurd (hap rfl) (by simp [appJ])
    have hq:=hq hht
    obtain ⟨hs,hbox⟩:=hs
    rw [ho x (by simp [AOp.opds])] at hbox
    refine ⟨?_,hbox⟩
    have hbox:(∀ n,ok n)∨∀ m,opd st.s x = .own m→∀ n ob,st.o n=some ob→ob.refs m=false:=by
      cases lo with
      | true=>exact .inl (hlo rfl)
      | false=>exact .inr hbox
    simp only [stepS] at hs ⊢
    rw [ho x (by simp [AOp.opds]),ho y (by simp [AOp.opds])] at hs
    obtain ⟨ys,h1,h2,hs⟩:=hs
    refine ⟨ys,h1,h2,?_⟩
    split at hs
    · obtain ⟨h3,h4,hs⟩:=hs
      refine ⟨h3,h4,?_⟩
      split at hs
      · exact putK _ hs
      · obtain ⟨h5,h6,h7⟩:=hs
        obtain ⟨k1,k2⟩:=newK hu hj h6 h7
        exact ⟨h5,k1,k2⟩
    · rename_i m hm
      obtain ⟨es,h3,h4,h5,h6,h7⟩:=hs
      have hv:scrubV m v=v:=by unfold scrubV;rw [hq m _ _ h4];rfl
      have e0:(st.put (some d) v).scrub m=(st.scrub m).put (some d) v:=by
        simp only [St.scrub,St.put]
        congr 1
        funext t
        simp only [upd]
        split
        · exact hv
        · rfl
      let T:St:={ s:=((st.scrub m).put dj (.own m)).s,o:=upd (st.scrub m).o m (some (.row sz (es++ys))) }
      have e1:({ s:=(((st.put (some d) v).scrub m).put dj (.own m)).s,o:=upd ((st.put (some d) v).scrub m).o m (some (.row sz (es++ys))) }:St)=T.put (some d) v:=by
        rw [e0,put_comm hj]
        simp [St.put,T]
      have hTm:T.o m=some (.row sz (es++ys)):=upd_same _ _ _
      have hTn:∀ n,n≠m→T.o n=(st.o n).map (Ob.scrub m):=fun n hn=>upd_other _ _ hn
      have hTs:∀ t,dj≠some t→T.s t=scrubV m (st.s t):=fun t ht=>put_s ht
      have hTd:T.s d = .undef:=by rw [hTs d hj,hu];rfl
      have hslot:∀ t,dj≠some t→T.s t=st.s t∨∃ k,k=m∧V.refs k (st.s t)=true:=by
        intro t ht
        rw [hTs t ht]
        unfold scrubV
        split
        · rename_i hr;exact .inr ⟨m,rfl,hr⟩
        · exact .inl rfl
      have hTo:(∀ n ob,st.o n=some ob→ob.refs m=false)→∀ n,n≠m→T.o n=st.o n:=by
        intro hbox' n hn
        rw [hTn n hn]
        cases hx:st.o n with
        | none=>rfl
        | some ob =>
          cases ob with
          | box cs =>
            simp only [Option.map_some,Ob.scrub]
            rw [scrub_id (hbox' n _ hx)]
          | row _ _=>rfl
          | map _=>rfl
          | bld k =>
            have:=hbox' n _ hx
            simp only [Ob.refs,beq_eq_false_iff_ne] at this
            simp [Ob.scrub,this]
          | brow _=>rfl
      have hTr:∀ n sz' es',T.o n=some (.row sz' es')→∃ sz es,st.o n=some (.row sz es):=by
        intro n sz' es' h
        by_cases hn:n=m
        · subst hn;exact ⟨_,_,h4⟩
        · rw [hTn n hn] at h
          cases hx:st.o n with
          | none=>rw [hx] at h;cases h
          | some ob =>
            rw [hx] at h
            cases ob with
            | row _ _=>exact ⟨_,_,rfl⟩
            | box _=>cases h
            | map _=>cases h
            | bld k=>simp only [Option.map_some,Ob.scrub] at h;split at h <;> cases h
            | brow _=>cases h
      have kT:Kept hh ok st T dj v:=by
        rcases hbox with hall|hbox
        · exact ⟨fun n=>n=m,fun _=>True,fun n _ h=>absurd trivial h,fun n _=>⟨hall n,hTr n⟩,fun n hn=>.inl ⟨hht,by subst hn;exact ⟨_,_,h4⟩⟩,hslot⟩
        · exact Kept.of ⟨fun n=>n=m,fun n hn=>hTo (hbox m hm) n hn,fun n hn=>.inl ⟨hht,by subst hn;exact ⟨_,_,h4⟩⟩,hslot⟩
      refine ⟨es,h3,h4,h5,h6,?_⟩
      rw [e1] at h7
      cases own with
      | some _=>exact ⟨kT,hTd,h7⟩
      | none =>
        have hfree:T.free m = { s:=fun t=>V.thaw m (es++ys) (T.s t),o:=fun n=>if n=m then none else (T.o n).map (Ob.thaw m (es++ys)) }:=by
          unfold St.free;rw [hTm]
        have hfree2:(T.put (some d) v).free m=(T.free m).put (some d) v:=by
          rw [hfree]
          unfold St.free
          rw [put_o,hTm]
          simp only [St.put]
          congr 1
          funext t
          simp only [upd]
          split
          · exact thaw_id _ () (hq m _ _ h4)
          · rfl
        have hid:∀ t,dj≠some t→(T.free m).s t=T.s t:=by
          intro t ht
          rw [hfree]
          show V.thaw m _ (T.s t)=T.s t
          refine thaw_id _ () ?_
          rw [hTs t ht]
          cases hh:V.refs m (scrubV m (st.s t)) with
          | false=>rfl
          | true=>exact absurd rfl (scrubV_refs m m _ hh)
        rw [hfree2] at h7
        refine ⟨?_,by rw [hid d hj];exact hTd,h7⟩
        have hfo:∀ n,n≠m→(T.free m).o n=(T.o n).map (Ob.thaw m (es++ys)):=by
          intro n hn
          rw [hfree]
          show (if n=m then none else (T.o n).map (Ob.thaw m (es++ys)))=_
          rw [if_neg hn]
        have hfs:∀ t,dj≠some t→(T.free m).s t=st.s t∨∃ k,k=m∧V.refs k (st.s t)=true:=fun t ht=>by
          rw [hid t ht];exact hslot t ht
        rcases hbox with hall|hbox
        · refine ⟨fun n=>n=m,fun _=>True,fun n _ h=>absurd trivial h,fun n _=>⟨hall n,fun sz' es' h => ?_⟩,fun n hn=>.inl ⟨hht,by subst hn;exact ⟨_,_,h4⟩⟩,hfs⟩
          by_cases hn:n=m
          · subst hn;exact ⟨_,_,h4⟩
          · rw [hfo n hn] at h
            cases hx:T.o n with
            | none=>rw [hx] at h;cases h
            | some ob =>
              rw [hx] at h
              cases ob with
              | row _ _=>exact hTr n _ _ hx
              | box _=>cases h
              | map _=>cases h
              | bld k=>simp only [Option.map_some,Ob.thaw] at h;split at h <;> cases h
              | brow _=>cases h
        · have hbox':=hbox m hm
          refine Kept.of ⟨fun n=>n=m,fun n hn => ?_,fun n hn=>.inl ⟨hht,by subst hn;exact ⟨_,_,h4⟩⟩,hfs⟩
          rw [hfo n hn,hTo hbox' n hn]
          cases hx:st.o n with
          | none=>rfl
          | some ob =>
            cases ob with
            | box cs =>
              simp only [Option.map_some,Ob.thaw]
              rw [thaws_id _ () (hbox' n _ hx)]
            | row _ _=>rfl
            | map _=>rfl
            | bld k =>
              have:=hbox' n _ hx
              simp only [Ob.refs,beq_eq_false_iff_ne] at this
              simp [Ob.thaw,this]
            | brow _=>rfl
    · exact hs.elim
  all_goals exact dem hs
end
end Pay
end
/- Drawn orders: what is taken first; each order of what is left. -/
section
set_option linter.unusedSimpArgs false
set_option linter.unusedVariables false
namespace Pay
open Go
def Yields (C:Ctx) (st:St) (o:AOper) (v:V):Prop :=
  match o.guard with
  | none=>pureA C st o.op v
  | some (_,g,want)=>(match st.s g with
    | .d (.bool b)=>if b=want then pureA C st o.op v else v = .tup []
    | .tup []=>v = .tup []
    | _=>False)
def Quiet (hh:Bool)(st:St)(o:AOper)(v:V):Prop:=hh=true→∀ m sz es,st.o m=some (.row sz es)→V.refs m v=false∧∀ x∈o.op.opds,V.refs m (opd st.s x)=false
theorem opd_plain {s:Nat→V}{x:Opd}(hp:x.plain=true)(hn:x.slot=[])(n:Nat):V.refs n (opd s x)=false:=by
  cases x with
  | t k=>simp [Opd.slot] at hn
  | f g=>simp [opd,V.refs,V.refsL]
  | c v=>cases v <;> simp_all [Opd.plain,opd,V.refs]
section
variable {C:Ctx}{I:Nat→Prop}{st st':St}{o:AOper}{v:V}{dj:Option Nat}{hh:Bool}
theorem mixO_none (o:Nat→Option Ob):mixO (fun _=>false) o (fun _=>none)=o:=by funext n;simp [mixO]
theorem pureA_D {K:St→Prop}{op:AOp}{lo:Bool}{dst:Option Nat}(h:pureA C st op v)(hK:K (st.put dst v)):stepD C I lo st dst K op:=by
  cases op
  case call f args =>
    obtain ⟨h1,h2⟩:=h
    refine ⟨_,h1,⟨fun n hn=>absurd rfl hn,fun n hn => ?_,(fun n x hx=>by cases hx),fun n h=>h.elim⟩,?_⟩
    · rw [h2 n] at hn;cases hn
    · rw [mixO_none,← put_o (st:=st) (dj:=dst) (u:=v)];exact hK
  case bsl own sz z n ps =>
    cases own with
    | none =>
      obtain ⟨es,h1,rfl⟩:=h
      exact ⟨es,h1,hK⟩
    | some nm =>
      obtain ⟨rfl,rfl⟩:=h
      simp only [stepD,isP,Bool.false_eq_true,if_false,stepS,if_true]
      exact hK
  case store|alloc|allocB|box|mks|app|appD|cut|mkmap|mset|mget|nilS|callv=>exact absurd h.1 (by simp [isP])
  case never=>exact absurd h.2 (by simp [evP])
  case mv x =>
    obtain ⟨_,h⟩:=h
    simp only [evP,Option.some.injEq] at h
    subst h
    exact hK
  case fnv f xs =>
    obtain ⟨_,h⟩:=h
    simp only [evP,Option.some.injEq] at h
    subst h
    exact hK
  all_goals (
    obtain ⟨_,h⟩:=h
    show demand _ _
    rw [h]
    exact hK)
theorem Yields.opD {K:St→Prop}(hf:o.frz=[])(h:Yields C st o v)(hK:K (st.put o.dst v)):opD C I o st K:=by
  refine ⟨hf,?_⟩
  unfold Yields at h
  cases hg:o.guard with
  | none=>rw [hg] at h;exact pureA_D h hK
  | some x =>
    obtain ⟨p,g,want⟩:=x
    rw [hg] at h
    have h:match st.s g with
      | .d (.bool b)=>if b=want then pureA C st o.op v else v = .tup []
      | .tup []=>v = .tup []
      | _=>False:=h
    show match st.s g with
      | .d (.bool b)=>if b=want then stepD C I o.tr.isSome st o.dst K o.op else K (st.put o.dst (.tup []))
      | .tup []=>K (st.put o.dst (.tup []))
      | _=>False
    split at h
    · split at h
      · rename_i hw;rw [if_pos hw];exact pureA_D h hK
      · rename_i hw;rw [if_neg hw];rw [← h];exact hK
    · rw [← h];exact hK
    · exact h.elim
def Watch (st:St)(o:AOper)(ws:List Nat):Prop :=
  ∀ t∈ws,(∀ m sz es,st.o m=some (.row sz es)→V.refs m (st.s t)=false)∧∀ m,V.refs m (st.s t)=true→∀ x∈o.op.opds,V.refs m (opd st.s x)=false
theorem kept_yields {ok:Nat→Prop} {ws:List Nat} (hok:∀ n,ok n→freeOp o.op=true∨∀ x∈o.op.opds,V.refs n (opd st.s x)=false) (hk:Kept hh ok st st' dj v) (hp:∀ x∈o.op.opds,x.plain=true) (hd:∀ t,dj=some t→t∉o.uses) (hw:∀ t∈ws,dj≠some t)
    (hq:Quiet hh st o v) (hwt:Watch st o ws) (hy:Yields C st o v):Yields C st' o v∧Quiet hh st' o v∧Watch st' o ws:=by
  obtain ⟨X,Y,k1,kY,k2,k3⟩:=hk
  have hslot:∀ x∈o.op.opds,∀ t,x = .t t→dj≠some t:=by
    intro x hx t hxt e
    subst hxt
    refine hd t e ?_
    simp only [AOper.uses,List.mem_append,List.mem_flatMap]
    exact .inl ⟨_,hx,by simp [Opd.slot]⟩
  have hX:∀ m,X m→∀ x∈o.op.opds,V.refs m (opd st.s x)=false:=by
    intro m hm x hx
    rcases k2 m hm with ⟨hht,sz,es,h⟩|⟨h,_⟩
    · exact (hq hht m sz es h).2 x hx
    · cases x with
      | t n=>exact h n (hslot _ hx n rfl)
      | c u=>exact opd_plain (hp _ hx) rfl m
      | f g=>exact opd_plain (hp _ hx) rfl m
  have ho:∀ x∈o.op.opds,opd st'.s x=opd st.s x:=by
    intro x hx
    cases x with
    | t n =>
      rcases k3 n (hslot _ hx n rfl) with h|⟨m,hm,hr⟩
      · exact h
      · have:=hX m hm _ hx
        simp only [opd] at this
        rw [this] at hr;cases hr
    | c u=>rfl
    | f g=>rfl
  have hws:∀ t∈ws,st'.s t=st.s t:=by
    intro t ht
    rcases k3 t (hw t ht) with h|⟨m,hm,hr⟩
    · exact h
    · rcases k2 m hm with ⟨_,sz,es,h⟩|⟨h,_⟩
      · rw [(hwt t ht).1 m sz es h] at hr;cases hr
      · rw [h t (hw t ht)] at hr;cases hr
  have hev:evP st' o.op=evP st o.op:=by
    cases hf:freeOp o.op with
    | true=>exact evP_free hf ho
    | false =>
      refine evP_congr ho (fun x hx n hn => ?_)
      by_cases h:X n
      · rw [hX n h x hx] at hn;cases hn
      · by_cases h':Y n
        · rcases hok n (kY n h').1 with h2|h2
          · rw [hf] at h2;cases h2
          · rw [h2 x hx] at hn;cases hn
        · exact k1 n h h'
  have hpure:pureA C st o.op v→pureA C st' o.op v:=by
    intro h
    cases hop:o.op
    case call f args =>
      rw [hop] at h ho
      obtain ⟨h1,h2⟩:=h
      exact ⟨by rw [map_congr' (f:=opd st.s) (g:=opd st'.s) (xs:=args) ho];exact h1,h2⟩
    case bsl own sz z n ps =>
      rw [hop] at h ho
      cases own with
      | none =>
        obtain ⟨es,h1,h2⟩:=h
        have ho':∀ x∈ps.map (fun x=>x.snd),opd st'.s x=opd st.s x:=ho
        exact ⟨es,by rw [partsD_congr ho'];exact h1,h2⟩
      | some nm=>exact h
    all_goals (
      rw [hop] at h hev
      exact ⟨h.1,by rw [hev];exact h.2⟩)
  have hrow:∀ m sz es,st'.o m=some (.row sz es)→X m∨∃ sz es,st.o m=some (.row sz es):=by
    intro m sz es hm
    by_cases h:X m
    · exact .inl h
    · by_cases h':Y m
      · exact .inr ((kY m h').2 sz es hm)
      · rw [k1 m h h'] at hm
        exact .inr ⟨sz,es,hm⟩
  refine ⟨?_,?_,?_⟩
  · unfold Yields at hy ⊢
    cases hg:o.guard with
    | none=>rw [hg] at hy;exact hpure hy
    | some y =>
      obtain ⟨p,g,want⟩:=y
      rw [hg] at hy
      have hgs:∀ u,st.s g=u→(∀ n,V.refs n u=false)→st'.s g=u:=by
        intro u hu hr
        have hne:dj≠some g:=fun e=>hd g e (by simp [AOper.uses,hg])
        rcases k3 g hne with h|⟨m,_,h⟩
        · rw [h,hu]
        · rw [hu,hr m] at h;cases h
      have hy:match st.s g with
        | .d (.bool b)=>if b=want then pureA C st o.op v else v = .tup []
        | .tup []=>v = .tup []
        | _=>False:=hy
      show match st'.s g with
        | .d (.bool b)=>if b=want then pureA C st' o.op v else v = .tup []
        | .tup []=>v = .tup []
        | _=>False
      split at hy
      · rename_i b hb
        rw [hgs _ hb (fun _=>rfl)]
        simp only
        split at hy
        · rename_i hw;rw [if_pos hw];exact hpure hy
        · rename_i hw;rw [if_neg hw];exact hy
      · rename_i hb
        rw [hgs _ hb (fun _=>rfl)]
        exact hy
      · exact hy.elim
  · intro hht m sz es hm
    rcases hrow m sz es hm with h|⟨sz',es',h⟩
    · refine ⟨?_,fun x hx=>by rw [ho x hx];exact hX m h x hx⟩
      rcases k2 m h with ⟨_,sz',es',h'⟩|⟨_,h'⟩
      · exact (hq hht m sz' es' h').1
      · exact h'
    · exact ⟨(hq hht m sz' es' h).1,fun x hx=>by rw [ho x hx];exact (hq hht m sz' es' h).2 x hx⟩
  · intro t ht
    rw [hws t ht]
    refine ⟨fun m sz es hm => ?_,fun m hm x hx=>by rw [ho x hx];exact (hwt t ht).2 m hm x hx⟩
    rcases hrow m sz es hm with h|⟨sz',es',h⟩
    · rcases k2 m h with ⟨_,sz',es',h'⟩|⟨h',_⟩
      · exact (hwt t ht).1 m sz' es' h'
      · exact h' t (hw t ht)
    · exact (hwt t ht).1 m sz' es' h
end
theorem readyA_congr {aos:List AOper}{l l':List Nat}(h:∀ x,l.contains x=l'.contains x):readyA aos l=readyA aos l':=by
  unfold readyA
  refine List.filter_congr fun i _ => ?_
  rw [h i]
  congr 2
  cases aos[i]? with
  | none=>rfl
  | some o =>
    simp only [Option.map_some]
    congr 1
    have:(fun j=>l.contains j)=(fun j=>l'.contains j):=funext h
    rw [this]
theorem anyA_congr {C:Ctx}{I:Nat→Prop}{aos:List AOper}{K:St→Prop}:∀ {n:Nat}{l l':List Nat}{st:St},(∀ x,l.contains x=l'.contains x)→anyA C I aos n l st K→anyA C I aos n l' st K
  | 0,l,l',st,h,hs=>⟨by rw [← readyA_congr h];exact hs.1,hs.2⟩
  | n+1,l,l',st,h,hs=>by
    refine ⟨by rw [← readyA_congr h];exact hs.1,fun i hi => ?_⟩
    rw [← readyA_congr h] at hi
    obtain ⟨ao,h1,h2⟩:=hs.2 i hi
    exact ⟨ao,h1,opD_mono (fun st=>anyA_congr (fun x=>by simp only [List.contains_cons,h x])) h2⟩
theorem mem_readyA {aos:List AOper}{l:List Nat}{i:Nat}:i∈readyA aos l↔l.contains i=false∧∃ o,aos[i]? = some o∧∀ j∈o.deps,l.contains j=true:=by
  unfold readyA
  rw [List.mem_filter,List.mem_range]
  cases ho:aos[i]? with
  | none=>simp
  | some o =>
    have hlt:i<aos.length:=(List.getElem?_eq_some_iff.1 ho).1
    simp [hlt]
theorem readyA_mono {aos:List AOper}{l:List Nat}{i j:Nat}(hj:j∈readyA aos l)(hne:j≠i):j∈readyA aos (i::l):=by
  rw [mem_readyA] at *
  obtain ⟨h0,o,ho,hall⟩:=hj
  refine ⟨?_,o,ho,fun k hk => ?_⟩
  · rw [List.contains_cons,h0]
    simp only [Bool.or_false,beq_eq_false_iff_ne]
    exact hne
  · rw [List.contains_cons,hall k hk,Bool.or_true]
theorem anyA_first {hh:Bool} {C:Ctx} {I:Nat→Prop} {aos:List AOper} {K:St→Prop} {i d:Nat} {oi:AOper} {v:V} {ws:List Nat} (hi:aos[i]? = some oi) (hdst:oi.dst=some d) (hfz:oi.frz=[]) (hpl:∀ x∈oi.op.opds,x.plain=true) :
    ∀ (B:List Nat),(∀ j∈B,j≠i∧∃ oj,aos[j]? = some oj∧∃ k∈oj.deps,k=i∨k∈B)→∀ (n:Nat) (l:List Nat) (st:St),(∀ j∈B,l.contains j=false)→(∀ j oj,aos[j]? = some oj→j≠i→l.contains j=false→j∉B→d∉oj.uses∧oj.dst≠some d∧(∀ t,oj.dst=some t→t∉oi.uses)∧(∀ t∈ws,oj.dst≠some t)∧(oj.tr.isSome=true→freeOp oi.op=true)∧(hh=false→appJ oj.op=false)∧(kindJ oj.op=true∨∃ n p x,oj.op = .store n p x∧(freeOp oi.op=true∨∃ t∈ws,p = .t t))) →
      i∈readyA aos l→st.s d = .undef→Yields C st oi v→Quiet hh st oi v→Watch st oi ws→anyA C I aos n (i::l) (st.put (some d) v) K→anyA C I aos (n+1) l st K:=by
  intro B hB n
  induction n with
  | zero =>
    intro l st hBl hfree hr hu hy hq hwt H
    refine ⟨fun h=>(by rw [h] at hr;cases hr),fun j hj => ?_⟩
    by_cases hji:j=i
    · subst hji
      exact ⟨oi,hi,hy.opD hfz (by rw [hdst];exact H)⟩
    · have:=readyA_mono hj hji
      rw [H.1] at this
      cases this
  | succ n ih =>
    intro l st hBl hfree hr hu hy hq hwt H
    refine ⟨fun h=>(by rw [h] at hr;cases hr),fun j hj => ?_⟩
    by_cases hji:j=i
    · subst hji
      exact ⟨oi,hi,hy.opD hfz (by rw [hdst];exact H)⟩
    · obtain ⟨oj,hoj,h1⟩:=H.2 j (readyA_mono hj hji)
      obtain ⟨hjl,oj',hoj',hall⟩:=mem_readyA.1 hj
      rw [hoj] at hoj'
      injection hoj' with hoj'
      subst hoj'
      have hnot:j∉B:=fun h=>by
        obtain ⟨_,o2,ho2,k,hk,hki⟩:=hB j h
        rw [hoj] at ho2
        injection ho2 with ho2
        subst ho2
        have h2:=hall k hk
        rcases hki with rfl|hkB
        · rw [(mem_readyA.1 hr).1] at h2;cases h2
        · rw [hBl k hkB] at h2;cases h2
      obtain ⟨f1,f2,f3,f5,f6,f7,f4⟩:=hfree j oj hoj hji hjl hnot
      refine ⟨oj,hoj,?_⟩
      have hops:d∉oj.op.opds.flatMap Opd.slot:=fun h=>f1 (by simp only [AOper.uses,List.mem_append];exact .inl h)
      let ok:Nat→Prop:=fun n=>freeOp oi.op=true∨∀ x∈oi.op.opds,V.refs n (opd st.s x)=false
      have f4':kindJ oj.op=true∨∃ n p x,oj.op = .store n p x∧∀ m,V.refs m (opd st.s p)=true→ok m:=by
        rcases f4 with h|⟨n',p,x,e,h⟩
        · exact .inl h
        · refine .inr ⟨n',p,x,e,fun m hm => ?_⟩
          rcases h with h|⟨t,ht,rfl⟩
          · exact .inl h
          · exact .inr ((hwt t ht).2 m hm)
      have cont:∀ st',Kept hh ok st st' oj.dst v∧st'.s d = .undef∧anyA C I aos n (j::i::l) (st'.put (some d) v) K→anyA C I aos (n+1) (j::l) st' K:=by
        rintro st' ⟨k1,k2,k3⟩
        obtain ⟨y1,y2,y3⟩:=kept_yields (ok:=ok) (fun n h=>h) k1 hpl f3 f5 hq hwt hy
        refine ih (j::l) st' (fun k hk => ?_) (fun k ok hk hki hkl hno=>hfree k ok hk hki ?_ hno) (readyA_mono hr (Ne.symm hji)) k2 y1 y2 y3 (anyA_congr (fun x => ?_) k3)
        · rw [List.contains_cons,hBl k hk,Bool.or_false,beq_eq_false_iff_ne]
          intro e;subst e;exact hnot hk
        · simp only [List.contains_cons,Bool.or_eq_false_iff] at hkl
          exact hkl.2
        · simp only [List.contains_cons]
          cases (x==j) <;> cases (x==i) <;> simp
      obtain ⟨h0,h1⟩:=h1
      refine ⟨h0,?_⟩
      cases hg:oj.guard with
      | none =>
        rw [hg] at h1
        exact stepD_mono cont (stepD_put (hh:=hh) (ok:=ok) f7 (fun h n=>.inl (f6 h)) f4' hu f2 hops (fun hht m sz es hm=>(hq hht m sz es hm).1) h1)
      | some x =>
        obtain ⟨p,g,want⟩:=x
        rw [hg] at h1
        have hgd:(st.put (some d) v).s g=st.s g:=put_s (fun e=>f1 (by injection e with e;subst e;simp [AOper.uses,hg]))
        have h1:match (st.put (some d) v).s g with
          | .d (.bool b)=>if b=want then stepD C I oj.tr.isSome (st.put (some d) v) oj.dst (fun st=>anyA C I aos n (j::i::l) st K) oj.op else anyA C I aos n (j::i::l) ((st.put (some d) v).put oj.dst (.tup [])) K
          | .tup []=>anyA C I aos n (j::i::l) ((st.put (some d) v).put oj.dst (.tup [])) K
          | _=>False:=h1
        show match st.s g with
          | .d (.bool b)=>if b=want then stepD C I oj.tr.isSome st oj.dst (fun st=>anyA C I aos (n+1) (j::l) st K) oj.op else anyA C I aos (n+1) (j::l) (st.put oj.dst (.tup [])) K
          | .tup []=>anyA C I aos (n+1) (j::l) (st.put oj.dst (.tup [])) K
          | _=>False
        rw [hgd] at h1
        have skip:anyA C I aos n (j::i::l) ((st.put (some d) v).put oj.dst (.tup [])) K→anyA C I aos (n+1) (j::l) (st.put oj.dst (.tup [])) K:=fun h =>
          cont _ ⟨Kept.put _,by rw [put_s f2,hu],by rw [← put_comm f2];exact h⟩
        split at h1
        · split at h1
          · rename_i hw
            rw [if_pos hw]
            exact stepD_mono cont (stepD_put (hh:=hh) (ok:=ok) f7 (fun h n=>.inl (f6 h)) f4' hu f2 hops (fun hht m sz es hm=>(hq hht m sz es hm).1) h1)
          · rename_i hw
            rw [if_neg hw]
            exact skip h1
        · exact skip h1
        · exact h1.elim
def treeA (C:Ctx)(I:Nat→Prop)(aos:List AOper):Tr→St→(St→Prop)→Prop
  | .done,st,K=>K st
  | .one i t,st,K=>(match aos[i]? with|some ao=>opD C I ao st (fun st=>treeA C I aos t st K)|none=>False)
  | .two i t r,st,K=>(match aos[i]? with|some ao=>opD C I ao st (fun st=>treeA C I aos t st K)|none=>False)∧treeA C I aos r st K
def Tr.tops:Tr→List Nat
  | .done=>[]
  | .one i _=>[i]
  | .two i _ r=>i::Tr.tops r
def okTree (aos:List AOper):Nat→Tr→List Nat→Bool→Bool
  | n,.done,l,_=>readyA aos l==[]
  | 0,_,_,_=>false
  | n+1,.one i t,l,top=>(!top||readyA aos l==[i])&&okTree aos n t (i::l) true
  | n+1,.two i t r,l,top=>(!top||readyA aos l==i::r.tops)&&okTree aos n t (i::l) true&&r.tops != []&&okTree aos (n+1) r l false
theorem treeA_at {C:Ctx}{I:Nat→Prop}{aos:List AOper}{K:St→Prop}:∀ (t:Tr)(n:Nat)(l:List Nat)(top:Bool),okTree aos (n+1) t l top=true→∀ {st:St},treeA C I aos t st K→∀ i∈t.tops,∃ ao t',aos[i]? = some ao∧okTree aos n t' (i::l) true=true∧opD C I ao st (fun st=>treeA C I aos t' st K)
  | .done,n,l,top,hk,st,h,i,hi=>by simp [Tr.tops] at hi
  | .one j t,n,l,top,hk,st,h,i,hi=>by
    simp only [Tr.tops,List.mem_singleton] at hi
    subst hi
    simp only [okTree,Bool.and_eq_true] at hk
    unfold treeA at h
    split at h
    · rename_i ao hao;exact ⟨ao,t,hao,hk.2,h⟩
    · exact h.elim
  | .two j t r,n,l,top,hk,st,h,i,hi=>by
    simp only [Tr.tops,List.mem_cons] at hi
    simp only [okTree,Bool.and_eq_true] at hk
    obtain ⟨⟨⟨_,hk1⟩,_⟩,hk2⟩:=hk
    obtain ⟨h1,h2⟩:=h
    rcases hi with rfl|hi
    · split at h1
      · rename_i ao hao;exact ⟨ao,t,hao,hk1,h1⟩
      · exact h1.elim
    · exact treeA_at r n l false hk2 h2 i hi
theorem treeA_any {C:Ctx}{I:Nat→Prop}{aos:List AOper}{K:St→Prop}:∀ (n:Nat)(t:Tr)(l:List Nat){st:St},okTree aos n t l true=true→treeA C I aos t st K→anyA C I aos n l st K:=by
  intro n
  induction n with
  | zero =>
    intro t l st hk h
    cases t with
    | done=>exact ⟨by simpa [okTree] using hk,h⟩
    | one i t=>simp [okTree] at hk
    | two i t r=>simp [okTree] at hk
  | succ n ih =>
    intro t l st hk h
    have htops:readyA aos l=t.tops:=by
      cases t with
      | done=>simpa [okTree,Tr.tops] using hk
      | one i t=>simp only [okTree,Bool.not_true,Bool.false_or,Bool.and_eq_true,beq_iff_eq] at hk;exact hk.1
      | two i t r=>simp only [okTree,Bool.not_true,Bool.false_or,Bool.and_eq_true,beq_iff_eq] at hk;exact hk.1.1.1
    refine ⟨fun he => ?_,fun i hi => ?_⟩
    · rw [htops] at he
      cases t with
      | done=>exact h
      | one i t=>simp [Tr.tops] at he
      | two i t r=>simp [Tr.tops] at he
    · rw [htops] at hi
      obtain ⟨ao,t',h1,h2,h3⟩:=treeA_at t n l true hk h i hi
      exact ⟨ao,h1,opD_mono (fun st hst=>ih t' (i::l) h2 hst) h3⟩
def waits (aos:List AOper) (i:Nat):List Nat :=
  (List.range aos.length).foldl (fun acc j=>match aos[j]? with
    | some oj=>if j != i&&oj.deps.any (fun k=>k==i||acc.contains k) then j::acc else acc
    | none=>acc) []
def stores:List AOper→List Nat
  | []=>[]
  | o::os=>(match o.op with | .store _ (.t t) _=>[t]|_=>[])++stores os
def wsOf (aos:List AOper)(i:Nat):List Nat:=match i / 1000 with|1=>stores aos|_=>[]
def drawA (C:Ctx) (I:Nat→Prop) (aos:List AOper):List Nat→Tr→St→(St→Prop)→Prop
  | [],t,st,K=>treeA C I aos t st K
  | i :: is,t,st,K=>(match aos[i % 1000]? with
    | some oi=>(match oi.dst with
      | some d=>st.s d = .undef∧∃ v,Yields C st oi v∧Quiet (i / 1000 != 2) st oi v∧Watch st oi (wsOf aos i)∧drawA C I aos is t (st.put (some d) v) K
      | none=>False)
    | none=>False)
def okFirst (aos:List AOper) (l ws:List Nat) (hh:Bool) (i:Nat):Bool :=
  match aos[i]? with
  | some oi=>(readyA aos l).contains i&&oi.frz.isEmpty&&oi.op.opds.all Opd.plain&&(match oi.dst with
    | some d=>(waits aos i).all (fun j=>j != i && !l.contains j&&(match aos[j]? with|some oj=>oj.deps.any (fun k=>k==i||(waits aos i).contains k)|none=>false)) &&
      (List.range aos.length).all (fun j=>j==i||l.contains j||(match aos[j]? with
      | some oj=>(waits aos i).contains j||(!oj.uses.contains d&&oj.dst != some d&&(match oj.dst with|some t => !oi.uses.contains t|none=>true)&&ws.all (fun t=>oj.dst != some t)&&(!oj.tr.isSome||freeOp oi.op)&&(hh || !appJ oj.op) &&
          (kindJ oj.op||(match oj.op with | .store _ p _=>freeOp oi.op||(match p with | .t t=>ws.contains t|_=>false)|_=>false)))
      | none=>true))
    | none=>false)
  | none=>false
def okDraw (aos:List AOper):List Nat→Nat→Tr→List Nat→Bool
  | [],n,t,l=>okTree aos n t l true
  | i::is,n,t,l=>okFirst aos l (wsOf aos i) (i / 1000 != 2) (i % 1000)&&okDraw aos is n t (i % 1000::l)
theorem drawA_any {C:Ctx} {I:Nat→Prop} {aos:List AOper} {K:St→Prop}:∀ {is:List Nat} {n:Nat} {t:Tr} {l:List Nat} {st:St},okDraw aos is n t l=true→drawA C I aos is t st K→anyA C I aos (n+is.length) l st K
  | [],n,t,l,st,hk,h=>treeA_any n t l hk h
  | i :: is, n, tr, l,st,hk,h=>by
    simp only [okDraw,Bool.and_eq_true] at hk
    obtain ⟨hk1,hk2⟩:=hk
    unfold drawA at h
    split at h
    · rename_i oi hi
      split at h
      · rename_i d hd
        obtain ⟨hu,v,hy,hq,hwt,hrest⟩:=h
        obtain ⟨ws,hws⟩:∃ ws,wsOf aos i=ws:=⟨_,rfl⟩
        obtain ⟨hh,hhh⟩:∃ hh,(i / 1000 != 2)=hh:=⟨_,rfl⟩
        rw [hhh] at hk1 hq
        obtain ⟨k0,hk0⟩:∃ k0,i % 1000=k0:=⟨_,rfl⟩
        rw [hws] at hk1 hwt
        rw [hk0] at hk1 hk2 hi
        simp only [okFirst,hi,hd,Bool.and_eq_true] at hk1
        obtain ⟨⟨⟨c1,c2⟩,c3⟩,c5,c4⟩:=hk1
        have hB:∀ j∈waits aos k0,(j≠k0∧∃ oj,aos[j]? = some oj∧∃ k∈oj.deps,k=k0∨k∈waits aos k0)∧l.contains j=false:=by
          intro j hj
          have h1:=List.all_eq_true.1 c5 j hj
          cases hoj:aos[j]? with
          | none=>rw [hoj] at h1;simp at h1
          | some oj =>
            rw [hoj] at h1
            simp only [Bool.and_eq_true,bne_iff_ne,ne_eq,Bool.not_eq_true',List.any_eq_true,Bool.or_eq_true,beq_iff_eq,List.contains_iff_mem] at h1
            obtain ⟨⟨a1,a2⟩,k,a3,a4⟩:=h1
            exact ⟨⟨a1,oj,rfl,k,a3,a4⟩,a2⟩
        refine anyA_first hi hd (by simpa using c2) (fun x hx=>by simpa using List.all_eq_true.1 c3 x hx) (waits aos k0) (fun j hj=>(hB j hj).1) (n+is.length) l st (fun j hj=>(hB j hj).2) (fun j oj hj hne hl hno => ?_) (by simpa using c1) hu hy hq hwt (drawA_any hk2 hrest)
        have hlt:j<aos.length:=(List.getElem?_eq_some_iff.1 hj).1
        have:=List.all_eq_true.1 c4 j (List.mem_range.2 hlt)
        rw [hj] at this
        simp only [Bool.or_eq_true,beq_iff_eq,hne,false_or,hl,Bool.false_eq_true] at this
        rcases this with h|h
        · exact absurd (by simpa using h) hno
        · simp only [Bool.and_eq_true,Bool.not_eq_true',bne_iff_ne,ne_eq] at h
          obtain ⟨⟨⟨⟨⟨⟨h1,h2⟩,h3⟩,h5⟩,h6⟩,h7⟩,h4⟩:=h
          refine ⟨fun hm => ?_,h2,fun t ht hm => ?_,fun t ht=>by simpa using List.all_eq_true.1 h5 t ht,fun h=>by rw [h] at h6;simpa using h6,fun h=>by rw [h] at h7;simpa using h7,?_⟩
          · rw [List.contains_iff_mem.2 hm] at h1;cases h1
          · rw [ht] at h3
            simp only at h3
            rw [List.contains_iff_mem.2 hm] at h3;simp at h3
          · rcases Bool.or_eq_true _ _▸h4 with h4|h4
            · exact .inl h4
            · split at h4
              · rename_i n p x hop
                refine .inr ⟨n,p,x,hop,?_⟩
                rcases Bool.or_eq_true _ _▸h4 with h4|h4
                · exact .inl h4
                · split at h4
                  · rename_i t _
                    exact .inr ⟨t,List.contains_iff_mem.1 h4,rfl⟩
                  · cases h4
              · cases h4
      · exact h.elim
    · exact h.elim
end Pay
end
/- Code and functions: an abstract run is a run. -/
section
set_option linter.unusedSimpArgs false
set_option linter.unusedVariables false
namespace Pay
open Go
def fzOf:List Nat→List Nat
  | []=>[]
  | i::is=>(match Nat.ble 1000000 i with|true=>(i-1000000)::fzOf is|false=>[])
def unF:List Nat→List Nat
  | []=>[]
  | i::is=>(match Nat.ble 1000000 i with|true=>unF is|false=>i::is)
def wpA (C:Ctx)(I:Nat→Prop):ACode→St→(Ex→St→Prop)→Prop
  | .skip,st,Q=>Q .normal st
  | .region tr tro none ops,st,Q=>opsA C I ops st (fun st=>Q .normal (st.trim tr tro))
  | .region tr tro (some (is,t)) ops,st,Q=>drawA C I ops (unF is) t (st.frz (fzOf is)) (fun st=>Q .normal (st.trim tr tro))
  | .seq a b,st,Q=>wpA C I a st (fun e st=>match e with | .normal=>wpA C I b st Q|e=>Q e st)
  | .cond c a b,st,Q=>(match opd st.s c with | .d (.bool t)=>if t=true then wpA C I a st Q else wpA C I b st Q|_=>False)
  | .block id tr tro c,st,Q=>wpA C I c st (fun e st=>match e with | .normal=>Q .normal (st.trim tr tro) | .exit id'=>if id'=id then Q .normal (st.trim tr tro) else Q (.exit id') st | .ret=>Q .ret st)
  | .loop tr tro c,st,Q=>∀ X:St→Prop,(∀ s,wpA C I c (s.trim tr tro) (fun e s'=>match e with | .normal=>X s'|e=>Q e s')→X s)→X st
  | .exit id,st,Q=>Q (.exit id) st
  | .ret,st,Q=>Q .ret st
  | .scope l tr tro first rest,st,Q=>∀ X:St→Prop,(∀ s,wpA C I rest (s.trim tr tro) (jumpK l X Q)→X s)→wpA C I first st (jumpK l X Q)
def bindsOf (o:Oper):List Nat:=(o.after.toList.filter (Region.binds .any)).map (·.on)
def okDeps:List Oper→List AOper→Bool
  | [],[]=>true
  | o::os,ao::aos=>bindsOf o==ao.deps&&okDeps os aos
  | _,_=>false
def okC (P:Program)(φ:Nat→FuncId)(N:Nat):Code→ACode→Bool
  | .skip,.skip=>true
  | .region _ ops draw,.region _ _ none aos => !draw&&okOpers P φ N ops ops.toList aos
  | .region _ ops draw,.region _ _ (some (is,t)) aos=>draw&&okOpers P φ N ops ops.toList aos&&okDeps ops.toList aos&&okDraw aos (unF is) (aos.length-(unF is).length) t []&&decide ((unF is).length≤aos.length)
  | .seq a b,.seq c d=>okC P φ N a c&&okC P φ N b d
  | .cond x a b,.cond y c d=>okOpd φ x y&&okC P φ N a c&&okC P φ N b d
  | .block i a,.block j _ _ c=>i==j&&decide (i<1000000)&&okC P φ N a c
  | .loop a,.loop _ _ c=>okC P φ N a c
  | .exit i,.exit j=>i==j&&decide (i<1000000)
  | .ret,.ret=>true
  | .label _,.skip=>true
  | .goto l,.exit j=>j==1000000+l
  | .scope a,.scope l _ _ c d=>okC P φ N a c&&(match findLabel a l with|some r=>okC P φ N r d|none=>false)
  | _,_=>false
theorem okOpers_len {P:Program}{φ:Nat→FuncId}{N:Nat}{ops:Array Oper}:∀ {os:List Oper}{aos:List AOper},okOpers P φ N ops os aos=true→os.length=aos.length∧∀ (i:Nat)(o:Oper)(ao:AOper),os[i]? = some o→aos[i]? = some ao→okOper P φ N ops o ao=true
  | [],[],_=>⟨rfl,by simp⟩
  | o::os,ao::aos,h=>by
    simp only [okOpers,Bool.and_eq_true] at h
    obtain ⟨h1,h2⟩:=okOpers_len h.2
    refine ⟨by simp [h1],fun i o' ao' ho hao => ?_⟩
    cases i with
    | zero=>simp at ho hao;subst ho hao;exact h.1
    | succ i=>exact h2 i o' ao' (by simpa using ho) (by simpa using hao)
  | [],_::_,h=>by simp [okOpers] at h
  | _::_,[],h=>by simp [okOpers] at h
theorem okDeps_spec:∀ {os:List Oper}{aos:List AOper},okDeps os aos=true→∀ (i:Nat)(o:Oper)(ao:AOper),os[i]? = some o→aos[i]? = some ao→bindsOf o=ao.deps
  | [],[],_=>by simp
  | o::os,ao::aos,h=>by
    simp only [okDeps,Bool.and_eq_true,beq_iff_eq] at h
    intro i o' ao' ho hao
    cases i with
    | zero=>simp at ho hao;subst ho hao;exact h.1
    | succ i=>exact okDeps_spec h.2 i o' ao' (by simpa using ho) (by simpa using hao)
  | [],_::_,h=>by simp [okDeps] at h
  | _::_,[],h=>by simp [okDeps] at h
section
variable {C:Ctx}{w0:World}{S M:Nat→Prop}{N:Nat}{γ γ0:Nat→Value}{st:St}{a:Act}{w:World}{Q:Exit→Act→World→Prop}
theorem ready_agree {ops:Array Oper} {aos:List AOper} (hl:ops.toList.length=aos.length) (hd:okDeps ops.toList aos=true) {L:Array Bool} {l:List Nat} (hL:∀ j,j<ops.size→L.getD j true=l.contains j) (hs:L.size=ops.size) (hb:∀ j,l.contains j=true→j<ops.size) :
    Region.ready .any ops L=readyA aos l:=by
  unfold Region.ready readyA
  rw [show ops.size=aos.length by simpa using hl]
  refine List.filter_congr fun i hi => ?_
  have hi:i<ops.size:=by have:=List.mem_range.1 hi;simp at hl;omega
  rw [hL i hi]
  congr 1
  have hao:i<aos.length:=by simp at hl;omega
  have e1:ops[i]? = some ops[i]:=Array.getElem?_eq_getElem hi
  have e2:aos[i]? = some aos[i]:=List.getElem?_eq_getElem hao
  rw [e1,e2]
  simp only [Option.map_some,Option.getD_some]
  have hdep:=okDeps_spec hd i ops[i] aos[i] (by simp [hi]) e2
  rw [← hdep]
  unfold bindsOf
  rw [Bool.eq_iff_iff]
  simp only [Array.all_eq_true_iff_forall_mem,List.all_map,List.all_eq_true,List.mem_filter,Bool.or_eq_true,Bool.not_eq_true',Function.comp,and_imp]
  have key:∀ j,L.getD j false=true↔l.contains j=true:=by
    intro j
    rcases Nat.lt_or_ge j ops.size with h|h
    · have:=hL j h
      rw [← this]
      simp [Array.getD,hs,h]
    · constructor
      · intro h'
        simp [Array.getD,hs,Nat.not_lt.2 h] at h'
      · intro h'
        have:=hb j h'
        omega
  constructor
  · intro h e he hbe
    rcases h e (Array.mem_toList_iff.1 he) with h'|h'
    · rw [hbe] at h';cases h'
    · exact (key _).1 h'
  · intro h e he
    cases hbe:Region.binds .any e with
    | false=>exact .inl rfl
    | true=>exact .inr ((key _).2 (h e (Array.mem_toList_iff.2 he) hbe))
theorem anyA_sound (he:Env C w0 S M) {I:Nat→Prop} {ops:Array Oper} {aos:List AOper} {K:St→Prop} (hQ:∀ γ' st' a' w',K st'→(∀ n,I n→γ' n=γ0 n)→Rel C w0 S M N γ' st' a' w'→Q .normal a' w')
    (hk:okOpers C.P C.φ N ops ops.toList aos=true) (hd:okDeps ops.toList aos=true):∀ (n:Nat) {L:Array Bool} {l:List Nat},(∀ j,j<ops.size→L.getD j true=l.contains j)→L.size=ops.size→(∀ j,l.contains j=true→j<ops.size) →
      ∀ {γ:Nat→Value} {st:St} {a:Act} {w:World},Rel C w0 S M N γ st a w→(∀ n,I n→γ n=γ0 n)→anyA C I aos n l st K→wpAny C.P .any ops Q n L a w
  | 0,L,l,hL,hs,hb,γ,st,a,w,hr,hγ,h=>⟨by rw [ready_agree (okOpers_len hk).1 hd hL hs hb];exact h.1,hQ γ st a w h.2 hγ hr⟩
  | n + 1,L,l,hL,hs,hb,γ,st,a,w,hr,hγ,h=>by
    have hra:=ready_agree (okOpers_len hk).1 hd hL hs hb
    refine ⟨fun e=>hQ γ st a w (h.1 (by rw [← hra];exact e)) hγ hr,fun i hi => ?_⟩
    rw [hra] at hi
    obtain ⟨ao,hao,h1⟩:=h.2 i hi
    have hlen:=(okOpers_len hk).1
    have hilt:i<ops.size:=by
      have:=(List.getElem?_eq_some_iff.1 hao).1
      simp at hlen;omega
    have ho:ops[i]? = some ops[i]:=Array.getElem?_eq_getElem hilt
    have hok:=(okOpers_len hk).2 i ops[i] ao (by simp [hilt]) hao
    refine wpOp_mono ?_ (opA_sound hr he hγ ho hok (opD_A h1))
    rintro a' w' ⟨γ',st',k1,k2,k3⟩
    refine anyA_sound he hQ hk hd n (fun j hj => ?_) (by simp [hs]) (fun j hj => ?_) k3 k2 k1
    · rw [List.contains_cons]
      by_cases e:i=j
      · subst e
        simp [hs,hj]
      · rw [getD_set_ne true e,hL j hj]
        have:(j==i)=false:=by simpa using fun h=>e h.symm
        rw [this,Bool.false_or]
    · rw [List.contains_cons] at hj
      simp only [Bool.or_eq_true,beq_iff_eq] at hj
      rcases hj with rfl|hj
      · exact hilt
      · exact hb j hj
theorem wp_loop_A {P:Program}{c:Code}(W:Act→World→Prop)(hW:∀ a w,W a w→∀ (b:Frame)(k:List Item)(cs:List Frame),∃ e a' w',Q e a' w'∧Arrives P (lone (b.at a (.code c :: .inLoop c::k)) cs w) b k cs e a' w')(h:W a w):(Code.loop c).wp P Q a w:=by
  intro b k cs
  obtain ⟨e,a',w',hq,harr⟩:=hW a w h b k cs
  exact ⟨e,a',w',hq,.of_steps (.one step_loop) harr⟩
theorem loop_round {P:Program}{c:Code}{W:Act→World→Prop}(hW:∀ a w,W a w→∀ (b:Frame)(k:List Item)(cs:List Frame),∃ e a' w',Q e a' w'∧Arrives P (lone (b.at a (.code c :: .inLoop c::k)) cs w) b k cs e a' w')
    (h:c.wp P (Exit.then W Q) a w) (b:Frame) (k:List Item) (cs:List Frame):∃ e a' w',Q e a' w'∧Arrives P (lone (b.at a (.code c :: .inLoop c::k)) cs w) b k cs e a' w':=by
  obtain ⟨e,a₁,w₁,hq,harr⟩:=h b (.inLoop c::k) cs
  cases e with
  | normal =>
    obtain ⟨e₂,a₂,w₂,hq₂,harr₂⟩:=hW a₁ w₁ hq b k cs
    exact ⟨e₂,a₂,w₂,hq₂,.of_steps (Steps.trans harr (.one step_inLoop)) harr₂⟩
  | exit id=>exact ⟨_,a₁,w₁,hq,.pass (x:=.inLoop c) rfl (fun _ _=>.inl (by simp)) harr⟩
  | goto l=>exact ⟨_,a₁,w₁,hq,.pass (x:=.inLoop c) rfl (fun _ _=>.inl (by simp)) harr⟩
  | ret=>exact ⟨_,a₁,w₁,hq,.pass (x:=.inLoop c) rfl (fun _ _=>.inl (by simp)) harr⟩
  | panic ch=>exact ⟨_,a₁,w₁,hq,.pass (x:=.inLoop c) rfl (fun _ _=>.inl (by simp)) harr⟩
  | outgrown=>exact ⟨_,a₁,w₁,hq,.pass (x:=.inLoop c) rfl (fun _ _=>.inl (by simp)) harr⟩
theorem wpA_sound (he:Env C w0 S M) {I:Nat→Prop}:∀ {c:Code} {ac:ACode} {γ:Nat→Value} {st:St} {a:Act} {w:World} {QA:Ex→St→Prop} {Q:Exit→Act→World→Prop},okC C.P C.φ N c ac=true →
    (∀ e γ' st' a' w',QA e st'→(∀ n,I n→γ' n=γ0 n)→Rel C w0 S M N γ' st' a' w'→Q e.go a' w')→Rel C w0 S M N γ st a w→(∀ n,I n→γ n=γ0 n)→wpA C I ac st QA→c.wp C.P Q a w:=by
  intro c ac
  induction ac generalizing c with
  | skip =>
    intro γ st a w QA Q hk hQ hr hγ h
    cases c <;> simp [okC] at hk
    · exact wp_skip (hQ .normal γ st a w h hγ hr)
    · exact wp_label (hQ .normal γ st a w h hγ hr)
  | region tr tro draw aos =>
    intro γ st a w QA Q hk hQ hr hγ h
    cases c <;> rcases draw with _|⟨is,t⟩ <;> simp [okC] at hk
    · rename_i id ops draws
      obtain ⟨rfl,hk⟩:=hk
      refine wp_region ?_
      have:=opsA_sound (Q:=Q) he (K:=fun st=>QA .normal (st.trim tr tro)) (fun γ' st' a' w' h1 h2 h3=>hQ .normal γ' _ a' w' h1 h2 (h3.trim tr tro)) aos ops.toList 0 (fun i o ho=>by simpa using ho) hk hr hγ h
      rw [List.range_eq_range']
      simpa using this
    · rename_i id ops draws
      obtain ⟨⟨⟨⟨rfl,hk⟩,hd⟩,hf⟩,hle⟩:=hk
      refine wp_region_any C.mixed ?_
      have hlen:=(okOpers_len hk).1
      have h2:=drawA_any hf h
      rw [Nat.sub_add_cancel hle] at h2
      have:=anyA_sound (Q:=Q) he (K:=fun st=>QA .normal (st.trim tr tro)) (fun γ' st' a' w' h1 h2 h3=>hQ .normal γ' _ a' w' h1 h2 (h3.trim tr tro)) hk hd aos.length (L:=Array.replicate ops.size false) (l:=[]) (fun j hj=>by simp [hj]) (by simp) (by simp) ((hr.frz he (fzOf is)).grow (Grow.drew w)) hγ h2
      rw [show ops.size=aos.length by simpa using hlen] at this ⊢
      exact this
  | seq x y ihx ihy =>
    intro γ st a w QA Q hk hQ hr hγ h
    cases c <;> simp [okC] at hk
    refine wp_seq (ihx hk.1 (QA:=fun e st=>match e with | .normal=>wpA C I y st QA|e=>QA e st) ?_ hr hγ h)
    intro e γ' st' a' w' h1 h2 h3
    cases e with
    | normal=>exact ihy hk.2 hQ h3 h2 h1
    | exit id =>
      have:=hQ (.exit id) γ' st' a' w' h1 h2 h3
      by_cases hid:id<1000000
      · rw [Ex.go_exit hid] at this ⊢;exact this
      · rw [Ex.go_goto hid] at this ⊢;exact this
    | ret=>exact hQ .ret γ' st' a' w' h1 h2 h3
  | cond x y z ihy ihz =>
    intro γ st a w QA Q hk hQ hr hγ h
    cases c <;> simp [okC] at hk
    rename_i x' y' z'
    obtain ⟨⟨h1,h2⟩,h3⟩:=hk
    have hx:=opd_rep hr h1
    simp only [wpA] at h
    split at h
    · rename_i t ht
      rw [ht] at hx
      refine wp_cond (t:=t) hx ?_
      split at h
      · rename_i htt;subst htt;exact ihy h2 hQ hr hγ h
      · rename_i htt
        have:t=false:=by simpa using htt
        subst this
        exact ihz h3 hQ hr hγ h
    · exact h.elim
  | block id tr tro x ih =>
    intro γ st a w QA Q hk hQ hr hγ h
    cases c <;> simp [okC] at hk
    obtain ⟨⟨rfl,hlt⟩,hk⟩:=hk
    refine wp_block (ih hk (QA:=fun e st=>match e with | .normal=>QA .normal (st.trim tr tro) | .exit id'=>if id'=_ then QA .normal (st.trim tr tro) else QA (.exit id') st | .ret=>QA .ret st) ?_ hr hγ h)
    intro e γ' st' a' w' h1 h2 h3
    cases e with
    | normal=>exact hQ .normal γ' _ a' w' h1 h2 (h3.trim tr tro)
    | exit id' =>
      simp only at h1
      by_cases hid:id'<1000000
      · rw [Ex.go_exit hid]
        simp only [Exit.inBlock]
        split at h1
        · rename_i e;rw [if_pos e];exact hQ .normal γ' _ a' w' h1 h2 (h3.trim tr tro)
        · rename_i e;rw [if_neg e]
          have:=hQ (.exit id') γ' st' a' w' h1 h2 h3
          rwa [Ex.go_exit hid] at this
      · rw [Ex.go_goto hid]
        rw [if_neg (by omega)] at h1
        have:=hQ (.exit id') γ' st' a' w' h1 h2 h3
        rwa [Ex.go_goto hid] at this
    | ret=>exact hQ .ret γ' st' a' w' h1 h2 h3
  | loop tr tro x ih =>
    intro γ st a w QA Q hk hQ hr hγ h
    cases c <;> simp [okC] at hk
    rename_i body
    let X:St→Prop:=fun s=>∀ γ' a w,(∀ n,I n→γ' n=γ0 n)→Rel C w0 S M N γ' s a w→∀ (b:Frame) (k:List Item) (cs:List Frame),∃ e a' w',Q e a' w'∧Arrives C.P (lone (b.at a (.code body :: .inLoop body::k)) cs w) b k cs e a' w'
    have hX:X st:=by
      refine h X (fun s hs γ' a w hγ' hr' => ?_)
      refine loop_round (W:=fun a w=>∃ s γ'',X s∧(∀ n,I n→γ'' n=γ0 n)∧Rel C w0 S M N γ'' s a w) (fun a w hw => ?_) ?_
      · obtain ⟨s,γ'',h1,h2,h3⟩:=hw
        exact h1 γ'' a w h2 h3
      · refine ih hk (QA:=fun e s'=>match e with | .normal=>X s'|e=>QA e s') ?_ (hr'.trim tr tro) hγ' hs
        intro e γ'' st' a' w' h1 h2 h3
        cases e with
        | normal=>exact ⟨st',γ'',h1,h2,h3⟩
        | exit id =>
          have:=hQ (.exit id) γ'' st' a' w' h1 h2 h3
          by_cases hid:id<1000000
          · rw [Ex.go_exit hid] at this ⊢;exact this
          · rw [Ex.go_goto hid] at this ⊢;exact this
        | ret=>exact hQ .ret γ'' st' a' w' h1 h2 h3
    exact wp_loop_A (fun a w=>∃ s γ'',X s∧(∀ n,I n→γ'' n=γ0 n)∧Rel C w0 S M N γ'' s a w) (fun a w hw=>by
      obtain ⟨s,γ'',h1,h2,h3⟩:=hw
      exact h1 γ'' a w h2 h3) ⟨st,γ,hX,hγ,hr⟩
  | exit id =>
    intro γ st a w QA Q hk hQ hr hγ h
    cases c <;> simp [okC] at hk
    · obtain ⟨rfl,hlt⟩:=hk
      refine wp_exit ?_
      have:=hQ (.exit _) γ st a w h hγ hr
      rwa [Ex.go_exit hlt] at this
    · subst hk
      refine wp_goto ?_
      have:=hQ (.exit _) γ st a w h hγ hr
      rw [Ex.go_goto (by omega)] at this
      simpa using this
  | ret =>
    intro γ st a w QA Q hk hQ hr hγ h
    cases c <;> simp [okC] at hk
    exact wp_ret (hQ .ret γ st a w h hγ hr)
  | scope l tr tro first rest ihf ihr =>
    intro γ st a w QA Q hk hQ hr hγ h
    cases c <;> simp [okC] at hk
    rename_i body
    obtain ⟨hk1,hk2⟩:=hk
    split at hk2
    case h_2=>cases hk2
    rename_i r hf
    let X:St→Prop:=fun s=>∀ γ' a w,(∀ n,I n→γ' n=γ0 n)→Rel C w0 S M N γ' s a w→∀ (b:Frame) (k:List Item) (cs:List Frame),∃ e a' w',Q e a' w'∧Arrives C.P (lone (b.at a (.code r :: .inScope body::k)) cs w) b k cs e a' w'
    have hpost:∀ e γ' st' a' w',jumpK l X QA e st'→(∀ n,I n→γ' n=γ0 n)→Rel C w0 S M N γ' st' a' w'→Exit.jump l (fun a w=>∃ s γ',X s∧(∀ n,I n→γ' n=γ0 n)∧Rel C w0 S M N γ' s a w) Q e.go a' w':=by
      intro e γ' st' a' w' h1 h2 h3
      cases e with
      | normal=>exact hQ .normal γ' st' a' w' h1 h2 h3
      | ret=>exact hQ .ret γ' st' a' w' h1 h2 h3
      | exit id =>
        simp only [jumpK] at h1
        by_cases hid:id<1000000
        · rw [if_pos hid] at h1
          have:=hQ (.exit id) γ' st' a' w' h1 h2 h3
          rw [Ex.go_exit hid] at this ⊢;exact this
        · rw [if_neg hid] at h1
          rw [Ex.go_goto hid]
          exact ⟨by omega,st',γ',h1.2,h2,h3⟩
    have hg:∀ (b:Frame) (k:List Item) (cs:List Frame),gotoIn l (.inScope body::k)=some (.code r :: .inScope body::k):=fun b k cs=>by simp [gotoIn,hf]
    have run:∀ {c':Code} {a:Act} {w:World},c'.wp C.P (Exit.jump l (fun a w=>∃ s γ',X s∧(∀ n,I n→γ' n=γ0 n)∧Rel C w0 S M N γ' s a w) Q) a w→∀ (b:Frame) (k:List Item) (cs:List Frame),
        ∃ e a' w',Q e a' w'∧Arrives C.P (lone (b.at a (.code c' :: .inScope body::k)) cs w) b k cs e a' w':=by
      intro c' a w hw b k cs
      obtain ⟨e,a₁,w₁,hq,harr⟩:=hw b (.inScope body::k) cs
      cases e with
      | normal=>exact ⟨.normal,a₁,w₁,hq,Steps.trans harr (.one step_inScope)⟩
      | exit id=>exact ⟨.exit id,a₁,w₁,hq,fun k' hk=>harr k' (by simp [exitTo,hk])⟩
      | goto l' =>
        obtain ⟨rfl,s,γ',hX,h2,h3⟩:=hq
        obtain ⟨e₂,a₂,w₂,hq₂,harr₂⟩:=hX γ' a₁ w₁ h2 h3 b k cs
        exact ⟨e₂,a₂,w₂,hq₂,.of_steps (harr _ (hg b k cs)) harr₂⟩
      | ret=>exact ⟨_,a₁,w₁,hq,harr⟩
      | panic ch=>exact ⟨_,a₁,w₁,hq,harr⟩
      | outgrown=>exact ⟨_,a₁,w₁,hq,harr⟩
    have hX:=h X (fun s hs γ' a w hγ' hr'=>run (ihr hk2 hpost (hr'.trim tr tro) hγ' hs))
    have hw:=ihf hk1 hpost hr hγ hX
    intro b k cs
    obtain ⟨e,a',w',hq,harr⟩:=run hw b k cs
    exact ⟨e,a',w',hq,.of_steps (.one step_scope) harr⟩
end
theorem stepA_mono {C:Ctx}{I:Nat→Prop}{st:St}{dst:Option Nat}{K K':St→Prop}{op:AOp}(h:∀ st,K st→K' st)(hs:stepA C I st dst K op):stepA C I st dst K' op:=by
  have call:∀ f xs,callA C I st dst K f xs→callA C I st dst K' f xs:=by
    rintro f xs ⟨E,X,cout,h1,h2,h3⟩
    exact ⟨E,X,cout,h1,h2,h _ h3⟩
  cases op
  case call=>exact call _ _ hs
  case callv x args =>
    simp only [stepA] at hs ⊢
    split at hs
    · exact call _ _ hs
    · exact hs.elim
  case never=>exact hs.elim
  case cut =>
    simp only [stepA,isP,Bool.false_eq_true,if_false,stepS] at hs ⊢
    split at hs
    · obtain ⟨sz,es,k,h1,h2,h3,h4⟩:=hs;exact ⟨sz,es,k,h1,h2,h3,h _ h4⟩
    · exact hs.elim
  case store|alloc|allocB|box|bsl|mks|app|appD|mkmap|mset|mget|nilS =>
    simp only [stepA,isP,Bool.false_eq_true,if_false] at hs ⊢
    exact stepS_mono h hs
  case mv x=>exact h _ hs
  case fnv f xs=>exact h _ hs
  all_goals exact demand_mono (K:=fun v=>K (st.put dst v)) (K':=fun v=>K' (st.put dst v)) (fun v=>h _) hs
theorem opA_mono {C:Ctx}{I:Nat→Prop}{st:St}{K K':St→Prop}{o:AOper}(h:∀ st,K st→K' st)(hs:opA C I o st K):opA C I o st K':=by
  unfold opA at hs ⊢
  cases hg:o.guard with
  | none=>rw [hg] at hs;exact stepA_mono h hs
  | some x =>
    obtain ⟨p,g,want⟩:=x
    rw [hg] at hs
    have hs:match st.s g with
      | .d (.bool b)=>if b=want then stepA C I (st.frz o.frz) o.dst K o.op else K (st.put o.dst (.tup []))
      | .tup []=>K (st.put o.dst (.tup []))
      | _=>False:=hs
    show match st.s g with
      | .d (.bool b)=>if b=want then stepA C I (st.frz o.frz) o.dst K' o.op else K' (st.put o.dst (.tup []))
      | .tup []=>K' (st.put o.dst (.tup []))
      | _=>False
    split at hs
    · split at hs
      · rename_i hw;rw [if_pos hw];exact stepA_mono h hs
      · rename_i hw;rw [if_neg hw];exact h _ hs
    · exact h _ hs
    · exact hs.elim
theorem opsA_mono {C:Ctx}{I:Nat→Prop}{K K':St→Prop}(h:∀ st,K st→K' st):∀ {os:List AOper}{st:St},opsA C I os st K→opsA C I os st K'
  | [],_,hs=>h _ hs
  | _::_,_,hs=>opA_mono (fun _=>opsA_mono h) hs
theorem treeA_mono {C:Ctx}{I:Nat→Prop}{aos:List AOper}{K K':St→Prop}(h:∀ st,K st→K' st):∀ {t:Tr}{st:St},treeA C I aos t st K→treeA C I aos t st K'
  | .done,_,hs=>h _ hs
  | .one i t,st,hs=>by
    unfold treeA at hs ⊢
    split
    · rename_i ao hao;rw [hao] at hs;exact opD_mono (fun st=>treeA_mono h) hs
    · rename_i hao;rw [hao] at hs;exact hs
  | .two i t r,st,hs=>by
    unfold treeA at hs ⊢
    refine ⟨?_,treeA_mono h hs.2⟩
    have hs:=hs.1
    split
    · rename_i ao hao;rw [hao] at hs;exact opD_mono (fun st=>treeA_mono h) hs
    · rename_i hao;rw [hao] at hs;exact hs
theorem drawA_mono {C:Ctx} {I:Nat→Prop} {aos:List AOper} {K K':St→Prop} (h:∀ st,K st→K' st):∀ {is:List Nat} {t:Tr} {st:St},drawA C I aos is t st K→drawA C I aos is t st K'
  | [],_,_,hs=>treeA_mono h hs
  | i :: is,t,st,hs=>by
    unfold drawA at hs ⊢
    split
    · rename_i oi hi
      rw [hi] at hs
      have hs:match oi.dst with
        | some d=>st.s d = .undef∧∃ v,Yields C st oi v∧Quiet (i / 1000 != 2) st oi v∧Watch st oi (wsOf aos i)∧drawA C I aos is t (st.put (some d) v) K
        | none=>False:=hs
      split
      · rename_i d hd
        rw [hd] at hs
        obtain ⟨h1,v,h2,h3,h5,h4⟩:=hs
        exact ⟨h1,v,h2,h3,h5,drawA_mono h h4⟩
      · rename_i hd
        rw [hd] at hs
        exact hs
    · rename_i hi
      rw [hi] at hs
      exact hs
theorem wpA_mono {C:Ctx} {I:Nat→Prop}:∀ {c:ACode} {st:St} {Q Q':Ex→St→Prop},(∀ e st,Q e st→Q' e st)→wpA C I c st Q→wpA C I c st Q':=by
  intro c
  induction c with
  | skip=>intro st Q Q' h hs;exact h _ _ hs
  | region tr tro draw ops =>
    intro st Q Q' h hs
    cases draw with
    | none=>exact opsA_mono (fun st=>h _ _) hs
    | some is=>exact drawA_mono (fun st=>h _ _) hs
  | seq a b iha ihb =>
    intro st Q Q' h hs
    refine iha (fun e st => ?_) hs
    cases e with
    | normal=>exact ihb h
    | exit id=>exact h _ _
    | ret=>exact h _ _
  | cond c a b iha ihb =>
    intro st Q Q' h hs
    simp only [wpA] at hs ⊢
    split at hs
    · split at hs
      · rename_i ht;rw [if_pos ht];exact iha h hs
      · rename_i ht;rw [if_neg ht];exact ihb h hs
    · exact hs.elim
  | block id tr tro c ih =>
    intro st Q Q' h hs
    refine ih (fun e st => ?_) hs
    cases e with
    | normal=>exact h _ _
    | exit id' =>
      simp only
      split
      · exact h _ _
      · exact h _ _
    | ret=>exact h _ _
  | loop tr tro c ih =>
    intro st Q Q' h hs X hX
    refine hs X (fun s hsX=>hX s (ih (fun e st => ?_) hsX))
    cases e with
    | normal=>exact id
    | exit id'=>exact h _ _
    | ret=>exact h _ _
  | exit id=>intro st Q Q' h hs;exact h _ _ hs
  | ret=>intro st Q Q' h hs;exact h _ _ hs
  | scope l tr tro first rest ihf ihr =>
    intro st Q Q' h hs X hX
    have hj:∀ e s,jumpK l X Q e s→jumpK l X Q' e s:=by
      intro e s
      cases e with
      | normal=>exact h _ _
      | ret=>exact h _ _
      | exit k =>
        simp only [jumpK]
        split
        · exact h _ _
        · exact id
    exact ihf hj (hs X (fun s hsX=>hX s (ihr hj hsX)))
theorem wpA_scope {C:Ctx}{I:Nat→Prop}{l:Nat}{tr:List Nat}{tro:Option (List Nat)}{first rest:ACode}{st:St}{Q:Ex→St→Prop}
    (h:wpA C I first st (jumpK l (fun s=>wpA C I (.scope l tr tro rest rest) (s.trim tr tro) Q) Q)):wpA C I (.scope l tr tro first rest) st Q:=by
  intro X hX
  refine wpA_mono (fun e s => ?_) h
  cases e with
  | normal=>exact id
  | ret=>exact id
  | exit k =>
    simp only [jumpK]
    split
    · exact id
    · rintro ⟨h1,h2⟩
      exact ⟨h1,hX s (h2 X hX)⟩
theorem wpA_loop {C:Ctx}{I:Nat→Prop}{tr:List Nat}{tro:Option (List Nat)}{c:ACode}{st:St}{Q:Ex→St→Prop}
    (h:wpA C I c (st.trim tr tro) (fun e s'=>match e with | .normal=>wpA C I (.loop tr tro c) s' Q|e=>Q e s')):wpA C I (.loop tr tro c) st Q:=by
  intro X hX
  refine hX st (wpA_mono (fun e s' => ?_) h)
  cases e with
  | normal=>intro h';exact h' X hX
  | exit k=>exact id
  | ret=>exact id
end Pay
end
/- Functions: what the code computes is a contract. -/
section
set_option linter.unusedSimpArgs false
set_option linter.unusedVariables false
namespace Pay
open Go
inductive ARes where
  | slot (t:Nat)
  | cell (t:Nat) (n:Option Nat)
structure AFn where
  N:Nat
  res:List ARes
  own:List (Nat × Nat × Nat):=[]
  frz:List Nat:=[]
  code:ACode
def resVs (st:St):List ARes→Option (List V)
  | []=>some []
  | .slot t::r=>(match resVs st r with|some vs=>some (st.s t::vs)|none=>none)
  | .cell t n::r=>(match loadV st.o n (st.s t) with
    | some v=>(match resVs st r with|some vs=>some (v::vs)|none=>none)
    | none=>none)
def tupV:List V→V
  | [v]=>v
  | vs=>.tup vs
def okRes (P:Program):List ResultVar→List ARes→Bool
  | [],[]=>true
  | .tmp t::r,.slot t'::r'=>t==t'&&okRes P r r'
  | .cell a ty::r,.cell t n::r'=>a==t&&okShape P ty n&&okRes P r r'
  | _,_=>false
def okFn (P:Program)(φ:Nat→FuncId)(f:Nat)(fn:AFn):Bool :=
  match P.funcs[φ f]? with
  | some g => g.name != "runtime.NumGoroutine" && g.ntmps == fn.N && okRes P g.results.toList fn.res && (match g.body with | some c => okC P φ fn.N c fn.code | none => false)
  | none=>false
def CS.entry (cin:CS):St:={ s:=fun t=>(cin.vs[t]?).getD .undef,o:=cin.o }
def ownify (I:Nat→Prop):List (Nat × Nat × Nat)→St→(St→Prop)→Prop
  | [],st,K=>K st
  | (t,nm,sz)::r,st,K=>(match st.s t with
    | .cap0=>¬I nm∧Fresh st nm (some t)∧ownify I r { s:=upd st.s t (.own nm),o:=upd st.o nm (some (.row sz [])) } K
    | _=>ownify I r st K)
def Ends0 (fn:AFn)(cout:RS)(st:St):Prop :=
  ∃ vs,resVs (st.frz fn.frz) fn.res=some vs∧cout.r=tupV vs∧∀ n x,cout.o n=some x→(st.frz fn.frz).o n=some x
def Ends (I:Nat→Prop)(fn:AFn)(st:St)(cout:RS):Prop:=ownify I fn.own st (Ends0 fn cout)
section
variable {C:Ctx}{w0:World}{S M:Nat→Prop}{N:Nat}{γ:Nat→Value}{st:St}{a:Act}{w:World}
def resOne (tmps:Array Value)(r:ResultVar):Sem Value :=
  match r with
  | .tmp t=>pure (tmps.getD t undef)
  | .cell x t=>do loadVar t (← asAddr (tmps.getD x undef))
theorem results_eq (fn:Func)(tmps:Array Value):results fn tmps=(fn.results.mapM (resOne tmps) >>= fun vs=>pure (if h:vs.size=1 then vs[0] else .tuple vs)):=rfl
theorem resVs_run (hr:Rel C w0 S M N γ st a w):∀ {rs:List ResultVar} {ars:List ARes} {vs:List V},okRes C.P rs ars=true→resVs st ars=some vs →
    ∃ us:List Value,(rs.mapM (resOne a.tmps)).run C.P w = .ok us w∧RepVs C w (okOf w0 S γ st.o w) γ vs us
  | [],[],vs,_,h=>by
    simp only [resVs,Option.some.injEq] at h
    subst h
    exact ⟨[],by simp,rfl⟩
  | .tmp t::rs,.slot t'::ars,vs,hk,h=>by
    simp only [okRes,Bool.and_eq_true,beq_iff_eq] at hk
    obtain ⟨rfl,hk⟩:=hk
    simp only [resVs] at h
    split at h
    · rename_i vs' hvs
      injection h with h
      subst h
      obtain ⟨us,h1,h2⟩:=resVs_run hr hk hvs
      exact ⟨a.tmps.getD t undef::us,by rw [List.mapM_cons];simp [resOne,h1],_,_,rfl,hr.slots t,h2⟩
    · cases h
  | .cell x ty::rs,.cell t n::ars,vs,hk,h=>by
    simp only [okRes,Bool.and_eq_true,beq_iff_eq] at hk
    obtain ⟨⟨rfl,hsh⟩,hk⟩:=hk
    simp only [resVs] at h
    split at h
    · rename_i v hv
      split at h
      · rename_i vs' hvs
        injection h with h
        subst h
        obtain ⟨us,h1,h2⟩:=resVs_run hr hk hvs
        obtain ⟨u, hu, hur⟩ := evP_sound (o := { dst := none, op := .load ty (.tmp x), type := ty, pos := "", after := #[], guard := none }) hr (ao := .load n (.t x)) (by simp [okP, hsh, okOpd]) (v := v) (by simpa [evP, opd] using hv)
        have hl:(resOne a.tmps (.cell x ty)).run C.P w = .ok u w:=by
          unfold resOne
          simp only [execOp,Instr.loadAt,Act.eval] at hu
          revert hu
          cases hp:a.tmps.getD x undef with
          | pointer p =>
            cases p with
            | some ad=>simp [Instr.sureAddr,asAddr,Result.andThen];split <;> simp_all
            | none=>simp [Instr.sureAddr,Result.andThen]
          | _=>simp [Instr.sureAddr,Result.andThen]
        refine ⟨u::us,?_,_,_,rfl,hur,h2⟩
        rw [List.mapM_cons]
        rw [Sem.run_bind,hl]
        simp only [Result.andThen_ok]
        rw [Sem.run_bind,h1]
        simp
      · cases h
    · cases h
  | [],_::_,_,hk,_=>by simp [okRes] at hk
  | .tmp _::_,[],_,hk,_=>by simp [okRes] at hk
  | .cell _ _::_,[],_,hk,_=>by simp [okRes] at hk
  | .tmp _::_,.cell _ _::_,_,hk,_=>by simp [okRes] at hk
  | .cell _ _::_,.slot _::_,_,hk,_=>by simp [okRes] at hk
theorem results_run (hr:Rel C w0 S M N γ st a w){fn:Func}{ars:List ARes}{vs:List V}(hk:okRes C.P fn.results.toList ars=true)(h:resVs st ars=some vs) :
    ∃ u,(results fn a.tmps).run C.P w = .ok u w∧RepV C w (okOf w0 S γ st.o w) γ (tupV vs) u:=by
  obtain ⟨us,h1,h2⟩:=resVs_run hr hk h
  have hl:=h2.length
  refine ⟨if h:us.toArray.size=1 then us.toArray[0] else .tuple us.toArray,?_,?_⟩
  · rw [results_eq,Array.mapM_eq_mapM_toList]
    simp only [map_eq_pure_bind,bind_assoc,pure_bind]
    rw [Sem.run_bind,h1]
    simp
  · match vs,us,h2,hl with
    | [],[],h2,_=>exact ⟨[],rfl,rfl⟩
    | [v],[u],h2,_ =>
      obtain ⟨u',us',e,r1,r2⟩:=h2
      injection e with e1 e2
      subst e1
      simpa [tupV] using r1
    | v::v'::vs,u::u'::us,h2,_ =>
      simp only [tupV,List.size_toArray,List.length_cons]
      rw [dif_neg (by omega)]
      exact ⟨_,rfl,h2⟩
    | [v],[],_,hl=>simp at hl
    | [],_::_,_,hl=>simp at hl
    | [_],_::_::_,_,hl=>simp at hl
    | _::_::_,[],_,hl=>simp at hl
    | _::_::_,[_],_,hl=>simp at hl
end
theorem put_self {a:Act}{t:Nat}(h:t<a.tmps.size):a.put (some t) (a.tmps.getD t undef)=a:=by
  obtain ⟨tm,df⟩:=a
  simp only [Act.put]
  congr 1
  apply Array.ext
  · simp
  · intro i h1 h2
    by_cases e:t=i
    · subst e;simp [Array.getElem_setIfInBounds,Array.getD,h2]
    · rw [Array.getElem_setIfInBounds_ne _ e]
theorem ownify_sound {C:Ctx} {w0:World} {S M:Nat→Prop} {N:Nat} {γ0:Nat→Value} {a:Act} {w:World} {I:Nat→Prop} {K:St→Prop}:∀ (l:List (Nat × Nat × Nat)) {γ:Nat→Value} {st:St},Rel C w0 S M N γ st a w→(∀ n,I n→γ n=γ0 n)→ownify I l st K →
    ∃ γ' st',(∀ n,I n→γ' n=γ0 n)∧Rel C w0 S M N γ' st' a w∧K st'
  | [],γ,st,hr,hγ,h=>⟨γ,st,hγ,hr,h⟩
  | (t, nm,sz)::r,γ,st,hr,hγ,h=>by
    unfold ownify at h
    split at h
    · rename_i ht
      obtain ⟨hI,hf,h⟩:=h
      have hs:=hr.slots t
      rw [ht] at hs
      obtain ⟨A,hv⟩:=hs
      have hlt:t<a.tmps.size:=by
        rcases Nat.lt_or_ge t a.tmps.size with h'|h'
        · exact h'
        · simp [Array.getD,Nat.not_lt.2 h',undef] at hv
      let hr':Rel C w0 S M a.tmps.size γ st a w:=⟨hr.slots,hr.objs,hr.sep,hr.muts,hr.fram,hr.defers,Nat.le_refl _⟩
      have hn:=hr'.new (dst:=some t) (fun d hd=>by injection hd with hd;subst hd;exact hlt) hf (Grow.refl w) (ob:=.row sz []) (h:=.slice A 0 0) (fun g hg=>by cases A <;> simp [blk] at hg) (v:=.own nm) (u:=a.tmps.getD t undef)
        (fun ok γ' _ _=>.inl ⟨rfl,A,rfl⟩) rfl (fun ok=>⟨by rw [upd_same,hv],by rw [hv];rfl⟩)
      rw [put_self hlt] at hn
      have hn':Rel C w0 S M N (upd γ nm (.slice A 0 0)) { s:=upd st.s t (.own nm),o:=upd st.o nm (some (.row sz [])) } a w:=⟨hn.slots,hn.objs,hn.sep,hn.muts,hn.fram,hn.defers,hr.size⟩
      exact ownify_sound r hn' (fun n hn=>by
        have hne:n≠nm:=fun e=>hI (by rw [← e];exact hn)
        rw [upd_other _ _ hne];exact hγ n hn) h
    · exact ownify_sound r hr hγ h
theorem SoundX.of_code {C:Ctx} {fn:AFn} {f:Nat} (hk:okFn C.P C.φ f fn=true) {cin:CS} {cout:RS} {X I:Nat→Prop} (hX:∀ n,cin.o n≠none→¬X n→I n)
    (h:wpA C I fn.code cin.entry (fun e st=>(e = .ret∨e = .normal)∧Ends I fn st cout)):SoundX C f X cin cout:=by
  intro w S M γ us hp
  unfold okFn at hk
  split at hk
  case h_2=>cases hk
  rename_i g hg
  simp only [Bool.and_eq_true,bne_iff_ne,ne_eq,beq_iff_eq] at hk
  obtain ⟨⟨⟨hname,hN⟩,hres⟩,hb⟩:=hk
  split at hb
  case h_2=>cases hb
  rename_i c hbody
  have hrun:(callFunc (C.φ f) ⟨us⟩).run C.P w = .ok (.enter (C.φ f) ⟨us⟩) w:=by
    simp [callFunc,hg,hname,hbody]
  unfold Enters
  rw [hrun]
  simp only
  refine calls_of_wp hg hbody ?_
  have hul:=hp.args.length
  have hrel:Rel C w S M fn.N γ cin.entry { tmps:=(⟨us⟩:Array Value)++Array.replicate (g.ntmps-(⟨us⟩:Array Value).size) undef,defers:=[] } w:=by
    refine ⟨fun t => ?_,hp.objs,hp.sep,fun n x g hx hg=>.inl (hp.muts n x g hx hg),⟨rfl,rfl,rfl,Nat.le_refl _,fun _ _ _=>rfl⟩,rfl,by simp;omega⟩
    simp only [CS.entry]
    cases hv:cin.vs[t]? with
    | none=>exact trivial
    | some v =>
      obtain ⟨u,hu,hr⟩:=hp.args.get t v hv
      have hlt:t<us.length:=(List.getElem?_eq_some_iff.1 hu).1
      have e:((⟨us⟩:Array Value)++Array.replicate (g.ntmps-(⟨us⟩:Array Value).size) undef).getD t undef=u:=by
        rw [← Array.getElem?_toList] at *
        simp [Array.getD_eq_getD_getElem?,Array.getElem?_append,hlt]
        have:=(List.getElem?_eq_some_iff.1 hu).2
        exact this
      simp only [Option.getD_some]
      rw [e]
      exact hr
  refine wpA_sound (γ0:=γ) hp.env hb ?_ hrel (fun _ _=>rfl) h
  rintro e γ1 st1 a' w' ⟨he,hends⟩ hγ1 hr1
  obtain ⟨γ',st',hγ,hr,vs,h1,h2,h3⟩:=ownify_sound fn.own hr1 hγ1 hends
  have hr2:=Rel.frz hp.env fn.frz hr
  obtain ⟨u,hu,hur⟩:=results_run hr2 hres h1
  have hsub:∀ g,okOf w S γ' (st'.frz fn.frz).o w' g→w'.heap[g]? = w'.heap[g]? ∧ okOf w S γ' cout.o w' g:=fun g hg=>⟨rfl,hg.1,hg.2.1,fun n x hx=>hg.2.2 n x (h3 n x hx)⟩
  have post:∃ γ',Post C w S M γ X cin cout u w' γ':=⟨γ',⟨by rw [h2];exact RepV.mono hsub _ _ (fun _ _=>rfl) hur,fun n x hx=>RepO.mono hsub (fun _ _=>rfl) (fun _ _=>rfl) (hr2.objs n x (h3 n x hx)),
    fun n m x y g hx hy=>hr2.sep n m x y g (h3 n x hx) (h3 m y hy),fun n x g hx=>hr2.muts n x g (h3 n x hx),hr2.fram,fun n h1 h2=>hγ n (hX n h1 h2)⟩⟩
  rcases he with rfl|rfl
  · exact ⟨hr2.defers,u,hu,post⟩
  · exact ⟨hr2.defers,u,hu,post⟩
theorem SoundAt.of_code {C:Ctx}{fn:AFn}{f:Nat}(hk:okFn C.P C.φ f fn=true){cin:CS}{cout:RS}
    (h:wpA C (fun n=>cin.o n≠none) fn.code cin.entry (fun e st=>(e = .ret∨e = .normal)∧Ends (fun n=>cin.o n≠none) fn st cout)):SoundAt C f cin cout :=
  SoundX.of_code hk (fun n h _=>h) h
end Pay
end
