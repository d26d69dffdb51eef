/- The theory: texts of the dev place in one; each part's head says what it holds. -/
import Derived.Test.YtmglkghngkbioaaGreatDoorPayBa1
/- How an abstract run is followed: states as lists, each step's own equation. -/
section
set_option linter.unusedSimpArgs false
set_option linter.unusedVariables false
namespace Pay
open Go
def mk (l:List (Nat × V))(m:List (Nat × Option Ob)):St:={ s:=look l,o:=looko m }
theorem mk_s (l:List (Nat × V))(m:List (Nat × Option Ob)):(mk l m).s=look l:=rfl
theorem mk_o (l:List (Nat × V))(m:List (Nat × Option Ob)):(mk l m).o=looko m:=rfl
def thawO (n:Nat)(es:List (List D))(p:Nat × Option Ob):Nat × Option Ob:=(p.1,if p.1=n then none else p.2.map (Ob.thaw n es))
def freshB (l:List (Nat × V))(m:List (Nat × Option Ob))(nm:Nat)(dst:Option Nat):Prop :=
  (∀ p∈l,dst≠some p.1→V.refs nm p.2=false)∧∀ p∈m,p.1≠nm→∀ x,p.2=some x→x.refs nm=false
theorem look_mem:∀ (l:List (Nat × V))(t:Nat),look l t = .undef∨(t,look l t)∈l
  | [],t=>.inl rfl
  | (k,v)::l,t=>by
    simp only [look]
    split
    · rename_i h;subst h;exact .inr (by simp)
    · rcases look_mem l t with h|h
      · exact .inl h
      · exact .inr (List.mem_cons_of_mem _ h)
theorem looko_mem:∀ (l:List (Nat × Option Ob))(t:Nat),looko l t=none∨(t,looko l t)∈l
  | [],t=>.inl rfl
  | (k,v)::l,t=>by
    simp only [looko]
    split
    · rename_i h;subst h;exact .inr (by simp)
    · rcases looko_mem l t with h|h
      · exact .inl h
      · exact .inr (List.mem_cons_of_mem _ h)
theorem mk_fresh {l:List (Nat × V)}{m:List (Nat × Option Ob)}{nm:Nat}{dst:Option Nat}(h:freshB l m nm dst):Fresh (mk l m) nm dst:=by
  refine ⟨fun t ht => ?_,fun n x hn hx => ?_⟩
  · rw [mk_s]
    rcases look_mem l t with e|e
    · rw [e];rfl
    · exact h.1 _ e ht
  · rw [mk_o] at hx
    rcases looko_mem m n with e|e
    · rw [e] at hx;cases hx
    · exact h.2 _ e hn x hx
theorem wpA_loop' {C:Ctx}{I:Nat→Prop}{L:ACode}{tr:List Nat}{tro:Option (List Nat)}{c:ACode}{st:St}{Q:Ex→St→Prop}(hL:L = .loop tr tro c)
    (h:wpA C I c (st.trim tr tro) (fun e s'=>match e with | .normal=>wpA C I L s' Q|e=>Q e s')):wpA C I L st Q:=by
  subst hL
  exact wpA_loop h
def EndsA (I:Nat→Prop)(own:List (Nat × Nat × Nat))(frz:List Nat)(res:List ARes)(st:St)(cout:RS):Prop :=
  ownify I own st (fun st=>∃ vs,resVs (st.frz frz) res=some vs∧cout.r=tupV vs∧∀ n x,cout.o n=some x→(st.frz frz).o n=some x)
theorem SoundAt.of_code' {C:Ctx}{fn:AFn}{f N:Nat}{res:List ARes}{own:List (Nat × Nat × Nat)}{frz:List Nat}{code:ACode}(hk:okFn C.P C.φ f fn=true)(hfn:fn=⟨N,res,own,frz,code⟩){cin:CS}{cout:RS}
    (h:wpA C (fun n=>cin.o n≠none) code cin.entry (fun e st=>(e = .ret∨e = .normal)∧EndsA (fun n=>cin.o n≠none) own frz res st cout)):SoundAt C f cin cout:=by
  subst hfn
  exact SoundAt.of_code hk h
theorem put_same {st:St}{g:Nat}{v:V}(h:st.s g=v):st.put (some g) v=st:=by
  obtain ⟨s,o⟩:=st
  simp only [St.put]
  congr 1
  funext t
  simp only [upd]
  split
  · rename_i e;rw [e];exact h.symm
  · rfl
theorem opA_if {tr:Option (List Nat × Option (List Nat))} (C:Ctx) (I:Nat→Prop) (dst:Option Nat) (op:AOp) (frz deps:List Nat) (p g:Nat) (want:Bool) (st:St) (K:St→Prop):opA C I ⟨dst,op,frz,deps,some (p,g,want),tr⟩ st K =
    (match st.s g with
    | .d (.bool b)=>if b=want then stepA C I ((st.put (some g) (.d (.bool want))).frz frz) dst K op else K ((st.put (some g) (.d (.bool (!want)))).put dst (.tup []))
    | .tup []=>K (st.put dst (.tup []))
    | _=>False):=by
  show (match st.s g with
    | .d (.bool b)=>if b=want then stepA C I (st.frz frz) dst K op else K (st.put dst (.tup []))
    | .tup []=>K (st.put dst (.tup []))
    | _=>False)=_
  cases hg:st.s g with
  | d x =>
    cases x with
    | bool b =>
      simp only
      by_cases h:b=want
      · subst h
        rw [if_pos rfl,if_pos rfl,put_same hg]
      · rw [if_neg h,if_neg h]
        have:(!want)=b:=by cases b <;> cases want <;> simp_all
        rw [this,put_same hg]
    | _=>rfl
  | tup l=>cases l <;> rfl
  | _=>rfl
end Pay
end
/- Following a run by simp: each step's equation, with what follows left alone until its state is known. -/
section
set_option linter.unusedSimpArgs false
set_option linter.unusedVariables false
namespace Pay
open Go
section
variable {C:Ctx}{I:Nat→Prop}{st st':St}{Q:Ex→St→Prop}{K:St→Prop}{dst:Option Nat}{tr:Option (List Nat × Option (List Nat))}
def seqK (f:St→Prop)(Q:Ex→St→Prop):Ex→St→Prop
  | .normal,st=>f st
  | .exit id,st=>Q (.exit id) st
  | .ret,st=>Q .ret st
def blockK (id:Nat)(tr:List Nat)(tro:Option (List Nat))(Q:Ex→St→Prop):Ex→St→Prop
  | .normal,st=>Q .normal (st.trim tr tro)
  | .exit id',st=>if id'=id then Q .normal (st.trim tr tro) else Q (.exit id') st
  | .ret,st=>Q .ret st
def condK (v:V)(A B:Prop):Prop:=match v with | .d (.bool t)=>if t=true then A else B|_=>False
theorem wp_code_congr {c:ACode}(h:st=st'):wpA C I c st Q=wpA C I c st' Q:=by rw [h]
theorem opsA_congr {os:List AOper}(h:st=st'):opsA C I os st K=opsA C I os st' K:=by rw [h]
theorem opA_congr {o:AOper}(h:st=st'):opA C I o st K=opA C I o st' K:=by rw [h]
theorem seqK_congr {f:St→Prop}{e:Ex}(h:st=st'):seqK f Q e st=seqK f Q e st':=by rw [h]
theorem blockK_congr {id:Nat}{tr:List Nat}{tro:Option (List Nat)}{e:Ex}(h:st=st'):blockK id tr tro Q e st=blockK id tr tro Q e st':=by rw [h]
theorem condK_congr {v v':V}{A B:Prop}(h:v=v'):condK v A B=condK v' A B:=by rw [h]
theorem demand_congr {x y:Option V}{F:V→Prop}(h:x=y):demand x F=demand y F:=by rw [h]
attribute [congr] wp_code_congr opsA_congr opA_congr seqK_congr blockK_congr condK_congr demand_congr
theorem demand_v {v:V}{F:V→Prop}:demand (some v) F=F v:=propext Iff.rfl
theorem demand_0 {F:V→Prop}:demand none F=False:=propext Iff.rfl
theorem w_seq {a b:ACode}:wpA C I (.seq a b) st Q=wpA C I a st (seqK (fun st=>wpA C I b st Q) Q):=by
  show wpA C I a st _=wpA C I a st _
  congr 1
  funext e st
  cases e <;> rfl
theorem w_cond {c:Opd}{a b:ACode}:wpA C I (.cond c a b) st Q=condK (opd st.s c) (wpA C I a st Q) (wpA C I b st Q):=propext Iff.rfl
theorem w_block {id:Nat}{tr:List Nat}{tro:Option (List Nat)}{c:ACode}:wpA C I (.block id tr tro c) st Q=wpA C I c st (blockK id tr tro Q):=by
  show wpA C I c st _=wpA C I c st _
  congr 1
  funext e st
  cases e <;> rfl
theorem w_loop {L:ACode}{tr:List Nat}{tro:Option (List Nat)}{c:ACode}(hL:L = .loop tr tro c)(h:wpA C I c (st.trim tr tro) (seqK (fun s=>wpA C I L s Q) Q)):wpA C I L st Q:=by
  refine wpA_loop' hL (wpA_mono (fun e st => ?_) h)
  cases e <;> exact fun h=>h
theorem seqK_n {f:St→Prop}:seqK f Q .normal st=f st:=propext Iff.rfl
theorem seqK_e {f:St→Prop}{id:Nat}:seqK f Q (.exit id) st=Q (.exit id) st:=propext Iff.rfl
theorem seqK_r {f:St→Prop}:seqK f Q .ret st=Q .ret st:=propext Iff.rfl
theorem blockK_n {id:Nat}{tr:List Nat}{tro:Option (List Nat)}:blockK id tr tro Q .normal st=Q .normal (st.trim tr tro):=propext Iff.rfl
theorem blockK_e {id:Nat}{tr:List Nat}{tro:Option (List Nat)}{id':Nat}:blockK id tr tro Q (.exit id') st=if id'=id then Q .normal (st.trim tr tro) else Q (.exit id') st:=propext Iff.rfl
theorem blockK_r {id:Nat}{tr:List Nat}{tro:Option (List Nat)}:blockK id tr tro Q .ret st=Q .ret st:=propext Iff.rfl
theorem condK_b {t:Bool}{A B:Prop}:condK (.d (.bool t)) A B=if t=true then A else B:=propext Iff.rfl
def guardK (v:V)(want:Bool)(A B B0:Prop):Prop:=match v with | .d (.bool b)=>if b=want then A else B | .tup []=>B0|_=>False
theorem guardK_congr {v v':V}{want:Bool}{A B B0:Prop}(h:v=v'):guardK v want A B B0=guardK v' want A B B0:=by rw [h]
attribute [congr] guardK_congr
theorem guardK_b {b want:Bool}{A B B0:Prop}:guardK (.d (.bool b)) want A B B0=if b=want then A else B:=propext Iff.rfl
theorem guardK_t {want:Bool}{A B B0:Prop}:guardK (.tup []) want A B B0=B0:=propext Iff.rfl
theorem op_if {op:AOp}{frz deps:List Nat}{p g:Nat}{want:Bool}:opA C I ⟨dst,op,frz,deps,some (p,g,want),tr⟩ st K =
    guardK (st.s g) want (opA C I ⟨dst,op,frz,deps,none,tr⟩ (st.put (some g) (.d (.bool want))) K) (K ((st.put (some g) (.d (.bool (!want)))).put dst (.tup []))) (K (st.put dst (.tup []))):=by
  rw [opA_if]
  rfl
def boxK (x:Option Ob)(F:List V→Prop):Prop:=match x with|some (.box cs)=>F cs|_=>False
def rowK (x:Option Ob)(F:Nat→List (List D)→Prop):Prop:=match x with|some (.row sz es)=>F sz es|_=>False
def lstK {α:Type}(x:Option (List α))(F:List α→Prop):Prop:=match x with|some cs=>F cs|none=>False
theorem boxK_congr {x y:Option Ob}{F:List V→Prop}(h:x=y):boxK x F=boxK y F:=by rw [h]
theorem rowK_congr {x y:Option Ob}{F:Nat→List (List D)→Prop}(h:x=y):rowK x F=rowK y F:=by rw [h]
theorem lstK_congr {α:Type}{x y:Option (List α)}{F:List α→Prop}(h:x=y):lstK x F=lstK y F:=by rw [h]
attribute [congr] boxK_congr rowK_congr lstK_congr
theorem boxK_b {cs:List V}{F:List V→Prop}:boxK (some (.box cs)) F=F cs:=propext Iff.rfl
theorem rowK_r {sz:Nat}{es:List (List D)}{F:Nat→List (List D)→Prop}:rowK (some (.row sz es)) F=F sz es:=propext Iff.rfl
theorem lstK_s {α:Type}{cs:List α}{F:List α→Prop}:lstK (some cs) F=F cs:=propext Iff.rfl
def storeK (p:V)(new:Option (List V))(n:Nat)(o:Nat→Option Ob)(F:Nat→Ob→Prop):Prop:=match p with
  | .ptr m off=>lstK new (fun new=>boxK (o m) (fun cs=>new.length=n∧off+n≤cs.length∧F m (.box (setRange cs off new))))
  | .eptr m sz i off=>lstK new (fun new=>rowK (o m) (fun sz' es=>sz'=sz∧lstK es[i]? (fun e=>lstK (toDs new) (fun ds=>ds.length=n∧off+n≤e.length∧F m (.row sz (es.set i (setRange e off ds)))))))
  | _=>False
theorem storeK_congr {p p':V}{new new':Option (List V)}{n:Nat}{o o':Nat→Option Ob}{F:Nat→Ob→Prop}(h1:p=p')(h2:new=new')(h3:o=o'):storeK p new n o F=storeK p' new' n o' F:=by rw [h1,h2,h3]
attribute [congr] storeK_congr
theorem storeK_p {m off n:Nat}{new:Option (List V)}{o:Nat→Option Ob}{F:Nat→Ob→Prop}:storeK (.ptr m off) new n o F=lstK new (fun new=>boxK (o m) (fun cs=>new.length=n∧off+n≤cs.length∧F m (.box (setRange cs off new)))):=propext Iff.rfl
theorem storeK_e {m sz i off n:Nat}{new:Option (List V)}{o:Nat→Option Ob}{F:Nat→Ob→Prop}:storeK (.eptr m sz i off) new n o F=lstK new (fun new=>rowK (o m) (fun sz' es=>sz'=sz∧lstK es[i]? (fun e=>lstK (toDs new) (fun ds=>ds.length=n∧off+n≤e.length∧F m (.row sz (es.set i (setRange e off ds))))))):=propext Iff.rfl
theorem step_store {n:Nat} {p x:Opd}:stepS I st dst K (.store n p x)=storeK (opd st.s p) (cellsV (opd st.s x)) n st.o (fun m ob=>K ({ st with o:=upd st.o m (some ob) }.put dst .undef)):=by
  apply propext
  constructor
  · intro h
    simp only [stepS] at h
    split at h
    · rename_i m off new hp hx
      obtain ⟨cs,hb,h1,h2,h3⟩:=h
      rw [hp,hx,storeK_p,lstK_s,hb]
      exact ⟨h1,h2,h3⟩
    · rename_i m sz i off new hp hx
      obtain ⟨es,e,ds,hb,he,hds,h1,h2,h3⟩:=h
      rw [hp,hx,storeK_e,lstK_s,hb,rowK_r,he,lstK_s,hds,lstK_s]
      exact ⟨rfl,h1,h2,h3⟩
    · exact h.elim
  · intro h
    unfold storeK at h
    simp only [stepS]
    split at h
    · rename_i m off hp
      rw [hp]
      cases hx:cellsV (opd st.s x) with
      | none=>rw [hx] at h;exact h.elim
      | some new =>
        rw [hx,lstK_s] at h
        unfold boxK at h
        split at h
        · rename_i cs hb;exact ⟨cs,hb,h⟩
        · exact h.elim
    · rename_i m sz i off hp
      rw [hp]
      cases hx:cellsV (opd st.s x) with
      | none=>rw [hx] at h;exact h.elim
      | some new =>
        rw [hx,lstK_s] at h
        unfold rowK at h
        split at h
        · rename_i sz' es hb
          obtain ⟨rfl,h⟩:=h
          cases he:es[i]? with
          | none=>rw [he] at h;exact h.elim
          | some e =>
            rw [he,lstK_s] at h
            cases hds:toDs new with
            | none=>rw [hds] at h;exact h.elim
            | some ds=>rw [hds,lstK_s] at h;exact ⟨es,e,ds,hb,he,hds,h⟩
        · exact h.elim
    · exact h.elim
theorem step_box {nm n:Nat}{x:Opd}:stepS I st dst K (.box nm n x)=lstK (cellsV (opd st.s x)) (fun cs=>cs.length=n∧¬I nm∧Fresh st nm dst∧V.refsL nm cs=false∧K { s:=(st.put dst (.ptr nm 0)).s,o:=upd st.o nm (some (.box cs)) }):=by
  simp only [stepS]
  cases cellsV (opd st.s x) with
  | none=>simp [lstK]
  | some cs=>simp [lstK]
theorem step_bsl0 {sz n:Nat}{z:List D}{ps:List (Nat × Opd)}:stepS I st dst K (.bsl none sz z n ps)=lstK (partsD sz (opd st.s) (ps.map (·.2))) (fun es=>K (st.put dst (.d (.sl es)))):=by
  simp only [stepS]
  cases partsD sz (opd st.s) (ps.map (·.2)) with
  | none=>simp [lstK]
  | some cs=>simp [lstK]
theorem step_bsl1 {nm sz n:Nat}{z:List D}{ps:List (Nat × Opd)}:stepS I st dst K (.bsl (some nm) sz z n ps)=if n=0 then K (st.put dst .cap0) else lstK (partsD sz (opd st.s) (ps.map (·.2))) (fun es=>¬I nm∧Fresh st nm dst∧K { s:=(st.put dst (.own nm)).s,o:=upd st.o nm (some (.row sz es)) }):=by
  simp only [stepS]
  split
  · rfl
  · cases partsD sz (opd st.s) (ps.map (·.2)) with
    | none=>simp [lstK]
    | some cs=>simp [lstK]
def intK (v:V)(F:Int→Prop):Prop:=match v with | .d (.int _ n)=>F n|_=>False
theorem intK_congr {v v':V}{F:Int→Prop}(h:v=v'):intK v F=intK v' F:=by rw [h]
attribute [congr] intK_congr
theorem intK_i {k:IntKind}{n:Int}{F:Int→Prop}:intK (.d (.int k n)) F=F n:=propext Iff.rfl
def appK (v:V)(F0:Prop)(F1:Nat→Prop):Prop:=match v with | .cap0=>F0 | .own m=>F1 m|_=>False
theorem appK_congr {v v':V}{F0:Prop}{F1:Nat→Prop}(h:v=v'):appK v F0 F1=appK v' F0 F1:=by rw [h]
attribute [congr] appK_congr
theorem appK_0 {F0:Prop}{F1:Nat→Prop}:appK .cap0 F0 F1=F0:=propext Iff.rfl
theorem appK_1 {m:Nat}{F0:Prop}{F1:Nat→Prop}:appK (.own m) F0 F1=F1 m:=propext Iff.rfl
theorem row_ex {x:Option Ob}{sz:Nat}{F:List (List D)→Prop}:(∃ es,x=some (.row sz es)∧F es)=rowK x (fun sz' es=>sz'=sz∧F es):=by
  apply propext
  constructor
  · rintro ⟨es,rfl,h⟩;exact ⟨rfl,h⟩
  · intro h
    unfold rowK at h
    split at h
    · obtain ⟨rfl,h⟩:=h;exact ⟨_,rfl,h⟩
    · exact h.elim
theorem lst_ex {α:Type}{x:Option (List α)}{F:List α→Prop}:(∃ es,x=some es∧F es)=lstK x F:=by
  apply propext
  constructor
  · rintro ⟨es,rfl,h⟩;exact h
  · intro h
    unfold lstK at h
    split at h
    · exact ⟨_,rfl,h⟩
    · exact h.elim
theorem step_app0 {sz bytes:Nat}{x y:Opd}:stepS I st dst K (.app none sz bytes x y)=lstK (readD st.o (opd st.s y)) (fun ys=>(∀ e∈ys,e.length=sz)∧appK (opd st.s x)
    (ys.length*bytes≤140737488355328∧ys.length≤140737488355328∧K (st.put dst (.d (.sl ys))))
    (fun m=>¬I m∧rowK (st.o m) (fun sz' es=>sz'=sz∧(es.length+ys.length)*bytes≤140737488355328∧es.length+ys.length≤140737488355328 ∧
      K (({ s:=((st.scrub m).put dst (.own m)).s,o:=upd (st.scrub m).o m (some (.row sz (es++ys))) }:St).free m)))):=by
  rw [← lst_ex]
  simp only [stepS]
  congr 1
  funext ys
  congr 2
  cases hx:opd st.s x
  case own m =>
    rw [appK_1,← row_ex]
    apply propext
    constructor
    · rintro ⟨es,h1,h2,h3,h4,h5⟩;exact ⟨h1,es,h2,h3,h4,h5⟩
    · rintro ⟨h1,es,h2,h3,h4,h5⟩;exact ⟨es,h1,h2,h3,h4,h5⟩
  all_goals rfl
theorem step_app1 {nm sz bytes:Nat}{x y:Opd}:stepS I st dst K (.app (some nm) sz bytes x y)=lstK (readD st.o (opd st.s y)) (fun ys=>(∀ e∈ys,e.length=sz)∧appK (opd st.s x)
    (ys.length*bytes≤140737488355328∧ys.length≤140737488355328∧¬I nm∧Fresh st nm dst∧K { s:=(st.put dst (.own nm)).s,o:=upd st.o nm (some (.row sz ys)) })
    (fun m=>¬I m∧rowK (st.o m) (fun sz' es=>sz'=sz∧(es.length+ys.length)*bytes≤140737488355328∧es.length+ys.length≤140737488355328 ∧
      K { s:=((st.scrub m).put dst (.own m)).s,o:=upd (st.scrub m).o m (some (.row sz (es++ys))) }))):=by
  rw [← lst_ex]
  simp only [stepS]
  congr 1
  funext ys
  congr 2
  cases hx:opd st.s x
  case own m =>
    rw [appK_1,← row_ex]
    apply propext
    constructor
    · rintro ⟨es,h1,h2,h3,h4,h5⟩;exact ⟨h1,es,h2,h3,h4,h5⟩
    · rintro ⟨h1,es,h2,h3,h4,h5⟩;exact ⟨es,h1,h2,h3,h4,h5⟩
  all_goals rfl
def mapK (m:V)(k:Option D)(o:Nat→Option Ob)(F:Nat→D→List (D × D)→Prop):Prop:=match m,k with | .mref n,some k=>(match o n with|some (.map kvs)=>F n k kvs|_=>False)|_,_=>False
theorem mapK_congr {m m':V}{k k':Option D}{o o':Nat→Option Ob}{F:Nat→D→List (D × D)→Prop}(h1:m=m')(h2:k=k')(h3:o=o'):mapK m k o F=mapK m' k' o' F:=by rw [h1,h2,h3]
attribute [congr] mapK_congr
def kvsK (x:Option Ob)(F:List (D × D)→Prop):Prop:=match x with|some (.map kvs)=>F kvs|_=>False
theorem kvsK_congr {x y:Option Ob}{F:List (D × D)→Prop}(h:x=y):kvsK x F=kvsK y F:=by rw [h]
attribute [congr] kvsK_congr
theorem kvsK_m {kvs:List (D × D)}{F:List (D × D)→Prop}:kvsK (some (.map kvs)) F=F kvs:=propext Iff.rfl
theorem mapK_m {n:Nat}{k:D}{o:Nat→Option Ob}{F:Nat→D→List (D × D)→Prop}:mapK (.mref n) (some k) o F=kvsK (o n) (F n k):=propext Iff.rfl
def optK {α:Type}(x:Option α)(F:α→Prop):Prop:=match x with|some y=>F y|none=>False
theorem optK_congr {α:Type}{x y:Option α}{F:α→Prop}(h:x=y):optK x F=optK y F:=by rw [h]
attribute [congr] optK_congr
theorem optK_s {α:Type}{x:α}{F:α→Prop}:optK (some x) F=F x:=propext Iff.rfl
theorem step_mset {str:Bool} {m k x:Opd}:stepS I st dst K (.mset str m k x)=mapK (opd st.s m) (toD (opd st.s k)) st.o (fun n k kvs=>keyIs str k=true∧optK (toD (opd st.s x)) (fun x=>lstK (kvSet k x kvs) (fun kvs'=>K ({ st with o:=upd st.o n (some (.map kvs')) }.put dst .undef)))):=by
  apply propext
  simp only [stepS]
  constructor
  · intro h
    split at h
    · rename_i n k0 x0 e1 e2 e3
      obtain ⟨kvs,kvs',h1,h2,h3,h4⟩:=h
      rw [e1,e2,mapK_m,h2,kvsK_m,e3]
      exact ⟨h1,by rw [optK_s,h3];exact h4⟩
    · exact h.elim
  · intro h
    unfold mapK at h
    split at h
    · rename_i n k0 e1 e2
      split at h
      · rename_i kvs hb
        obtain ⟨h1,h⟩:=h
        rw [e1,e2]
        cases e3:toD (opd st.s x) with
        | none=>rw [e3] at h;exact h.elim
        | some x0 =>
          rw [e3,optK_s,← lst_ex] at h
          obtain ⟨kvs',h3,h4⟩:=h
          exact ⟨kvs,kvs',h1,hb,h3,h4⟩
      · exact h.elim
    · exact h.elim
theorem step_mget {str:Bool} {z:D} {m k:Opd} {ok:Bool}:stepS I st dst K (.mget str z m k ok)=mapK (opd st.s m) (toD (opd st.s k)) st.o (fun n k kvs=>keyIs str k=true∧optK (kvGet k kvs) (fun r=>K (st.put dst (if ok=true then .tup [.d (r.getD z),.d (.bool r.isSome)] else .d (r.getD z))))):=by
  apply propext
  simp only [stepS]
  constructor
  · intro h
    split at h
    · rename_i n k0 e1 e2
      obtain ⟨kvs,r,h1,h2,h3,h4⟩:=h
      rw [e1,e2,mapK_m,h2,kvsK_m]
      exact ⟨h1,by rw [h3];exact h4⟩
    · exact h.elim
  · intro h
    unfold mapK at h
    split at h
    · rename_i n k0 e1 e2
      split at h
      · rename_i kvs hb
        obtain ⟨h1,h⟩:=h
        rw [e1,e2]
        cases e3:kvGet k0 kvs with
        | none=>rw [e3] at h;exact h.elim
        | some r=>rw [e3] at h;exact ⟨kvs,r,h1,hb,e3,h⟩
      · exact h.elim
    · exact h.elim
end
section
set_option autoImplicit true
set_option relaxedAutoImplicit true
variable {C:Ctx}{I:Nat→Prop}{st:St}{K:St→Prop}{dst:Option Nat}{tr:Option (List Nat × Option (List Nat))}
end
def freshS (nm:Nat)(dst:Option Nat):List (Nat × V)→Bool
  | []=>true
  | (k,v)::l=>(dst==some k || !V.refs nm v)&&freshS nm dst l
def freshO (nm:Nat):List (Nat × Option Ob)→Bool
  | []=>true
  | (k,none)::m=>freshO nm m
  | (k,some x)::m=>(k==nm || !x.refs nm)&&freshO nm m
theorem fresh_mk {l:List (Nat × V)} {m:List (Nat × Option Ob)} {nm:Nat} {dst:Option Nat} (h1:freshS nm dst l=true) (h2:freshO nm m=true):Fresh (mk l m) nm dst:=by
  refine mk_fresh ⟨fun p hp hd => ?_,fun p hp hn x hx => ?_⟩
  · induction l with
    | nil=>cases hp
    | cons q l ih =>
      obtain ⟨k,v⟩:=q
      simp only [freshS,Bool.and_eq_true,Bool.or_eq_true,beq_iff_eq,Bool.not_eq_true'] at h1
      rcases List.mem_cons.1 hp with rfl|hp
      · exact h1.1.resolve_left hd
      · exact ih h1.2 hp
  · induction m with
    | nil=>cases hp
    | cons q m ih =>
      obtain ⟨k,v⟩:=q
      cases v with
      | none =>
        simp only [freshO] at h2
        rcases List.mem_cons.1 hp with rfl|hp
        · cases hx
        · exact ih h2 hp
      | some y =>
        simp only [freshO,Bool.and_eq_true,Bool.or_eq_true,beq_iff_eq,Bool.not_eq_true'] at h2
        rcases List.mem_cons.1 hp with rfl|hp
        · simp only at hn hx
          injection hx with hx
          subst hx
          exact h2.1.resolve_left hn
        · exact ih h2.2 hp
theorem refsL_d {α:Type}(nm:Nat)(f:α→D):∀ (l:List α),V.refsL nm (l.map fun x=>.d (f x))=false
  | []=>rfl
  | x::l=>by
    have:=refsL_d nm f l
    simp only [List.map_cons,V.refsL,V.refs,Bool.false_or];exact this
theorem refsL_dd (nm:Nat):∀ (l:List D),V.refsL nm (l.map .d)=false
  | []=>rfl
  | x::l=>by
    have:=refsL_dd nm l
    simp only [List.map_cons,V.refsL,V.refs,Bool.false_or];exact this
theorem ends_eq {I:Nat→Prop}{res:List ARes}{st:St}{r:V}:EndsA I [] [] res st ⟨r,fun _=>none⟩=lstK (resVs st res) (fun vs=>r=tupV vs):=by
  rw [← lst_ex]
  apply propext
  constructor
  · rintro ⟨vs,h1,h2,_⟩;exact ⟨vs,h1,h2⟩
  · rintro ⟨vs,h1,h2⟩;exact ⟨vs,h1,h2,fun n x hx=>by cases hx⟩
end Pay
end
/- The run once more, in a form that comes to a nest without slots by computing alone. -/
section
set_option linter.unusedSimpArgs false
set_option linter.unusedVariables false
namespace Pay
open Go
def bndK (x:Option Nat)(F:Nat→Prop):Prop:=match x with|some h=>F h|none=>False
theorem bndK_congr {x y:Option Nat}{F:Nat→Prop}(h:x=y):bndK x F=bndK y F:=by rw [h]
attribute [congr] bndK_congr
theorem bndK_s {h:Nat}{F:Nat→Prop}:bndK (some h) F=F h:=propext Iff.rfl
def fnK (v:V)(F:Nat→List V→Prop):Prop:=match v with | .fn f caps=>F f caps|_=>False
def freeK (st:St)(n:Nat)(F:St→Prop):Prop:=F (st.free n)
def stepB (C:Ctx)(I:Nat→Prop)(st:St)(dst:Option Nat)(K:St→Prop):AOp→Prop
  | .store n p x=>storeK (opd st.s p) (cellsV (opd st.s x)) n st.o (fun m ob=>K ({ st with o:=upd st.o m (some ob) }.put dst .undef))
  | .alloc nm zs=>¬I nm∧Fresh st nm dst∧V.refsL nm zs=false∧K { s:=(st.put dst (.ptr nm 0)).s,o:=upd st.o nm (some (.box zs)) }
  | .allocB nm k=>¬I nm∧¬I k∧k≠nm∧Fresh st k none∧Fresh st nm dst∧K { s:=(st.put dst (.ptr nm 0)).s,o:=upd (upd st.o k (some (.brow []))) nm (some (.bld k)) }
  | .box nm n x=>lstK (cellsV (opd st.s x)) (fun cs=>cs.length=n∧¬I nm∧Fresh st nm dst∧V.refsL nm cs=false∧K { s:=(st.put dst (.ptr nm 0)).s,o:=upd st.o nm (some (.box cs)) })
  | .bsl none sz _ _ ps=>lstK (partsD sz (opd st.s) (ps.map (·.2))) (fun es=>K (st.put dst (.d (.sl es))))
  | .bsl (some _) _ _ 0 _=>K (st.put dst .cap0)
  | .bsl (some nm) sz _ (_+1) ps=>lstK (partsD sz (opd st.s) (ps.map (·.2))) (fun es=>¬I nm∧Fresh st nm dst∧K { s:=(st.put dst (.own nm)).s,o:=upd st.o nm (some (.row sz es)) })
  | .mks none _ bytes z x=>intK (opd st.s x) (fun n=>0≤n∧n.toNat*bytes≤140737488355328∧n≤140737488355328∧K (st.put dst (.d (.sl (List.replicate n.toNat z)))))
  | .mks (some nm) sz bytes z x=>intK (opd st.s x) (fun n=>0≤n∧n.toNat*bytes≤140737488355328∧n≤140737488355328∧¬I nm∧Fresh st nm dst∧K { s:=(st.put dst (.own nm)).s,o:=upd st.o nm (some (.row sz (List.replicate n.toNat z))) })
  | .app none sz bytes x y=>lstK (readD st.o (opd st.s y)) (fun ys=>(∀ e∈ys,e.length=sz)∧appK (opd st.s x)
      (ys.length*bytes≤140737488355328∧ys.length≤140737488355328∧K (st.put dst (.d (.sl ys))))
      (fun m=>¬I m∧rowK (st.o m) (fun sz' es=>sz'=sz∧(es.length+ys.length)*bytes≤140737488355328∧es.length+ys.length≤140737488355328 ∧
        K (({ s:=((st.scrub m).put dst (.own m)).s,o:=upd (st.scrub m).o m (some (.row sz (es++ys))) }:St).free m))))
  | .app (some nm) sz bytes x y=>lstK (readD st.o (opd st.s y)) (fun ys=>(∀ e∈ys,e.length=sz)∧appK (opd st.s x)
      (ys.length*bytes≤140737488355328∧ys.length≤140737488355328∧¬I nm∧Fresh st nm dst∧K { s:=(st.put dst (.own nm)).s,o:=upd st.o nm (some (.row sz ys)) })
      (fun m=>¬I m∧rowK (st.o m) (fun sz' es=>sz'=sz∧(es.length+ys.length)*bytes≤140737488355328∧es.length+ys.length≤140737488355328 ∧
        K { s:=((st.scrub m).put dst (.own m)).s,o:=upd (st.scrub m).o m (some (.row sz (es++ys))) })))
  | .appD sz bytes x y=>lstK (readD st.o (opd st.s y)) (fun ys=>(∀ e∈ys,e.length=sz)∧appK (opd st.s x) False
      (fun m=>¬I m∧rowK (st.o m) (fun sz' es=>sz'=sz∧(es.length+ys.length)*bytes≤140737488355328∧es.length+ys.length≤140737488355328∧freeK st m (fun st'=>K (st'.put dst (.d (.sl (es++ys))))))))
  | .mkmap nm=>¬I nm∧Fresh st nm dst∧K { s:=(st.put dst (.mref nm)).s,o:=upd st.o nm (some (.map [])) }
  | .mset str m k x=>mapK (opd st.s m) (toD (opd st.s k)) st.o (fun n k kvs=>keyIs str k=true∧optK (toD (opd st.s x)) (fun x=>lstK (kvSet k x kvs) (fun kvs'=>K ({ st with o:=upd st.o n (some (.map kvs')) }.put dst .undef))))
  | .mget str z m k ok=>mapK (opd st.s m) (toD (opd st.s k)) st.o (fun n k kvs=>keyIs str k=true∧optK (kvGet k kvs) (fun r=>K (st.put dst (if ok=true then .tup [.d (r.getD z),.d (.bool r.isSome)] else .d (r.getD z)))))
  | .nilS neq x=>stepS I st dst K (.nilS neq x)
  | .call f args=>callA C I st dst K f (args.map (opd st.s))
  | .callv x args=>fnK (opd st.s x) (fun f caps=>callA C I st dst K f (args.map (opd st.s)++caps))
  | .cut x hi=>appK (opd st.s x) False (fun m=>¬I m∧rowK (st.o m) (fun sz es=>bndK (bnd es.length (opd st.s hi)) (fun h=>K { s:=((st.scrub m).put dst (.own m)).s,o:=upd (st.scrub m).o m (some (.row sz (es.take h))) })))
  | op=>demand (evP st op) (fun v=>K (st.put dst v))
section
variable {C:Ctx}{I:Nat→Prop}{st:St}{K:St→Prop}{dst:Option Nat}
theorem stepB_A {op:AOp} (h:stepB C I st dst K op):stepA C I st dst K op:=by
  cases op
  case store n p x=>show stepS I st dst K (.store n p x);rw [step_store];exact h
  case alloc=>exact h
  case allocB=>exact h
  case box nm n x=>show stepS I st dst K (.box nm n x);rw [step_box];exact h
  case bsl own sz z n ps =>
    show stepS I st dst K (.bsl own sz z n ps)
    cases own with
    | none=>rw [step_bsl0];exact h
    | some nm =>
      rw [step_bsl1]
      cases n with
      | zero=>exact h
      | succ n=>rw [if_neg (by omega)];exact h
  case mks own _ _ _ _=>cases own <;> exact h
  case app own sz b x y =>
    show stepS I st dst K (.app own sz b x y)
    cases own with
    | none=>rw [step_app0];exact h
    | some nm=>rw [step_app1];exact h
  case mkmap=>exact h
  case appD sz b x y =>
    show stepS I st dst K (.appD sz b x y)
    have h:lstK (readD st.o (opd st.s y)) (fun ys=>(∀ e∈ys,e.length=sz)∧appK (opd st.s x) False
      (fun m=>¬I m∧rowK (st.o m) (fun sz' es=>sz'=sz∧(es.length+ys.length)*b≤140737488355328∧es.length+ys.length≤140737488355328∧K ((st.free m).put dst (.d (.sl (es++ys))))))):=h
    rw [← lst_ex] at h
    obtain ⟨ys,h1,h2,h⟩:=h
    refine ⟨ys,h1,h2,?_⟩
    cases hx:opd st.s x
    case own m =>
      rw [hx,appK_1,← row_ex] at h
      obtain ⟨h3,es,h4,h5,h6,h7⟩:=h
      exact ⟨es,h3,h4,h5,h6,h7⟩
    all_goals (rw [hx] at h;exact h.elim)
  case mset str m k x=>show stepS I st dst K (.mset str m k x);rw [step_mset];exact h
  case mget str z m k ok=>show stepS I st dst K (.mget str z m k ok);rw [step_mget];exact h
  case nilS=>exact h
  case call=>exact h
  case callv x args =>
    have h:fnK (opd st.s x) (fun f caps=>callA C I st dst K f (args.map (opd st.s)++caps)):=h
    show match opd st.s x with | .fn f caps=>callA C I st dst K f (args.map (opd st.s)++caps)|_=>False
    unfold fnK at h
    exact h
  case cut x hi =>
    have h:appK (opd st.s x) False (fun m=>¬I m∧rowK (st.o m) (fun sz es=>bndK (bnd es.length (opd st.s hi)) (fun h=>K { s:=((st.scrub m).put dst (.own m)).s,o:=upd (st.scrub m).o m (some (.row sz (es.take h))) }))):=h
    show stepS I st dst K (.cut x hi)
    simp only [stepS]
    cases hx:opd st.s x with
    | own m =>
      rw [hx] at h
      obtain ⟨hI,h⟩:=h
      unfold rowK at h
      split at h
      · rename_i sz es hm
        unfold bndK at h
        split at h
        · rename_i k hk;exact ⟨sz,es,k,hI,hm,hk,h⟩
        · exact h.elim
      · exact h.elim
    | _=>rw [hx] at h;exact h.elim
  case mv=>exact h
  case fnv=>exact h
  all_goals exact h
def opB (C:Ctx)(I:Nat→Prop)(o:AOper)(st:St)(K:St→Prop):Prop :=
  match o.guard with
  | none=>stepB C I (st.frz o.frz) o.dst K o.op
  | some (_,g,want)=>guardK (st.s g) want (stepB C I ((st.put (some g) (.d (.bool want))).frz o.frz) o.dst K o.op) (K ((st.put (some g) (.d (.bool (!want)))).put o.dst (.tup []))) (K ((st.put (some g) (.tup [])).put o.dst (.tup [])))
theorem opB_A {o:AOper}(h:opB C I o st K):opA C I o st K:=by
  obtain ⟨d,op,fz,deps,gd,tr⟩:=o
  cases gd with
  | none=>exact stepB_A h
  | some x =>
    obtain ⟨p,g,want⟩:=x
    rw [op_if]
    have h:guardK (st.s g) want (stepB C I ((st.put (some g) (.d (.bool want))).frz fz) d K op) (K ((st.put (some g) (.d (.bool (!want)))).put d (.tup []))) (K ((st.put (some g) (.tup [])).put d (.tup []))):=h
    revert h
    generalize hg:st.s g=u
    intro h
    unfold guardK at h ⊢
    split
    · rename_i b
      simp only at h
      split
      · rename_i hw;rw [if_pos hw] at h;exact stepB_A h
      · rename_i hw;rw [if_neg hw] at h;exact h
    · rw [put_same hg] at h;exact h
    · rename_i h1 h2
      split at h
      · exact absurd rfl (h1 _)
      · exact absurd rfl h2
      · exact h
def opsB (C:Ctx)(I:Nat→Prop):List AOper→St→(St→Prop)→Prop
  | [],st,K=>K st
  | o::os,st,K=>opB C I o st (fun st=>opsB C I os (st.trimO o.tr) K)
theorem opsB_A:∀ {os:List AOper}{st:St}{K:St→Prop},opsB C I os st K→opsA C I os st K
  | [],_,_,h=>h
  | _::_,_,_,h=>opA_mono (fun _ h=>opsB_A h) (opB_A h)
def pureB (C:Ctx)(st:St)(F:V→Prop):AOp→Prop
  | .call f args=>∃ v,SoundAt C f ⟨args.map (opd st.s),fun _=>none⟩ ⟨v,fun _=>none⟩∧(∀ n,V.refs n v=false)∧F v
  | .bsl none sz _ _ ps=>lstK (partsD sz (opd st.s) (ps.map (·.2))) (fun es=>F (.d (.sl es)))
  | .bsl (some _) _ _ n _=>n=0∧F .cap0
  | .store .. | .alloc .. | .allocB .. | .box .. | .mks .. | .app .. | .appD .. | .cut .. | .mkmap .. | .mset .. | .mget .. | .nilS .. | .callv .. => False
  | op=>demand (evP st op) F
theorem pureB_A {F:V→Prop}{op:AOp}(h:pureB C st F op):∃ v,pureA C st op v∧F v:=by
  have dem:∀ {op:AOp},isP op=true→demand (evP st op) F→∃ v,(isP op=true∧evP st op=some v)∧F v:=by
    intro op hp h
    unfold demand at h
    split at h
    · rename_i v hv;exact ⟨v,⟨hp,hv⟩,h⟩
    · exact h.elim
  cases op
  case call f args=>obtain ⟨v,h1,h2,h3⟩:=h;exact ⟨v,⟨h1,h2⟩,h3⟩
  case bsl own sz z n ps =>
    cases own with
    | none =>
      have h:lstK (partsD sz (opd st.s) (ps.map (·.2))) (fun es=>F (.d (.sl es))):=h
      rw [← lst_ex] at h
      obtain ⟨es,h1,h2⟩:=h
      exact ⟨_,⟨es,h1,rfl⟩,h2⟩
    | some nm=>exact ⟨_,⟨h.1,rfl⟩,h.2⟩
  case store|alloc|allocB|box|mks|app|appD|cut|mkmap|mset|mget|nilS|callv=>exact h.elim
  all_goals exact dem rfl h
def firstB (C:Ctx)(st:St)(o:AOper)(F:V→Prop):Prop :=
  match o.guard with
  | none=>pureB C st F o.op
  | some (_,g,want)=>guardK (st.s g) want (pureB C st F o.op) (F (.tup [])) (F (.tup []))
theorem firstB_A {F:V→Prop} {o:AOper} (h:firstB C st o F):∃ v,Yields C st o v∧F v:=by
  obtain ⟨d,op,fz,deps,gd,tr⟩:=o
  cases gd with
  | none=>exact pureB_A h
  | some x =>
    obtain ⟨p,g,want⟩:=x
    have h:guardK (st.s g) want (pureB C st F op) (F (.tup [])) (F (.tup [])):=h
    have goal:(∃ v,(match st.s g with
      | .d (.bool b)=>if b=want then pureA C st op v else v = .tup []
      | .tup []=>v = .tup []
      | _=>False)∧F v):=by
      revert h
      generalize st.s g=u
      intro h
      unfold guardK at h
      split at h
      · rename_i b
        split at h
        · rename_i hw
          obtain ⟨v,h1,h2⟩:=pureB_A h
          exact ⟨v,by simp only [hw,if_true];exact h1,h2⟩
        · rename_i hw
          exact ⟨_,by simp only [hw,if_false],h⟩
      · exact ⟨_,rfl,h⟩
      · exact h.elim
    exact goal
def quietV (o:Nat→Option Ob)(vs:List V):Prop:=∀ m sz es,o m=some (.row sz es)→V.refsL m vs=false
theorem refsL_mem {m:Nat}:∀ {vs:List V},V.refsL m vs=false→∀ v∈vs,V.refs m v=false
  | [],_,v,hv=>by cases hv
  | x::xs,h,v,hv=>by
    simp only [V.refsL,Bool.or_eq_false_iff] at h
    rcases List.mem_cons.1 hv with rfl|hv
    · exact h.1
    · exact refsL_mem h.2 v hv
theorem quietV_A {o:AOper}{v:V}(h:quietV st.o (v::o.op.opds.map (opd st.s))){hh:Bool}:Quiet hh st o v:=fun _ m sz es hm =>
  ⟨refsL_mem (h m sz es hm) v (by simp),fun x hx=>refsL_mem (h m sz es hm) _ (List.mem_cons_of_mem _ (List.mem_map_of_mem hx))⟩
def stepE (C:Ctx)(I:Nat→Prop)(lo:Bool)(st:St)(dst:Option Nat)(K:St→Prop):AOp→Prop
  | .call f args=>∃ cout,SoundAt C f ⟨args.map (opd st.s),fun _=>none⟩ cout∧Names I st dst (fun _=>false) (fun _=>False) cout∧K { s:=(st.put dst cout.r).s,o:=mixO (fun _=>false) st.o cout.o }
  | .callv x args=>fnK (opd st.s x) (fun f caps=>callA C I st dst K f (args.map (opd st.s)++caps))
  | .allocB _ _=>False
  | .cut _ _=>False
  | .appD _ _ _ _=>False
  | .app own sz bytes x y=>(match lo with|true=>stepB C I st dst K (.app own sz bytes x y)|false=>stepB C I st dst K (.app own sz bytes x y)∧∀ m,opd st.s x = .own m→∀ n ob,st.o n=some ob→ob.refs m=false)
  | op=>stepB C I st dst K op
theorem stepE_D {op:AOp}{lo:Bool}(h:stepE C I lo st dst K op):stepD C I lo st dst K op:=by
  cases op
  case call=>exact h
  case callv x args=>exact stepB_A (C:=C) (op:=.callv x args) h
  case allocB=>exact h.elim
  case app own sz b x y =>
    cases lo with
    | true=>exact ⟨stepB_A (C:=C) (op:=.app own sz b x y) h,trivial⟩
    | false=>exact ⟨stepB_A (C:=C) (op:=.app own sz b x y) h.1,h.2⟩
  case cut=>exact h.elim
  case appD=>exact h.elim
  case store n p x=>exact stepB_A (C:=C) (op:=.store n p x) h
  case alloc nm zs=>exact stepB_A (C:=C) (op:=.alloc nm zs) h
  case box nm n x=>exact stepB_A (C:=C) (op:=.box nm n x) h
  case bsl own sz z n ps=>exact stepB_A (C:=C) (op:=.bsl own sz z n ps) h
  case mks own sz b z x=>exact stepB_A (C:=C) (op:=.mks own sz b z x) h
  case mkmap nm=>exact stepB_A (C:=C) (op:=.mkmap nm) h
  case mset str m k x=>exact stepB_A (C:=C) (op:=.mset str m k x) h
  case mget str z m k ok=>exact stepB_A (C:=C) (op:=.mget str z m k ok) h
  case nilS q x=>exact stepB_A (C:=C) (op:=.nilS q x) h
  all_goals exact h
def opE (C:Ctx)(I:Nat→Prop)(o:AOper)(st:St)(K:St→Prop):Prop :=
  o.frz=[]∧match o.guard with
  | none=>stepE C I o.tr.isSome st o.dst K o.op
  | some (_,g,want)=>guardK (st.s g) want (stepE C I o.tr.isSome st o.dst K o.op) (K (st.put o.dst (.tup []))) (K (st.put o.dst (.tup [])))
theorem opE_D {o:AOper}(h:opE C I o st K):opD C I o st K:=by
  obtain ⟨d,op,fz,deps,gd,tr⟩:=o
  obtain ⟨h0,h⟩:=h
  refine ⟨h0,?_⟩
  cases gd with
  | none=>exact stepE_D h
  | some x =>
    obtain ⟨p,g,want⟩:=x
    have h:guardK (st.s g) want (stepE C I tr.isSome st d K op) (K (st.put d (.tup []))) (K (st.put d (.tup []))):=h
    show match st.s g with
      | .d (.bool b)=>if b=want then stepD C I tr.isSome st d K op else K (st.put d (.tup []))
      | .tup []=>K (st.put d (.tup []))
      | _=>False
    revert h
    generalize st.s g=u
    intro h
    unfold guardK at h
    split at h
    · rename_i b
      split at h
      · rename_i hw;simp only [hw,if_true];exact stepE_D h
      · rename_i hw;simp only [hw,if_false];exact h
    · exact h
    · exact h.elim
def treeB (C:Ctx)(I:Nat→Prop)(aos:List AOper):Tr→St→(St→Prop)→Prop
  | .done,st,K=>K st
  | .one i t,st,K=>(match aos[i]? with|some ao=>opE C I ao st (fun st=>treeB C I aos t st K)|none=>False)
  | .two i t r,st,K=>(match aos[i]? with|some ao=>opE C I ao st (fun st=>treeB C I aos t st K)|none=>False)∧treeB C I aos r st K
theorem treeB_A {aos:List AOper}:∀ {t:Tr}{st:St}{K:St→Prop},treeB C I aos t st K→treeA C I aos t st K
  | .done,_,_,h=>h
  | .one i t,st,K,h=>by
    unfold treeB at h
    unfold treeA
    split
    · rename_i ao hao;rw [hao] at h;exact opD_mono (fun _ h=>treeB_A h) (opE_D h)
    · rename_i hao;rw [hao] at h;exact h
  | .two i t r,st,K,h=>by
    unfold treeB at h
    unfold treeA
    refine ⟨?_,treeB_A h.2⟩
    have h:=h.1
    split
    · rename_i ao hao;rw [hao] at h;exact opD_mono (fun _ h=>treeB_A h) (opE_D h)
    · rename_i hao;rw [hao] at h;exact h
def watchV (o:Nat→Option Ob)(ps xs:List V):Prop:=∀ p∈ps,(∀ m sz es,o m=some (.row sz es)→V.refs m p=false)∧∀ m,V.refs m p=true→V.refsL m xs=false
def rowF:Option Ob→Bool
  | some (.row _ _)=>true
  | _=>false
theorem watch_nil {o:Nat→Option Ob}{xs:List V}:watchV o [] xs=True:=eq_true (fun _ h=>by cases h)
theorem watch_ptr {o:Nat→Option Ob} {n k:Nat} {ps xs:List V}:watchV o (.ptr n k::ps) xs=(rowF (o n)=false∧V.refsL n xs=false∧watchV o ps xs):=by
  apply propext
  constructor
  · intro h
    refine ⟨?_,(h (.ptr n k) (List.mem_cons_self ..)).2 n (by simp [V.refs]),fun p hp=>h p (List.mem_cons_of_mem _ hp)⟩
    cases hr:rowF (o n) with
    | false=>rfl
    | true =>
      unfold rowF at hr
      split at hr
      · rename_i sz es ho
        have:=(h _ (List.mem_cons_self ..)).1 n sz es ho
        simp [V.refs] at this
      · cases hr
  · rintro ⟨h1,h2,h3⟩ p hp
    rcases List.mem_cons.1 hp with rfl|hp
    · refine ⟨fun m sz es hm => ?_,fun m hm => ?_⟩
      · simp only [V.refs,beq_eq_false_iff_ne]
        intro e
        subst e
        rw [hm] at h1;cases h1
      · simp only [V.refs,beq_iff_eq] at hm
        subst hm;exact h2
    · exact h3 p hp
theorem rowF_b {cs:List V}:rowF (some (.box cs))=false:=rfl
theorem rowF_m {kvs:List (D × D)}:rowF (some (.map kvs))=false:=rfl
theorem watchV_A {aos:List AOper}{o:AOper}(h:watchV st.o ((stores aos).map st.s) (o.op.opds.map (opd st.s))):Watch st o (stores aos):=fun t ht =>
  have h:=h _ (List.mem_map_of_mem (f:=st.s) ht)
  ⟨h.1,fun m hm x hx=>refsL_mem (h.2 m hm) _ (List.mem_map_of_mem hx)⟩
def drawB (C:Ctx) (I:Nat→Prop) (aos:List AOper):List Nat→Tr→St→(St→Prop)→Prop
  | [],t,st,K=>treeB C I aos t st K
  | i :: is,t,st,K=>(match aos[i % 1000]? with
    | some oi=>(match oi.dst with
      | some d=>st.s d = .undef∧firstB C st oi (fun v=>match i / 1000 with
        | 0=>quietV st.o (v::oi.op.opds.map (opd st.s))∧drawB C I aos is t (st.put (some d) v) K
        | 1=>quietV st.o (v::oi.op.opds.map (opd st.s))∧watchV st.o ((stores aos).map st.s) (oi.op.opds.map (opd st.s))∧drawB C I aos is t (st.put (some d) v) K
        | 2=>drawB C I aos is t (st.put (some d) v) K
        | _+3=>quietV st.o (v::oi.op.opds.map (opd st.s))∧drawB C I aos is t (st.put (some d) v) K)
      | none=>False)
    | none=>False)
theorem drawB_A {aos:List AOper}:∀ {is:List Nat} {t:Tr} {st:St} {K:St→Prop},drawB C I aos is t st K→drawA C I aos is t st K
  | [],_,_,_,h=>treeB_A h
  | i :: is,t,st,K,h=>by
    unfold drawB at h
    unfold drawA
    cases hi:aos[i % 1000]? with
    | none=>rw [hi] at h;exact h
    | some oi =>
      rw [hi] at h
      simp only at h ⊢
      cases hd:oi.dst with
      | none=>rw [hd] at h;exact h
      | some d =>
        rw [hd] at h
        obtain ⟨h1,h2⟩:=h
        obtain ⟨v,h3,h4⟩:=firstB_A h2
        refine ⟨h1,v,h3,?_⟩
        unfold wsOf
        generalize i / 1000=k at h4 ⊢
        match k,h4 with
        | 0,h4=>exact ⟨quietV_A h4.1,(fun _ h=>by cases h),drawB_A h4.2⟩
        | 1,h4=>exact ⟨quietV_A h4.1,watchV_A h4.2.1,drawB_A h4.2.2⟩
        | 2,h4=>exact ⟨fun h=>(by cases h),(fun _ h=>by cases h),drawB_A h4⟩
        | k+3,h4=>exact ⟨quietV_A h4.1,(fun _ h=>by cases h),drawB_A h4.2⟩
def frzK (st:St)(ts:List Nat)(F:St→Prop):Prop:=F (st.frz ts)
def wpB (C:Ctx)(I:Nat→Prop):ACode→St→(Ex→St→Prop)→Prop
  | .skip,st,Q=>Q .normal st
  | .region tr tro none ops,st,Q=>opsB C I ops st (fun st=>Q .normal (st.trim tr tro))
  | .region tr tro (some (is,t)) ops,st,Q=>frzK st (fzOf is) (fun st=>drawB C I ops (unF is) t st (fun st=>Q .normal (st.trim tr tro)))
  | .seq a b,st,Q=>wpB C I a st (seqK (fun st=>wpB C I b st Q) Q)
  | .cond c a b,st,Q=>condK (opd st.s c) (wpB C I a st Q) (wpB C I b st Q)
  | .block id tr tro c,st,Q=>wpB C I c st (blockK id tr tro Q)
  | .loop tr tro c,st,Q=>wpA C I (.loop tr tro c) st Q
  | .exit id,st,Q=>Q (.exit id) st
  | .ret,st,Q=>Q .ret st
  | .scope l tr tro first rest,st,Q=>wpB C I first st (jumpK l (fun s=>wpA C I (.scope l tr tro rest rest) (s.trim tr tro) Q) Q)
theorem wpB_A:∀ {c:ACode}{st:St}{Q:Ex→St→Prop},wpB C I c st Q→wpA C I c st Q:=by
  intro c
  induction c with
  | skip=>intro st Q h;exact h
  | region tr tro draw ops =>
    intro st Q h
    rcases draw with _|⟨is,t⟩
    · exact opsB_A h
    · exact drawB_A h
  | seq a b iha ihb =>
    intro st Q h
    rw [w_seq]
    refine wpA_mono (fun e st h => ?_) (iha h)
    cases e with
    | normal=>exact ihb h
    | exit k=>exact h
    | ret=>exact h
  | cond c a b iha ihb =>
    intro st Q h
    rw [w_cond]
    have h:condK (opd st.s c) (wpB C I a st Q) (wpB C I b st Q):=h
    unfold condK at h ⊢
    split at h
    · split at h
      · rename_i ht;simp only [ht,if_true];exact iha h
      · rename_i ht;simp only [ht];exact ihb h
    · exact h.elim
  | block id tr tro c ih =>
    intro st Q h
    rw [w_block]
    exact ih h
  | loop tr tro c ih=>intro st Q h;exact h
  | exit id=>intro st Q h;exact h
  | ret=>intro st Q h;exact h
  | scope l tr tro first rest ihf ihr=>intro st Q h;exact wpA_scope (ihf h)
theorem w_again {l:Nat}{tr:List Nat}{tro:Option (List Nat)}{c:ACode}{Q:Ex→St→Prop}(h:wpB C I c st (jumpK l (fun s=>wpA C I (.scope l tr tro (.seq .skip c) (.seq .skip c)) (s.trim tr tro) Q) Q)) :
    wpA C I (.scope l tr tro (.seq .skip c) (.seq .skip c)) st Q:=wpA_scope (wpB_A (c:=.seq .skip c) h)
theorem w_loopB {L:ACode}{tr:List Nat}{tro:Option (List Nat)}{c:ACode}{Q:Ex→St→Prop}(hL:L = .loop tr tro c)(h:wpB C I c (st.trim tr tro) (seqK (fun s=>wpA C I L s Q) Q)):wpA C I L st Q :=
  w_loop hL (wpB_A h)
theorem w_loopC {L:ACode}{tr:List Nat}{tro:Option (List Nat)}{c:ACode}{Q:Ex→St→Prop}(hL:L = .loop tr tro c)(h:wpB C I c (st.trim tr tro) (seqK (fun s=>wpB C I L s Q) Q)):wpB C I L st Q:=by
  subst hL
  exact w_loopB rfl h
end
theorem SoundAt.of_codeB {C:Ctx}{fn:AFn}{f N:Nat}{res:List ARes}{own:List (Nat × Nat × Nat)}{frz:List Nat}{code:ACode}(hk:okFn C.P C.φ f fn=true)(hfn:fn=⟨N,res,own,frz,code⟩){cin:CS}{cout:RS}
    (h:wpB C (fun n=>cin.o n≠none) code cin.entry (fun e st=>(e = .ret∨e = .normal)∧EndsA (fun n=>cin.o n≠none) own frz res st cout)):SoundAt C f cin cout :=
  SoundAt.of_code' hk hfn (wpB_A h)
def pickV (c a b:V):Option V:=match c with | .d (.bool t)=>some (if t=true then a else b)|_=>none
def convV (k:IntKind)(x:V):Option V:=match x with | .d (.int _ n)=>some (.d (.int k (k.wrap n)))|_=>none
def sameV (x:V):Option V:=match x with | .d (.str s)=>some (.d (.str s))|_=>none
def extV (x:V)(i:Nat):Option V:=match x with | .tup vs=>vs[i]? | _=>none
def lenSV (x:V):Option V:=match x with | .d (.str s)=>some (.d (.int .i64 s.length))|_=>none
def nilcV (x:V):Option V:=match x with | .ptr n off=>some (.ptr n off) | .fn f caps=>some (.fn f caps)|_=>none
def eqsV (neq:Bool)(ks:List Nat)(x y:V):Option V:=match x,y with
  | .agg xs,.agg ys=>(match eqCells ks xs ys with|some b=>some (.d (.bool (if neq=true then !b else b)))|none=>none)
  | _,_=>none
def beqV (neq:Bool)(x y:V):Option V:=match x,y with
  | .d (.bool b),.d (.bool c)=>some (.d (.bool (if neq=true then !(b==c) else b==c)))
  | _,_=>none
def nilEV (neq:Bool)(x:V):Option V:=match x with | .d (.err b)=>some (.d (.bool (if neq=true then !b else b)))|_=>none
def nilPV (neq:Bool)(x:V):Option V:=match x with
  | .ptr _ _=>some (.d (.bool neq))
  | .nilp=>some (.d (.bool (!neq)))
  | _=>none
def nilSK (neq:Bool)(v:V)(F:V→Prop):Prop:=match v with
  | .d (.sl [])=>∀ b,F (.d (.bool b))
  | .d (.sl (_::_))=>F (.d (.bool neq))
  | .cap0=>∀ b,F (.d (.bool b))
  | _=>False
def buildN:List V→List (Nat × Nat × V)→Option (List V)
  | cs,[]=>some cs
  | cs,(off,size,x)::rest=>(match cellsV x with
    | some new=>if new.length=size∧off+size≤cs.length then buildN (setRange cs off new) rest else none
    | none=>none)
def partsN (sz:Nat):List V→Option (List (List D))
  | []=>some []
  | x :: xs=>(match cellsV x with
    | some cs=>(match toDs cs with
      | some ds=>if ds.length=sz then (match partsN sz xs with|some es=>some (ds::es)|none=>none) else none
      | none=>none)
    | none=>none)
def shareK {α:Sort _}(F:α)(G:α→Prop):Prop:=G F
def callK (C:Ctx)(I:Nat→Prop)(st:St)(dst:Option Nat)(f:Nat)(xs:List V)(F:V→(Nat→Option Ob)→Prop):Prop :=
  ∃ E X cout,SoundX C f X ⟨xs,exO E st.o⟩ cout∧Names I st dst E X cout∧F cout.r (mixO E st.o cout.o)
def callE (C:Ctx)(I:Nat→Prop)(st:St)(dst:Option Nat)(f:Nat)(xs:List V)(F:V→(Nat→Option Ob)→Prop):Prop :=
  ∃ cout,SoundAt C f ⟨xs,fun _=>none⟩ cout∧Names I st dst (fun _=>false) (fun _=>False) cout∧F cout.r (mixO (fun _=>false) st.o cout.o)
class Unf (a:Prop) (b:outParam Prop):Prop where
  h:b→a
abbrev UnfAt (a:Prop) {b:Prop} (_:a=b):Prop:=Unf a b
theorem Unf.of {a b:Prop}(h:a=b):UnfAt a h:=⟨fun hb=>by rw [h];exact hb⟩
end Pay
end
