/- The theory: texts of the dev place in one; each part's head says what it holds. -/
import Derived.Calls
import Derived.Orders
import Derived.Tactics
import Derived.Below
import Derived.Laws.AppendOwn
import Derived.Laws.Entries
import Derived.Laws.Cells
import Derived.Laws.Rows
import Derived.Laws.Strings
import Derived.Laws.Concat
import Derived.Laws.StructEq
import Derived.Laws.BytesArg
import Derived.Maps.AppendAt
import Derived.Laws.MakeOwn
import Derived.MapKept
/- The abstract machine of the proofs: by-value data, frame values, objects by name; what they stand for in memory. -/
section
namespace Pay
open Go
inductive D where
  | int (k:IntKind) (n:Int)
  | bool (b:Bool)
  | str (s:List UInt8)
  | err (isNil:Bool)
  | sl (es:List (List D))
  deriving Inhabited
inductive V where
  | d (x:D)
  | cap0
  | nilp
  | agg (cs:List V)
  | ptr (n off:Nat)
  | own (n:Nat)
  | eptr (n sz i off:Nat)
  | cptr (cs:List D)
  | fn (f:Nat) (caps:List V)
  | tup (vs:List V)
  | mref (n:Nat)
  | undef
  deriving Inhabited
inductive Ob where
  | box (cs:List V)
  | row (sz:Nat) (es:List (List D))
  | map (kvs:List (D × D))
  | bld (k:Nat)
  | brow (s:List UInt8)
  deriving Inhabited
structure St where
  s:Nat→V
  o:Nat→Option Ob
structure Ctx where
  P:Program
  φ:Nat→FuncId
  mixed:P.follows .mixedOrders=true
  gi:World→Prop
  base:Nat
  keep:∀ w w':World,gi w→(∀ g,g<base→w'.heap[g]? = w.heap[g]?)→gi w'
mutual
def RepD (w:World)(ok:Nat→Prop):D→Value→Prop
  | .int k n,v=>v = .int k n
  | .bool b,v=>v = .bool b
  | .str s,v=>v = .string ⟨s.toArray⟩
  | .err b,v=>if b=true then v = .nilIface else ∃ t u,v = .iface t u
  | .sl es,v=>∃ A cap sz,v = .slice A es.length cap∧es.length≤cap∧(∀ e∈es,e.length=sz) ∧
      (es≠[]→∃ a,A=some a∧ok a.block∧RepEs w ok a 0 es)
def RepEs (w:World)(ok:Nat→Prop)(a:Addr):Nat→List (List D)→Prop
  | _,[]=>True
  | off,e::es=>RepCs w ok a off e∧RepEs w ok a (off+e.length) es
def RepCs (w:World)(ok:Nat→Prop)(a:Addr):Nat→List D→Prop
  | _,[]=>True
  | off,c::cs=>(∃ u,w.cell? (a.add off)=some u∧RepD w ok c u)∧RepCs w ok a (off+1) cs
end
mutual
def RepV (C:Ctx)(w:World)(ok:Nat→Prop)(γ:Nat→Value):V→Value→Prop
  | .d x,v=>RepD w ok x v
  | .cap0,v=>∃ A,v = .slice A 0 0
  | .nilp,v=>v = .pointer none
  | .ptr n off,v=>∃ g,γ n = .pointer (some ⟨g,0,none⟩)∧v = .pointer (some ⟨g,off,none⟩)
  | .own n,v=>v=γ n∧v.oneCell'=true
  | .eptr n sz i off,v=>∃ g l c,γ n = .slice (some ⟨g,0,none⟩) l c∧v = .pointer (some ⟨g,i*sz+off,none⟩)
  | .cptr cs,v=>∃ a,v = .pointer (some a)∧ok a.block∧RepCs w ok a 0 cs
  | .mref n,v=>v=γ n∧v.oneCell'=true
  | .fn f caps,v=>∃ us,v = .func (.func (C.φ f)) #[] ⟨us⟩∧RepVs C w ok γ caps us
  | .agg cs,v=>∃ us,v = .agg ⟨us⟩∧RepVs C w ok γ cs us∧∀ u∈us,u.oneCell'=true
  | .tup cs,v=>∃ us,v = .tuple ⟨us⟩∧RepVs C w ok γ cs us
  | .undef,_=>True
def RepVs (C:Ctx)(w:World)(ok:Nat→Prop)(γ:Nat→Value):List V→List Value→Prop
  | [],us=>us=[]
  | c::cs,us=>∃ u us',us=u::us'∧RepV C w ok γ c u∧RepVs C w ok γ cs us'
end
def blk:Value→Option Nat
  | .pointer (some a)=>some a.block
  | .slice (some a) _ cap=>if cap=0 then none else some a.block
  | .map (some r)=>some r
  | _=>none
def RepCells (w:World)(ok:Nat→Prop):List D→List Value→Prop
  | [],_=>True
  | _::_,[]=>False
  | d::ds,u::us=>RepD w ok d u∧RepCells w ok ds us
def RepKvs (w:World)(ok:Nat→Prop):List (D × D)→List MapEntry→Prop
  | [],es=>es=[]
  | kv::kvs,es=>∃ e es',es=e::es'∧RepD w ok kv.1 e.key∧RepD w ok kv.2 e.val∧RepKvs w ok kvs es'
def RepO (C:Ctx)(w:World)(ok:Nat→Prop)(γ:Nat→Value):Ob→Value→Prop
  | .box cs,v=>∃ g us ty,v = .pointer (some ⟨g,0,none⟩)∧w.heap[g]? = some (.cells ⟨us⟩ ty (0,0))∧RepVs C w ok γ cs us∧∀ u∈us,u.oneCell'=true
  | .row sz es,v=>(es=[]∧∃ A,v = .slice A 0 0) ∨
      ∃ g cap us ty,v = .slice (some ⟨g,0,none⟩) es.length cap∧0<cap∧w.heap[g]? = some (.cells ⟨us⟩ ty (0,0))∧es.length≤cap∧cap≤maxLen ∧
        us.length=cap*sz∧(∀ e∈es,e.length=sz)∧RepCells w ok es.flatten us∧∀ u∈us,u.oneCell'=true
  | .map kvs,v=>∃ r es c,v = .map (some r)∧w.heap[r]? = some (.map ⟨es⟩ c)∧RepKvs w ok kvs es
  | .bld k,v=>∃ g p,v = .pointer (some ⟨g,0,none⟩)∧w.heap[g]? = some (.cells ⟨[p,γ k]⟩ (C.φ 999999) (0,0))∧(p = .pointer none∨p=v)∧(γ k).oneCell'=true
  | .brow s,v=>(s=[]∧v = .slice none 0 0) ∨
      ∃ g cap us,v = .slice (some ⟨g,0,none⟩) s.length cap∧0<cap∧w.heap[g]? = some (.cells ⟨us⟩ (C.φ 999998) (0,0))∧s.length≤cap∧cap≤maxLen ∧
        us.length=cap∧us.take s.length=s.map (fun c=>Value.int .u8 c.toNat)
def okOf (w0:World)(S:Nat→Prop)(γ:Nat→Value)(o:Nat→Option Ob)(w:World)(g:Nat):Prop :=
  (S g∨w0.heap.size≤g)∧g<w.heap.size∧∀ n x,o n=some x→blk (γ n)≠some g
structure Fram (w0 w:World) (M:Nat→Prop):Prop where
  os:w.os=w0.os
  tape:w.tape=w0.tape
  output:w.output=w0.output
  size:w0.heap.size≤w.heap.size
  block:∀ g,g<w0.heap.size→¬M g→w.heap[g]? = w0.heap[g]?
structure Rel (C:Ctx) (w0:World) (S M:Nat→Prop) (N:Nat) (γ:Nat→Value) (st:St) (a:Act) (w:World):Prop where
  slots:∀ t,RepV C w (okOf w0 S γ st.o w) γ (st.s t) (a.tmps.getD t undef)
  objs:∀ n x,st.o n=some x→RepO C w (okOf w0 S γ st.o w) γ x (γ n)
  sep:∀ n m x y g,st.o n=some x→st.o m=some y→blk (γ n)=some g→blk (γ m)=some g→n=m
  muts:∀ n x g,st.o n=some x→blk (γ n)=some g→M g∨w0.heap.size≤g
  fram:Fram w0 w M
  defers:a.defers=[]
  size:N≤a.tmps.size
structure Env (C:Ctx) (w0:World) (S M:Nat→Prop):Prop where
  gi:C.gi w0
  bs:C.base≤w0.heap.size
  mb:∀ g,M g→C.base≤g∧g<w0.heap.size
  sm:∀ g,S g→g<w0.heap.size
  ms:∀ g,M g→S g
mutual
theorem RepD.mono {w w':World}{ok ok':Nat→Prop}(h:∀ g,ok g→w'.heap[g]? = w.heap[g]? ∧ ok' g):∀ (d:D)(v:Value),RepD w ok d v→RepD w' ok' d v
  | .int k n,v,r=>r
  | .bool b,v,r=>r
  | .str s,v,r=>r
  | .err b,v,r=>r
  | .sl es,v,r=>by
    obtain ⟨A,cap,sz,e,hl,hs,hc⟩:=r
    refine ⟨A,cap,sz,e,hl,hs,fun hne => ?_⟩
    obtain ⟨a,ea,hok,hes⟩:=hc hne
    exact ⟨a,ea,(h _ hok).2,RepEs.mono h a hok 0 es hes⟩
theorem RepEs.mono {w w':World}{ok ok':Nat→Prop}(h:∀ g,ok g→w'.heap[g]? = w.heap[g]? ∧ ok' g)(a:Addr)(ha:ok a.block):∀ (off:Nat)(es:List (List D)),RepEs w ok a off es→RepEs w' ok' a off es
  | _,[],_=>trivial
  | off,e::es,r=>⟨RepCs.mono h a ha off e r.1,RepEs.mono h a ha _ es r.2⟩
theorem RepCs.mono {w w':World}{ok ok':Nat→Prop}(h:∀ g,ok g→w'.heap[g]? = w.heap[g]? ∧ ok' g)(a:Addr)(ha:ok a.block):∀ (off:Nat)(cs:List D),RepCs w ok a off cs→RepCs w' ok' a off cs
  | _,[],_=>trivial
  | off,c::cs,r=>by
    obtain ⟨⟨u,hu,hr⟩,hrest⟩:=r
    refine ⟨⟨u,?_,RepD.mono h c u hr⟩,RepCs.mono h a ha _ cs hrest⟩
    have hb:(a.add off).block=a.block:=by unfold Addr.add;split <;> rfl
    have:=(h _ ha).1
    rw [World.cell?_of_block (w:=w) (by rw [hb];exact this)]
    exact hu
end
end Pay
end
/- Operations: their compact form, what they come to, and which operation of the translation each stands for. -/
section
namespace Pay
open Go
inductive Opd where
  | t (n:Nat)
  | c (v:V)
  | f (g:Nat)
inductive AOp where
  | mv (x:Opd)
  | pick (c a b:Opd)
  | bin (op:BinOp) (x y:Opd)
  | un (op:UnOp) (x:Opd)
  | conv (k:IntKind) (x:Opd)
  | same (x:Opd)
  | bstr (x:Opd)
  | ext (x:Opd) (i:Nat)
  | load (n:Option Nat) (p:Opd)
  | faddr (off:Nat) (p:Opd)
  | fld (off:Nat) (n:Option Nat) (x:Opd)
  | iaddr (sz:Nat) (x i:Opd)
  | iaddrA (len sz:Nat) (p i:Opd)
  | idx (x i:Opd)
  | idxA (len sz:Nat) (n:Option Nat) (x i:Opd)
  | slc (sz:Nat) (x:Opd) (lo hi:Option Opd)
  | slcS (x:Opd) (lo hi:Option Opd)
  | len (x:Opd)
  | lenS (x:Opd)
  | mm (mx:Bool) (xs:List Opd)
  | build (zero:List V) (parts:List (Nat × Nat × Opd))
  | fnv (f:Nat) (caps:List Opd)
  | nilc (x:Opd)
  | eqs (neq:Bool) (ks:List Nat) (x y:Opd)
  | beq (neq:Bool) (x y:Opd)
  | nilE (neq:Bool) (x:Opd)
  | nilP (neq:Bool) (x:Opd)
  | nilS (neq:Bool) (x:Opd)
  | store (n:Nat) (p x:Opd)
  | alloc (nm:Nat) (cells:List V)
  | box (nm:Nat) (n:Nat) (x:Opd)
  | bsl (own:Option Nat) (sz:Nat) (zero:List D) (n:Nat) (parts:List (Nat × Opd))
  | mks (own:Option Nat) (sz bytes:Nat) (zero:List D) (n:Opd)
  | app (own:Option Nat) (sz bytes:Nat) (x y:Opd)
  | appD (sz bytes:Nat) (x y:Opd)
  | cut (x hi:Opd)
  | allocB (nm k:Nat)
  | mkmap (nm:Nat)
  | mset (str:Bool) (m k x:Opd)
  | mget (str:Bool) (zero:D) (m k:Opd) (ok:Bool)
  | call (f:Nat) (args:List Opd)
  | callv (x:Opd) (args:List Opd)
  | never
structure AOper where
  dst:Option Nat
  op:AOp
  frz:List Nat:=[]
  deps:List Nat:=[]
  guard:Option (Nat × Nat × Bool):=none
  tr:Option (List Nat × Option (List Nat)):=none
abbrev oo (d:Nat) (x:AOp):AOper:=⟨some d,x,[],[],none,none⟩
abbrev om (d t:Nat):AOper:=⟨some d,.mv (.t t),[],[],none,none⟩
abbrev og (d:Nat) (x:AOp) (g:Nat × Nat × Bool):AOper:=⟨some d,x,[],[],some g,none⟩
abbrev oz (d:Nat) (x:AOp) (tr tro:List Nat):AOper:=⟨some d,x,[],[],none,some (tr,some tro)⟩
abbrev ow (d:Nat) (x:AOp) (g:Nat × Nat × Bool) (tr tro:List Nat):AOper:=⟨some d,x,[],[],some g,some (tr,some tro)⟩
def opd (s:Nat→V):Opd→V
  | .t n=>s n
  | .c v=>v
  | .f g=>.fn g []
def okConst:Value→V→Bool
  | .int k n,.d (.int k' m)=>decide (k=k'∧n=m)
  | .bool b,.d (.bool c)=>b==c
  | .string s,.d (.str l)=>decide (s.data.toList=l)
  | .slice none 0 0,.cap0=>true
  | .nilIface,.d (.err true)=>true
  | .pointer none,.nilp=>true
  | _,_=>false
def okOpd (φ:Nat→FuncId):Operand→Opd→Bool
  | .tmp t,.t n=>t==n
  | .const v,.c x=>okConst v x
  | .func f,.f g=>f==φ g
  | _,_=>false
theorem okConst_rep {C:Ctx}{w:World}{ok:Nat→Prop}{γ:Nat→Value}{u:Value}{v:V}(h:okConst u v=true):RepV C w ok γ v u:=by
  unfold okConst at h
  split at h <;> simp_all [RepV,RepD]
  rename_i s l
  subst h
  rfl
section
variable {C:Ctx}{w0:World}{S M:Nat→Prop}{N:Nat}{γ:Nat→Value}{st:St}{a:Act}{w:World}
theorem opd_rep (hr:Rel C w0 S M N γ st a w){x:Operand}{y:Opd}(h:okOpd C.φ x y=true):RepV C w (okOf w0 S γ st.o w) γ (opd st.s y) (a.eval x):=by
  unfold okOpd at h
  split at h
  · simp only [beq_iff_eq] at h
    subst h
    exact hr.slots _
  · exact okConst_rep h
  · simp only [beq_iff_eq] at h
    subst h
    exact ⟨[],rfl,rfl⟩
  · cases h
end
def andI (k:IntKind)(x y:Int):Int:=k.wrap (BitVec.ofInt k.bits x &&& BitVec.ofInt k.bits y).toNat
def orI (k:IntKind)(x y:Int):Int:=k.wrap (BitVec.ofInt k.bits x ||| BitVec.ofInt k.bits y).toNat
def binInt (op:BinOp)(k:IntKind)(x y:Int):Option D :=
  match op with
  | .add=>some (.int k (k.wrap (x+y)))
  | .sub=>some (.int k (k.wrap (x-y)))
  | .mul=>some (.int k (k.wrap (x*y)))
  | .quo=>if y=0 then none else some (.int k (k.wrap (x.tdiv y)))
  | .rem=>if y=0 then none else some (.int k (x.tmod y))
  | .eql=>some (.bool (x==y))
  | .neq=>some (.bool (x != y))
  | .lss=>some (.bool (x<y))
  | .leq=>some (.bool (x≤y))
  | .gtr=>some (.bool (x>y))
  | .geq=>some (.bool (x≥y))
  | .and=>some (.int k (andI k x y))
  | .or=>some (.int k (orI k x y))
  | _=>none
def shInt (op:BinOp)(k:IntKind)(x y:Int):Option D :=
  if y<0 then none else match op with
  | .shl=>some (.int k (k.wrap (x*2 ^ (min y.toNat k.bits))))
  | .shr=>some (.int k (x.fdiv (2 ^ (min y.toNat k.bits))))
  | _=>none
def binStr (op:BinOp)(x y:List UInt8):Option D :=
  match op with
  | .add=>if x.length+y.length≤9223372036854775807 then some (.str (x++y)) else none
  | .eql=>some (.bool (x==y))
  | .neq=>some (.bool (!(x==y)))
  | _=>none
def binV (op:BinOp):V→V→Option V
  | .d (.int k x),.d (.int k' y)=>(match op with
    | .shl | .shr=>(shInt op k x y).map .d
    | _=>if k=k' then (binInt op k x y).map .d else none)
  | .d (.str x),.d (.str y)=>(binStr op x y).map .d
  | _,_=>none
def unV (op:UnOp):V→Option V
  | .d (.int k x)=>(match op with
    | .neg=>some (.d (.int k (k.wrap (0-x))))
    | _=>none)
  | .d (.bool b)=>(match op with
    | .not=>some (.d (.bool (!b)))
    | _=>none)
  | _=>none
theorem eqGuard_run {P:Program} {w:World} {op:BinOp} {t:TypeId} {x y:Operand} {a b:Value} (h1:a ≠ .nilIface∨b ≠ .nilIface∨∃ c,y = .const c) (h2:∀ cs,a ≠ .agg cs) :
    (eqGuard op t x y a b).run P w = .ok () w:=by
  unfold eqGuard
  cases op
  case eql|neq =>
    cases a
    case agg cs=>exact absurd rfl (h2 cs)
    case nilIface =>
      cases b
      case nilIface =>
        rcases h1 with h1|h1|⟨c,rfl⟩
        · exact absurd rfl h1
        · exact absurd rfl h1
        · cases x <;> rfl
      all_goals rfl
    all_goals (cases b <;> rfl)
  all_goals rfl
def loadV (o:Nat→Option Ob):Option Nat→V→Option V
  | none,.ptr n off=>(match o n with|some (.box cs)=>cs[off]? | _=>none)
  | some k,.ptr n off=>(match o n with|some (.box cs)=>if off+k≤cs.length then some (.agg ((cs.drop off).take k)) else none|_=>none)
  | none,.cptr cs=>(match cs with|c::_=>some (.d c) | []=>none)
  | some k,.cptr cs=>if k≤cs.length then some (.agg ((cs.take k).map .d)) else none
  | none,.eptr n sz i off=>(match o n with|some (.row sz' es)=>if sz=sz' then (match es[i]? with|some e=>(match e[off]? with|some c=>some (.d c)|none=>none)|none=>none) else none|_=>none)
  | some k,.eptr n sz i off=>(match o n with|some (.row sz' es)=>if sz=sz' then (match es[i]? with|some e=>if off+k≤e.length then some (.agg (((e.drop off).take k).map .d)) else none|none=>none) else none|_=>none)
  | _,_=>none
def faddrV (off:Nat):V→Option V
  | .ptr n o=>some (.ptr n (o+off))
  | .cptr cs=>some (.cptr (cs.drop off))
  | .eptr n sz i o=>some (.eptr n sz i (o+off))
  | _=>none
def fldV (off:Nat):Option Nat→V→Option V
  | none,.agg cs=>cs[off]?
  | some k,.agg cs=>if off+k≤cs.length then some (.agg ((cs.drop off).take k)) else none
  | _,_=>none
def iaddrV (o:Nat→Option Ob)(sz:Nat):V→V→Option V
  | .d (.sl es),.d (.int _ i)=>if 0≤i then (match es[i.toNat]? with|some e=>if e.length=sz then some (.cptr e) else none|none=>none) else none
  | .own n,.d (.int _ i)=>(match o n with|some (.row sz' es)=>if sz=sz'∧0≤i∧i<es.length then some (.eptr n sz i.toNat 0) else none|_=>none)
  | _,_=>none
def iaddrAV (len sz:Nat):V→V→Option V
  | .ptr n o,.d (.int _ i)=>if 0≤i∧i<len then some (.ptr n (o+i.toNat*sz)) else none
  | _,_=>none
def idxV:V→V→Option V
  | .d (.str s),.d (.int _ i)=>if 0≤i then (match s[i.toNat]? with|some b=>some (.d (.int .u8 b.toNat))|none=>none) else none
  | _,_=>none
def idxAV (len sz:Nat)(n:Option Nat):V→V→Option V
  | x,.d (.int _ i)=>if 0≤i∧i<len then fldV (i.toNat*sz) n x else none
  | _,_=>none
def bnd (mx:Nat):V→Option Nat
  | .d (.int _ i)=>if 0≤i∧i≤mx then some i.toNat else none
  | _=>none
def bndO (dflt mx:Nat):Option V→Option Nat
  | none=>some dflt
  | some v=>bnd mx v
def slcSV (x:V) (lo hi:Option V):Option V :=
  match x with
  | .d (.str s)=>(match bndO s.length s.length hi with
    | some h=>(match bndO 0 h lo with|some l=>some (.d (.str ((s.take h).drop l)))|none=>none)
    | none=>none)
  | _=>none
def slcV (sz:Nat) (x:V) (lo hi:Option V):Option V :=
  match x with
  | .d (.sl es)=>(match bndO es.length es.length hi with
    | some h=>(match bndO 0 h lo with|some l=>if (es.all fun e=>e.length==sz)=true then some (.d (.sl ((es.take h).drop l))) else none|none=>none)
    | none=>none)
  | _=>none
def lenV (o:Nat→Option Ob):V→Option V
  | .d (.sl es)=>some (.d (.int .i64 es.length))
  | .cap0=>some (.d (.int .i64 0))
  | .own n=>(match o n with|some (.row _ es)=>some (.d (.int .i64 es.length))|_=>none)
  | _=>none
def mmV (mx:Bool):List V→Option V
  | [.d (.int k x),.d (.int k' y)]=>if k=k' then some (.d (.int k (if mx then (if y>x then y else x) else (if y<x then y else x)))) else none
  | [.d (.int k x),.d (.int k1 y),.d (.int k2 z),.d (.int k3 u)]=>if k=k1∧k=k2∧k=k3 then
      (let m:=fun (a b:Int)=>if mx then (if b>a then b else a) else (if b<a then b else a)
       some (.d (.int k (m (m (m x y) z) u)))) else none
  | _=>none
def V.one:V→Bool
  | .agg _ | .tup _ | .undef=>false
  | _=>true
def cellsV:V→Option (List V)
  | .agg cs=>some cs
  | .tup _=>none
  | .undef=>none
  | v=>some [v]
def setRange {α:Type}(cs:List α)(off:Nat)(new:List α):List α:=cs.take off++new++cs.drop (off+new.length)
def buildV (vs:Opd→V):List V→List (Nat × Nat × Opd)→Option (List V)
  | cs,[]=>some cs
  | cs,(off,size,x)::rest=>(match cellsV (vs x) with
    | some new=>if new.length=size∧off+size≤cs.length then buildV vs (setRange cs off new) rest else none
    | none=>none)
def eqD:Nat→D→D→Option Bool
  | 0,.int k x,.int k' y=>if k=k' then some (x==y) else none
  | 1,.bool x,.bool y=>some (x==y)
  | 2,.str x,.str y=>some (x==y)
  | _,_,_=>none
def eqCells:List Nat→List V→List V→Option Bool
  | [],[],[]=>some true
  | k::ks,.d x::xs,.d y::ys=>(match eqD k x y with
    | some b=>(match eqCells ks xs ys with|some c=>some (b&&c)|none=>none)
    | none=>none)
  | _,_,_=>none
def bytesD:List (List D)→Option (List UInt8)
  | []=>some []
  | [.int .u8 n]::r=>(match bytesD r with|some l=>some (UInt8.ofNat n.toNat::l)|none=>none)
  | _=>none
def bstrV:V→Option V
  | .d (.sl es)=>(match bytesD es with|some l=>some (.d (.str l))|none=>none)
  | _=>none
def evP (st:St):AOp→Option V
  | .bstr x=>bstrV (opd st.s x)
  | .mv x=>some (opd st.s x)
  | .pick c a b=>(match opd st.s c with | .d (.bool t)=>some (if t=true then opd st.s a else opd st.s b)|_=>none)
  | .bin op x y=>binV op (opd st.s x) (opd st.s y)
  | .un op x=>unV op (opd st.s x)
  | .conv k x=>(match opd st.s x with | .d (.int _ n)=>some (.d (.int k (k.wrap n)))|_=>none)
  | .same x=>(match opd st.s x with | .d (.str s)=>some (.d (.str s))|_=>none)
  | .ext x i=>(match opd st.s x with | .tup vs=>vs[i]? | _=>none)
  | .load n p=>loadV st.o n (opd st.s p)
  | .faddr off p=>faddrV off (opd st.s p)
  | .fld off n x=>fldV off n (opd st.s x)
  | .iaddr sz x i=>iaddrV st.o sz (opd st.s x) (opd st.s i)
  | .iaddrA len sz p i=>iaddrAV len sz (opd st.s p) (opd st.s i)
  | .idx x i=>idxV (opd st.s x) (opd st.s i)
  | .idxA len sz n x i=>idxAV len sz n (opd st.s x) (opd st.s i)
  | .slc sz x lo hi=>slcV sz (opd st.s x) (lo.map (opd st.s)) (hi.map (opd st.s))
  | .slcS x lo hi=>slcSV (opd st.s x) (lo.map (opd st.s)) (hi.map (opd st.s))
  | .len x=>lenV st.o (opd st.s x)
  | .lenS x=>(match opd st.s x with | .d (.str s)=>some (.d (.int .i64 s.length))|_=>none)
  | .mm mx xs=>mmV mx (xs.map (opd st.s))
  | .build zero parts=>(buildV (opd st.s) zero parts).map .agg
  | .fnv f caps=>some (.fn f (caps.map (opd st.s)))
  | .nilc x=>(match opd st.s x with | .ptr n off=>some (.ptr n off) | .fn f caps=>some (.fn f caps)|_=>none)
  | .eqs neq ks x y=>(match opd st.s x,opd st.s y with
    | .agg xs,.agg ys=>(match eqCells ks xs ys with|some b=>some (.d (.bool (if neq=true then !b else b)))|none=>none)
    | _,_=>none)
  | .beq neq x y=>(match opd st.s x,opd st.s y with
    | .d (.bool b),.d (.bool c)=>some (.d (.bool (if neq=true then !(b==c) else b==c)))
    | _,_=>none)
  | .nilE neq x=>(match opd st.s x with | .d (.err b)=>some (.d (.bool (if neq=true then !b else b)))|_=>none)
  | .nilP neq x=>(match opd st.s x with
    | .ptr _ _=>some (.d (.bool neq))
    | .nilp=>some (.d (.bool (!neq)))
    | _=>none)
  | _=>none
def szOf (P:Program)(t:TypeId):Nat:=((P.info? t).map (·.size)).getD 0
def okShape (P:Program)(t:TypeId)(n:Option Nat):Bool :=
  match P.underlying t,P.info? t with
  | some (.struct _),some i=>n==some i.size
  | some (.array _ _),some i=>n==some i.size
  | some _,some _=>n==none
  | _,_=>false
def okField (P:Program) (s:TypeId) (field off:Nat) (n:Option (Option Nat)):Bool :=
  match P.underlying s with
  | some (.struct fs)=>(match fs[field]? with
    | some f=>f.offset==off&&(match P.info? f.type with|some i=>i.size != 0|none=>false)&&(match n with|some k=>okShape P f.type k|none=>true)
    | none=>false)
  | _=>false
def okSlice (P:Program)(t:TypeId)(sz:Nat):Bool :=
  match P.underlying t with
  | some (.slice e)=>(match P.info? e with|some i=>i.size==sz&&sz != 0|none=>false)
  | _=>false
def okArray (P:Program)(t:TypeId)(len sz:Nat):Option TypeId :=
  match P.underlying t with
  | some (.array n e)=>(match P.info? e with|some i=>if n=len∧i.size=sz then some e else none|none=>none)
  | _=>none
def okOpdO (φ:Nat→FuncId):Option Operand→Option Opd→Bool
  | none,none=>true
  | some x,some y=>okOpd φ x y
  | _,_=>false
def okOpds (φ:Nat→FuncId):List Operand→List Opd→Bool
  | [],[]=>true
  | x::xs,y::ys=>okOpd φ x y&&okOpds φ xs ys
  | _,_=>false
def okZeros:List Value→List V→Bool
  | [],[]=>true
  | v::vs,x::xs=>okConst v x&&okZeros vs xs
  | _,_=>false
def okZero (P:Program)(t:TypeId)(zs:List V):Bool :=
  match P.info? t with
  | some i=>(match i.zero with|some z=>okZeros z.cells.toList zs&&i.size==zs.length|none=>false)
  | none=>false
def okParts (φ:Nat→FuncId)(place:Nat→Option (Nat × Nat)):List (Nat × Operand)→List (Nat × Nat × Opd)→Bool
  | [],[]=>true
  | (i,x)::ps,(off,size,y)::qs=>place i==some (off,size)&&okOpd φ x y&&okParts φ place ps qs
  | _,_=>false
def plainFields (P:Program):Nat→Nat→List Field→Option (List Nat)
  | _,_,[]=>some []
  | 0,_,_::_=>none
  | d + 1, off, f :: fs => if f.name = "_" ∨ f.offset ≠ off then none else
    match P.underlying f.type with
    | some .bool=>(plainFields P d (off+1) fs).map (1 :: ·)
    | some (.int _)=>(plainFields P d (off+1) fs).map (0 :: ·)
    | some .string=>(plainFields P d (off+1) fs).map (2 :: ·)
    | some (.struct gs)=>(match plainFields P d 0 gs.toList with
      | some k=>if P.stoodInHeld f.type=true∨okShape P f.type (some k.length)=false then none else (plainFields P d (off+k.length) fs).map (k ++ ·)
      | none=>none)
    | _=>none
def okBuild (P:Program) (φ:Nat→FuncId) (t:TypeId) (ps:List (Nat × Operand)) (parts:List (Nat × Nat × Opd)):Bool :=
  match P.underlying t with
  | some (.struct fs)=>(match fs.toList.mapM (fun f=>(P.info? f.type).map fun i=>(f.offset,i.size)) with
    | some places=>okParts φ (places.toArray[·]?) ps parts
    | none=>false)
  | some (.array _ e)=>(match P.info? e with
    | some i=>okParts φ (fun k=>some (k*i.size,i.size)) ps parts
    | none=>false)
  | _=>false
def strSlice (P:Program)(t:TypeId):Bool:=match P.underlying t with|some .string=>true|_=>false
def okPlain (P:Program)(t:TypeId)(ks:List Nat):Bool :=
  match P.underlying t with
  | some (.struct fs)=>plainFields P 60 0 fs.toList==some ks
  | _=>false
def okP (P:Program)(φ:Nat→FuncId)(o:Oper):AOp→Bool
  | .mv y=>(match o.op with | .move x=>okOpd φ x y | .assign x=>okOpd φ x y|_=>false)
  | .never=>true
  | .pick c a b=>(match o.op with | .pick c' a' b'=>okOpd φ c' c&&okOpd φ a' a&&okOpd φ b' b|_=>false)
  | .bin op x y=>(match o.op with | .binOp op' _ x' y' _=>op==op'&&okOpd φ x' x&&okOpd φ y' y|_=>false)
  | .beq neq x y=>(match o.op with | .binOp op t x' y' _=>op==(if neq then .neq else .eql)&&okOpd φ x' x&&okOpd φ y' y&&(match P.underlying t with|some .bool=>true|_=>false)|_=>false)
  | .nilE neq x=>(match o.op with | .binOp op t x' (.const .nilIface) _=>op==(if neq then .neq else .eql)&&okOpd φ x' x&&(match P.underlying t with|some (.interface _)=>true|_=>false)|_=>false)
  | .nilP neq x=>(match o.op with | .binOp op t x' (.const (.pointer none)) _=>op==(if neq then .neq else .eql)&&okOpd φ x' x&&(match P.underlying t with|some (.pointer _)=>true|_=>false)|_=>false)
  | .un op x=>(match o.op with | .unOp op' _ x'=>op==op'&&okOpd φ x' x|_=>false)
  | .conv k x=>(match o.op with | .convert src dst x'=>(P.underlying src).isSome&&(match P.underlying dst with|some (.int k')=>k==k'|_=>false)&&okOpd φ x' x|_=>false)
  | .same x=>(match o.op with | .convert src dst x'=>(P.underlying src).isSome&&strSlice P dst&&okOpd φ x' x&&(match P.underlying src with|some (.slice _)=>false|some .unsafePointer=>false|_=>true)|_=>false)
  | .bstr x=>(match o.op with | .convert src dst x'=>(match P.underlying src with|some (.slice e)=>(match P.underlying e with|some (.int .u8)=>true|_=>false)|_=>false)&&strSlice P dst&&okOpd φ x' x|_=>false)
  | .ext x i=>(match o.op with | .extract x' i'=>i==i'&&okOpd φ x' x|_=>false)
  | .load n p=>(match o.op with | .load t p'=>okShape P t n&&okOpd φ p' p|_=>false)
  | .faddr off p=>(match o.op with | .fieldAddr s p' f=>okField P s f off none&&okOpd φ p' p|_=>false)
  | .fld off n x=>(match o.op with | .field s x' f=>okField P s f off (some n)&&okOpd φ x' x|_=>false)
  | .iaddr sz x i=>(match o.op with | .indexAddr t x' i'=>okSlice P t sz&&okOpd φ x' x&&okOpd φ i' i|_=>false)
  | .iaddrA len sz p i=>(match o.op with | .indexAddr t x' i'=>(okArray P t len sz).isSome&&okOpd φ x' p&&okOpd φ i' i|_=>false)
  | .idx x i=>(match o.op with | .index t x' i'=>strSlice P t&&okOpd φ x' x&&okOpd φ i' i|_=>false)
  | .idxA len sz n x i=>(match o.op with | .index t x' i'=>(match okArray P t len sz with|some e=>okShape P e n|none=>false)&&okOpd φ x' x&&okOpd φ i' i|_=>false)
  | .slcS x lo hi=>(match o.op with | .slice t x' lo' hi' none=>strSlice P t&&okOpd φ x' x&&okOpdO φ lo' lo&&okOpdO φ hi' hi|_=>false)
  | .slc sz x lo hi=>(match o.op with | .slice t x' lo' hi' none=>okSlice P t sz&&okOpd φ x' x&&okOpdO φ lo' lo&&okOpdO φ hi' hi|_=>false)
  | .len x=>(match o.op with | .call { callee:=.builtin .len,args:=⟨[x']⟩,argTypes:=⟨[t]⟩ }=>(match P.underlying t with|some (.slice _)=>true|_=>false)&&okOpd φ x' x|_=>false)
  | .lenS x=>(match o.op with | .call { callee:=.builtin .len,args:=⟨[x']⟩,argTypes:=⟨[t]⟩ }=>strSlice P t&&okOpd φ x' x|_=>false)
  | .mm mx xs=>(match o.op with | .call { callee:=.builtin .max,args:=⟨xs'⟩,.. }=>mx&&okOpds φ xs' xs | .call { callee:=.builtin .min,args:=⟨xs'⟩,.. } => !mx&&okOpds φ xs' xs|_=>false)
  | .build zero parts=>(match o.op with | .build t ps=>okZero P t zero&&okBuild P φ t ps.toList parts|_=>false)
  | .fnv f caps=>(match o.op with | .makeFunc (.func g) ⟨[]⟩ caps'=>g==φ f&&okOpds φ caps'.toList caps|_=>false)
  | .nilc x=>(match o.op with | .nilCheck x'=>okOpd φ x' x|_=>false)
  | .eqs neq ks x y=>(match o.op with | .binOp op t x' y' _=>op==(if neq then .neq else .eql)&&okOpd φ x' x&&okOpd φ y' y && !P.eqGuardType P.depth t && !P.stoodInHeld t&&okPlain P t ks|_=>false)
  | _=>false
end Pay
end
/- The operations that turn nothing: what the machine does at each is what the abstract machine says. -/
section
namespace Pay
open Go
theorem add_block (a:Addr)(n:Nat):(a.add n).block=a.block:=by unfold Addr.add;split <;> rfl
theorem add_add' (a:Addr)(i j:Nat):(a.add i).add j=a.add (i+j):=by
  unfold Addr.add
  by_cases hi:i=0 <;> by_cases hj:j=0 <;> simp [hi,hj,Nat.add_assoc]
theorem add_lit (g o n:Nat):(⟨g,o,none⟩:Addr).add n=⟨g,o+n,none⟩:=by unfold Addr.add;split <;> simp_all
section
variable {w:World}{ok:Nat→Prop}
theorem RepD.one {d:D}{u:Value}(h:RepD w ok d u):u.oneCell'=true:=by
  cases d with
  | int k n=>simp only [RepD] at h;subst h;rfl
  | bool b=>simp only [RepD] at h;subst h;rfl
  | str s=>simp only [RepD] at h;subst h;rfl
  | err b =>
    simp only [RepD] at h
    split at h
    · subst h;rfl
    · obtain ⟨t,u,rfl⟩:=h;rfl
  | sl es=>obtain ⟨A,cap,sz,rfl,_⟩:=h;rfl
theorem RepCs.get {a:Addr}:∀ {cs:List D}{off:Nat},RepCs w ok a off cs→∀ j c,cs[j]? = some c→∃ u,w.cell? (a.add (off+j))=some u∧RepD w ok c u
  | [],_,_,j,c,h=>by simp at h
  | c0::cs,off,r,j,c,h=>by
    cases j with
    | zero=>simp at h;subst h;exact r.1
    | succ j =>
      obtain ⟨u,hu,hr⟩:=RepCs.get r.2 j c (by simpa using h)
      exact ⟨u,by rw [← hu];congr 2;omega,hr⟩
theorem RepCs.of_get {a:Addr}:∀ {cs:List D}{off:Nat},(∀ j c,cs[j]? = some c→∃ u,w.cell? (a.add (off+j))=some u∧RepD w ok c u)→RepCs w ok a off cs
  | [],_,_=>trivial
  | c0::cs,off,h=>⟨by simpa using h 0 c0 rfl,RepCs.of_get fun j c hj=>by
      obtain ⟨u,hu,hr⟩:=h (j+1) c (by simpa using hj)
      exact ⟨u,by rw [← hu];congr 2;omega,hr⟩⟩
theorem RepCs.at_ {a:Addr}{cs:List D}{off k:Nat}(h:RepCs w ok a (off+k) cs):RepCs w ok (a.add off) k cs :=
  RepCs.of_get fun j c hj=>by
    obtain ⟨u,hu,hr⟩:=h.get j c hj
    exact ⟨u,by rw [add_add',← hu];congr 2;omega,hr⟩
theorem RepCs.drop {a:Addr}{cs:List D}(h:RepCs w ok a 0 cs)(k:Nat):RepCs w ok (a.add k) 0 (cs.drop k) :=
  RepCs.at_ (RepCs.of_get fun j c hj=>by
    rw [List.getElem?_drop] at hj
    obtain ⟨u,hu,hr⟩:=h.get (k+j) c hj
    exact ⟨u,by rw [← hu];congr 2;omega,hr⟩)
theorem RepEs.get {a:Addr}{sz:Nat}:∀ {es:List (List D)}{off:Nat},RepEs w ok a off es→(∀ e∈es,e.length=sz)→∀ i e,es[i]? = some e→RepCs w ok a (off+i*sz) e
  | [],_,_,_,i,e,h=>by simp at h
  | e0::es,off,r,hs,i,e,h=>by
    cases i with
    | zero=>simp at h;subst h;simpa using r.1
    | succ i =>
      have:=RepEs.get r.2 (fun e he=>hs e (by simp [he])) i e (by simpa using h)
      rw [hs e0 (by simp)] at this
      rwa [show off+(i+1)*sz=off+sz+i*sz by rw [Nat.succ_mul];omega]
theorem RepEs.of_get {a:Addr}{sz:Nat}:∀ {es:List (List D)}{off:Nat},(∀ e∈es,e.length=sz)→(∀ i e,es[i]? = some e→RepCs w ok a (off+i*sz) e)→RepEs w ok a off es
  | [],_,_,_=>trivial
  | e0::es,off,hs,h=>⟨by simpa using h 0 e0 rfl,RepEs.of_get (fun e he=>hs e (by simp [he])) fun i e hi=>by
      have:=h (i+1) e (by simpa using hi)
      rw [hs e0 (by simp)]
      rwa [show off+(i+1)*sz=off+sz+i*sz by rw [Nat.succ_mul];omega] at this⟩
theorem RepCs.take {a:Addr}{cs:List D}{off:Nat}(h:RepCs w ok a off cs)(k:Nat):RepCs w ok a off (cs.take k) :=
  RepCs.of_get fun j c hj=>by
    rw [List.getElem?_take] at hj
    split at hj
    · exact h.get j c hj
    · cases hj
theorem RepCs.load (C:Ctx)(γ:Nat→Value){a:Addr}:∀ {cs:List D}{off:Nat},RepCs w ok a off cs→∃ us:List Value,us.length=cs.length∧(∀ (j:Nat)(u:Value),us[j]? = some u→w.cell? (a.add (off+j))=some u) ∧
    RepVs C w ok γ (cs.map .d) us∧∀ u∈us,u.oneCell'=true
  | [],_,_=>⟨[],rfl,by simp,rfl,by simp⟩
  | c :: cs,off,h=>by
    obtain ⟨⟨u,hu,hr⟩,hrest⟩:=h
    obtain ⟨us,hl,hc,hv,h1⟩:=RepCs.load C γ hrest
    refine ⟨u::us,by simp [hl],fun j x hx => ?_,⟨u,us,rfl,hr,hv⟩,?_⟩
    · cases j with
      | zero=>simp at hx;subst hx;simpa using hu
      | succ j=>rw [← hc j x (by simpa using hx)];congr 2;omega
    · intro x hx
      rcases List.mem_cons.1 hx with rfl|hx
      · exact hr.one
      · exact h1 x hx
end
section
variable {C:Ctx}{w:World}{ok:Nat→Prop}{γ:Nat→Value}
theorem RepVs.length:∀ {cs:List V}{us:List Value},RepVs C w ok γ cs us→us.length=cs.length
  | [],_,h=>by simp only [RepVs] at h;subst h;rfl
  | c::cs,_,h=>by
    obtain ⟨u,us,rfl,_,hr⟩:=h
    simp [RepVs.length hr]
theorem RepVs.get:∀ {cs:List V}{us:List Value},RepVs C w ok γ cs us→∀ (i:Nat)(c:V),cs[i]? = some c→∃ u,us[i]? = some u∧RepV C w ok γ c u
  | [],_,_,i,c,hc=>by simp at hc
  | c0::cs,_,h,i,c,hc=>by
    obtain ⟨u,us,rfl,h0,hr⟩:=h
    cases i with
    | zero=>simp at hc;subst hc;exact ⟨u,rfl,h0⟩
    | succ i=>simpa using RepVs.get hr i c (by simpa using hc)
theorem RepVs.of_get:∀ {cs:List V}{us:List Value},us.length=cs.length→(∀ (i:Nat)(c:V)(u:Value),cs[i]? = some c→us[i]? = some u→RepV C w ok γ c u)→RepVs C w ok γ cs us
  | [],us,hl,_=>by simpa [RepVs] using hl
  | c::cs,[],hl,_=>by simp at hl
  | c::cs,u::us,hl,h=>⟨u,us,rfl,h 0 c u rfl rfl,RepVs.of_get (by simpa using hl) fun i c' u' hc hu=>h (i+1) c' u' (by simpa using hc) (by simpa using hu)⟩
theorem RepVs.drop {cs:List V}{us:List Value}(h:RepVs C w ok γ cs us)(k:Nat):RepVs C w ok γ (cs.drop k) (us.drop k) :=
  RepVs.of_get (by simp [h.length]) fun i c u hc hu=>by
    rw [List.getElem?_drop] at hc hu
    obtain ⟨u',hu',hr⟩:=h.get _ c hc
    rw [hu] at hu';injection hu' with hu';subst hu';exact hr
theorem RepVs.take {cs:List V}{us:List Value}(h:RepVs C w ok γ cs us)(k:Nat):RepVs C w ok γ (cs.take k) (us.take k) :=
  RepVs.of_get (by simp [h.length]) fun i c u hc hu=>by
    rw [List.getElem?_take] at hc hu
    split at hc
    · rename_i hlt
      rw [if_pos hlt] at hu
      obtain ⟨u',hu',hr⟩:=h.get _ c hc
      rw [hu] at hu';injection hu' with hu';subst hu';exact hr
    · cases hc
theorem RepVs.append {cs ds:List V}{us vs:List Value}(h:RepVs C w ok γ cs us)(k:RepVs C w ok γ ds vs):RepVs C w ok γ (cs++ds) (us++vs):=by
  induction cs generalizing us with
  | nil=>simp only [RepVs] at h;subst h;exact k
  | cons c cs ih =>
    obtain ⟨u,us,rfl,h0,hr⟩:=h
    exact ⟨u,us++vs,rfl,h0,ih hr⟩
theorem RepCells.get:∀ {ds:List D}{us:List Value},RepCells w ok ds us→∀ (i:Nat)(d:D),ds[i]? = some d→∃ u,us[i]? = some u∧RepD w ok d u
  | [],_,_,i,d,hd=>by simp at hd
  | _::_,[],h,_,_,_=>h.elim
  | d0::ds,u0::us,h,i,d,hd=>by
    cases i with
    | zero=>simp at hd;subst hd;exact ⟨u0,rfl,h.1⟩
    | succ i=>simpa using RepCells.get h.2 i d (by simpa using hd)
theorem RepCells.of_get:∀ {ds:List D}{us:List Value},(∀ (i:Nat)(d:D),ds[i]? = some d→∃ u,us[i]? = some u∧RepD w ok d u)→RepCells w ok ds us
  | [],_,_=>trivial
  | d::ds,[],h=>by obtain ⟨u,hu,_⟩:=h 0 d rfl;simp at hu
  | d::ds,u::us,h=>⟨by obtain ⟨u',hu,hr⟩:=h 0 d rfl;simp at hu;subst hu;exact hr,RepCells.of_get fun i d' hd=>by simpa using h (i+1) d' (by simpa using hd)⟩
end
theorem flat_get {α:Type}{sz:Nat}:∀ {es:List (List α)},(∀ e∈es,e.length=sz)→∀ (i:Nat)(e:List α)(j:Nat)(c:α),es[i]? = some e→e[j]? = some c→es.flatten[i*sz+j]? = some c
  | [],_,i,e,j,c,h,_=>by simp at h
  | e0::es,hs,i,e,j,c,hi,hj=>by
    have h0:e0.length=sz:=hs e0 (by simp)
    cases i with
    | zero =>
      simp at hi;subst hi
      have:j<e0.length:=(List.getElem?_eq_some_iff.1 hj).1
      simp [List.getElem?_append_left this,hj]
    | succ i =>
      have:=flat_get (es:=es) (fun e he=>hs e (List.mem_cons_of_mem _ he)) i _ j c (by simpa using hi) hj
      rw [List.flatten_cons,List.getElem?_append_right (by rw [h0,Nat.succ_mul];omega),h0]
      rw [← this];congr 1;rw [Nat.succ_mul];omega
theorem flat_length {α:Type}{sz:Nat}:∀ {es:List (List α)},(∀ e∈es,e.length=sz)→es.flatten.length=es.length*sz
  | [],_=>by simp
  | e::es,h=>by
    rw [List.flatten_cons,List.length_append,flat_length (fun e he=>h e (List.mem_cons_of_mem _ he)),h e (by simp),List.length_cons,Nat.succ_mul];omega
end Pay
end
/- The operations that turn nothing: what the machine does at each is what the abstract machine says. -/
section
set_option linter.unusedSimpArgs false
set_option linter.unusedVariables false
namespace Pay
open Go
section
variable {C:Ctx}{w0:World}{S M:Nat→Prop}{N:Nat}{γ:Nat→Value}{st:St}{a:Act}{w:World}{o:Oper}{v:V}
def Does (C:Ctx)(w0:World)(S:Nat→Prop)(γ:Nat→Value)(st:St)(a:Act)(w:World)(o:Oper)(v:V):Prop :=
  ∃ u,(execOp a.eval o).run C.P w = .ok (.value u) w∧RepV C w (okOf w0 S γ st.o w) γ v u
theorem sd_mv (hr:Rel C w0 S M N γ st a w){x:Opd}(hk:okP C.P C.φ o (.mv x)=true)(he:evP st (.mv x)=some v):Does C w0 S γ st a w o v:=by
  obtain ⟨dst,op,ty,pos,aft,g⟩:=o
  simp only [evP,Option.some.injEq] at he
  subst he
  cases op <;> simp [okP] at hk
  all_goals exact ⟨_,rfl,opd_rep hr hk⟩
theorem sd_pick (hr:Rel C w0 S M N γ st a w){x y z:Opd}(hk:okP C.P C.φ o (.pick x y z)=true)(he:evP st (.pick x y z)=some v):Does C w0 S γ st a w o v:=by
  obtain ⟨dst,op,ty,pos,aft,g⟩:=o
  cases op <;> simp [okP] at hk
  obtain ⟨⟨h1,h2⟩,h3⟩:=hk
  have r1:=opd_rep hr h1
  have r2:=opd_rep hr h2
  have r3:=opd_rep hr h3
  simp only [evP] at he
  split at he
  · rename_i t ht
    rw [ht] at r1
    simp only [RepV,RepD] at r1
    simp only [Option.some.injEq] at he
    subst he
    cases t
    · exact ⟨_,by (simp [execOp,r1,asBool];try rfl),by simpa using r3⟩
    · exact ⟨_,by (simp [execOp,r1,asBool];try rfl),by simpa using r2⟩
  · cases he
theorem sd_ext (hr:Rel C w0 S M N γ st a w){x:Opd}{i:Nat}(hk:okP C.P C.φ o (.ext x i)=true)(he:evP st (.ext x i)=some v):Does C w0 S γ st a w o v:=by
  obtain ⟨dst,op,ty,pos,aft,g⟩:=o
  cases op <;> simp [okP] at hk
  obtain ⟨rfl,h1⟩:=hk
  have r1:=opd_rep hr h1
  simp only [evP] at he
  split at he
  · rename_i vs ht
    rw [ht] at r1
    obtain ⟨us,hu,hv⟩:=r1
    obtain ⟨u,hu',hr'⟩:=hv.get _ _ he
    exact ⟨u,by simp [execOp,hu,Instr.extract,hu'],hr'⟩
  · cases he
theorem sd_un (hr:Rel C w0 S M N γ st a w){q:UnOp}{x:Opd}(hk:okP C.P C.φ o (.un q x)=true)(he:evP st (.un q x)=some v):Does C w0 S γ st a w o v:=by
  obtain ⟨dst,op,ty,pos,aft,g⟩:=o
  cases op <;> simp [okP] at hk
  obtain ⟨rfl,h1⟩:=hk
  have r1:=opd_rep hr h1
  simp only [evP] at he
  unfold unV at he
  split at he
  · rename_i k n ht
    rw [ht] at r1
    simp only [RepV,RepD] at r1
    split at he
    · simp only [Option.some.injEq] at he
      subst he
      exact ⟨_,by simp [execOp,r1,Op.unary,Op.intArith],rfl⟩
    · cases he
  · rename_i b ht
    rw [ht] at r1
    simp only [RepV,RepD] at r1
    split at he
    · simp only [Option.some.injEq] at he
      subst he
      exact ⟨_,by simp [execOp,r1,Op.unary],rfl⟩
    · cases he
  · cases he
theorem sd_conv (hr:Rel C w0 S M N γ st a w){k:IntKind}{x:Opd}(hk:okP C.P C.φ o (.conv k x)=true)(he:evP st (.conv k x)=some v):Does C w0 S γ st a w o v:=by
  obtain ⟨dst,op,ty,pos,aft,g⟩:=o
  cases op <;> simp [okP] at hk
  rename_i src dt y
  obtain ⟨⟨h0,h2⟩,h1⟩:=hk
  have r1:=opd_rep hr h1
  simp only [evP] at he
  split at he
  · rename_i k' n ht
    rw [ht] at r1
    simp only [RepV,RepD] at r1
    simp only [Option.some.injEq] at he
    subst he
    obtain ⟨d,hd⟩:=Option.isSome_iff_exists.1 h0
    split at h2
    · rename_i k2 h3
      have h2:=beq_iff_eq.1 h2
      subst h2
      exact ⟨_,by simp [execOp,r1,convert,run_underlying hd,run_underlying h3,Conv.intToInt],rfl⟩
    · cases h2
  · cases he
theorem sd_same (hr:Rel C w0 S M N γ st a w){x:Opd}(hk:okP C.P C.φ o (.same x)=true)(he:evP st (.same x)=some v):Does C w0 S γ st a w o v:=by
  obtain ⟨dst,op,ty,pos,aft,g⟩:=o
  cases op <;> simp [okP] at hk
  rename_i src dt y
  obtain ⟨⟨⟨h0,h2⟩,h1⟩,h4⟩:=hk
  have r1:=opd_rep hr h1
  simp only [evP] at he
  split at he
  · rename_i s ht
    rw [ht] at r1
    simp only [RepV,RepD] at r1
    simp only [Option.some.injEq] at he
    subst he
    obtain ⟨d,hd⟩:=Option.isSome_iff_exists.1 h0
    unfold strSlice at h2
    split at h2
    · rename_i h3
      refine ⟨_,?_,rfl⟩
      rw [hd] at h4
      cases d <;> simp at h4 <;> simp [execOp,r1,convert,run_underlying hd,run_underlying h3]
    · cases h2
  · cases he
theorem sd_bin (hr:Rel C w0 S M N γ st a w) {q:BinOp} {x y:Opd} (hk:okP C.P C.φ o (.bin q x y)=true) (he:evP st (.bin q x y)=some v):Does C w0 S γ st a w o v:=by
  obtain ⟨dst,op,ty,pos,aft,g⟩:=o
  cases op <;> simp [okP] at hk
  rename_i q' xt x' y' yt
  obtain ⟨⟨rfl,h1⟩,h2⟩:=hk
  have r1:=opd_rep hr h1
  have r2:=opd_rep hr h2
  simp only [evP] at he
  unfold binV at he
  split at he
  · rename_i k n k' m e1 e2
    rw [e1] at r1
    rw [e2] at r2
    simp only [RepV,RepD] at r1 r2
    have hg:(eqGuard q xt x' y' (a.eval x') (a.eval y')).run C.P w = .ok () w:=eqGuard_run (by rw [r1];exact .inl (by simp)) (by rw [r1];simp)
    rw [r1,r2] at hg
    cases q
    case shl|shr =>
      simp only [Option.map_eq_some_iff] at he
      obtain ⟨d,hd,rfl⟩:=he
      unfold shInt at hd
      split at hd
      · cases hd
      · rename_i hn
        simp only [Option.some.injEq] at hd
        subst hd
        exact ⟨_,by (simp [execOp,hg,r1,r2,binOp,Op.shift,hn];try rfl),rfl⟩
    all_goals
      simp only at he
      split at he
      · rename_i hkk
        subst hkk
        simp only [Option.map_eq_some_iff] at he
        obtain ⟨d,hd,rfl⟩:=he
        simp only [binInt] at hd
        first
          | (simp only [Option.some.injEq] at hd
             subst hd
             exact ⟨_,by (simp [execOp,hg,r1,r2,binOp,Op.intArith,Op.intCmp,Op.intBits,andI,orI];try rfl),rfl⟩)
          | (split at hd
             · cases hd
             · rename_i hn
               simp only [Option.some.injEq] at hd
               subst hd
               exact ⟨_,by (simp [execOp,hg,r1,r2,binOp,Op.intDiv,hn];try rfl),rfl⟩)
          | cases hd
      · cases he
  · rename_i s1 s2 e1 e2
    rw [e1] at r1
    rw [e2] at r2
    simp only [RepV,RepD] at r1 r2
    have hg:(eqGuard q xt x' y' (a.eval x') (a.eval y')).run C.P w = .ok () w:=eqGuard_run (by rw [r1];exact .inl (by simp)) (by rw [r1];simp)
    rw [r1,r2] at hg
    simp only [Option.map_eq_some_iff] at he
    obtain ⟨d,hd,rfl⟩:=he
    have e3:∀ l:List UInt8,(ByteArray.mk l.toArray).toList=l:=fun l=>by rw [ByteArray.toList_eq]
    cases q <;> simp only [binStr] at hd
    case add =>
      split at hd
      · rename_i hl
        simp only [Option.some.injEq] at hd
        subst hd
        refine ⟨.string ⟨(s1++s2).toArray⟩,?_,rfl⟩
        have:=run_string_add_sum (P:=C.P) (w:=w) ⟨s1.toArray⟩ ⟨s2.toArray⟩ (by simpa [ByteArray.size] using hl)
        simp only [execOp,hg,r1,r2,binOp,Sem.run_bind,Result.andThen_ok,this,ByteArray.mk_append_mk,Sem.run_pure]
      · cases hd
    case eql|neq =>
      simp only [Option.some.injEq] at hd
      subst hd
      exact ⟨_,by (simp [execOp,hg,r1,r2,binOp,Op.stringOp,e3];try rfl),rfl⟩
    all_goals cases hd
  · cases he
theorem sd_beq (hr:Rel C w0 S M N γ st a w){q:Bool}{x y:Opd}(hk:okP C.P C.φ o (.beq q x y)=true)(he:evP st (.beq q x y)=some v):Does C w0 S γ st a w o v:=by
  obtain ⟨dst,op,ty,pos,aft,g⟩:=o
  cases op <;> simp [okP] at hk
  rename_i op' xt x' y' yt
  obtain ⟨⟨⟨h0,h1⟩,h2⟩,h3⟩:=hk
  have r1:=opd_rep hr h1
  have r2:=opd_rep hr h2
  simp only [evP] at he
  split at he
  · rename_i b c e1 e2
    rw [e1] at r1
    rw [e2] at r2
    simp only [RepV,RepD] at r1 r2
    have hg:(eqGuard op' xt x' y' (a.eval x') (a.eval y')).run C.P w = .ok () w:=eqGuard_run (by rw [r1];exact .inl (by simp)) (by rw [r1];simp)
    split at h3
    · rename_i hu3
      have hd:∀ d:Nat,(Op.equalIn (d+1) xt (.bool b) (.bool c)).run C.P w = .ok (b==c) w:=fun d=>by simp [Op.equalIn,run_underlying hu3]
      have hq:(Op.equal xt (.bool b) (.bool c)).run C.P w = .ok (b==c) w:=hd 9999
      rw [r1,r2] at hg
      simp only [Option.some.injEq] at he
      subst he
      cases q <;> simp only [if_true,Bool.false_eq_true,if_false] at h0 ⊢ <;> subst h0
      · exact ⟨.bool (b==c),by simp [execOp,hg,r1,r2,binOp,hq],rfl⟩
      · exact ⟨.bool (!(b==c)),by simp [execOp,hg,r1,r2,binOp,hq],rfl⟩
    · cases h3
  · cases he
theorem sd_nilE (hr:Rel C w0 S M N γ st a w) {q:Bool} {x:Opd} (hk:okP C.P C.φ o (.nilE q x)=true) (he:evP st (.nilE q x)=some v):Does C w0 S γ st a w o v:=by
  obtain ⟨dst,op,ty,pos,aft,g⟩:=o
  simp only [evP] at he
  split at he
  case h_2=>cases he
  rename_i b e1
  simp only [Option.some.injEq] at he
  subst he
  simp only [okP] at hk
  split at hk
  case h_2=>cases hk
  rename_i op' xt x' yt
  simp only [Bool.and_eq_true,beq_iff_eq] at hk
  obtain ⟨⟨h0,h1⟩,h3⟩:=hk
  have r1:=opd_rep hr h1
  split at h3
  case h_2=>cases h3
  rename_i ms hu3
  rw [e1] at r1
  simp only [RepV,RepD] at r1
  have hg:(eqGuard op' xt x' (.const .nilIface) (a.eval x') .nilIface).run C.P w = .ok () w:=by
    refine eqGuard_run (.inr (.inr ⟨_,rfl⟩)) ?_
    intro cs hcs
    rw [hcs] at r1
    split at r1
    · cases r1
    · obtain ⟨t,u,h⟩:=r1
      cases h
  have hq:(Op.equal xt (a.eval x') .nilIface).run C.P w = .ok b w:=by
    have hd:∀ d:Nat,(Op.equalIn (d+1) xt (a.eval x') .nilIface).run C.P w = .ok b w:=by
      intro d
      split at r1
      · rename_i hx
        rw [r1,hx]
        simp [Op.equalIn,run_underlying hu3]
      · rename_i hx
        obtain ⟨t,u,r1⟩:=r1
        rw [r1]
        simp [Op.equalIn,run_underlying hu3,hx]
    exact hd 9999
  have hev:a.eval (.const .nilIface) = .nilIface:=rfl
  have hb1:(binOp .eql xt (a.eval x') .nilIface).run C.P w = .ok (.bool b) w:=by
    split at r1
    · rw [r1] at hq ⊢;simp [binOp,hq]
    · obtain ⟨t,u,r1⟩:=r1;rw [r1] at hq ⊢;simp [binOp,hq]
  have hb2:(binOp .neq xt (a.eval x') .nilIface).run C.P w = .ok (.bool (!b)) w:=by
    split at r1
    · rw [r1] at hq ⊢;simp [binOp,hq]
    · obtain ⟨t,u,r1⟩:=r1;rw [r1] at hq ⊢;simp [binOp,hq]
  cases q <;> simp only [if_true,Bool.false_eq_true,if_false] at h0 ⊢ <;> subst h0
  · exact ⟨.bool b,by simp [execOp,hev,hg,hb1],rfl⟩
  · exact ⟨.bool (!b),by simp [execOp,hev,hg,hb2],rfl⟩
theorem sd_nilP (hr:Rel C w0 S M N γ st a w){q:Bool}{x:Opd}(hk:okP C.P C.φ o (.nilP q x)=true)(he:evP st (.nilP q x)=some v):Does C w0 S γ st a w o v:=by
  obtain ⟨dst,op,ty,pos,aft,g⟩:=o
  simp only [okP] at hk
  split at hk
  case h_2=>cases hk
  rename_i op' xt x' yt
  simp only [Bool.and_eq_true,beq_iff_eq] at hk
  obtain ⟨⟨h0,h1⟩,h3⟩:=hk
  have r1:=opd_rep hr h1
  split at h3
  case h_2=>cases h3
  rename_i ms hu3
  have hev:a.eval (.const (.pointer none)) = .pointer none:=rfl
  have key:∀ p:Option Addr,a.eval x' = .pointer p→Does C w0 S γ st a w { dst:=dst,op:=.binOp op' xt x' (.const (.pointer none)) yt,type:=ty,pos:=pos,after:=aft,guard:=g } (.d (.bool (if q=true then !p.isNone else p.isNone))):=by
    intro p hp
    have hg:(eqGuard op' xt x' (.const (.pointer none)) (a.eval x') (.pointer none)).run C.P w = .ok () w:=eqGuard_run (.inr (.inl (by simp))) (by rw [hp];simp)
    have hd:∀ d:Nat,(Op.equalIn (d+1) xt (.pointer p) (.pointer none)).run C.P w = .ok p.isNone w:=fun d=>by
      cases p <;> simp [Op.equalIn,run_underlying hu3]
    have hq:(Op.equal xt (.pointer p) (.pointer none)).run C.P w = .ok p.isNone w:=hd 9999
    rw [hp] at hg
    cases q <;> simp only [if_true,Bool.false_eq_true,if_false] at h0 ⊢ <;> subst h0
    · exact ⟨.bool p.isNone,by simp [execOp,hev,hg,hp,binOp,hq],rfl⟩
    · exact ⟨.bool (!p.isNone),by simp [execOp,hev,hg,hp,binOp,hq],rfl⟩
  simp only [evP] at he
  split at he
  · rename_i n off e1
    rw [e1] at r1
    obtain ⟨g',_,r1⟩:=r1
    simp only [Option.some.injEq] at he
    subst he
    have:=key _ r1
    cases q <;> simpa using this
  · rename_i e1
    rw [e1] at r1
    simp only [RepV] at r1
    simp only [Option.some.injEq] at he
    subst he
    have:=key _ r1
    cases q <;> simpa using this
  · cases he
theorem bnd_some {mx:Nat}{x:V}{k:Nat}{u:Value}{ok:Nat→Prop}(h:bnd mx x=some k)(hr:RepV C w ok γ x u):∃ kd i,u = .int kd i∧0≤i∧i≤(mx:Int)∧i.toNat=k:=by
  unfold bnd at h
  split at h
  · rename_i kd i
    split at h
    · rename_i hi
      simp only [Option.some.injEq] at h
      simp only [RepV,RepD] at hr
      exact ⟨kd,i,hr,hi.1,hi.2,h⟩
    · cases h
  · cases h
theorem run_bnd {P:Program}{kd:IntKind}{i:Int}{y:Nat}{code:BoundsCode}(h0:0≤i)(h1:i≤(y:Int)):(Instr.sliceBound (.int kd i) y code).run P w = .ok i.toNat w:=by
  simp [Instr.sliceBound,asIntOf,h0,h1]
theorem run_bounds {P:Program} {φ:Nat→FuncId} {isS:Bool} {len cap:Nat} {lo hi:Option Opd} {lo' hi':Option Operand} {h l:Nat} (hlc:len≤cap)
    (hh:bndO len len (hi.map (opd st.s))=some h) (hl:bndO 0 h (lo.map (opd st.s))=some l) (hr:Rel C w0 S M N γ st a w)
    (k1:okOpdO C.φ lo' lo=true) (k2:okOpdO C.φ hi' hi=true) :
    (Instr.sliceBounds isS len cap (lo'.map a.eval) (hi'.map a.eval) none).run C.P w = .ok (l,h,cap) w∧l≤h∧h≤len:=by
  have e1:h≤len:=by
    cases hi with
    | none=>simp [bndO] at hh;omega
    | some v =>
      simp only [Option.map_some,bndO] at hh
      unfold bnd at hh
      split at hh
      · split at hh
        · simp only [Option.some.injEq] at hh;omega
        · cases hh
      · cases hh
  have e2:l≤h:=by
    cases lo with
    | none=>simp [bndO] at hl;omega
    | some v =>
      simp only [Option.map_some,bndO] at hl
      unfold bnd at hl
      split at hl
      · split at hl
        · simp only [Option.some.injEq] at hl;omega
        · cases hl
      · cases hl
  refine ⟨?_,e2,e1⟩
  have hhi:∀ code,(match hi'.map a.eval with|some v=>Instr.sliceBound v cap code|none=>pure len:Sem Nat).run C.P w = .ok h w:=by
    intro code
    cases hi with
    | none =>
      cases hi' with
      | none=>simp [bndO] at hh;simp [hh]
      | some _=>simp [okOpdO] at k2
    | some v =>
      cases hi' with
      | none=>simp [okOpdO] at k2
      | some x =>
        simp only [okOpdO] at k2
        simp only [Option.map_some,bndO] at hh
        obtain ⟨kd,i,hu,h0,h1,rfl⟩:=bnd_some hh (opd_rep hr k2)
        simp only [Option.map_some,hu]
        exact run_bnd h0 (by omega)
  have hlo:∀ code,(match lo'.map a.eval with|some v=>Instr.sliceBound v h code|none=>pure 0:Sem Nat).run C.P w = .ok l w:=by
    intro code
    cases lo with
    | none =>
      cases lo' with
      | none=>simp [bndO] at hl;simp [← hl]
      | some _=>simp [okOpdO] at k1
    | some v =>
      cases lo' with
      | none=>simp [okOpdO] at k1
      | some x =>
        simp only [okOpdO] at k1
        simp only [Option.map_some,bndO] at hl
        obtain ⟨kd,i,hu,h0,h1,rfl⟩:=bnd_some hl (opd_rep hr k1)
        simp only [Option.map_some,hu]
        exact run_bnd h0 h1
  unfold Instr.sliceBounds
  cases hq:hi'.map a.eval with
  | none =>
    have h1:=hhi .sliceAlen
    rw [hq] at h1
    simp only at h1
    cases hp:lo'.map a.eval with
    | none =>
      have h2:=hlo .sliceB
      rw [hp] at h2
      simp_all
    | some v =>
      have h2:=hlo .sliceB
      rw [hp] at h2
      simp only at h2
      simp_all
  | some v =>
    have h1:=hhi (if isS then .sliceAcap else .sliceAlen)
    rw [hq] at h1
    simp only at h1
    cases hp:lo'.map a.eval with
    | none =>
      have h2:=hlo .sliceB
      rw [hp] at h2
      simp_all
    | some v =>
      have h2:=hlo .sliceB
      rw [hp] at h2
      simp only at h2
      simp_all
end
end Pay
end
/- The operations that turn nothing, the second half: memory that is read, places, cuts, lengths. -/
section
set_option linter.unusedSimpArgs false
set_option linter.unusedVariables false
namespace Pay
open Go
section
variable {C:Ctx}{w0:World}{S M:Nat→Prop}{N:Nat}{γ:Nat→Value}{st:St}{a:Act}{w:World}{o:Oper}{v:V}
theorem okShape_one {P:Program}{t:TypeId}(h:okShape P t none=true):(isAgg t).run P w = .ok false w:=by
  unfold okShape at h
  split at h
  · simp at h
  · simp at h
  · rename_i d i h1 h2 hs ha
    unfold isAgg
    rw [Sem.run_bind,run_underlying hs w]
    cases d <;> simp_all
  · cases h
theorem okShape_many {P:Program}{t:TypeId}{n:Nat}(h:okShape P t (some n)=true):(isAgg t).run P w = .ok true w∧(Go.sizeOf t).run P w = .ok n w:=by
  unfold okShape at h
  split at h
  · rename_i f i hs hi
    simp only [beq_iff_eq,Option.some.injEq] at h
    subst h
    exact ⟨by unfold isAgg;rw [Sem.run_bind,run_underlying hs w];rfl,by simp [Go.sizeOf,typeInfo,hi]⟩
  · rename_i f e i hs hi
    simp only [beq_iff_eq,Option.some.injEq] at h
    subst h
    exact ⟨by unfold isAgg;rw [Sem.run_bind,run_underlying hs w];rfl,by simp [Go.sizeOf,typeInfo,hi]⟩
  · simp at h
  · cases h
theorem run_loadVar_one {P:Program}{t:TypeId}{p:Addr}{u:Value}(h:okShape P t none=true)(hc:w.cell? p=some u):(loadVar t p).run P w = .ok u w:=by
  simp [loadVar,okShape_one h,hc]
theorem run_loadVar_many {P:Program}{t:TypeId}{p:Addr}{us:List Value}(h:okShape P t (some us.length)=true)(hc:∀ (j:Nat)(u:Value),us[j]? = some u→w.cell? (p.add j)=some u) :
    (loadVar t p).run P w = .ok (.agg ⟨us⟩) w:=by
  obtain ⟨h1,h2⟩:=okShape_many (w:=w) h
  have h3:=run_loadCells_list (P:=P) w p us hc
  simp [loadVar,h1,h2,h3]
theorem row_cell {es:List (List D)}{sz:Nat}{u:Value}(h:RepO C w (okOf w0 S γ st.o w) γ (.row sz es) u){i j:Nat}{e:List D}{c:D}(hi:es[i]? = some e)(hj:e[j]? = some c) :
    ∃ g cap us ty x,u = .slice (some ⟨g,0,none⟩) es.length cap∧w.heap[g]? = some (.cells ⟨us⟩ ty (0,0))∧us[i*sz+j]? = some x∧RepD w (okOf w0 S γ st.o w) c x:=by
  rcases h with ⟨rfl,_⟩|⟨g,cap,us,ty,rfl,_,hg,_,_,_,hs,hc,_⟩
  · simp at hi
  · obtain ⟨x,hx,hr⟩:=hc.get _ _ (flat_get hs i e j c hi hj)
    exact ⟨g,cap,us,ty,x,rfl,hg,hx,hr⟩
theorem sd_load (hr:Rel C w0 S M N γ st a w) {n:Option Nat} {p:Opd} (hk:okP C.P C.φ o (.load n p)=true) (he:evP st (.load n p)=some v):Does C w0 S γ st a w o v:=by
  obtain ⟨dst,op,ty,pos,aft,gd⟩:=o
  cases op <;> simp [okP] at hk
  rename_i t x'
  obtain ⟨h0,h1⟩:=hk
  have r1:=opd_rep hr h1
  simp only [evP] at he
  unfold loadV at he
  split at he
  · -- one cell of a box
    rename_i nm off e1
    rw [e1] at r1
    obtain ⟨g,hg,r1⟩:=r1
    split at he
    · rename_i cs hb
      obtain ⟨g',us,ty',e2,hh,hv,_⟩:=hr.objs nm _ hb
      rw [hg] at e2
      simp only [Value.pointer.injEq,Option.some.injEq,Addr.mk.injEq,and_true] at e2
      subst e2
      obtain ⟨u,hu,hru⟩:=hv.get _ _ he
      have hc:w.cell? ⟨g,off,none⟩=some u:=by rw [cell_of_row w g off _ _ _ hh];simpa using hu
      exact ⟨u,by simp [execOp,r1,Instr.loadAt,Instr.sureAddr,run_loadVar_one h0 hc],hru⟩
    · cases he
  · -- a struct in a box
    rename_i k nm off e1
    rw [e1] at r1
    obtain ⟨g,hg,r1⟩:=r1
    split at he
    · rename_i cs hb
      obtain ⟨g',us,ty',e2,hh,hv,hone⟩:=hr.objs nm _ hb
      rw [hg] at e2
      simp only [Value.pointer.injEq,Option.some.injEq,Addr.mk.injEq,and_true] at e2
      subst e2
      split at he
      · rename_i hlen
        simp only [Option.some.injEq] at he
        subst he
        have hl:=hv.length
        have hn:((us.drop off).take k).length=k:=by simp;omega
        have hc:∀ (j:Nat) (u:Value),((us.drop off).take k)[j]? = some u→w.cell? ((⟨g,off,none⟩:Addr).add j)=some u:=by
          intro j u hu
          rw [List.getElem?_take] at hu
          split at hu
          · rw [List.getElem?_drop] at hu
            rw [add_lit,cell_of_row w g _ _ _ _ hh]
            simpa using hu
          · cases hu
        have:=run_loadVar_many (P:=C.P) (t:=t) (p:=⟨g,off,none⟩) (us:=(us.drop off).take k) (by rw [hn];exact h0) hc
        refine ⟨_,by (simp [execOp,r1,Instr.loadAt,Instr.sureAddr,this];try rfl),⟨_,rfl,(hv.drop off).take k,fun u hu=>hone u (List.mem_of_mem_drop (List.mem_of_mem_take hu))⟩⟩
      · cases he
    · cases he
  · -- one cell of an element
    rename_i cs e1
    rw [e1] at r1
    obtain ⟨ad,r1,hok,hcs⟩:=r1
    split at he
    · rename_i c cs'
      simp only [Option.some.injEq] at he
      subst he
      obtain ⟨⟨u,hu,hru⟩,_⟩:=hcs
      have hc:w.cell? ad=some u:=by simpa [Addr.add] using hu
      exact ⟨u,by simp [execOp,r1,Instr.loadAt,Instr.sureAddr,run_loadVar_one h0 hc],hru⟩
    · cases he
  · rename_i k cs e1
    rw [e1] at r1
    obtain ⟨ad,r1,hok,hcs⟩:=r1
    split at he
    · rename_i hlen
      simp only [Option.some.injEq] at he
      subst he
      obtain ⟨us,hl,hc,hv,hone⟩:=RepCs.load C γ (hcs.take k)
      have hn:us.length=k:=by rw [hl,List.length_take];omega
      subst hn
      have:=run_loadVar_many (P:=C.P) (t:=t) (p:=ad) (us:=us) h0 (fun j u hu=>by simpa using hc j u hu)
      exact ⟨_,by (simp [execOp,r1,Instr.loadAt,Instr.sureAddr,this];try rfl),⟨us,rfl,hv,hone⟩⟩
    · cases he
  · -- one cell of a row's element
    rename_i nm sz i off e1
    rw [e1] at r1
    obtain ⟨g,l,c0,hg,r1⟩:=r1
    split at he
    · rename_i sz' es hb
      split at he
      · rename_i hsz
        subst hsz
        split at he
        · rename_i e hi
          split at he
          · rename_i c hj
            simp only [Option.some.injEq] at he
            subst he
            obtain ⟨g',cap,us,ty',x,e2,hh,hx,hrx⟩:=row_cell (hr.objs nm _ hb) hi hj
            rw [hg] at e2
            simp only [Value.slice.injEq,Option.some.injEq,Addr.mk.injEq,and_true] at e2
            obtain ⟨rfl,_⟩:=e2
            have hc:w.cell? ⟨g,i*sz+off,none⟩=some x:=by rw [cell_of_row w g _ _ _ _ hh];simpa using hx
            exact ⟨x,by simp [execOp,r1,Instr.loadAt,Instr.sureAddr,run_loadVar_one h0 hc],hrx⟩
          · cases he
        · cases he
      · cases he
    · cases he
  · rename_i k nm sz i off e1
    rw [e1] at r1
    obtain ⟨g,l,c0,hg,r1⟩:=r1
    split at he
    · rename_i sz' es hb
      split at he
      · rename_i hsz
        subst hsz
        split at he
        · rename_i e hi
          split at he
          · rename_i hlen
            simp only [Option.some.injEq] at he
            subst he
            have hcs:RepCs w (okOf w0 S γ st.o w) ⟨g,i*sz+off,none⟩ 0 ((e.drop off).take k):=by
              refine RepCs.of_get fun j c hj => ?_
              rw [List.getElem?_take] at hj
              split at hj
              · rw [List.getElem?_drop] at hj
                obtain ⟨g',cap,us,ty',x,e2,hh,hx,hrx⟩:=row_cell (hr.objs nm _ hb) hi hj
                rw [hg] at e2
                simp only [Value.slice.injEq,Option.some.injEq,Addr.mk.injEq,and_true] at e2
                obtain ⟨rfl,_⟩:=e2
                refine ⟨x,?_,hrx⟩
                rw [add_lit,cell_of_row w g _ _ _ _ hh,← Array.getElem?_toList,← hx]
                congr 1;omega
              · cases hj
            obtain ⟨us,hl,hc,hv,hone⟩:=RepCs.load C γ hcs
            have hn:us.length=k:=by rw [hl,List.length_take,List.length_drop];omega
            subst hn
            have:=run_loadVar_many (P:=C.P) (t:=t) (p:=⟨g,i*sz+off,none⟩) (us:=us) h0 (fun j u hu=>by simpa using hc j u hu)
            exact ⟨_,by (simp [execOp,r1,Instr.loadAt,Instr.sureAddr,this];try rfl),⟨us,rfl,hv,hone⟩⟩
          · cases he
        · cases he
      · cases he
    · cases he
  · cases he
theorem okField_run {P:Program} {s:TypeId} {f off:Nat} {n:Option (Option Nat)} (h:okField P s f off n=true):∃ fs fl i,P.underlying s=some (.struct fs)∧fs[f]? = some fl∧fl.offset=off∧P.info? fl.type=some i∧i.size≠0 ∧
    ∀ k,n=some k→okShape P fl.type k=true:=by
  unfold okField at h
  split at h
  · rename_i fs hs
    split at h
    · rename_i fl hf
      simp only [Bool.and_eq_true,beq_iff_eq] at h
      obtain ⟨⟨h1,h2⟩,h3⟩:=h
      split at h2
      · rename_i i hi
        refine ⟨fs,fl,i,hs,hf,h1,hi,by simpa using h2,fun k hk => ?_⟩
        subst hk
        exact h3
      · cases h2
    · cases h
  · cases h
theorem sd_faddr (hr:Rel C w0 S M N γ st a w){off:Nat}{p:Opd}(hk:okP C.P C.φ o (.faddr off p)=true)(he:evP st (.faddr off p)=some v):Does C w0 S γ st a w o v:=by
  obtain ⟨dst,op,ty,pos,aft,gd⟩:=o
  cases op <;> simp [okP] at hk
  rename_i t x' f
  obtain ⟨h0,h1⟩:=hk
  obtain ⟨fs,fl,i,hs,hf,rfl,hi,hne,_⟩:=okField_run h0
  have r1:=opd_rep hr h1
  have hrun:∀ p:Addr,(Instr.fieldAt t (.pointer (some p)) f).run C.P w = .ok (.pointer (some (p.add fl.offset))) w:=by
    intro p
    simp [Instr.fieldAt,run_underlying hs,hf,Instr.sureAddr,fieldPlace,Go.sizeOf,typeInfo,hi,hne]
  simp only [evP] at he
  unfold faddrV at he
  split at he
  · rename_i nm o1 e1
    rw [e1] at r1
    obtain ⟨g,hg,r1⟩:=r1
    simp only [Option.some.injEq] at he
    subst he
    exact ⟨_,by (simp [execOp,r1,hrun];try rfl),⟨g,hg,by rw [add_lit]⟩⟩
  · rename_i cs e1
    rw [e1] at r1
    obtain ⟨ad,r1,hok,hcs⟩:=r1
    simp only [Option.some.injEq] at he
    subst he
    exact ⟨_,by (simp [execOp,r1,hrun];try rfl),⟨_,rfl,by rw [add_block];exact hok,hcs.drop _⟩⟩
  · rename_i nm sz i1 o1 e1
    rw [e1] at r1
    obtain ⟨g,l,c0,hg,r1⟩:=r1
    simp only [Option.some.injEq] at he
    subst he
    exact ⟨_,by (simp [execOp,r1,hrun];try rfl),⟨g,l,c0,hg,by rw [add_lit];simp [Nat.add_assoc]⟩⟩
  · cases he
theorem run_part {P:Program}{t:TypeId}{n:Option Nat}(h:okShape P t n=true){cs:List V}{us:List Value}{ok:Nat→Prop}(hv:RepVs C w ok γ cs us)(hone:∀ u∈us,u.oneCell'=true){off:Nat}{v:V}(he:fldV off n (.agg cs)=some v) :
    ∃ u,(part t ⟨us⟩ off).run P w = .ok u w∧RepV C w ok γ v u:=by
  unfold fldV at he
  split at he
  · rename_i cs' heq
    simp only [V.agg.injEq] at heq
    subst heq
    obtain ⟨u,hu,hru⟩:=hv.get _ _ he
    exact ⟨u,by simp [part,okShape_one h,hu],hru⟩
  · rename_i k cs' heq
    simp only [V.agg.injEq] at heq
    subst heq
    split at he
    · simp only [Option.some.injEq] at he
      subst he
      obtain ⟨h1,h2⟩:=okShape_many (w:=w) h
      refine ⟨.agg ⟨(us.drop off).take k⟩,?_,⟨_,rfl,(hv.drop off).take k,fun u hu=>hone u (List.mem_of_mem_drop (List.mem_of_mem_take hu))⟩⟩
      simp only [part,Sem.run_bind,h1,Result.andThen_ok,if_true,h2,Sem.run_pure]
      congr 2
      apply Array.ext'
      simp [List.drop_take]
    · cases he
  · cases he
theorem sd_fld (hr:Rel C w0 S M N γ st a w){off:Nat}{n:Option Nat}{x:Opd}(hk:okP C.P C.φ o (.fld off n x)=true)(he:evP st (.fld off n x)=some v):Does C w0 S γ st a w o v:=by
  obtain ⟨dst,op,ty,pos,aft,gd⟩:=o
  cases op <;> simp [okP] at hk
  rename_i t x' f
  obtain ⟨h0,h1⟩:=hk
  obtain ⟨fs,fl,i,hs,hf,rfl,hi,hne,hsh⟩:=okField_run h0
  have r1:=opd_rep hr h1
  simp only [evP] at he
  cases hx:opd st.s x with
  | agg cs =>
    rw [hx] at r1 he
    obtain ⟨us,r1,hv,hone⟩:=r1
    obtain ⟨u,hu,hru⟩:=run_part (P:=C.P) (hsh _ rfl) hv hone he
    exact ⟨u,by simp [execOp,r1,Instr.field,run_underlying hs,hf,asAgg,hu],hru⟩
  | _=>rw [hx] at he;cases n <;> simp [fldV] at he
theorem okSlice_run {P:Program}{t:TypeId}{sz:Nat}(h:okSlice P t sz=true):∃ e i,P.underlying t=some (.slice e)∧P.info? e=some i∧i.size=sz∧sz≠0:=by
  unfold okSlice at h
  split at h
  · rename_i e hs
    split at h
    · rename_i i hi
      simp only [Bool.and_eq_true,beq_iff_eq,bne_iff_ne] at h
      exact ⟨e,i,hs,hi,h.1,h.2⟩
    · cases h
  · cases h
theorem okArray_run {P:Program} {t:TypeId} {len sz:Nat} {e:TypeId} (h:okArray P t len sz=some e):∃ i,P.underlying t=some (.array len e)∧P.info? e=some i∧i.size=sz:=by
  unfold okArray at h
  split at h
  · rename_i n e' hs
    split at h
    · rename_i i hi
      split at h
      · rename_i hh
        simp only [Option.some.injEq] at h
        subst h
        obtain ⟨rfl,rfl⟩:=hh
        exact ⟨i,hs,hi,rfl⟩
      · cases h
    · cases h
  · cases h
theorem sd_iaddr (hr:Rel C w0 S M N γ st a w) {sz:Nat} {x i:Opd} (hk:okP C.P C.φ o (.iaddr sz x i)=true) (he:evP st (.iaddr sz x i)=some v):Does C w0 S γ st a w o v:=by
  obtain ⟨dst,op,ty,pos,aft,gd⟩:=o
  cases op <;> simp [okP] at hk
  rename_i t x' i'
  obtain ⟨⟨h0,h1⟩,h2⟩:=hk
  obtain ⟨e,inf,hs,hi,rfl,hne⟩:=okSlice_run h0
  have r1:=opd_rep hr h1
  have r2:=opd_rep hr h2
  simp only [evP] at he
  unfold iaddrV at he
  split at he
  · rename_i es kd n e1 e2
    rw [e1] at r1
    rw [e2] at r2
    simp only [RepV,RepD] at r2
    obtain ⟨A,cap,sz',hx,hlc,hsz,hc⟩:=r1
    split at he
    · rename_i h0n
      split at he
      · rename_i el hel
        split at he
        · rename_i hlen
          simp only [Option.some.injEq] at he
          subst he
          have hlt:n.toNat<es.length:=(List.getElem?_eq_some_iff.1 hel).1
          obtain ⟨ad,rfl,hok,hes⟩:=hc (by intro h;simp [h] at hlt)
          have hsz':sz'=inf.size:=by rw [← hlen];exact (hsz el (List.mem_of_getElem? hel)).symm
          subst hsz'
          have hcs:=hes.get hsz _ _ hel
          refine ⟨.pointer (some (ad.add (n.toNat*inf.size))),?_,⟨_,rfl,by rw [add_block];exact hok,RepCs.at_ (by simpa using hcs)⟩⟩
          have hlt':n<(es.length:Int):=by omega
          simp [execOp,hx,r2,Instr.indexAt,asIntOf,run_underlying hs,h0n,hlt',Go.sizeOf,typeInfo,hi]
        · cases he
      · cases he
    · cases he
  · rename_i nm kd n e1 e2
    rw [e1] at r1
    rw [e2] at r2
    simp only [RepV,RepD] at r2
    replace r1:=r1.1
    split at he
    · rename_i sz' es hb
      split at he
      · rename_i hh
        obtain ⟨rfl,h0n,hlt⟩:=hh
        simp only [Option.some.injEq] at he
        subst he
        rcases hr.objs nm _ hb with ⟨rfl,_⟩|⟨g,cap,us,ty',hgm,_,hh,_⟩
        · simp at hlt;omega
        · refine ⟨.pointer (some ⟨g,n.toNat*inf.size,none⟩),?_,⟨g,_,_,hgm,by simp⟩⟩
          rw [hgm] at r1
          simp [execOp,r1,r2,Instr.indexAt,asIntOf,run_underlying hs,h0n,hlt,Go.sizeOf,typeInfo,hi,add_lit]
      · cases he
    · cases he
  · cases he
theorem sd_iaddrA (hr:Rel C w0 S M N γ st a w){len sz:Nat}{x i:Opd}(hk:okP C.P C.φ o (.iaddrA len sz x i)=true)(he:evP st (.iaddrA len sz x i)=some v):Does C w0 S γ st a w o v:=by
  obtain ⟨dst,op,ty,pos,aft,gd⟩:=o
  cases op <;> simp [okP] at hk
  rename_i t x' i'
  obtain ⟨⟨h0,h1⟩,h2⟩:=hk
  obtain ⟨e,h0⟩:=Option.isSome_iff_exists.1 h0
  obtain ⟨inf,hs,hi,rfl⟩:=okArray_run h0
  have r1:=opd_rep hr h1
  have r2:=opd_rep hr h2
  simp only [evP] at he
  unfold iaddrAV at he
  split at he
  · rename_i nm off kd n e1 e2
    rw [e1] at r1
    rw [e2] at r2
    simp only [RepV,RepD] at r2
    obtain ⟨g,hg,r1⟩:=r1
    split at he
    · rename_i hh
      simp only [Option.some.injEq] at he
      subst he
      refine ⟨.pointer (some ⟨g,off+n.toNat*inf.size,none⟩),?_,⟨g,hg,rfl⟩⟩
      simp [execOp,r1,r2,Instr.indexAt,Instr.sureAddr,asIntOf,run_underlying hs,hh.1,hh.2,Go.sizeOf,typeInfo,hi,add_lit]
    · cases he
  · cases he
theorem sd_idx (hr:Rel C w0 S M N γ st a w) {x i:Opd} (hk:okP C.P C.φ o (.idx x i)=true) (he:evP st (.idx x i)=some v):Does C w0 S γ st a w o v:=by
  obtain ⟨dst,op,ty,pos,aft,gd⟩:=o
  cases op <;> simp [okP] at hk
  rename_i t x' i'
  obtain ⟨⟨h0,h1⟩,h2⟩:=hk
  have r1:=opd_rep hr h1
  have r2:=opd_rep hr h2
  unfold strSlice at h0
  split at h0
  case h_2=>cases h0
  rename_i hs
  simp only [evP] at he
  unfold idxV at he
  split at he
  · rename_i s kd n e1 e2
    rw [e1] at r1
    rw [e2] at r2
    simp only [RepV,RepD] at r1 r2
    split at he
    · rename_i h0n
      split at he
      · rename_i b hb
        simp only [Option.some.injEq] at he
        subst he
        refine ⟨.int .u8 b.toNat,?_,rfl⟩
        have hlt:n.toNat<s.length:=(List.getElem?_eq_some_iff.1 hb).1
        have hg:(⟨s.toArray⟩:ByteArray)[n.toNat]? = some b:=by
          have h1:n.toNat<(⟨s.toArray⟩:ByteArray).size:=by simpa [ByteArray.size] using hlt
          rw [getElem?_pos (⟨s.toArray⟩:ByteArray) n.toNat h1]
          have:s[n.toNat]=b:=(List.getElem?_eq_some_iff.1 hb).2
          rw [← this]
          rfl
        simp [execOp,r1,r2,Instr.index,asIntOf,run_underlying hs,h0n,hg]
      · cases he
    · cases he
  · cases he
theorem sd_idxA (hr:Rel C w0 S M N γ st a w) {len sz:Nat} {k:Option Nat} {x i:Opd} (hk:okP C.P C.φ o (.idxA len sz k x i)=true) (he:evP st (.idxA len sz k x i)=some v):Does C w0 S γ st a w o v:=by
  obtain ⟨dst,op,ty,pos,aft,gd⟩:=o
  cases op <;> simp [okP] at hk
  rename_i t x' i'
  obtain ⟨⟨h0,h1⟩,h2⟩:=hk
  split at h0
  case h_2=>cases h0
  rename_i e he0
  obtain ⟨inf,hs,hi,rfl⟩:=okArray_run he0
  have r1:=opd_rep hr h1
  have r2:=opd_rep hr h2
  simp only [evP] at he
  unfold idxAV at he
  split at he
  · rename_i q kd n e2
    rw [e2] at r2
    simp only [RepV,RepD] at r2
    split at he
    · rename_i hh
      cases hx:opd st.s x with
      | agg cs =>
        rw [hx] at r1 he
        obtain ⟨us,r1,hv,hone⟩:=r1
        obtain ⟨u,hu,hru⟩:=run_part (P:=C.P) h0 hv hone he
        refine ⟨u,?_,hru⟩
        simp [execOp,r1,r2,Instr.index,asIntOf,run_underlying hs,hh.1,hh.2,Go.sizeOf,typeInfo,hi,hu]
      | _=>rw [hx] at he;cases k <;> simp [fldV] at he
    · cases he
  · cases he
theorem extract_list (s:List UInt8)(l h:Nat):(⟨s.toArray⟩:ByteArray).extract l h=⟨((s.take h).drop l).toArray⟩:=by
  apply ByteArray.ext
  apply Array.ext'
  simp [ByteArray.data_extract,List.drop_take]
theorem sd_slcS (hr:Rel C w0 S M N γ st a w) {x:Opd} {lo hi:Option Opd} (hk:okP C.P C.φ o (.slcS x lo hi)=true) (he:evP st (.slcS x lo hi)=some v):Does C w0 S γ st a w o v:=by
  obtain ⟨dst,op,ty,pos,aft,gd⟩:=o
  simp only [okP] at hk
  split at hk
  case h_2=>cases hk
  rename_i t x' lo' hi'
  simp only [Bool.and_eq_true] at hk
  obtain ⟨⟨⟨h0,h1⟩,h2⟩,h3⟩:=hk
  have r1:=opd_rep hr h1
  simp only [evP] at he
  unfold slcSV at he
  split at he
  · rename_i s e1
    rw [e1] at r1
    simp only [RepV,RepD] at r1
    split at he
    · rename_i h hh
      split at he
      · rename_i l hl
        simp only [Option.some.injEq] at he
        subst he
        obtain ⟨hb,_,_⟩:=run_bounds (P:=C.P) (φ:=C.φ) (isS:=false) (cap:=s.length) (Nat.le_refl _) hh hl hr h2 h3
        refine ⟨.string ⟨((s.take h).drop l).toArray⟩,?_,rfl⟩
        unfold strSlice at h0
        split at h0
        · rename_i hs
          have hsz:(⟨s.toArray⟩:ByteArray).size=s.length:=by simp [ByteArray.size]
          simp [execOp,r1,Instr.sliceAt,Instr.slice,run_underlying hs,hsz,hb,extract_list]
        · cases h0
      · cases he
    · cases he
  · cases he
theorem RepEs.cut {ok:Nat→Prop}{ad:Addr}{sz:Nat}{es:List (List D)}(h:RepEs w ok ad 0 es)(hs:∀ e∈es,e.length=sz)(l n:Nat):RepEs w ok (ad.add (l*sz)) 0 ((es.take n).drop l):=by
  refine RepEs.of_get (sz:=sz) (fun e he=>hs e (List.mem_of_mem_take (List.mem_of_mem_drop he))) fun i e hi => ?_
  rw [List.getElem?_drop,List.getElem?_take] at hi
  split at hi
  · have:=h.get hs _ _ hi
    refine RepCs.at_ ?_
    rw [Nat.add_mul] at this
    rwa [show l*sz+(0+i*sz)=0+(l*sz+i*sz) by omega]
  · cases hi
theorem sd_slc (hr:Rel C w0 S M N γ st a w) {sz:Nat} {x:Opd} {lo hi:Option Opd} (hk:okP C.P C.φ o (.slc sz x lo hi)=true) (he:evP st (.slc sz x lo hi)=some v):Does C w0 S γ st a w o v:=by
  obtain ⟨dst,op,ty,pos,aft,gd⟩:=o
  simp only [okP] at hk
  split at hk
  case h_2=>cases hk
  rename_i t x' lo' hi'
  simp only [Bool.and_eq_true] at hk
  obtain ⟨⟨⟨h0,h1⟩,h2⟩,h3⟩:=hk
  have r1:=opd_rep hr h1
  simp only [evP] at he
  unfold slcV at he
  split at he
  · rename_i es e1
    rw [e1] at r1
    obtain ⟨A,cap,sz',hx,hlc,hsz,hc⟩:=r1
    split at he
    · rename_i h hh
      split at he
      · rename_i l hl
        split at he
        · rename_i hall
          simp only [Option.some.injEq] at he
          subst he
          obtain ⟨hb,hlh,hhl⟩:=run_bounds (P:=C.P) (φ:=C.φ) (isS:=true) (cap:=cap) hlc hh hl hr h2 h3
          obtain ⟨e,inf,hs,hi,rfl,hne⟩:=okSlice_run h0
          have hall':∀ e∈es,e.length=inf.size:=by simpa using hall
          refine ⟨.slice (if cap=l then A else A.map (·.add (l*inf.size))) (h-l) (cap-l),?_,?_⟩
          · simp [execOp,hx,Instr.sliceAt,Instr.slice,run_underlying hs,hb,Go.sizeOf,typeInfo,hi]
          · refine ⟨if cap=l then A else A.map (·.add (l*inf.size)),cap-l,inf.size,?_,?_,fun e he=>hall' e (List.mem_of_mem_take (List.mem_of_mem_drop he)),fun hne' => ?_⟩
            · simp;congr 1;omega
            · simp;omega
            · have hpos:0<((es.take h).drop l).length:=List.length_pos_iff.2 hne'
              simp at hpos
              obtain ⟨ad,rfl,hok,hes⟩:=hc (by intro h';simp [h'] at hpos)
              rw [if_neg (by omega)]
              exact ⟨_,rfl,by rw [add_block];exact hok,hes.cut hall' l h⟩
        · cases he
      · cases he
    · cases he
  · cases he
theorem sd_lenS (hr:Rel C w0 S M N γ st a w){x:Opd}(hk:okP C.P C.φ o (.lenS x)=true)(he:evP st (.lenS x)=some v):Does C w0 S γ st a w o v:=by
  obtain ⟨dst,op,ty,pos,aft,gd⟩:=o
  simp only [okP] at hk
  split at hk
  case h_2=>cases hk
  rename_i x' t
  simp only [Bool.and_eq_true] at hk
  obtain ⟨h0,h1⟩:=hk
  have r1:=opd_rep hr h1
  unfold strSlice at h0
  split at h0
  case h_2=>cases h0
  rename_i hs
  simp only [evP] at he
  split at he
  · rename_i s e1
    rw [e1] at r1
    simp only [RepV,RepD] at r1
    simp only [Option.some.injEq] at he
    subst he
    refine ⟨goInt s.length,?_,rfl⟩
    have hsz:(⟨s.toArray⟩:ByteArray).size=s.length:=by simp [ByteArray.size]
    simp [execOp,resolve,invoke,builtin,Builtin.len_,r1,run_underlying hs,hsz]
  · cases he
theorem sd_len (hr:Rel C w0 S M N γ st a w) {x:Opd} (hk:okP C.P C.φ o (.len x)=true) (he:evP st (.len x)=some v):Does C w0 S γ st a w o v:=by
  obtain ⟨dst,op,ty,pos,aft,gd⟩:=o
  simp only [okP] at hk
  split at hk
  case h_2=>cases hk
  rename_i x' t
  simp only [Bool.and_eq_true] at hk
  obtain ⟨h0,h1⟩:=hk
  have r1:=opd_rep hr h1
  split at h0
  case h_2=>cases h0
  rename_i e hs
  have key:∀ A l c,a.eval x' = .slice A l c→Does C w0 S γ st a w { dst:=dst,op:=.call { callee:=.builtin .len,args:=⟨[x']⟩,argTypes:=⟨[t]⟩ },type:=ty,pos:=pos,after:=aft,guard:=gd } (.d (.int .i64 l)):=by
    intro A l c hx
    refine ⟨goInt l,?_,rfl⟩
    simp [execOp,resolve,invoke,builtin,Builtin.len_,hx,run_underlying hs]
  simp only [evP] at he
  unfold lenV at he
  split at he
  · rename_i es e1
    rw [e1] at r1
    obtain ⟨A,cap,sz',hx,_⟩:=r1
    simp only [Option.some.injEq] at he
    subst he
    exact key _ _ _ hx
  · rename_i e1
    rw [e1] at r1
    obtain ⟨A,hx⟩:=r1
    simp only [Option.some.injEq] at he
    subst he
    exact key _ _ _ hx
  · rename_i nm e1
    rw [e1] at r1
    replace r1:=r1.1
    split at he
    · rename_i sz es hb
      simp only [Option.some.injEq] at he
      subst he
      rcases hr.objs nm _ hb with ⟨rfl,A,hh⟩|⟨g,cap,us,ty',hh,_⟩
      · rw [hh] at r1
        exact key _ _ _ r1
      · rw [hh] at r1
        exact key _ _ _ r1
    · cases he
  · cases he
theorem opds_rep (hr:Rel C w0 S M N γ st a w):∀ {xs:List Operand}{ys:List Opd},okOpds C.φ xs ys=true→RepVs C w (okOf w0 S γ st.o w) γ (ys.map (opd st.s)) (xs.map a.eval)
  | [],[],_=>rfl
  | x::xs,y::ys,h=>by
    simp only [okOpds,Bool.and_eq_true] at h
    exact ⟨_,_,rfl,opd_rep hr h.1,opds_rep hr h.2⟩
  | [],_::_,h=>by simp [okOpds] at h
  | _::_,[],h=>by simp [okOpds] at h
theorem sd_mm (hr:Rel C w0 S M N γ st a w) {mx:Bool} {xs:List Opd} (hk:okP C.P C.φ o (.mm mx xs)=true) (he:evP st (.mm mx xs)=some v):Does C w0 S γ st a w o v:=by
  obtain ⟨dst,op,ty,pos,aft,gd⟩:=o
  have key:∀ (xs':List Operand) (ats:Array TypeId) (b:Bool),okOpds C.φ xs' xs=true→mx=b →
      Does C w0 S γ st a w { dst:=dst,op:=.call { callee:=.builtin (if b then .max else .min),args:=⟨xs'⟩,argTypes:=ats },type:=ty,pos:=pos,after:=aft,guard:=gd } v:=by
    intro xs' ats b hx hb
    subst hb
    have r:=opds_rep hr hx
    simp only [evP] at he
    unfold mmV at he
    split at he
    · rename_i k x k' y heq
      rw [heq] at r
      obtain ⟨u1,us,hu,r1,u2,us2,hu2,r2,r3⟩:=r
      simp only [RepVs] at r3
      simp only [RepV,RepD] at r1 r2
      subst r1 r2 r3 hu2
      split at he
      · rename_i hkk
        subst hkk
        simp only [Option.some.injEq] at he
        subst he
        refine ⟨.int k (if mx then (if y>x then y else x) else (if y<x then y else x)),?_,rfl⟩
        cases mx
        · simp [execOp,resolve,invoke,builtin,hu,Builtin.min_,Builtin.min2]
        · simp [execOp,resolve,invoke,builtin,hu,Builtin.max_,Builtin.max2]
      · cases he
    · rename_i k x k1 y k2 z k3 q heq
      rw [heq] at r
      obtain ⟨u1,us,hu,r1,u2,us2,hu2,r2,u3,us3,hu3,r3,u4,us4,hu4,r4,r5⟩:=r
      simp only [RepVs] at r5
      simp only [RepV,RepD] at r1 r2 r3 r4
      subst r1 r2 r3 r4 r5 hu4 hu3 hu2
      split at he
      · rename_i hkk
        obtain ⟨rfl,rfl,rfl⟩:=hkk
        simp only [Option.some.injEq] at he
        subst he
        refine ⟨_,?_,rfl⟩
        cases mx
        · simp [execOp,resolve,invoke,builtin,hu,Builtin.min_,Builtin.min2]
        · simp [execOp,resolve,invoke,builtin,hu,Builtin.max_,Builtin.max2]
      · cases he
    · cases he
  simp only [okP] at hk
  split at hk
  · rename_i ats xs'
    simp only [Bool.and_eq_true] at hk
    exact key _ _ true hk.2 hk.1
  · rename_i ats xs'
    simp only [Bool.and_eq_true,Bool.not_eq_true'] at hk
    exact key _ _ false hk.2 hk.1
  · cases hk
theorem sd_fnv (hr:Rel C w0 S M N γ st a w){f:Nat}{caps:List Opd}(hk:okP C.P C.φ o (.fnv f caps)=true)(he:evP st (.fnv f caps)=some v):Does C w0 S γ st a w o v:=by
  obtain ⟨dst,op,ty,pos,aft,gd⟩:=o
  simp only [okP] at hk
  split at hk
  case h_2=>cases hk
  rename_i g caps'
  simp only [Bool.and_eq_true,beq_iff_eq] at hk
  obtain ⟨rfl,h1⟩:=hk
  have r:=opds_rep hr h1
  simp only [evP,Option.some.injEq] at he
  subst he
  refine ⟨_,by (simp [execOp,Instr.makeFunc];try rfl),⟨caps'.toList.map a.eval,?_,r⟩⟩
  congr 1
  apply Array.ext'
  simp
theorem sd_nilc (hr:Rel C w0 S M N γ st a w){x:Opd}(hk:okP C.P C.φ o (.nilc x)=true)(he:evP st (.nilc x)=some v):Does C w0 S γ st a w o v:=by
  obtain ⟨dst,op,ty,pos,aft,gd⟩:=o
  cases op <;> simp [okP] at hk
  have r1:=opd_rep hr hk
  simp only [evP] at he
  split at he
  · rename_i n off e1
    rw [e1] at r1
    simp only [Option.some.injEq] at he
    subst he
    obtain ⟨g,hg,r1⟩:=r1
    exact ⟨_,by (simp [execOp,r1];try rfl),⟨g,hg,rfl⟩⟩
  · rename_i f caps e1
    rw [e1] at r1
    simp only [Option.some.injEq] at he
    subst he
    obtain ⟨us,hu,r1⟩:=r1
    exact ⟨_,by (simp [execOp,hu];try rfl),⟨us,rfl,r1⟩⟩
  · cases he
theorem okZeros_rep {ok:Nat→Prop}:∀ {zs:List Value}{vs:List V},okZeros zs vs=true→RepVs C w ok γ vs zs∧∀ u∈zs,u.oneCell'=true
  | [],[],_=>⟨rfl,by simp⟩
  | z :: zs,v::vs,h=>by
    simp only [okZeros,Bool.and_eq_true] at h
    obtain ⟨h1,h2⟩:=okZeros_rep h.2
    refine ⟨⟨z,zs,rfl,okConst_rep h.1,h1⟩,fun u hu => ?_⟩
    rcases List.mem_cons.1 hu with rfl|hu
    · have:=h.1
      unfold okConst at this
      split at this <;> first|rfl|cases this
    · exact h2 u hu
  | [],_::_,h=>by simp [okZeros] at h
  | _::_,[],h=>by simp [okZeros] at h
theorem okZero_run {P:Program}{t:TypeId}{zs:List V}(h:okZero P t zs=true):∃ i z,P.info? t=some i∧i.zero=some z∧okZeros z.cells.toList zs=true∧i.size=zs.length:=by
  unfold okZero at h
  split at h
  · rename_i i hi
    split at h
    · rename_i z hz
      simp only [Bool.and_eq_true,beq_iff_eq] at h
      exact ⟨i,z,hi,hz,h.1,h.2⟩
    · cases h
  · cases h
theorem fold_set (off:Nat):∀ (l:List Value)(k:Nat)(cs:Array Value),off+k+l.length≤cs.size →
    ((l.zipIdx k).foldl (fun cs (x:Value × Nat)=>cs.setIfInBounds (off+x.2) x.1) cs).toList=cs.toList.take (off+k)++l++cs.toList.drop (off+k+l.length)
  | [],k,cs,h=>by simp
  | v :: l,k,cs,h=>by
    simp only [List.length_cons] at h
    rw [List.zipIdx_cons,List.foldl_cons,fold_set off l (k+1) _ (by simp;omega)]
    simp only [Array.toList_setIfInBounds,List.length_cons]
    have hlt:off+k<cs.toList.length:=by simp;omega
    rw [show off+(k+1)=off+k+1 by omega,List.drop_set_of_lt (by omega)]
    have:(cs.toList.set (off+k) v).take (off+k+1)=cs.toList.take (off+k)++[v]:=by
      rw [List.take_succ_eq_append_getElem (by simpa using hlt)]
      simp [List.take_set_of_le]
    rw [this]
    simp [Nat.add_assoc,Nat.add_comm 1]
theorem cellsV_rep {ok:Nat→Prop}{x:V}{v:Value}{cs:List V}(h:cellsV x=some cs)(hr:RepV C w ok γ x v):RepVs C w ok γ cs v.cells.toList∧∀ u∈v.cells.toList,u.oneCell'=true:=by
  have key:∀ (y:V),RepV C w ok γ y v→v.oneCell'=true→RepVs C w ok γ [y] v.cells.toList∧∀ u∈v.cells.toList,u.oneCell'=true:=by
    intro y hy h1
    have:v.cells = #[v]:=by cases v <;> first|rfl|simp [Value.oneCell'] at h1
    rw [this]
    exact ⟨⟨v,[],rfl,hy,rfl⟩,by simpa using h1⟩
  unfold cellsV at h
  split at h
  · simp only [Option.some.injEq] at h
    subst h
    obtain ⟨us,rfl,h1,h2⟩:=hr
    exact ⟨h1,h2⟩
  · cases h
  · cases h
  · rename_i h1 h2 h3
    simp only [Option.some.injEq] at h
    subst h
    refine key _ hr ?_
    cases x with
    | d x=>exact RepD.one hr
    | cap0=>obtain ⟨A,rfl⟩:=hr;rfl
    | nilp=>simp only [RepV] at hr;subst hr;rfl
    | agg cs=>exact absurd rfl (h1 cs)
    | ptr n off=>obtain ⟨g,_,rfl⟩:=hr;rfl
    | own n=>exact hr.2
    | eptr n sz i off=>obtain ⟨g,l,c,_,rfl⟩:=hr;rfl
    | cptr cs=>obtain ⟨a,rfl,_⟩:=hr;rfl
    | fn f caps=>obtain ⟨us,rfl,_⟩:=hr;rfl
    | tup vs=>exact absurd rfl (h2 vs)
    | mref n=>exact hr.2
    | undef=>exact absurd rfl h3
theorem fill_rep (hr:Rel C w0 S M N γ st a w) {place:Nat→Option (Nat × Nat)}:∀ {ps:List (Nat × Operand)} {qs:List (Nat × Nat × Opd)} {cs out:List V} {us:Array Value},
    okParts C.φ place ps qs=true→buildV (opd st.s) cs qs=some out→RepVs C w (okOf w0 S γ st.o w) γ cs us.toList→(∀ u∈us.toList,u.oneCell'=true) →
    ∃ vs:List Value,Instr.fill place us (ps.map fun (i,x)=>(i,a.eval x))=some ⟨vs⟩∧RepVs C w (okOf w0 S γ st.o w) γ out vs∧∀ u∈vs,u.oneCell'=true
  | [],[],cs,out,us,_,hb,hv,h1=>by
    simp only [buildV,Option.some.injEq] at hb
    subst hb
    exact ⟨us.toList,by simp [Instr.fill],hv,h1⟩
  | (i, x) :: ps,(off,size,y)::qs,cs,out,us,hk,hb,hv,h1=>by
    simp only [okParts,Bool.and_eq_true,beq_iff_eq] at hk
    obtain ⟨⟨hp,hx⟩,hk⟩:=hk
    simp only [buildV] at hb
    split at hb
    · rename_i new hnew
      split at hb
      · rename_i hh
        obtain ⟨rfl,hle⟩:=hh
        obtain ⟨c1,c2⟩:=cellsV_rep hnew (opd_rep hr hx)
        have hl1:=c1.length
        have hl2:=hv.length
        have hsz:(a.eval x).cells.size=new.length:=by simpa using hl1
        have hus:us.size=cs.length:=by simpa using hl2
        have hf:=fold_set off (a.eval x).cells.toList 0 us (by simp;omega)
        simp only [Nat.add_zero] at hf
        obtain ⟨vs,e1,e2,e3⟩:=fill_rep hr (us:=((a.eval x).cells.toList.zipIdx 0).foldl (fun cs (x:Value × Nat)=>cs.setIfInBounds (off+x.2) x.1) us) hk hb
          (by rw [hf];unfold setRange;rw [← hl1];exact ((hv.take off).append c1).append (hv.drop _))
          (by
            rw [hf]
            intro u hu
            rcases List.mem_append.1 hu with hu|hu
            · rcases List.mem_append.1 hu with hu|hu
              · exact h1 u (List.mem_of_mem_take hu)
              · exact c2 u hu
            · exact h1 u (List.mem_of_mem_drop hu))
        refine ⟨vs,?_,e2,e3⟩
        rw [List.map_cons,Instr.fill]
        simp only [hp]
        rw [if_neg (by simp;omega)]
        rw [← e1]
        congr 1
        rw [← Array.foldl_toList]
        simp
      · cases hb
    · cases hb
  | [],_::_,_,_,_,h,_,_,_=>by simp [okParts] at h
  | _::_,[],_,_,_,h,_,_,_=>by simp [okParts] at h
theorem sd_build (hr:Rel C w0 S M N γ st a w){zero:List V}{parts:List (Nat × Nat × Opd)}(hk:okP C.P C.φ o (.build zero parts)=true)(he:evP st (.build zero parts)=some v):Does C w0 S γ st a w o v:=by
  obtain ⟨dst,op,ty,pos,aft,gd⟩:=o
  simp only [okP] at hk
  split at hk
  case h_2=>cases hk
  rename_i t ps
  simp only [Bool.and_eq_true] at hk
  obtain ⟨h0,h1⟩:=hk
  obtain ⟨i,z,hi,hz,hzs,hsz⟩:=okZero_run h0
  obtain ⟨z1,z2⟩:=okZeros_rep (C:=C) (w:=w) (γ:=γ) (ok:=okOf w0 S γ st.o w) hzs
  simp only [evP,Option.map_eq_some_iff] at he
  obtain ⟨out,hb,rfl⟩:=he
  have hm:∀ vs:Array Value,C.P.built t (ps.map fun (i,x)=>(i,a.eval x)).toList=some vs→(Instr.build t (ps.map fun (i,x)=>(i,a.eval x))).run C.P w = .ok (.agg vs) w:=fun vs h=>run_build w t _ vs h
  have hpl:(ps.map fun (i,x)=>(i,a.eval x)).toList=ps.toList.map fun (i,x)=>(i,a.eval x):=by simp
  unfold okBuild at h1
  split at h1
  · rename_i fs hs
    split at h1
    · rename_i places hp
      obtain ⟨vs,e1,e2,e3⟩:=fill_rep hr (us:=z.cells) h1 hb z1 z2
      have:=hm ⟨vs⟩ (by rw [hpl];unfold Program.built;simp only [hi,hs,hz,hp];exact e1)
      exact ⟨.agg ⟨vs⟩,by simp [execOp,this],⟨vs,rfl,e2,e3⟩⟩
    · cases h1
  · rename_i n e hs
    split at h1
    · rename_i ie hie
      obtain ⟨vs,e1,e2,e3⟩:=fill_rep hr (us:=z.cells) h1 hb z1 z2
      have:=hm ⟨vs⟩ (by rw [hpl];unfold Program.built;simp only [hi,hs,hz,hie];exact e1)
      exact ⟨.agg ⟨vs⟩,by simp [execOp,this],⟨vs,rfl,e2,e3⟩⟩
    · cases h1
  · cases h1
end
end Pay
end
/- '==' of structs, cell by cell; all operations that turn nothing. -/
section
set_option linter.unusedSimpArgs false
set_option linter.unusedVariables false
namespace Pay
open Go
theorem eqCells_append:∀ {k1 k2:List Nat} {xs ys:List V} {b:Bool},eqCells (k1++k2) xs ys=some b →
    ∃ b1 b2,eqCells k1 (xs.take k1.length) (ys.take k1.length)=some b1∧eqCells k2 (xs.drop k1.length) (ys.drop k1.length)=some b2∧b=(b1&&b2)
  | [],k2,xs,ys,b,h=>⟨true,b,by simp [eqCells],by simpa using h,by simp⟩
  | k :: k1,k2,xs,ys,b,h=>by
    cases xs with
    | nil=>simp [eqCells] at h
    | cons x xs =>
      cases ys with
      | nil=>cases x <;> simp [eqCells] at h
      | cons y ys =>
        cases x <;> try (simp [eqCells] at h;done)
        rename_i x
        cases y <;> try (simp [eqCells] at h;done)
        rename_i y
        rw [List.cons_append,eqCells] at h
        split at h
        · rename_i c hc
          split at h
          · rename_i c' hc'
            simp only [Option.some.injEq] at h
            subst h
            obtain ⟨b1,b2,e1,e2,rfl⟩:=eqCells_append hc'
            exact ⟨c&&b1,b2,by simp [eqCells,hc,e1],by simpa using e2,by simp [Bool.and_assoc]⟩
          · cases h
        · cases h
section
variable {C:Ctx}{w:World}{ok:Nat→Prop}{γ:Nat→Value}
theorem eqOne {P:Program} {f:Field} {d off:Nat} {k:Nat} {xs ys:List V} {us vs:List Value} {b:Bool} (hx:RepVs C w ok γ xs us) (hy:RepVs C w ok γ ys vs)
    (h:eqCells [k] ((xs.drop off).take 1) ((ys.drop off).take 1)=some b) (hk:(k=0∧∃ q,P.underlying f.type=some (.int q))∨(k=1∧P.underlying f.type=some .bool)∨(k=2∧P.underlying f.type=some .string)) :
    ∃ x y,(part f.type ⟨us⟩ off).run P w = .ok x w∧(part f.type ⟨vs⟩ off).run P w = .ok y w∧(Op.equalIn (d+1) f.type x y).run P w = .ok b w:=by
  have hagg:(isAgg f.type).run P w = .ok false w:=by
    unfold isAgg
    rw [Sem.run_bind]
    rcases hk with ⟨_,q,h⟩|⟨_,h⟩|⟨_,h⟩ <;> rw [run_underlying h w] <;> rfl
  cases hxx:xs.drop off with
  | nil=>rw [hxx] at h;simp [eqCells] at h
  | cons x xs' =>
    cases hyy:ys.drop off with
    | nil=>rw [hxx,hyy] at h;cases x <;> simp [eqCells] at h
    | cons y ys' =>
      rw [hxx,hyy] at h
      simp only [List.take_succ_cons,List.take_zero] at h
      have hx0:xs[off]? = some x:=by have:=congrArg (fun l=>l[0]?) hxx;simpa using this
      have hy0:ys[off]? = some y:=by have:=congrArg (fun l=>l[0]?) hyy;simpa using this
      obtain ⟨u,hu,hru⟩:=hx.get _ _ hx0
      obtain ⟨v,hv,hrv⟩:=hy.get _ _ hy0
      refine ⟨u,v,by simp [part,hagg,hu],by simp [part,hagg,hv],?_⟩
      cases x <;> try (simp [eqCells] at h;done)
      rename_i x
      cases y <;> try (simp [eqCells] at h;done)
      rename_i y
      simp only [eqCells] at h
      split at h
      · rename_i c hc
        simp only [Option.some.injEq,Bool.and_true] at h
        subst h
        rcases hk with ⟨rfl,q,hq⟩|⟨rfl,hq⟩|⟨rfl,hq⟩
        · unfold eqD at hc
          split at hc <;> first|cases hc|skip
          · rename_i k1 n1 k2 n2 _
            split at hc
            · rename_i hkk
              subst hkk
              simp only [Option.some.injEq] at hc
              subst hc
              simp only [RepV,RepD] at hru hrv
              subst hru hrv
              exact run_equalIn_int w d _ _ _ _ _ hq
            · cases hc
          all_goals contradiction
        · unfold eqD at hc
          split at hc <;> first|cases hc|skip
          all_goals first|contradiction|skip
          simp only [RepV,RepD] at hru hrv
          subst hru hrv
          exact run_equalIn_bool' w d _ _ _ hq
        · unfold eqD at hc
          split at hc <;> first|cases hc|skip
          all_goals first|contradiction|skip
          simp only [RepV,RepD] at hru hrv
          subst hru hrv
          rw [run_equalIn_string w d _ _ _ hq]
          rw [ByteArray.toList_eq,ByteArray.toList_eq]
      · cases h
theorem eqFields_run {P:Program}:∀ (fuel:Nat) (fs:List Field) (off:Nat) (ks:List Nat),plainFields P fuel off fs=some ks→∀ (D:Nat),fuel≤D →
    ∀ {xs ys:List V} {us vs:List Value} {b:Bool},RepVs C w ok γ xs us→RepVs C w ok γ ys vs→(∀ u∈us,u.oneCell'=true)→(∀ u∈vs,u.oneCell'=true) →
      eqCells ks ((xs.drop off).take ks.length) ((ys.drop off).take ks.length)=some b→off+ks.length≤xs.length→off+ks.length≤ys.length→(Op.eqFields D ⟨us⟩ ⟨vs⟩ fs).run P w = .ok b w
  | fuel,[],off,ks,h,D,_,xs,ys,us,vs,b,_,_,_,_,he,_,_=>by
    cases fuel <;> simp only [plainFields,Option.some.injEq] at h <;> subst h <;> simp [eqCells] at he <;> subst he <;> simp [Op.eqFields]
  | 0,f::fs,off,ks,h,_,_,_,_,_,_,_,_,_,_,_,_,_,_=>by simp [plainFields] at h
  | fuel + 1, f::fs,off,ks,h,D,hD,xs,ys,us,vs,b,hx,hy,h1x,h1y,he,hlx,hly=>by
    obtain ⟨D,rfl⟩:∃ m,D=m+1:=⟨D-1,by omega⟩
    rw [plainFields] at h
    split at h
    · cases h
    rename_i hn
    have hname : f.name ≠ "_" := fun e => hn (.inl e)
    have hoff:f.offset=off:=Classical.byContradiction fun e=>hn (.inr e)
    have step:∀ (k:Nat) (rest:List Nat),ks=k::rest→plainFields P fuel (off+1) fs=some rest →
        ((k=0∧∃ q,P.underlying f.type=some (.int q))∨(k=1∧P.underlying f.type=some .bool)∨(k=2∧P.underlying f.type=some .string))→(Op.eqFields (D+1) ⟨us⟩ ⟨vs⟩ (f::fs)).run P w = .ok b w:=by
      intro k rest hks hrest hk
      subst hks
      obtain ⟨b1,b2,e1,e2,rfl⟩:=eqCells_append (k1:=[k]) he
      simp only [List.length_cons,List.length_nil,Nat.zero_add] at e1 e2
      rw [List.take_take,List.take_take,show min 1 (rest.length+1)=1 by omega] at e1
      obtain ⟨x,y,p1,p2,p3⟩:=eqOne (P:=P) (f:=f) (d:=D) hx hy e1 hk
      rw [Op.eqFields,if_pos hname,hoff]
      simp only [Sem.run_bind,p1,p2,p3,Result.andThen_ok]
      have ih:b1=true→(Op.eqFields (D+1) ⟨us⟩ ⟨vs⟩ fs).run P w = .ok b2 w:=fun _ =>
        eqFields_run fuel fs (off+1) rest hrest (D+1) (by omega) hx hy h1x h1y (by
          rw [← e2]
          congr 1 <;> rw [List.drop_take,List.drop_drop] <;> simp) (by simp at hlx;omega) (by simp at hly;omega)
      cases b1
      · simp
      · simpa using ih rfl
    split at h
    · rename_i hu
      simp only [Option.map_eq_some_iff] at h
      obtain ⟨rest,hr,rfl⟩:=h
      exact step 1 rest rfl hr (.inr (.inl ⟨rfl,hu⟩))
    · rename_i q hu
      simp only [Option.map_eq_some_iff] at h
      obtain ⟨rest,hr,rfl⟩:=h
      exact step 0 rest rfl hr (.inl ⟨rfl,q,hu⟩)
    · rename_i hu
      simp only [Option.map_eq_some_iff] at h
      obtain ⟨rest,hr,rfl⟩:=h
      exact step 2 rest rfl hr (.inr (.inr ⟨rfl,hu⟩))
    · rename_i gs hu
      split at h
      · rename_i k hk
        split at h
        · cases h
        · rename_i hc
          have hp:P.stoodInHeld f.type=false:=by
            cases hh:P.stoodInHeld f.type
            · rfl
            · exact absurd (.inl hh) hc
          have hsh:okShape P f.type (some k.length)=true:=by
            cases hh:okShape P f.type (some k.length)
            · exact absurd (.inr hh) hc
            · rfl
          simp only [Option.map_eq_some_iff] at h
          obtain ⟨rest,hr,rfl⟩:=h
          simp only [List.length_append] at he hlx hly
          obtain ⟨b1,b2,e1,e2,rfl⟩:=eqCells_append he
          rw [List.take_take,List.take_take,show min k.length (k.length+rest.length)=k.length by omega] at e1
          obtain ⟨s1,s2⟩:=okShape_many (w:=w) hsh
          have hp1:∀ zs:List Value,(part f.type ⟨zs⟩ off).run P w = .ok (.agg ⟨(zs.drop off).take k.length⟩) w:=by
            intro zs
            simp only [part,Sem.run_bind,s1,Result.andThen_ok,if_true,s2,Sem.run_pure]
            congr 2
            apply Array.ext'
            simp [List.drop_take]
          rw [Op.eqFields,if_pos hname,hoff]
          have ih1:(Op.equalIn (D+1) f.type (.agg ⟨(us.drop off).take k.length⟩) (.agg ⟨(vs.drop off).take k.length⟩)).run P w = .ok b1 w:=by
            have hf:P.fieldsOf f.type=gs:=by simp [Program.fieldsOf,hu]
            rw [run_equalIn_struct (P:=P) w D f.type _ _ (by rw [hf];exact hu) hp,hf]
            have hl1:=hx.length
            have hl2:=hy.length
            refine eqFields_run fuel gs.toList 0 k hk D (by omega) ((hx.drop off).take k.length) ((hy.drop off).take k.length) (fun u hu=>h1x u (List.mem_of_mem_drop (List.mem_of_mem_take hu))) (fun u hu=>h1y u (List.mem_of_mem_drop (List.mem_of_mem_take hu))) ?_ (by simp;omega) (by simp;omega)
            simpa [List.take_take] using e1
          simp only [Sem.run_bind,hp1,ih1,Result.andThen_ok]
          have ih:(Op.eqFields (D+1) ⟨us⟩ ⟨vs⟩ fs).run P w = .ok b2 w :=
            eqFields_run fuel fs (off+k.length) rest hr (D+1) (by omega) hx hy h1x h1y (by
              rw [← e2]
              congr 1 <;> rw [List.drop_take,List.drop_drop] <;> simp) (by omega) (by omega)
          cases b1
          · simp
          · simpa using ih
      · cases h
    · cases h
end
section
variable {C:Ctx}{w0:World}{S M:Nat→Prop}{N:Nat}{γ:Nat→Value}{st:St}{a:Act}{w:World}{o:Oper}{v:V}
theorem eqCells_len:∀ {ks:List Nat} {xs ys:List V} {b:Bool},eqCells ks xs ys=some b→xs.length=ks.length∧ys.length=ks.length
  | [],xs,ys,b,h=>by
    cases xs with
    | nil=>cases ys with
      | nil=>exact ⟨rfl,rfl⟩
      | cons _ _=>simp [eqCells] at h
    | cons _ _=>simp [eqCells] at h
  | k :: ks,xs,ys,b,h=>by
    cases xs with
    | nil=>simp [eqCells] at h
    | cons x xs =>
      cases ys with
      | nil=>cases x <;> simp [eqCells] at h
      | cons y ys =>
        cases x <;> try (simp [eqCells] at h;done)
        cases y <;> try (simp [eqCells] at h;done)
        rw [eqCells] at h
        split at h
        · split at h
          · rename_i c hc
            obtain ⟨e1,e2⟩:=eqCells_len hc
            exact ⟨by simp [e1],by simp [e2]⟩
          · cases h
        · cases h
theorem eqGuard_plain {P:Program}{w:World}{op:BinOp}{t:TypeId}{x y:Operand}{cs ds:Array Value}(h:P.eqGuardType P.depth t=false):(eqGuard op t x y (.agg cs) (.agg ds)).run P w = .ok () w:=by
  unfold eqGuard
  cases op <;> simp [h]
theorem sd_eqs (hr:Rel C w0 S M N γ st a w){q:Bool}{ks:List Nat}{x y:Opd}(hk:okP C.P C.φ o (.eqs q ks x y)=true)(he:evP st (.eqs q ks x y)=some v):Does C w0 S γ st a w o v:=by
  obtain ⟨dst,op,ty,pos,aft,gd⟩:=o
  simp only [okP] at hk
  split at hk
  case h_2=>cases hk
  rename_i op' t x' y' yt
  simp only [Bool.and_eq_true,beq_iff_eq,Bool.not_eq_true'] at hk
  obtain ⟨⟨⟨⟨⟨h0,h1⟩,h2⟩,h3⟩,h4⟩,h5⟩:=hk
  have r1:=opd_rep hr h1
  have r2:=opd_rep hr h2
  simp only [evP] at he
  split at he
  case h_2=>cases he
  rename_i xs ys e1 e2
  rw [e1] at r1
  rw [e2] at r2
  obtain ⟨us,r1,hx,h1x⟩:=r1
  obtain ⟨vs,r2,hy,h1y⟩:=r2
  split at he
  case h_2=>cases he
  rename_i b hb
  simp only [Option.some.injEq] at he
  subst he
  obtain ⟨l1,l2⟩:=eqCells_len hb
  unfold okPlain at h5
  split at h5
  case h_2=>cases h5
  rename_i fs hs
  have h5:=beq_iff_eq.1 h5
  have hf:C.P.fieldsOf t=fs:=by simp [Program.fieldsOf,hs]
  have hd:∀ d:Nat,60≤d→(Op.equalIn (d+1) t (.agg ⟨us⟩) (.agg ⟨vs⟩)).run C.P w = .ok b w:=by
    intro d hd
    rw [run_equalIn_struct (P:=C.P) w d t _ _ (by rw [hf];exact hs) h4,hf]
    exact eqFields_run 60 fs.toList 0 ks h5 d hd hx hy h1x h1y (by rw [← l1];simp;rw [l1,← l2];simpa using hb) (by omega) (by omega)
  have hq:(Op.equal t (.agg ⟨us⟩) (.agg ⟨vs⟩)).run C.P w = .ok b w:=hd 9999 (by omega)
  have hg:=eqGuard_plain (P:=C.P) (w:=w) (op:=op') (t:=t) (x:=x') (y:=y') (cs:=⟨us⟩) (ds:=⟨vs⟩) h3
  cases q <;> simp only [if_true,Bool.false_eq_true,if_false] at h0 ⊢ <;> subst h0
  · exact ⟨.bool b,by simp [execOp,r1,r2,hg,binOp,hq],rfl⟩
  · exact ⟨.bool (!b),by simp [execOp,r1,r2,hg,binOp,hq],rfl⟩
theorem bytesD_ints:∀ {es:List (List D)} {l:List UInt8},bytesD es=some l→∃ ns:List Int,es=ns.map (fun n=>[D.int .u8 n])∧l=ns.map (fun n=>UInt8.ofNat n.toNat)
  | [],l,h=>by simp only [bytesD,Option.some.injEq] at h;exact ⟨[],rfl,h.symm⟩
  | e :: es,l,h=>by
    unfold bytesD at h
    split at h
    · rename_i heq;cases heq
    · rename_i n r heq
      injection heq with h1 h2
      subst h1 h2
      split at h
      · rename_i l' hl
        simp only [Option.some.injEq] at h
        obtain ⟨ns,e1,e2⟩:=bytesD_ints hl
        exact ⟨n::ns,by rw [e1];rfl,by rw [← h,e2];rfl⟩
      · cases h
    · cases h
theorem repEs_ints {ok:Nat→Prop}{ad:Addr}:∀ (ns:List Int)(off:Nat),RepEs w ok ad off (ns.map fun n=>[D.int .u8 n])→∀ j v,(ns.map (Value.int .u8))[j]? = some v→w.cell? (ad.add (off+j))=some v
  | [],_,_,j,v,h=>by simp at h
  | n :: ns,off,hr,j,v,h=>by
    simp only [List.map_cons,RepEs,RepCs] at hr
    obtain ⟨⟨⟨u,hu,hur⟩,_⟩,hr⟩:=hr
    cases j with
    | zero=>simp at h;subst h;simp only [RepD] at hur;subst hur;simpa using hu
    | succ j =>
      have:=repEs_ints ns (off+1) (by simpa using hr) j v (by simpa using h)
      rwa [show off+1+j=off+(j+1) by omega] at this
theorem sd_bstr (hr:Rel C w0 S M N γ st a w) {x:Opd} (hk:okP C.P C.φ o (.bstr x)=true) (he:evP st (.bstr x)=some v):Does C w0 S γ st a w o v:=by
  obtain ⟨dst,op,ty,pos,aft,g⟩:=o
  cases op <;> simp [okP] at hk
  rename_i src dt y
  obtain ⟨⟨h0,h2⟩,h1⟩:=hk
  have r1:=opd_rep hr h1
  simp only [evP,bstrV] at he
  split at he
  case h_2=>cases he
  rename_i es ht
  split at he
  case h_2=>cases he
  rename_i l hl
  simp only [Option.some.injEq] at he
  subst he
  rw [ht] at r1
  simp only [RepV,RepD] at r1
  obtain ⟨A,cap,sz,hv,hcap,hsz,hne⟩:=r1
  unfold strSlice at h2
  split at h2
  case h_2=>cases h2
  rename_i hd
  split at h0
  case h_2=>cases h0
  rename_i e hs
  split at h0
  case h_2=>cases h0
  rename_i heu
  obtain ⟨ns,rfl,rfl⟩:=bytesD_ints hl
  refine ⟨.string ⟨(ns.map fun n:Int=>UInt8.ofNat n.toNat).toArray⟩,?_,by simp only [RepV,RepD]⟩
  have hrun:(convert src dt (a.eval y)).run C.P w = .ok (.string ⟨(ns.map fun n:Int=>UInt8.ofNat n.toNat).toArray⟩) w:=by
    rw [hv]
    rw [run_convert_bytes_string w src dt e A _ _ hs heu hd]
    cases ns with
    | nil =>
      cases A with
      | none=>simp [Conv.bytesToString];rfl
      | some ad =>
        have hl:=run_loadCells_list (P:=C.P) w ad [] (fun j v hj=>by simp at hj)
        rw [run_bytesToString w ad _ _ [] (by simpa using hl)]
        rfl
    | cons n ns =>
      obtain ⟨ad,rfl,hok,hes⟩:=hne (by simp)
      have hl:=run_loadCells_list (P:=C.P) w ad ((n::ns).map (Value.int .u8)) (fun j v hj=>by
        have:=repEs_ints (n::ns) 0 hes j v hj
        rwa [Nat.zero_add] at this)
      rw [run_bytesToString w ad _ _ (n::ns) (by simpa using hl),foldl_push_bytes]
      simp [ByteArray.empty,ByteArray.emptyWithCapacity]
      rfl
  simp [execOp,hrun]
theorem evP_sound (hr:Rel C w0 S M N γ st a w){ao:AOp}(hk:okP C.P C.φ o ao=true)(he:evP st ao=some v):Does C w0 S γ st a w o v:=by
  cases ao
  case mv=>exact sd_mv hr hk he
  case pick=>exact sd_pick hr hk he
  case bin=>exact sd_bin hr hk he
  case un=>exact sd_un hr hk he
  case conv=>exact sd_conv hr hk he
  case same=>exact sd_same hr hk he
  case ext=>exact sd_ext hr hk he
  case bstr=>exact sd_bstr hr hk he
  case load=>exact sd_load hr hk he
  case faddr=>exact sd_faddr hr hk he
  case fld=>exact sd_fld hr hk he
  case iaddr=>exact sd_iaddr hr hk he
  case iaddrA=>exact sd_iaddrA hr hk he
  case idx=>exact sd_idx hr hk he
  case idxA=>exact sd_idxA hr hk he
  case slc=>exact sd_slc hr hk he
  case slcS=>exact sd_slcS hr hk he
  case len=>exact sd_len hr hk he
  case lenS=>exact sd_lenS hr hk he
  case mm=>exact sd_mm hr hk he
  case build=>exact sd_build hr hk he
  case fnv=>exact sd_fnv hr hk he
  case nilc=>exact sd_nilc hr hk he
  case eqs=>exact sd_eqs hr hk he
  case beq=>exact sd_beq hr hk he
  case nilE=>exact sd_nilE hr hk he
  case nilP=>exact sd_nilP hr hk he
  all_goals simp [evP] at he
end
end Pay
end
/- States that turn: new objects, stores, appends. What the relation between frame and memory bears. -/
section
set_option linter.unusedSimpArgs false
set_option linter.unusedVariables false
namespace Pay
open Go
mutual
def V.refs (m:Nat):V→Bool
  | .ptr n _=>n==m
  | .own n=>n==m
  | .eptr n _ _ _=>n==m
  | .mref n=>n==m
  | .fn _ caps=>V.refsL m caps
  | .agg cs=>V.refsL m cs
  | .tup vs=>V.refsL m vs
  | _=>false
def V.refsL (m:Nat):List V→Bool
  | []=>false
  | v::vs=>V.refs m v||V.refsL m vs
end
mutual
theorem RepV.mono {C:Ctx}{w w':World}{ok ok':Nat→Prop}{γ γ':Nat→Value}(h:∀ g,ok g→w'.heap[g]? = w.heap[g]? ∧ ok' g) :
    ∀ (x:V) (v:Value),(∀ m,V.refs m x=true→γ' m=γ m)→RepV C w ok γ x v→RepV C w' ok' γ' x v
  | .d x,v,_,r=>RepD.mono h x v r
  | .cap0,v,_,r=>r
  | .nilp,v,_,r=>r
  | .ptr n off,v,hg,r=>by
    obtain ⟨g,e,r⟩:=r
    exact ⟨g,by rw [hg n (by simp [V.refs]),e],r⟩
  | .own n,v,hg,r=>⟨by rw [hg n (by simp [V.refs])];exact r.1,r.2⟩
  | .eptr n sz i off,v,hg,r=>by
    obtain ⟨g,l,c,e,r⟩:=r
    exact ⟨g,l,c,by rw [hg n (by simp [V.refs]),e],r⟩
  | .mref n,v,hg,r=>⟨by rw [hg n (by simp [V.refs])];exact r.1,r.2⟩
  | .cptr cs,v,_,r=>by
    obtain ⟨a,e,hok,r⟩:=r
    exact ⟨a,e,(h _ hok).2,RepCs.mono h a hok 0 cs r⟩
  | .fn f caps,v,hg,r=>by
    obtain ⟨us,e,r⟩:=r
    exact ⟨us,e,RepVs.mono h caps us (fun m hm=>hg m (by simpa [V.refs] using hm)) r⟩
  | .agg cs,v,hg,r=>by
    obtain ⟨us,e,r,h1⟩:=r
    exact ⟨us,e,RepVs.mono h cs us (fun m hm=>hg m (by simpa [V.refs] using hm)) r,h1⟩
  | .tup cs,v,hg,r=>by
    obtain ⟨us,e,r⟩:=r
    exact ⟨us,e,RepVs.mono h cs us (fun m hm=>hg m (by simpa [V.refs] using hm)) r⟩
  | .undef,v,_,r=>trivial
theorem RepVs.mono {C:Ctx}{w w':World}{ok ok':Nat→Prop}{γ γ':Nat→Value}(h:∀ g,ok g→w'.heap[g]? = w.heap[g]? ∧ ok' g) :
    ∀ (xs:List V) (vs:List Value),(∀ m,V.refsL m xs=true→γ' m=γ m)→RepVs C w ok γ xs vs→RepVs C w' ok' γ' xs vs
  | [],vs,_,r=>r
  | x::xs,vs,hg,r=>by
    obtain ⟨u,us,e,r1,r2⟩:=r
    exact ⟨u,us,e,RepV.mono h x u (fun m hm=>hg m (by simp [V.refsL,hm])) r1,RepVs.mono h xs us (fun m hm=>hg m (by simp [V.refsL,hm])) r2⟩
end
theorem RepCells.mono {w w':World}{ok ok':Nat→Prop}(h:∀ g,ok g→w'.heap[g]? = w.heap[g]? ∧ ok' g){ds:List D}{us:List Value}(r:RepCells w ok ds us):RepCells w' ok' ds us :=
  RepCells.of_get fun i d hd=>by
    obtain ⟨u,hu,hr⟩:=r.get i d hd
    exact ⟨u,hu,RepD.mono h d u hr⟩
theorem RepKvs.mono {w w':World}{ok ok':Nat→Prop}(h:∀ g,ok g→w'.heap[g]? = w.heap[g]? ∧ ok' g):∀ {kvs:List (D × D)}{es:List MapEntry},RepKvs w ok kvs es→RepKvs w' ok' kvs es
  | [],_,r=>r
  | kv::kvs,_,r=>by
    obtain ⟨e,es,rfl,r1,r2,r3⟩:=r
    exact ⟨e,es,rfl,RepD.mono h _ _ r1,RepD.mono h _ _ r2,RepKvs.mono h r3⟩
def Ob.refs (m:Nat):Ob→Bool
  | .box cs=>V.refsL m cs
  | .bld k=>k==m
  | _=>false
theorem RepO.mono {C:Ctx}{w w':World}{ok ok':Nat→Prop}{γ γ':Nat→Value}(h:∀ g,ok g→w'.heap[g]? = w.heap[g]? ∧ ok' g){x:Ob}{v:Value}
    (hg:∀ m,x.refs m=true→γ' m=γ m) (hb:∀ g,blk v=some g→w'.heap[g]? = w.heap[g]?) (r:RepO C w ok γ x v):RepO C w' ok' γ' x v:=by
  cases x with
  | box cs =>
    obtain ⟨g,us,ty,rfl,hh,hv,h1⟩:=r
    exact ⟨g,us,ty,rfl,by rw [hb g rfl];exact hh,RepVs.mono h cs us hg hv,h1⟩
  | row sz es =>
    rcases r with ⟨rfl,A,rfl⟩|⟨g,cap,us,ty,rfl,hc,hh,h1,h2,h3,h4,h5,h6⟩
    · exact .inl ⟨rfl,A,rfl⟩
    · exact .inr ⟨g,cap,us,ty,rfl,hc,by rw [hb g (by simp [blk];omega)];exact hh,h1,h2,h3,h4,h5.mono h,h6⟩
  | map kvs =>
    obtain ⟨r,es,c,rfl,hh,hk⟩:=r
    exact ⟨r,es,c,rfl,by rw [hb r rfl];exact hh,hk.mono h⟩
  | bld k =>
    obtain ⟨g,p,rfl,hh,hp,h1⟩:=r
    have e:=hg k (by simp [Ob.refs])
    exact ⟨g,p,rfl,by rw [hb g rfl,e];exact hh,hp,by rw [e];exact h1⟩
  | brow s =>
    rcases r with ⟨rfl,rfl⟩|⟨g,cap,us,rfl,hc,hh,h1⟩
    · exact .inl ⟨rfl,rfl⟩
    · exact .inr ⟨g,cap,us,rfl,hc,by rw [hb g (by simp [blk];omega)];exact hh,h1⟩
def upd {α:Type}(f:Nat→α)(n:Nat)(x:α):Nat→α:=fun m=>if m=n then x else f m
theorem upd_same {α:Type}(f:Nat→α)(n:Nat)(x:α):upd f n x n=x:=by simp [upd]
theorem upd_other {α:Type}(f:Nat→α){n m:Nat}(x:α)(h:m≠n):upd f n x m=f m:=by simp [upd,h]
def St.put (st:St)(dst:Option Nat)(v:V):St:=match dst with|some d=>{ st with s:=upd st.s d v }|none=>st
structure Grow (w w':World):Prop where
  os:w'.os=w.os
  tape:w'.tape=w.tape
  output:w'.output=w.output
  size:w.heap.size≤w'.heap.size
  block:∀ g,g<w.heap.size→w'.heap[g]? = w.heap[g]?
theorem Grow.refl (w:World):Grow w w:=⟨rfl,rfl,rfl,Nat.le_refl _,fun _ _=>rfl⟩
theorem Grow.trans {a b c:World}(h:Grow a b)(k:Grow b c):Grow a c :=
  ⟨k.os.trans h.os,k.tape.trans h.tape,k.output.trans h.output,Nat.le_trans h.size k.size,fun g hg=>(k.block g (Nat.lt_of_lt_of_le hg h.size)).trans (h.block g hg)⟩
theorem Grow.alloc (w:World)(o:Obj):Grow w (w.alloc o):=⟨rfl,rfl,rfl,by simp,fun g hg=>heap_alloc_old w o g hg⟩
theorem Grow.drew (w:World):Grow w w.drew:=⟨rfl,rfl,rfl,Nat.le_refl _,fun _ _=>rfl⟩
theorem Fram.grow {w0 w w':World}{M:Nat→Prop}(h:Fram w0 w M)(k:Grow w w'):Fram w0 w' M :=
  ⟨k.os.trans h.os,k.tape.trans h.tape,k.output.trans h.output,Nat.le_trans h.size k.size,fun g hg hm=>(k.block g (Nat.lt_of_lt_of_le hg h.size)).trans (h.block g hg hm)⟩
section
variable {C:Ctx}{w0:World}{S M:Nat→Prop}{N:Nat}{γ:Nat→Value}{st:St}{a:Act}{w:World}
theorem Rel.put (hr:Rel C w0 S M N γ st a w){dst:Option Nat}(hd:∀ d,dst=some d→d<N){v:V}{u:Value}(hv:RepV C w (okOf w0 S γ st.o w) γ v u):Rel C w0 S M N γ (st.put dst v) (a.put dst u) w:=by
  cases dst with
  | none=>exact hr
  | some d =>
    have hlt:d<a.tmps.size:=Nat.lt_of_lt_of_le (hd d rfl) hr.size
    refine ⟨fun t => ?_,hr.objs,hr.sep,hr.muts,hr.fram,hr.defers,by simpa [Act.put] using hr.size⟩
    simp only [St.put,Act.put]
    by_cases ht:t=d
    · subst ht
      rw [upd_same]
      simpa [hlt] using hv
    · rw [upd_other _ _ ht]
      have:=hr.slots t
      simpa [Array.getElem?_setIfInBounds_ne (Ne.symm ht)] using this
theorem blk_lt {w:World}{ok:Nat→Prop}{γ:Nat→Value}{x:Ob}{v:Value}(h:RepO C w ok γ x v){g:Nat}(hb:blk v=some g):g<w.heap.size:=by
  have key:∀ {o:Obj},w.heap[g]? = some o→g<w.heap.size:=fun h=>(Array.getElem?_eq_some_iff.1 h).1
  cases x with
  | box cs =>
    obtain ⟨g',us,ty,rfl,hh,_⟩:=h
    simp only [blk,Option.some.injEq] at hb
    subst hb
    exact key hh
  | row sz es =>
    rcases h with ⟨rfl,A,rfl⟩|⟨g',cap,us,ty,rfl,hc,hh,_⟩
    · cases A <;> simp [blk] at hb
    · simp only [blk,if_neg (show ¬cap=0 by omega),Option.some.injEq] at hb
      subst hb
      exact key hh
  | map kvs =>
    obtain ⟨r,es,c,rfl,hh,_⟩:=h
    simp only [blk,Option.some.injEq] at hb
    subst hb
    exact key hh
  | bld k =>
    obtain ⟨g',p,rfl,hh,_⟩:=h
    simp only [blk,Option.some.injEq] at hb
    subst hb
    exact key hh
  | brow s =>
    rcases h with ⟨rfl,rfl⟩|⟨g',cap,us,rfl,hc,hh,_⟩
    · simp [blk] at hb
    · simp only [blk,if_neg (show ¬cap=0 by omega),Option.some.injEq] at hb
      subst hb
      exact key hh
theorem Rel.grow (hr:Rel C w0 S M N γ st a w){w':World}(hg:Grow w w'):Rel C w0 S M N γ st a w':=by
  have hok:∀ g,okOf w0 S γ st.o w g→w'.heap[g]? = w.heap[g]? ∧ okOf w0 S γ st.o w' g:=fun g h=>⟨hg.block g h.2.1,h.1,Nat.lt_of_lt_of_le h.2.1 hg.size,h.2.2⟩
  exact ⟨fun t=>RepV.mono hok _ _ (fun _ _=>rfl) (hr.slots t),fun n x hx=>RepO.mono hok (fun _ _=>rfl) (fun g hb=>hg.block g (blk_lt (hr.objs n x hx) hb)) (hr.objs n x hx),
    hr.sep,hr.muts,hr.fram.grow hg,hr.defers,hr.size⟩
def Fresh (st:St)(nm:Nat)(dst:Option Nat):Prop:=(∀ t,dst≠some t→V.refs nm (st.s t)=false)∧(∀ m x,m≠nm→st.o m=some x→x.refs nm=false)
theorem Rel.new (hr:Rel C w0 S M N γ st a w) {dst:Option Nat} (hd:∀ d,dst=some d→d<N) {nm:Nat} (hf:Fresh st nm dst) {w':World} (hg:Grow w w') {ob:Ob} {h:Value}
    (hb:∀ g,blk h=some g→w.heap.size≤g) {v:V} {u:Value}
    (hob:∀ (ok:Nat→Prop) (γ':Nat→Value),(∀ g,okOf w0 S γ st.o w g→w'.heap[g]? = w.heap[g]? ∧ ok g)→(∀ m,ob.refs m=true→γ' m=γ m)→RepO C w' ok γ' ob h)
    (hn:ob.refs nm=false) (hv:∀ (ok:Nat→Prop),RepV C w' ok (upd γ nm h) v u) :
    Rel C w0 S M N (upd γ nm h) { s:=(st.put dst v).s,o:=upd st.o nm (some ob) } (a.put dst u) w':=by
  have hsep:∀ n x g,st.o n=some x→blk (γ n)=some g→blk h≠some g:=by
    intro n x g hx hgn e
    have:=blk_lt (hr.objs n x hx) hgn
    have:=hb g e
    omega
  have hok:∀ g,okOf w0 S γ st.o w g→w'.heap[g]? = w.heap[g]? ∧ okOf w0 S (upd γ nm h) (upd st.o nm (some ob)) w' g:=by
    intro g hgk
    refine ⟨hg.block g hgk.2.1,hgk.1,Nat.lt_of_lt_of_le hgk.2.1 hg.size,fun n x hx => ?_⟩
    by_cases hn:n=nm
    · subst hn
      rw [upd_same]
      intro e
      have:=hb g e
      have:=hgk.2.1
      omega
    · rw [upd_other _ _ hn] at hx ⊢
      exact hgk.2.2 n x hx
  have hlt:∀ d,dst=some d→d<a.tmps.size:=fun d h=>Nat.lt_of_lt_of_le (hd d h) hr.size
  refine ⟨fun t => ?_,fun n x hx => ?_,?_,?_,hr.fram.grow hg,by cases dst <;> exact hr.defers,by cases dst <;> simpa [Act.put] using hr.size⟩
  · by_cases ht:dst=some t
    · subst ht
      have:=hlt t rfl
      simp only [St.put,Act.put,upd_same]
      simpa [this] using hv _
    · have h1:(st.put dst v).s t=st.s t:=by
        cases dst with
        | none=>rfl
        | some d=>exact upd_other _ _ (fun e=>ht (by rw [e]))
      have h2:(a.put dst u).tmps.getD t undef=a.tmps.getD t undef:=by
        cases dst with
        | none=>rfl
        | some d=>simp [Act.put,Array.getElem?_setIfInBounds_ne (show d≠t from fun e=>ht (by rw [e]))]
      simp only
      rw [h1,h2]
      refine RepV.mono hok _ _ (fun m hm => ?_) (hr.slots t)
      refine upd_other _ _ ?_
      rintro rfl
      rw [hf.1 t ht] at hm
      cases hm
  · by_cases hn':n=nm
    · subst hn'
      simp only [upd_same] at hx ⊢
      injection hx with hx
      subst hx
      exact hob _ _ hok (fun m hm=>upd_other _ _ (by rintro rfl;rw [hn] at hm;cases hm))
    · simp only [upd_other _ _ hn'] at hx ⊢
      refine RepO.mono hok (fun m hm=>upd_other _ _ ?_) (fun g hb'=>hg.block g (blk_lt (hr.objs n x hx) hb')) (hr.objs n x hx)
      rintro rfl
      rw [hf.2 n x hn' hx] at hm
      cases hm
  · intro n m x y g hx hy hgn hgm
    by_cases h1:n=nm
    · by_cases h2:m=nm
      · rw [h1,h2]
      · subst h1
        simp only [upd_same,upd_other _ _ h2] at hx hy hgn hgm
        exact absurd hgn (hsep m y g hy hgm)
    · by_cases h2:m=nm
      · subst h2
        simp only [upd_same,upd_other _ _ h1] at hx hy hgn hgm
        exact absurd hgm (hsep n x g hx hgn)
      · simp only [upd_other _ _ h1,upd_other _ _ h2] at hx hy hgn hgm
        exact hr.sep n m x y g hx hy hgn hgm
  · intro n x g hx hgn
    by_cases h1:n=nm
    · subst h1
      simp only [upd_same] at hgn
      exact .inr (Nat.le_trans hr.fram.size (hb g hgn))
    · simp only [upd_other _ _ h1] at hx hgn
      exact hr.muts n x g hx hgn
def scrubV (m:Nat)(v:V):V:=if V.refs m v=true then .undef else v
def Ob.scrub (m:Nat):Ob→Ob
  | .box cs=>.box (cs.map (scrubV m))
  | .bld k=>if k=m then .box [.undef,.undef] else .bld k
  | x=>x
def St.scrub (st:St)(m:Nat):St:={ s:=fun t=>scrubV m (st.s t),o:=fun n=>(st.o n).map (Ob.scrub m) }
theorem scrubV_refs (m k:Nat)(v:V)(h:V.refs k (scrubV m v)=true):k≠m:=by
  unfold scrubV at h
  split at h
  · simp [V.refs] at h
  · rename_i hn
    rintro rfl
    exact hn h
theorem refsL_map (m k:Nat):∀ (cs:List V),V.refsL k (cs.map (scrubV m))=true→k≠m
  | [],h=>by simp [V.refsL] at h
  | c::cs,h=>by
    simp only [List.map_cons,V.refsL,Bool.or_eq_true] at h
    rcases h with h|h
    · exact scrubV_refs m k c h
    · exact refsL_map m k cs h
theorem RepVs.scrub {C:Ctx}{w:World}{ok:Nat→Prop}{γ:Nat→Value}(m:Nat){cs:List V}{us:List Value}(h:RepVs C w ok γ cs us):RepVs C w ok γ (cs.map (scrubV m)) us :=
  RepVs.of_get (by simp [h.length]) fun i c u hc hu=>by
    rw [List.getElem?_map] at hc
    obtain ⟨c0,hc0,rfl⟩:=Option.map_eq_some_iff.1 hc
    obtain ⟨u',hu',hr⟩:=h.get i c0 hc0
    rw [hu] at hu';injection hu' with hu';subst hu'
    unfold scrubV
    split
    · exact trivial
    · exact hr
theorem bld_box {C:Ctx}{w:World}{ok:Nat→Prop}{γ:Nat→Value}{k:Nat}{v:Value}(h:RepO C w ok γ (.bld k) v):RepO C w ok γ (.box [.undef,.undef]) v:=by
  obtain ⟨g,p,rfl,hh,hp,h1⟩:=h
  refine ⟨g,_,_,rfl,hh,⟨p,_,rfl,trivial,γ k,_,rfl,trivial,rfl⟩,fun u hu => ?_⟩
  simp only [List.mem_cons,List.not_mem_nil,or_false] at hu
  rcases hu with rfl|rfl
  · rcases hp with rfl|rfl <;> rfl
  · exact h1
structure Turn (w w':World) (b:Option Nat):Prop where
  os:w'.os=w.os
  tape:w'.tape=w.tape
  output:w'.output=w.output
  size:w.heap.size≤w'.heap.size
  block:∀ g,g<w.heap.size→b≠some g→w'.heap[g]? = w.heap[g]?
theorem Rel.turnCore (hr:Rel C w0 S M N γ st a w) {m:Nat} {ob:Ob} (hm:st.o m=some ob) {w':World} (ht:Turn w w' (blk (γ m))) {h':Value} (hb:∀ g,blk h'=some g→blk (γ m)=some g∨w.heap.size≤g) {ob':Ob} {st':St}
    (hs:∀ t,st'.s t=st.s t∨st'.s t = .undef) (hsr:∀ t,V.refs m (st'.s t)=true→h'=γ m)
    (ho:∀ n,n≠m→(st'.o n=st.o n)∨(st'.o n=(st.o n).map (Ob.scrub m))) (hor:∀ n x,n≠m→st'.o n=some x→x.refs m=true→h'=γ m) (hom:st'.o m=some ob')
    (hob:∀ (ok:Nat→Prop),(∀ g,okOf w0 S γ st.o w g→w'.heap[g]? = w.heap[g]? ∧ ok g)→RepO C w' ok (upd γ m h') ob' h') :
    Rel C w0 S M N (upd γ m h') st' a w'∧(∀ g,okOf w0 S γ st.o w g→w'.heap[g]? = w.heap[g]? ∧ okOf w0 S (upd γ m h') st'.o w' g):=by
  have hold:∀ n x,st'.o n=some x→∃ y,st.o n=some y:=by
    intro n x hx
    by_cases hnm:n=m
    · subst hnm;exact ⟨ob,hm⟩
    · rcases ho n hnm with e|e
      · exact ⟨x,by rw [← e];exact hx⟩
      · rw [e] at hx
        obtain ⟨y,hy,_⟩:=Option.map_eq_some_iff.1 hx
        exact ⟨y,hy⟩
  have hok:∀ g,okOf w0 S γ st.o w g→w'.heap[g]? = w.heap[g]? ∧ okOf w0 S (upd γ m h') st'.o w' g:=by
    intro g hgk
    refine ⟨ht.block g hgk.2.1 (hgk.2.2 m ob hm),hgk.1,Nat.lt_of_lt_of_le hgk.2.1 ht.size,fun n x hx => ?_⟩
    by_cases hnm:n=m
    · subst hnm
      rw [upd_same]
      intro e
      rcases hb g e with h|h
      · exact hgk.2.2 n ob hm h
      · have:=hgk.2.1;omega
    · rw [upd_other _ _ hnm]
      obtain ⟨y,hy⟩:=hold n x hx
      exact hgk.2.2 n y hy
  have hframe:Fram w0 w' M:=by
    refine ⟨ht.os.trans hr.fram.os,ht.tape.trans hr.fram.tape,ht.output.trans hr.fram.output,Nat.le_trans hr.fram.size ht.size,fun g hg hM => ?_⟩
    rw [← hr.fram.block g hg hM]
    refine ht.block g (Nat.lt_of_lt_of_le hg hr.fram.size) (fun e => ?_)
    rcases hr.muts m ob g hm e with h|h
    · exact hM h
    · omega
  refine ⟨⟨fun t => ?_,fun n x hx => ?_,?_,?_,hframe,hr.defers,hr.size⟩,hok⟩
  · rcases hs t with e|e
    · rw [e]
      refine RepV.mono hok _ _ (fun k hk => ?_) (hr.slots t)
      by_cases hkm:k=m
      · subst hkm
        rw [upd_same]
        exact hsr t (by rw [e];exact hk)
      · exact upd_other _ _ hkm
    · rw [e];exact trivial
  · by_cases hnm:n=m
    · subst hnm
      rw [hom] at hx
      injection hx with hx
      subst hx
      rw [upd_same]
      exact hob _ hok
    · rw [upd_other _ _ hnm]
      have key:∀ y,st.o n=some y→∀ z,(z=y∨z=y.scrub m)→(z.refs m=true→h'=γ m)→RepO C w' (okOf w0 S (upd γ m h') st'.o w') (upd γ m h') z (γ n):=by
        intro y hy z hz hzr
        have r0:=hr.objs n y hy
        have r1:RepO C w (okOf w0 S γ st.o w) γ z (γ n):=by
          rcases hz with rfl|rfl
          · exact r0
          · cases y with
            | box cs =>
              obtain ⟨g,us,ty,e,hh,hv,h1⟩:=r0
              exact ⟨g,us,ty,e,hh,hv.scrub m,h1⟩
            | row sz es=>exact r0
            | map kvs=>exact r0
            | bld k =>
              simp only [Ob.scrub]
              split
              · exact bld_box r0
              · exact r0
            | brow s=>exact r0
        refine RepO.mono hok (fun k hk => ?_) (fun g hb' => ?_) r1
        · by_cases hkm:k=m
          · subst hkm;rw [upd_same];exact hzr hk
          · exact upd_other _ _ hkm
        · exact ht.block g (blk_lt r0 hb') (fun e=>hnm (hr.sep n m y ob g hy hm hb' e))
      rcases ho n hnm with e|e
      · rw [e] at hx
        exact key x hx x (.inl rfl) (fun hk=>hor n x hnm (by rw [e];exact hx) hk)
      · have hx':=hx
        rw [e] at hx
        obtain ⟨y,hy,rfl⟩:=Option.map_eq_some_iff.1 hx
        exact key y hy _ (.inr rfl) (fun hk=>hor n _ hnm hx' hk)
  · intro n k x y g hx hy hgn hgk
    obtain ⟨x0,hx0⟩:=hold n x hx
    obtain ⟨y0,hy0⟩:=hold k y hy
    have cross:∀ n x0,n≠m→st.o n=some x0→blk (γ n)=some g→blk h'=some g→False:=by
      intro n x0 hnm hx0 hgn hgh
      rcases hb g hgh with h|h
      · exact hnm (hr.sep n m x0 ob g hx0 hm hgn h)
      · have:=blk_lt (hr.objs n x0 hx0) hgn;omega
    by_cases h1:n=m
    · by_cases h2:k=m
      · rw [h1,h2]
      · rw [h1,upd_same] at hgn
        rw [upd_other _ _ h2] at hgk
        exact (cross k y0 h2 hy0 hgk hgn).elim
    · by_cases h2:k=m
      · rw [h2,upd_same] at hgk
        rw [upd_other _ _ h1] at hgn
        exact (cross n x0 h1 hx0 hgn hgk).elim
      · rw [upd_other _ _ h1] at hgn
        rw [upd_other _ _ h2] at hgk
        exact hr.sep n k x0 y0 g hx0 hy0 hgn hgk
  · intro n x g hx hgn
    obtain ⟨x0,hx0⟩:=hold n x hx
    by_cases h1:n=m
    · rw [h1,upd_same] at hgn
      rcases hb g hgn with h|h
      · exact hr.muts m ob g hm h
      · exact .inr (Nat.le_trans hr.fram.size h)
    · rw [upd_other _ _ h1] at hgn
      exact hr.muts n x0 g hx0 hgn
theorem Rel.turnSame (hr:Rel C w0 S M N γ st a w){m:Nat}{ob:Ob}(hm:st.o m=some ob){w':World}(ht:Turn w w' (blk (γ m))){ob':Ob}
    (hob:∀ (ok:Nat→Prop),(∀ g,okOf w0 S γ st.o w g→w'.heap[g]? = w.heap[g]? ∧ ok g)→RepO C w' ok γ ob' (γ m)) :
    Rel C w0 S M N γ { st with o:=upd st.o m (some ob') } a w':=by
  have hγ:upd γ m (γ m)=γ:=by funext n;unfold upd;split <;> simp_all
  have:=hr.turnCore hm ht (h':=γ m) (fun g hg=>.inl hg) (ob':=ob') (st':={ st with o:=upd st.o m (some ob') }) (fun t=>.inl rfl) (fun _ _=>rfl) (fun n hn=>.inl (upd_other _ _ hn)) (fun _ _ _ _ _=>rfl) (upd_same _ _ _)
    (by rw [hγ];exact hob)
  rw [hγ] at this
  exact this.1
theorem Rel.turnNew (hr:Rel C w0 S M N γ st a w){m:Nat}{ob:Ob}(hm:st.o m=some ob){w':World}(ht:Turn w w' (blk (γ m))){h':Value}(hb:∀ g,blk h'=some g→blk (γ m)=some g∨w.heap.size≤g){ob':Ob}(hbox:∀ cs,ob' ≠ .box cs)
    (hob:∀ (ok:Nat→Prop),(∀ g,okOf w0 S γ st.o w g→w'.heap[g]? = w.heap[g]? ∧ ok g)→RepO C w' ok (upd γ m h') ob' h') :
    Rel C w0 S M N (upd γ m h') { s:=(st.scrub m).s,o:=upd (st.scrub m).o m (some ob') } a w':=by
  refine (hr.turnCore hm ht hb (ob':=ob') (st':={ s:=(st.scrub m).s,o:=upd (st.scrub m).o m (some ob') }) (fun t => ?_) (fun t h=>absurd rfl (scrubV_refs m m _ h)) (fun n hn=>.inr (upd_other _ _ hn)) (fun n x hn hx hxr => ?_) (upd_same _ _ _) hob).1
  · show scrubV m (st.s t)=st.s t∨scrubV m (st.s t) = .undef
    unfold scrubV
    split
    · exact .inr rfl
    · exact .inl rfl
  · simp only [upd_other _ _ hn,St.scrub] at hx
    obtain ⟨y,_,rfl⟩:=Option.map_eq_some_iff.1 hx
    cases y with
    | box cs=>exact absurd rfl (refsL_map m m cs hxr)
    | row _ _=>simp [Ob.scrub,Ob.refs] at hxr
    | map _=>simp [Ob.scrub,Ob.refs] at hxr
    | bld k =>
      simp only [Ob.scrub] at hxr
      split at hxr
      · simp [Ob.refs,V.refsL,V.refs] at hxr
      · rename_i hk;simp [Ob.refs,hk] at hxr
    | brow s=>simp [Ob.scrub,Ob.refs] at hxr
end
end Pay
end
/- The operations that turn objects: stores, new variables, slices that grow. -/
section
set_option linter.unusedSimpArgs false
set_option linter.unusedVariables false
namespace Pay
open Go
section
variable {P:Program}{w:World}
theorem run_append_zero {t e ty:TypeId}{i:TypeInfo}(ht:P.underlying t=some (.slice e))(hi:P.info? e=some i){A B:Option Addr}{n cap c:Nat}(hn:n≤cap) :
    (Builtin.append_ #[t,t] ty #[.slice A n cap,.slice B 0 c]).run P w = .ok (.slice A n cap) w:=by
  cases A <;> cases B <;> simp [Builtin.append_,run_underlying ht,Go.sizeOf,typeInfo,hi,Builtin.lenOf,Builtin.firstCells,loadCells,loadCellsFrom,storeCells,hn]
theorem run_append_room' {t e ty bt:TypeId}{i:TypeInfo}(ht:P.underlying t=some (.slice e))(hi:P.info? e=some i){g n cap:Nat}{cur:Array Value}(hg:w.heap[g]? = some (.cells cur bt (0,0)))
    {ad:Addr} {m c:Nat} {news:List Value} (hl:news.length=m*i.size) (hnews:∀ (j:Nat) (u:Value),news[j]? = some u→w.cell? (ad.add j)=some u) (h1:∀ u∈news,u.oneCell'=true)
    (hroom:n+m≤cap) (hfit:n*i.size+news.length≤cur.size) :
    (Builtin.append_ #[t,t] ty #[.slice (some ⟨g,0,none⟩) n cap,.slice (some ad) m c]).run P w =
      .ok (.slice (some ⟨g,0,none⟩) (n+m) cap) (w.setRow g (cur.toList.take (n*i.size)++news++cur.toList.drop (n*i.size+news.length)).toArray):=by
  have hf:=run_firstCells_some (P:=P) w i.size m ad m c news hl hnews
  have hst:=run_storeCells_at P g (n*i.size) bt news 0 cur w hg (by simpa using hfit) h1
  simp only [Nat.add_zero] at hst
  simp [Builtin.append_,run_underlying ht,Go.sizeOf,typeInfo,hi,Builtin.lenOf,hroom,hf,Addr.add_lit,hst]
def AppPost (P:Program)(w:World)(t ty:TypeId)(i:TypeInfo)(v:Value)(n m:Nat)(x:Value)(olds news:List Value):Prop :=
  ∃ v' w',(Builtin.append_ #[t,t] ty #[v,x]).run P w = .ok v' w'∧Turn w w' (blk v)∧(∀ g,blk v'=some g→blk v=some g∨w.heap.size≤g) ∧
      ((n+m=0∧∃ A,v' = .slice A 0 0)∨∃ g cap us bt,v' = .slice (some ⟨g,0,none⟩) (n+m) cap∧0<cap∧w'.heap[g]? = some (.cells ⟨us⟩ bt (0,0))∧n+m≤cap∧cap≤maxLen∧us.length=cap*i.size∧us.take ((n+m)*i.size)=olds++news∧∀ u∈us,u.oneCell'=true)
def AppPost2 (P:Program)(w:World)(t ty:TypeId)(i:TypeInfo)(v:Value)(n m:Nat)(x:Value)(olds news:List Value):Prop :=
  ∃ v' w',(Builtin.append_ #[t,t] ty #[v,x]).run P w = .ok v' w'∧Turn w w' (blk v)∧(∀ g,blk v'=some g→blk v=some g∨w.heap.size≤g) ∧
      ((n+m=0∧∃ A,v' = .slice A 0 0)∨∃ g cap us bt,v' = .slice (some ⟨g,0,none⟩) (n+m) cap∧0<cap∧w'.heap[g]? = some (.cells ⟨us⟩ bt (0,0))∧n+m≤cap∧cap≤maxLen∧us.length=cap*i.size∧us.take ((n+m)*i.size)=olds++news∧∀ u∈us,u.oneCell'=true) ∧
      ∀ g us bt,blk v=some g→w.heap[g]? = some (.cells ⟨us⟩ bt (0,0))→∃ us',w'.heap[g]? = some (.cells ⟨us'⟩ bt (0,0))∧us'.length=us.length∧us'.take (n*i.size)=us.take (n*i.size)∧((∀ u∈us,u.oneCell'=true)→∀ u∈us',u.oneCell'=true)
theorem run_append_row2 {t e ty:TypeId} {i:TypeInfo} {z:Value} (ht:P.underlying t=some (.slice e)) (hi:P.info? e=some i) (hz:i.zero=some z) (hzs:z.cells.size=i.size) (hsz:i.size≠0) (hz1:∀ u∈z.cells.toList,u.oneCell'=true)
    {v:Value} {n:Nat} {olds:List Value}
    (hv:(n=0∧olds=[]∧∃ A,v = .slice A 0 0)∨∃ g cap us bt,v = .slice (some ⟨g,0,none⟩) n cap∧0<cap∧w.heap[g]? = some (.cells ⟨us⟩ bt (0,0))∧n≤cap∧cap≤maxLen∧us.length=cap*i.size∧us.take (n*i.size)=olds∧∀ u∈us,u.oneCell'=true)
    {B:Option Addr} {m c:Nat} {news:List Value} (hl:news.length=m*i.size) (hB:0<m→∃ ad,B=some ad∧∀ (j:Nat) (u:Value),news[j]? = some u→w.cell? (ad.add j)=some u) (h1:∀ u∈news,u.oneCell'=true)
    (hbytes:(n+m)*i.bytes≤140737488355328) (h63:n+m≤140737488355328) :
    AppPost2 P w t ty i v n m (.slice B m c) olds news:=by
  have hol:olds.length=n*i.size:=by
    rcases hv with ⟨rfl,rfl,_⟩|⟨g,cap,us,bt,_,_,_,hn,_,hu,rfl,_⟩
    · simp
    · rw [List.length_take,hu]
      have:=Nat.mul_le_mul_right i.size hn
      omega
  have hone:∀ u∈olds,u.oneCell'=true:=by
    rcases hv with ⟨_,rfl,_⟩|⟨g,cap,us,bt,_,_,_,_,_,_,rfl,h⟩
    · simp
    · exact fun u hu=>h u (List.mem_of_mem_take hu)
  rcases Nat.eq_zero_or_pos m with rfl|hm
  · -- nothing comes to it
    have hnews:news=[]:=List.eq_nil_of_length_eq_zero (by simpa using hl)
    subst hnews
    refine ⟨v,w,?_,⟨rfl,rfl,rfl,Nat.le_refl _,fun _ _ _=>rfl⟩,fun g hg=>.inl hg,?_,fun g us bt _ h=>⟨us,h,rfl,rfl,id⟩⟩
    · rcases hv with ⟨_,_,A,rfl⟩|⟨g,cap,us,bt,rfl,_,_,hn,_⟩
      · exact run_append_zero ht hi (Nat.le_refl _)
      · exact run_append_zero ht hi hn
    · rcases hv with ⟨rfl,_,A,rfl⟩|⟨g,cap,us,bt,rfl,h2,h3,h4,h5,h6,h7,h8⟩
      · exact .inl ⟨rfl,A,rfl⟩
      · exact .inr ⟨g,cap,us,bt,rfl,h2,h3,h4,h5,h6,by simpa using h7,h8⟩
  · obtain ⟨ad,rfl,hnews⟩:=hB hm
    have grows:∀ (A:Option Addr) (cap:Nat),v = .slice A n cap→cap<n+m→(∀ (b:Addr),A=some b→∀ (j:Nat) (u:Value),olds[j]? = some u→w.cell? (b.add j)=some u)→(A=none→n=0∧cap=0)→n≤cap →
        ∃ newCap,n+m≤newCap∧newCap≤maxLen∧(Builtin.append_ #[t,t] ty #[v,.slice (some ad) m c]).run P w = .ok (.slice (some ⟨w.heap.size,0,none⟩) (n+m) newCap) (w.drew.alloc (.cells (olds.toArray++news.toArray++Builtin.zeroCells z.cells (newCap-(n+m))) e)):=by
      intro A cap hvA hlt hA hN hle
      refine ⟨grownCap w (n+m) cap e,grownCap_ge w _ _ e,grownCap_le_maxLen w _ _ e (by simp only [maxLen];omega),?_⟩
      subst hvA
      cases A with
      | none =>
        obtain ⟨rfl,rfl⟩:=hN rfl
        have ho:olds=[]:=List.eq_nil_of_length_eq_zero (by simpa using hol)
        subst ho
        have hr:=run_append_nil (P:=P) w t ty e i z ht hi hz ad m c news hl hnews (by omega) (by omega) (by have hb:=hbytes;simp only [Nat.zero_add] at hb;omega)
        simp only [Nat.zero_add,Array.empty_append,List.nil_append] at hr ⊢
        simpa using hr
      | some b =>
        exact run_append_grow (P:=P) w t ty e i z ht hi hz b n cap olds hol (hA b rfl) ad m c news hl hnews (by omega) (by omega) (growslice_fits (by omega) hbytes)
    have finish:∀ newCap,n+m≤newCap→newCap≤maxLen→(Builtin.append_ #[t,t] ty #[v,.slice (some ad) m c]).run P w = .ok (.slice (some ⟨w.heap.size,0,none⟩) (n+m) newCap) (w.drew.alloc (.cells (olds.toArray++news.toArray++Builtin.zeroCells z.cells (newCap-(n+m))) e))→AppPost2 P w t ty i v n m (.slice (some ad) m c) olds news:=by
      intro newCap hge hle hrun
      refine ⟨_,_,hrun,⟨rfl,rfl,rfl,by simp,fun g hg _=>heap_alloc_old w.drew _ g hg⟩,fun g hg => ?_,.inr ⟨w.heap.size,newCap,olds++news++(Builtin.zeroCells z.cells (newCap-(n+m))).toList,e,rfl,by omega,?_,hge,hle,?_,?_,?_⟩,fun g us bt _ h=>⟨us,(heap_alloc_old w.drew _ g (Array.getElem?_eq_some_iff.1 h).1).trans h,rfl,rfl,id⟩⟩
      · simp only [blk] at hg
        split at hg
        · cases hg
        · injection hg with hg
          exact .inr (by omega)
      · have:(w.drew.alloc (.cells (olds.toArray++news.toArray++Builtin.zeroCells z.cells (newCap-(n+m))) e)).heap[w.heap.size]? = some _:=heap_alloc_new w.drew _
        rw [this]
        congr 2
        apply Array.ext'
        simp
      · simp only [List.length_append,Array.length_toList,size_zeroCells,hzs,hol,hl,← Nat.add_mul]
        congr 1
        omega
      · rw [List.append_assoc,← List.append_assoc]
        refine List.take_left' ?_
        rw [List.length_append,hol,hl,Nat.add_mul]
      · intro u hu
        rcases List.mem_append.1 hu with hu|hu
        · rcases List.mem_append.1 hu with hu|hu
          · exact hone u hu
          · exact h1 u hu
        · simp only [Builtin.zeroCells,Array.toList_map,List.mem_map,Array.toList_range,List.mem_range] at hu
          obtain ⟨j,hj,rfl⟩:=hu
          have hpos:0<z.cells.size:=by omega
          rw [getElem!_pos z.cells (j % z.cells.size) (Nat.mod_lt _ hpos)]
          exact hz1 _ (by simp)
    rcases hv with ⟨rfl,rfl,A,rfl⟩|⟨g,cap,us,bt,rfl,h2,h3,h4,h5,h6,h7,h8⟩
    · obtain ⟨newCap,c1,c2,hrun⟩:=grows A 0 rfl (by omega) (by simp) (fun _=>⟨rfl,rfl⟩) (Nat.le_refl _)
      exact finish newCap c1 c2 hrun
    · by_cases hroom:n+m≤cap
      · have hfit:n*i.size+news.length≤us.length:=by rw [hl,h6,← Nat.add_mul];exact Nat.mul_le_mul_right _ hroom
        have hrun:=run_append_room' (P:=P) (ty:=ty) ht hi (g:=g) (n:=n) (cap:=cap) h3 hl hnews h1 hroom (c:=c) (by simpa using hfit)
        refine ⟨_,_,hrun,⟨rfl,rfl,rfl,by simp,fun k hk hne=>setRow_other w g k _ (fun e=>hne (by simp [blk,e];omega))⟩,fun g' hg'=>.inl ?_,.inr ⟨g,cap,us.take (n*i.size)++news++us.drop (n*i.size+news.length),bt,rfl,h2,by simpa using setRow_heap w g _ _ bt _ h3,hroom,h5,?_,?_,?_⟩,fun g' us' bt' hg' h' => ?_⟩
        · simpa [blk] using hg'
        · simp only [List.length_append,List.length_take,List.length_drop]
          omega
        · rw [h7]
          refine List.take_left' ?_
          rw [List.length_append,hol,hl,Nat.add_mul]
        · intro u hu
          rcases List.mem_append.1 hu with hu|hu
          · rcases List.mem_append.1 hu with hu|hu
            · exact h8 u (List.mem_of_mem_take hu)
            · exact h1 u hu
          · exact h8 u (List.mem_of_mem_drop hu)
        · have hgg:g=g':=by
            simp only [blk] at hg'
            rw [if_neg (by omega)] at hg'
            injection hg'
          subst hgg
          rw [h3] at h'
          injection h' with h'
          injection h' with e1 e2 e3
          injection e1 with e1
          subst e1 e2
          refine ⟨_,by simpa using setRow_heap w g _ _ bt _ h3,?_,?_,fun _ u hu => ?_⟩
          · simp only [List.length_append,List.length_take,List.length_drop]
            omega
          · refine List.take_left' ?_
            rw [List.length_take]
            omega
          · rw [← List.append_assoc] at hu
            rcases List.mem_append.1 hu with hu|hu
            · rcases List.mem_append.1 hu with hu|hu
              · exact h8 u (List.mem_of_mem_take hu)
              · exact h1 u hu
            · exact h8 u (List.mem_of_mem_drop hu)
      · obtain ⟨newCap,c1,c2,hrun⟩:=grows (some ⟨g,0,none⟩) cap rfl (by omega) (fun b hb j u hu=>by
          injection hb with hb
          subst hb
          rw [add_lit,cell_of_row w g _ _ _ _ h3]
          rw [← h7,List.getElem?_take] at hu
          split at hu
          · simpa using hu
          · cases hu) (by simp) h4
        exact finish newCap c1 c2 hrun
theorem run_append_row {t e ty:TypeId}{i:TypeInfo}{z:Value}(ht:P.underlying t=some (.slice e))(hi:P.info? e=some i)(hz:i.zero=some z)(hzs:z.cells.size=i.size)(hsz:i.size≠0)(hz1:∀ u∈z.cells.toList,u.oneCell'=true)
    {v:Value} {n:Nat} {olds:List Value}
    (hv:(n=0∧olds=[]∧∃ A,v = .slice A 0 0)∨∃ g cap us bt,v = .slice (some ⟨g,0,none⟩) n cap∧0<cap∧w.heap[g]? = some (.cells ⟨us⟩ bt (0,0))∧n≤cap∧cap≤maxLen∧us.length=cap*i.size∧us.take (n*i.size)=olds∧∀ u∈us,u.oneCell'=true)
    {B:Option Addr} {m c:Nat} {news:List Value} (hl:news.length=m*i.size) (hB:0<m→∃ ad,B=some ad∧∀ (j:Nat) (u:Value),news[j]? = some u→w.cell? (ad.add j)=some u) (h1:∀ u∈news,u.oneCell'=true)
    (hbytes:(n+m)*i.bytes≤140737488355328) (h63:n+m≤140737488355328) :
    AppPost P w t ty i v n m (.slice B m c) olds news:=by
  obtain ⟨v',w',k1,k2,k3,k4,_⟩:=run_append_row2 (P:=P) (w:=w) (ty:=ty) ht hi hz hzs hsz hz1 hv (c:=c) hl hB h1 hbytes h63
  exact ⟨v',w',k1,k2,k3,k4⟩
end
end Pay
end
/- One step: each operation that turns objects, as a relation between states; its check; its soundness. -/
section
set_option linter.unusedSimpArgs false
set_option linter.unusedVariables false
namespace Pay
open Go
def toD:V→Option D
  | .d x=>some x
  | .cap0=>some (.sl [])
  | _=>none
def toDs:List V→Option (List D)
  | []=>some []
  | v::vs=>(match toD v with
    | some d=>(match toDs vs with|some ds=>some (d::ds)|none=>none)
    | none=>none)
def partsD (sz:Nat) (vs:Opd→V):List Opd→Option (List (List D))
  | []=>some []
  | x :: xs=>(match cellsV (vs x) with
    | some cs=>(match toDs cs with
      | some ds=>if ds.length=sz then (match partsD sz vs xs with|some es=>some (ds::es)|none=>none) else none
      | none=>none)
    | none=>none)
def readD (o:Nat→Option Ob):V→Option (List (List D))
  | .d (.sl es)=>some es
  | .cap0=>some []
  | .own m=>(match o m with|some (.row _ es)=>some es|_=>none)
  | _=>none
def keyEq:D→D→Option Bool
  | .int k x,.int k' y=>if k=k' then some (x==y) else none
  | .str x,.str y=>some (x==y)
  | _,_=>none
def kvGet (k:D):List (D × D)→Option (Option D)
  | []=>some none
  | kv::r=>(match keyEq k kv.1 with
    | some true=>some (some kv.2)
    | some false=>kvGet k r
    | none=>none)
def kvSet (k x:D):List (D × D)→Option (List (D × D))
  | []=>some [(k,x)]
  | kv::r=>(match keyEq k kv.1 with
    | some true=>some ((k,x)::r)
    | some false=>(match kvSet k x r with|some r'=>some (kv::r')|none=>none)
    | none=>none)
def keyIs (str:Bool):D→Bool
  | .int _ _ => !str
  | .str _=>str
  | _=>false
mutual
def V.thaw (n:Nat)(es:List (List D)):V→V
  | .own m=>if m=n then .d (.sl es) else .own m
  | .eptr m sz i off=>if m=n then .undef else .eptr m sz i off
  | .mref m=>if m=n then .undef else .mref m
  | .ptr m off=>if m=n then .undef else .ptr m off
  | .fn f caps=>.fn f (V.thaws n es caps)
  | .agg cs=>.agg (V.thaws n es cs)
  | .tup cs=>.tup (V.thaws n es cs)
  | v=>v
def V.thaws (n:Nat)(es:List (List D)):List V→List V
  | []=>[]
  | c::cs=>V.thaw n es c::V.thaws n es cs
end
def Ob.thaw (n:Nat)(es:List (List D)):Ob→Ob
  | .box cs=>.box (V.thaws n es cs)
  | .bld k=>if k=n then .box [.undef,.undef] else .bld k
  | x=>x
def St.free (st:St)(n:Nat):St:=match st.o n with
  | some (.row _ es)=>{ s:=fun t=>V.thaw n es (st.s t),o:=fun m=>if m=n then none else (st.o m).map (Ob.thaw n es) }
  | _=>st
def stepS (I:Nat→Prop) (st:St) (dst:Option Nat) (K:St→Prop):AOp→Prop
  | .store n p x=>(match opd st.s p,cellsV (opd st.s x) with
    | .ptr m off,some new=>∃ cs,st.o m=some (.box cs)∧new.length=n∧off+n≤cs.length∧K ({ st with o:=upd st.o m (some (.box (setRange cs off new))) }.put dst .undef)
    | .eptr m sz i off,some new=>∃ es e ds,st.o m=some (.row sz es)∧es[i]? = some e∧toDs new=some ds∧ds.length=n∧off+n≤e.length ∧
        K ({ st with o:=upd st.o m (some (.row sz (es.set i (setRange e off ds)))) }.put dst .undef)
    | _,_=>False)
  | .alloc nm zs=>¬I nm∧Fresh st nm dst∧V.refsL nm zs=false∧K { s:=(st.put dst (.ptr nm 0)).s,o:=upd st.o nm (some (.box zs)) }
  | .allocB nm k=>¬I nm∧¬I k∧k≠nm∧Fresh st k none∧Fresh st nm dst∧K { s:=(st.put dst (.ptr nm 0)).s,o:=upd (upd st.o k (some (.brow []))) nm (some (.bld k)) }
  | .box nm n x=>∃ cs,cellsV (opd st.s x)=some cs∧cs.length=n∧¬I nm∧Fresh st nm dst∧V.refsL nm cs=false∧K { s:=(st.put dst (.ptr nm 0)).s,o:=upd st.o nm (some (.box cs)) }
  | .bsl none sz _ n parts=>∃ es,partsD sz (opd st.s) (parts.map (·.2))=some es∧K (st.put dst (.d (.sl es)))
  | .bsl (some nm) sz _ n parts=>if n=0 then K (st.put dst .cap0) else ∃ es,partsD sz (opd st.s) (parts.map (·.2))=some es∧¬I nm∧Fresh st nm dst∧K { s:=(st.put dst (.own nm)).s,o:=upd st.o nm (some (.row sz es)) }
  | .mks none sz bytes zero x=>(match opd st.s x with
    | .d (.int _ n)=>0≤n∧n.toNat*bytes≤140737488355328∧n≤140737488355328∧K (st.put dst (.d (.sl (List.replicate n.toNat zero))))
    | _=>False)
  | .mks (some nm) sz bytes zero x=>(match opd st.s x with
    | .d (.int _ n)=>0≤n∧n.toNat*bytes≤140737488355328∧n≤140737488355328∧¬I nm∧Fresh st nm dst∧K { s:=(st.put dst (.own nm)).s,o:=upd st.o nm (some (.row sz (List.replicate n.toNat zero))) }
    | _=>False)
  | .app own sz bytes x y=>∃ ys,readD st.o (opd st.s y)=some ys∧(∀ e∈ys,e.length=sz)∧(match opd st.s x with
    | .cap0=>(ys.length*bytes≤140737488355328∧ys.length≤140737488355328∧(match own with
      | none=>K (st.put dst (.d (.sl ys)))
      | some nm=>¬I nm∧Fresh st nm dst∧K { s:=(st.put dst (.own nm)).s,o:=upd st.o nm (some (.row sz ys)) }))
    | .own m=>∃ es,¬I m∧st.o m=some (.row sz es)∧(es.length+ys.length)*bytes≤140737488355328∧es.length+ys.length≤140737488355328 ∧
        (match own with
        | some _=>K { s:=((st.scrub m).put dst (.own m)).s,o:=upd (st.scrub m).o m (some (.row sz (es++ys))) }
        | none=>K (({ s:=((st.scrub m).put dst (.own m)).s,o:=upd (st.scrub m).o m (some (.row sz (es++ys))) }:St).free m))
    | _=>False)
  | .appD sz bytes x y=>∃ ys,readD st.o (opd st.s y)=some ys∧(∀ e∈ys,e.length=sz)∧(match opd st.s x with
    | .own m=>∃ es,¬I m∧st.o m=some (.row sz es)∧(es.length+ys.length)*bytes≤140737488355328∧es.length+ys.length≤140737488355328∧K ((st.free m).put dst (.d (.sl (es++ys))))
    | _=>False)
  | .cut x hi=>(match opd st.s x with
    | .own m=>∃ sz es h,¬I m∧st.o m=some (.row sz es)∧bnd es.length (opd st.s hi)=some h∧K { s:=((st.scrub m).put dst (.own m)).s,o:=upd (st.scrub m).o m (some (.row sz (es.take h))) }
    | _=>False)
  | .nilS neq x=>(match opd st.s x with
    | .d (.sl [])=>∀ b,K (st.put dst (.d (.bool b)))
    | .d (.sl (_::_))=>K (st.put dst (.d (.bool neq)))
    | .cap0=>∀ b,K (st.put dst (.d (.bool b)))
    | _=>False)
  | .mkmap nm=>¬I nm∧Fresh st nm dst∧K { s:=(st.put dst (.mref nm)).s,o:=upd st.o nm (some (.map [])) }
  | .mset str m k x=>(match opd st.s m,toD (opd st.s k),toD (opd st.s x) with
    | .mref n,some k,some x=>∃ kvs kvs',keyIs str k=true∧st.o n=some (.map kvs)∧kvSet k x kvs=some kvs'∧K ({ st with o:=upd st.o n (some (.map kvs')) }.put dst .undef)
    | _,_,_=>False)
  | .mget str zero m k ok=>(match opd st.s m,toD (opd st.s k) with
    | .mref n,some k=>∃ kvs r,keyIs str k=true∧st.o n=some (.map kvs)∧kvGet k kvs=some r∧K (st.put dst (if ok=true then .tup [.d (r.getD zero),.d (.bool r.isSome)] else .d (r.getD zero)))
    | _,_=>False)
  | _=>False
def okZeroD (P:Program)(t:TypeId)(sz bytes:Nat)(zs:List D):Bool :=
  match P.info? t with
  | some i=>(match i.zero with|some z=>okZeros z.cells.toList (zs.map .d)&&i.size==zs.length&&i.size==sz&&i.bytes==bytes|none=>false)
  | none=>false
def okElem (P:Program)(t:TypeId)(sz bytes:Nat):Bool :=
  match P.info? t with
  | some i=>(match i.zero with|some z=>z.cells.all (·.oneCell')&&z.cells.size==sz&&i.size==sz&&i.bytes==bytes&&sz != 0|none=>false)
  | none=>false
def okRow (φ:Nat→FuncId):Nat→List (Nat × Operand)→List (Nat × Opd)→Bool
  | _,[],[]=>true
  | k,(i,x)::ps,(j,y)::qs=>i==k&&j==k&&okOpd φ x y&&okRow φ (k+1) ps qs
  | _,_,_=>false
def elemOf' (P:Program)(t:TypeId):Option TypeId:=match P.underlying t with|some (.slice e)=>some e|_=>none
def okMapT (P:Program) (t:TypeId) (str:Bool) (zero:Option D):Bool :=
  match P.underlying t with
  | some (.map k e)=>(match P.underlying k with|some (.int _) => !str|some .string=>str|_=>false) &&
    (match zero with
     | none=>true
     | some z=>(match P.info? e with|some i=>(match i.zero with|some u=>okConst u (.d z)|none=>false)|none=>false))
  | _=>false
def okS (P:Program)(φ:Nat→FuncId)(o:Oper):AOp→Bool
  | .store n p x=>(match o.op with | .store t p' x'=>(P.info? t).isSome&&szOf P t==n&&okOpd φ p' p&&okOpd φ x' x|_=>false)
  | .alloc _ zs=>(match o.op with | .alloc t=>okZero P t zs|_=>false)
  | .box _ _ x=>(match o.op with | .box _ x'=>okOpd φ x' x|_=>false)
  | .allocB _ _=>(match o.op with | .alloc t=>t==φ 999999&&(match P.info? t with|some i=>(match i.zero with|some z=>okZeros z.cells.toList [.nilp,.cap0]|none=>false)|none=>false)|_=>false)
  | .bsl _ sz zero n parts=>(match o.op with | .buildSlice t n' ps=>n==n'&&decide (n*sz≤16777216)&&n==parts.length&&okRow φ 0 ps.toList parts&&(match elemOf' P t with|some e=>okElem P e sz (P.bytesOf e)|none=>false)|_=>false)
  | .mks _ sz bytes zero x=>(match o.op with | .makeSlice t x' x''=>okOpd φ x' x&&okOpd φ x'' x&&(match elemOf' P t with|some e=>okZeroD P e sz bytes zero&&sz != 0|none=>false)|_=>false)
  | .app _ sz bytes x y=>(match o.op with | .call { callee:=.builtin .append,args:=⟨[x',y']⟩,argTypes:=⟨[t,t']⟩ }=>t==t'&&okOpd φ x' x&&okOpd φ y' y&&(match elemOf' P t with|some e=>okElem P e sz bytes|none=>false)|_=>false)
  | .appD sz bytes x y=>(match o.op with | .call { callee:=.builtin .append,args:=⟨[x',y']⟩,argTypes:=⟨[t,t']⟩ }=>t==t'&&okOpd φ x' x&&okOpd φ y' y&&(match elemOf' P t with|some e=>okElem P e sz bytes|none=>false)|_=>false)
  | .cut x hi=>(match o.op with | .slice t x' none (some hi') none=>okOpd φ x' x&&okOpd φ hi' hi&&(match elemOf' P t with|some e=>(P.info? e).isSome|none=>false)|_=>false)
  | .nilS neq x=>(match o.op with | .binOp op t x' (.const (.slice none 0 0)) _=>op==(if neq then .neq else .eql)&&okOpd φ x' x&&(elemOf' P t).isSome|_=>false)
  | .mkmap _=>(match o.op with | .makeMap _ none=>true|_=>false)
  | .mset str m k x=>(match o.op with | .mapUpdate t m' k' x'=>okMapT P t str none&&okOpd φ m' m&&okOpd φ k' k&&okOpd φ x' x|_=>false)
  | .mget str zero m k ok=>(match o.op with | .lookup t m' k' ok'=>ok==ok'&&okMapT P t str (some zero)&&okOpd φ m' m&&okOpd φ k' k|_=>false)
  | _=>false
section
variable {P:Program}{o:Oper}{a:Act}{w w':World}{K:Act→World→Prop}{Q:Exit→Act→World→Prop}
theorem wp_value {u:Value}(h:(execOp a.eval o).run P w = .ok (.value u) w')(hk:K (a.put o.dst u) w'):o.wp P a w K Q:=by
  unfold Oper.wp;rw [h];exact hk
theorem wp_skip' (h:(execOp a.eval o).run P w = .ok .skip w')(hk:K (a.put o.dst undef) w'):o.wp P a w K Q:=by
  unfold Oper.wp;rw [h];exact hk
end
theorem RepCells.append {w:World}{ok:Nat→Prop}:∀ {ds es:List D}{us vs:List Value},us.length=ds.length→RepCells w ok ds us→RepCells w ok es vs→RepCells w ok (ds++es) (us++vs)
  | [],es,[],vs,_,_,h=>h
  | [],_,_::_,_,h,_,_=>by simp at h
  | _::_,_,[],_,h,_,_=>by simp at h
  | d::ds,es,u::us,vs,hl,h,k=>⟨h.1,RepCells.append (by simpa using hl) h.2 k⟩
theorem RepCells.take {w:World}{ok:Nat→Prop}{ds:List D}{us:List Value}(h:RepCells w ok ds us)(k:Nat):RepCells w ok (ds.take k) (us.take k) :=
  RepCells.of_get fun i d hd=>by
    rw [List.getElem?_take] at hd
    split at hd
    · rename_i hi
      obtain ⟨u,hu,hr⟩:=h.get i d hd
      exact ⟨u,by rw [List.getElem?_take,if_pos hi];exact hu,hr⟩
    · cases hd
theorem RepCells.drop {w:World}{ok:Nat→Prop}{ds:List D}{us:List Value}(h:RepCells w ok ds us)(k:Nat):RepCells w ok (ds.drop k) (us.drop k) :=
  RepCells.of_get fun i d hd=>by
    rw [List.getElem?_drop] at hd
    obtain ⟨u,hu,hr⟩:=h.get _ d hd
    exact ⟨u,by rw [List.getElem?_drop];exact hu,hr⟩
theorem flat_setRange {α:Type}{sz off:Nat}{ds:List α}:∀ {es:List (List α)}{i:Nat}{e:List α},(∀ e∈es,e.length=sz)→es[i]? = some e→off+ds.length≤sz→(es.set i (setRange e off ds)).flatten=setRange es.flatten (i*sz+off) ds
  | [],i,e,_,h,_=>by simp at h
  | e0::es,0,e,hs,h,hl=>by
    simp at h;subst h
    have h0:e0.length=sz:=hs e0 (by simp)
    simp only [List.set_cons_zero,List.flatten_cons,Nat.zero_mul,Nat.zero_add,setRange]
    rw [List.take_append_of_le_length (by omega),List.drop_append_of_le_length (by omega)]
    simp
  | e0::es,i+1,e,hs,h,hl=>by
    have h0:e0.length=sz:=hs e0 (by simp)
    have ih:=flat_setRange (es:=es) (i:=i) (e:=e) (fun e he=>hs e (List.mem_cons_of_mem _ he)) (by simpa using h) hl
    rw [List.set_cons_succ,List.flatten_cons,List.flatten_cons,ih]
    unfold setRange
    rw [show (i+1)*sz+off=e0.length+(i*sz+off) by rw [h0,Nat.succ_mul];omega,List.take_length_add_append,Nat.add_assoc e0.length,List.drop_length_add_append]
    simp
section
variable {C:Ctx}{w0:World}{S M:Nat→Prop}{N:Nat}{γ:Nat→Value}{st:St}{a:Act}{w:World}{o:Oper}{Q:Exit→Act→World→Prop}
def Lands (C:Ctx)(w0:World)(S M:Nat→Prop)(N:Nat)(I:Nat→Prop)(γ:Nat→Value)(K:St→Prop)(a:Act)(w:World):Prop :=
  ∃ γ' st',K st'∧(∀ n,I n→γ' n=γ n)∧Rel C w0 S M N γ' st' a w
theorem toD_rep {ok:Nat→Prop}{x:V}{d:D}{u:Value}(h:toD x=some d)(hr:RepV C w ok γ x u):RepD w ok d u:=by
  unfold toD at h
  split at h
  · injection h with h;subst h;exact hr
  · injection h with h;subst h
    obtain ⟨A,rfl⟩:=hr
    exact ⟨A,0,0,rfl,Nat.le_refl _,by simp,fun h=>absurd rfl h⟩
  · cases h
theorem toDs_rep {ok:Nat→Prop}:∀ {xs:List V} {ds:List D} {us:List Value},toDs xs=some ds→RepVs C w ok γ xs us→us.length=ds.length∧RepCells w ok ds us
  | [],ds,us,h,hr=>by
    simp only [toDs,Option.some.injEq] at h
    subst h
    simp only [RepVs] at hr
    subst hr
    exact ⟨rfl,trivial⟩
  | x :: xs,ds,us,h,hr=>by
    rw [toDs] at h
    split at h
    · rename_i d hd
      split at h
      · rename_i ds' hds
        injection h with h
        subst h
        obtain ⟨u,us',rfl,r1,r2⟩:=hr
        obtain ⟨e1,e2⟩:=toDs_rep hds r2
        exact ⟨by simp [e1],toD_rep hd r1,e2⟩
      · cases h
    · cases h
theorem Rel.putGrow (hr:Rel C w0 S M N γ st a w){dst:Option Nat}(hd:∀ d,dst=some d→d<N){w':World}(hg:Grow w w'){v:V}{u:Value}
    (hv:∀ ok:Nat→Prop,(∀ g,okOf w0 S γ st.o w g→w'.heap[g]? = w.heap[g]? ∧ ok g)→(∀ g,w.heap.size≤g→g<w'.heap.size→ok g)→RepV C w' ok γ v u):Rel C w0 S M N γ (st.put dst v) (a.put dst u) w':=by
  refine (hr.grow hg).put hd (hv _ (fun g h=>⟨hg.block g h.2.1,h.1,Nat.lt_of_lt_of_le h.2.1 hg.size,h.2.2⟩) (fun g h1 h2=>⟨.inr (Nat.le_trans hr.fram.size h1),h2,fun n x hx e => ?_⟩))
  have:=blk_lt (hr.objs n x hx) e
  omega
theorem ss_store (hr:Rel C w0 S M N γ st a w) (hd:∀ d,o.dst=some d→d<N) {n:Nat} {p x:Opd} {I:Nat→Prop} {K:St→Prop} (hk:okS C.P C.φ o (.store n p x)=true) (hs:stepS I st o.dst K (.store n p x)) :
    o.wp C.P a w (Lands C w0 S M N I γ K) Q:=by
  obtain ⟨dst,op,ty,pos,aft,gd⟩:=o
  simp only [okS] at hk
  split at hk
  case h_2=>cases hk
  rename_i t p' x'
  simp only [Bool.and_eq_true,beq_iff_eq] at hk
  obtain ⟨⟨⟨h0,h3⟩,h1⟩,h2⟩:=hk
  obtain ⟨inf,hi⟩:=Option.isSome_iff_exists.1 h0
  have hsz:inf.size=n:=by simpa [szOf,hi] using h3
  have r1:=opd_rep hr h1
  have r2:=opd_rep hr h2
  simp only [stepS] at hs
  split at hs
  · rename_i m off new e1 e2
    obtain ⟨cs,hb,hl,hle,hK⟩:=hs
    rw [e1] at r1
    obtain ⟨g,hg,r1⟩:=r1
    obtain ⟨c1,c2⟩:=cellsV_rep e2 r2
    have hcl:=c1.length
    obtain ⟨g',us,bt,e3,hh,hv,hone⟩:=hr.objs m _ hb
    rw [hg] at e3
    simp only [Value.pointer.injEq,Option.some.injEq,Addr.mk.injEq,and_true] at e3
    subst e3
    have hvl:=hv.length
    have hsize:(a.eval x').cells.size=n:=by simpa [hl] using hcl
    have hst:=run_storeCells_at C.P g off bt (a.eval x').cells.toList 0 ⟨us⟩ w hh (by simp;omega) c2
    simp only [Nat.add_zero] at hst
    refine wp_skip' (w':=w.setRow g (us.take off++(a.eval x').cells.toList++us.drop (off+(a.eval x').cells.toList.length)).toArray) ?_ ?_
    · simp [execOp,r1,Instr.storeAt,Instr.sureAddr,storeVar,Go.sizeOf,typeInfo,hi,hsz,hsize,hst]
    · refine ⟨γ,_,hK,fun _ _=>rfl,?_⟩
      refine Rel.put (hr.turnSame hb ?_ ?_) hd trivial
      · rw [hg]
        exact ⟨rfl,rfl,rfl,by simp,fun k _ hk=>setRow_other w g k _ (fun e=>hk (by simp [blk,e]))⟩
      · intro ok hok
        refine ⟨g,us.take off++(a.eval x').cells.toList++us.drop (off+(a.eval x').cells.toList.length),bt,hg,by simpa using setRow_heap w g _ _ bt _ hh,?_,?_⟩
        · have hv':=RepVs.mono hok cs us (fun _ _=>rfl) hv
          have c1':=RepVs.mono hok new _ (fun _ _=>rfl) c1
          have:(a.eval x').cells.toList.length=new.length:=hcl
          unfold setRange
          rw [← this]
          exact ((hv'.take off).append c1').append (hv'.drop _)
        · intro u hu
          rcases List.mem_append.1 hu with hu|hu
          · rcases List.mem_append.1 hu with hu|hu
            · exact hone u (List.mem_of_mem_take hu)
            · exact c2 u hu
          · exact hone u (List.mem_of_mem_drop hu)
  · rename_i m sz i off new e1 e2
    obtain ⟨es,e,ds,hb,hie,hds,hl,hle,hK⟩:=hs
    rw [e1] at r1
    obtain ⟨g,l,c0,hg,r1⟩:=r1
    obtain ⟨c1,c2⟩:=cellsV_rep e2 r2
    obtain ⟨d1,d2⟩:=toDs_rep hds c1
    rcases hr.objs m _ hb with ⟨rfl,_⟩|⟨g',cap,us,bt,e3,hcp,hh,hlc,hcm,hul,hsz',hrc,hone⟩
    · simp at hie
    rw [hg] at e3
    simp only [Value.slice.injEq,Option.some.injEq,Addr.mk.injEq,and_true] at e3
    obtain ⟨rfl,e4,rfl⟩:=e3
    have hilt:i<es.length:=(List.getElem?_eq_some_iff.1 hie).1
    have hel:e.length=sz:=hsz' e (List.mem_of_getElem? hie)
    have hsize:(a.eval x').cells.size=n:=by rw [← hl,← d1];simp
    have hmul:(i+1)*sz≤c0*sz:=Nat.mul_le_mul_right _ (by omega)
    rw [Nat.succ_mul] at hmul
    have hfit:i*sz+off+(a.eval x').cells.toList.length≤us.length:=by simp only [Array.length_toList];omega
    have hst:=run_storeCells_at C.P g (i*sz+off) bt (a.eval x').cells.toList 0 ⟨us⟩ w hh (by simpa using hfit) c2
    simp only [Nat.add_zero] at hst
    refine wp_skip' (w':=w.setRow g (us.take (i*sz+off)++(a.eval x').cells.toList++us.drop (i*sz+off+(a.eval x').cells.toList.length)).toArray) ?_ ?_
    · simp [execOp,r1,Instr.storeAt,Instr.sureAddr,storeVar,Go.sizeOf,typeInfo,hi,hsz,hsize,hst]
    · refine ⟨γ,_,hK,fun _ _=>rfl,?_⟩
      refine Rel.put (hr.turnSame hb ?_ ?_) hd trivial
      · rw [hg]
        exact ⟨rfl,rfl,rfl,by simp,fun k _ hk=>setRow_other w g k _ (fun e=>hk (by simp [blk,e];omega))⟩
      · intro ok hok
        have hsr:(setRange e off ds).length=sz:=by unfold setRange;simp;omega
        refine .inr ⟨g,c0,us.take (i*sz+off)++(a.eval x').cells.toList++us.drop (i*sz+off+(a.eval x').cells.toList.length),bt,by rw [hg];simp [e4],hcp,by simpa using setRow_heap w g _ _ bt _ hh,by simpa using hlc,hcm,?_,?_,?_,?_⟩
        · simp only [List.length_append,List.length_take,List.length_drop];omega
        · intro e' he'
          rcases List.mem_or_eq_of_mem_set he' with h|h
          · exact hsz' e' h
          · rw [h];exact hsr
        · rw [flat_setRange hsz' hie (by omega)]
          have hfl:=flat_length hsz'
          have h1:(i+1)*sz≤es.length*sz:=Nat.mul_le_mul_right _ hilt
          rw [Nat.succ_mul] at h1
          unfold setRange
          rw [← d1]
          have hrc':=hrc.mono hok
          refine RepCells.append (by rw [List.length_append,List.length_append,List.length_take,List.length_take,hfl,d1];omega) (RepCells.append (by rw [List.length_take,List.length_take,hfl];omega) (hrc'.take _) (d2.mono hok)) (hrc'.drop _)
        · intro u hu
          rcases List.mem_append.1 hu with hu|hu
          · rcases List.mem_append.1 hu with hu|hu
            · exact hone u (List.mem_of_mem_take hu)
            · exact c2 u hu
          · exact hone u (List.mem_of_mem_drop hu)
  · exact hs.elim
theorem run_newVar' {P:Program}{w:World}(t:TypeId)(v:Value):(newVar t v).run P w = .ok ⟨w.heap.size,0,none⟩ (w.alloc (.cells v.cells t)):=by simp [newVar,newRow]
theorem ss_alloc (hr:Rel C w0 S M N γ st a w)(hd:∀ d,o.dst=some d→d<N){nm:Nat}{zs:List V}{I:Nat→Prop}{K:St→Prop}(hk:okS C.P C.φ o (.alloc nm zs)=true)(hs:stepS I st o.dst K (.alloc nm zs)) :
    o.wp C.P a w (Lands C w0 S M N I γ K) Q:=by
  obtain ⟨dst,op,ty,pos,aft,gd⟩:=o
  simp only [okS] at hk
  split at hk
  case h_2=>cases hk
  rename_i t
  obtain ⟨i,z,hi,hz,hzs,hsz⟩:=okZero_run hk
  obtain ⟨hI,hf,hrf,hK⟩:=hs
  refine wp_value (u:=.pointer (some ⟨w.heap.size,0,none⟩)) (w':=w.alloc (.cells z.cells t)) ?_ ?_
  · simp [execOp,Instr.alloc,zeroValue,typeInfo,hi,hz,run_newVar']
  · refine ⟨upd γ nm (.pointer (some ⟨w.heap.size,0,none⟩)),_,hK,fun n hn=>upd_other _ _ (fun e=>hI (e▸hn)),?_⟩
    refine hr.new hd hf (Grow.alloc w _) (h:=.pointer (some ⟨w.heap.size,0,none⟩)) (fun g hg => ?_) (fun ok γ' hok hγ => ?_) hrf (fun ok => ?_)
    · simp only [blk,Option.some.injEq] at hg;omega
    · obtain ⟨z1,z2⟩:=okZeros_rep (C:=C) (w:=w.alloc (.cells z.cells t)) (γ:=γ') (ok:=ok) hzs
      exact ⟨w.heap.size,z.cells.toList,t,rfl,heap_alloc_new w _,z1,z2⟩
    · exact ⟨w.heap.size,by rw [upd_same],rfl⟩
theorem ss_allocB (hr:Rel C w0 S M N γ st a w) (hd:∀ d,o.dst=some d→d<N) {nm k:Nat} {I:Nat→Prop} {K:St→Prop} (hk:okS C.P C.φ o (.allocB nm k)=true) (hs:stepS I st o.dst K (.allocB nm k)) :
    o.wp C.P a w (Lands C w0 S M N I γ K) Q:=by
  obtain ⟨dst,op,ty,pos,aft,gd⟩:=o
  simp only [okS] at hk
  split at hk
  case h_2=>cases hk
  rename_i t
  rw [Bool.and_eq_true,beq_iff_eq] at hk
  obtain ⟨ht,hk⟩:=hk
  split at hk
  case h_2=>cases hk
  rename_i i hi
  split at hk
  case h_2=>cases hk
  rename_i z hz
  have hzc:z.cells = #[.pointer none,.slice none 0 0]:=by
    have hk:okZeros z.cells.toList [.nilp,.cap0]=true:=hk
    match hl:z.cells.toList,hk with
    | [x,y],hk =>
      simp only [okZeros,Bool.and_true,Bool.and_eq_true] at hk
      obtain ⟨h1,h2⟩:=hk
      have e1:x = .pointer none:=by
        revert h1;unfold okConst;split <;> simp_all
      have e2:y = .slice none 0 0:=by
        revert h2;unfold okConst;split <;> simp_all
      subst e1 e2
      exact Array.ext' (by rw [hl])
    | [],hk=>simp [okZeros] at hk
    | [_],hk=>simp [okZeros] at hk
    | _::_::_::_,hk=>simp [okZeros] at hk
  obtain ⟨hI,hIk,hkn,hfk,hf,hK⟩:=hs
  refine wp_value (u:=.pointer (some ⟨w.heap.size,0,none⟩)) (w':=w.alloc (.cells z.cells t)) ?_ ?_
  · simp [execOp,Instr.alloc,zeroValue,typeInfo,hi,hz,run_newVar']
  · have hr1:=hr.new (dst:=none) (fun d h=>by cases h) (nm:=k) hfk (Grow.refl w) (ob:=.brow []) (h:=.slice none 0 0) (fun g hg=>by simp [blk] at hg) (v:=.undef) (u:=undef)
      (fun ok γ' _ _=>.inl ⟨rfl,rfl⟩) rfl (fun ok=>trivial)
    have hr1:Rel C w0 S M N (upd γ k (.slice none 0 0)) { s:=st.s,o:=upd st.o k (some (.brow [])) } a w:=hr1
    refine ⟨upd (upd γ k (.slice none 0 0)) nm (.pointer (some ⟨w.heap.size,0,none⟩)),_,hK,fun n hn=>by rw [upd_other _ _ (fun e=>hI (by rw [← e];exact hn)),upd_other _ _ (fun e=>hIk (by rw [← e];exact hn))],?_⟩
    have hf1:Fresh { s:=st.s,o:=upd st.o k (some (.brow [])) } nm dst:=⟨hf.1,fun m x hm hx=>by
      by_cases e:m=k
      · subst e
        have hx:upd st.o m (some (Ob.brow [])) m=some x:=hx
        rw [upd_same] at hx
        injection hx with hx;subst hx;rfl
      · have hx:upd st.o k (some (Ob.brow [])) m=some x:=hx
        rw [upd_other _ _ e] at hx
        exact hf.2 m x hm hx⟩
    have hr2:=hr1.new (dst:=dst) hd hf1 (Grow.alloc w (.cells z.cells t)) (v:=.ptr nm 0) (u:=.pointer (some ⟨w.heap.size,0,none⟩)) (ob:=.bld k) (h:=.pointer (some ⟨w.heap.size,0,none⟩)) (fun g hg=>by simp only [blk,Option.some.injEq] at hg;omega) (fun ok γ' hok hγ=>by
      have e:γ' k = .slice none 0 0:=by rw [hγ k (by simp [Ob.refs]),upd_same]
      refine ⟨w.heap.size,.pointer none,rfl,?_,.inl rfl,by rw [e];rfl⟩
      rw [heap_alloc_new,hzc,e,← ht]) (by simp [Ob.refs,hkn]) (fun ok=>⟨w.heap.size,by rw [upd_same],rfl⟩)
    cases dst <;> exact hr2
theorem ss_box (hr:Rel C w0 S M N γ st a w)(hd:∀ d,o.dst=some d→d<N){nm n:Nat}{x:Opd}{I:Nat→Prop}{K:St→Prop}(hk:okS C.P C.φ o (.box nm n x)=true)(hs:stepS I st o.dst K (.box nm n x)) :
    o.wp C.P a w (Lands C w0 S M N I γ K) Q:=by
  obtain ⟨dst,op,ty,pos,aft,gd⟩:=o
  simp only [okS] at hk
  split at hk
  case h_2=>cases hk
  rename_i t x'
  have r1:=opd_rep hr hk
  obtain ⟨cs,hc,hl,hI,hf,hrf,hK⟩:=hs
  obtain ⟨c1,c2⟩:=cellsV_rep hc r1
  refine wp_value (u:=.pointer (some ⟨w.heap.size,0,none⟩)) (w':=w.alloc (.cells (a.eval x').cells t)) ?_ ?_
  · simp [execOp,Instr.box,run_newVar']
  · refine ⟨upd γ nm (.pointer (some ⟨w.heap.size,0,none⟩)),_,hK,fun n hn=>upd_other _ _ (fun e=>hI (e▸hn)),?_⟩
    refine hr.new hd hf (Grow.alloc w _) (h:=.pointer (some ⟨w.heap.size,0,none⟩)) (fun g hg => ?_) (fun ok γ' hok hγ => ?_) hrf (fun ok => ?_)
    · simp only [blk,Option.some.injEq] at hg;omega
    · exact ⟨w.heap.size,(a.eval x').cells.toList,t,rfl,heap_alloc_new w _,RepVs.mono hok _ _ hγ c1,c2⟩
    · exact ⟨w.heap.size,by rw [upd_same],rfl⟩
theorem okElem_run {P:Program}{e:TypeId}{sz bytes:Nat}(h:okElem P e sz bytes=true):∃ i z,P.info? e=some i∧i.zero=some z∧(∀ u∈z.cells.toList,u.oneCell'=true)∧z.cells.size=i.size∧i.size=sz∧i.bytes=bytes∧i.size≠0:=by
  unfold okElem at h
  split at h
  · rename_i i hi
    split at h
    · rename_i z hz
      simp only [Bool.and_eq_true,beq_iff_eq,bne_iff_ne,Array.all_eq_true'] at h
      obtain ⟨⟨⟨⟨h1,h2⟩,h3⟩,h4⟩,h5⟩:=h
      exact ⟨i,z,hi,hz,fun u hu=>h1 u (by simpa using hu),by omega,h3,h4,by omega⟩
    · cases h
  · cases h
theorem elemOf_run {P:Program}{t e:TypeId}(h:elemOf' P t=some e):P.underlying t=some (.slice e):=by
  unfold elemOf' at h
  split at h
  · rename_i e' hs;injection h with h;subst h;exact hs
  · cases h
theorem RepCs.append {w:World}{ok:Nat→Prop}{ad:Addr}:∀ {cs ds:List D}{off:Nat},RepCs w ok ad off cs→RepCs w ok ad (off+cs.length) ds→RepCs w ok ad off (cs++ds)
  | [],ds,off,_,h=>by simpa using h
  | c::cs,ds,off,h,k=>⟨h.1,RepCs.append h.2 (by rw [List.length_cons] at k;rwa [show off+1+cs.length=off+(cs.length+1) by omega])⟩
theorem RepEs.flat {w:World}{ok:Nat→Prop}{ad:Addr}:∀ {es:List (List D)}{off:Nat},RepEs w ok ad off es→RepCs w ok ad off es.flatten
  | [],_,_=>trivial
  | e::es,off,h=>RepCs.append h.1 (RepEs.flat h.2)
theorem RepVs.cells {w:World}{ok:Nat→Prop}:∀ {ds:List D}{us:List Value},RepVs C w ok γ (ds.map .d) us→RepCells w ok ds us
  | [],_,_=>trivial
  | d::ds,us,h=>by
    obtain ⟨u,us',rfl,h1,h2⟩:=h
    exact ⟨h1,RepVs.cells h2⟩
theorem readD_rep (hr:Rel C w0 S M N γ st a w) {x:V} {ys:List (List D)} {u:Value} (h:readD st.o x=some ys) (hx:RepV C w (okOf w0 S γ st.o w) γ x u) {sz:Nat} (hsz:∀ e∈ys,e.length=sz) :
    ∃ B c news,u = .slice B ys.length c∧news.length=ys.length*sz∧(0<ys.length→∃ ad,B=some ad∧∀ (j:Nat) (v:Value),news[j]? = some v→w.cell? (ad.add j)=some v)∧(∀ v∈news,v.oneCell'=true)∧RepCells w (okOf w0 S γ st.o w) ys.flatten news:=by
  unfold readD at h
  split at h
  · rename_i es
    injection h with h
    subst h
    obtain ⟨A,cap,sz',rfl,hlc,hs',hc⟩:=hx
    by_cases hne:es=[]
    · subst hne
      exact ⟨A,cap,[],rfl,by simp,by simp,by simp,trivial⟩
    · obtain ⟨ad,rfl,hok,hes⟩:=hc hne
      have hcs:=hes.flat
      obtain ⟨us,hl,hcell,hv,hone⟩:=RepCs.load C γ hcs
      refine ⟨_,cap,us,rfl,by rw [hl,flat_length hsz],fun _=>⟨ad,rfl,fun j v hj=>by simpa using hcell j v hj⟩,hone,hv.cells⟩
  · injection h with h
    subst h
    obtain ⟨A,rfl⟩:=hx
    exact ⟨A,0,[],rfl,by simp,by simp,by simp,trivial⟩
  · rename_i m
    split at h
    · rename_i sz0 es hb
      injection h with h
      subst h
      obtain ⟨rfl,_⟩:=hx
      rcases hr.objs m _ hb with ⟨rfl,A,hh⟩|⟨g,cap,us,bt,hh,hcp,hg,hlc,hcm,hul,hs',hrc,hone⟩
      · exact ⟨A,0,[],by rw [hh];rfl,by simp,by simp,by simp,trivial⟩
      · have hfl:=flat_length hsz
        have hfl':=flat_length hs'
        have hmul:=Nat.mul_le_mul_right sz0 hlc
        refine ⟨_,cap,us.take (es.length*sz),hh,?_,fun hpos=>⟨_,rfl,fun j v hj => ?_⟩,fun v hv=>hone v (List.mem_of_mem_take hv),?_⟩
        · rw [List.length_take]
          omega
        · rw [List.getElem?_take] at hj
          split at hj
          · rw [add_lit,cell_of_row w g _ _ _ _ hg]
            simpa using hj
          · cases hj
        · have:=hrc.take (es.length*sz)
          rwa [List.take_of_length_le (by omega)] at this
    · cases h
  · cases h
theorem partsD_rep (hr:Rel C w0 S M N γ st a w) {sz:Nat}:∀ {ps:List (Nat × Operand)} {qs:List (Nat × Opd)} {k:Nat} {es:List (List D)} {cells:Array Value},okRow C.φ k ps qs=true→partsD sz (opd st.s) (qs.map (·.2))=some es →
    cells.size=(k+qs.length)*sz→(∀ u∈cells.toList.take (k*sz),u.oneCell'=true) →
    ∃ vs:List Value,Instr.fill (fun i=>some (i*sz,sz)) cells (ps.map fun (i,x)=>(i,a.eval x))=some ⟨vs⟩∧vs.length=cells.size∧vs.take (k*sz)=cells.toList.take (k*sz)∧RepCells w (okOf w0 S γ st.o w) es.flatten (vs.drop (k*sz))∧(∀ e∈es,e.length=sz)∧es.length=qs.length∧∀ u∈vs,u.oneCell'=true
  | [],[],k,es,cells,_,h,hc,h1=>by
    simp only [List.map_nil,partsD,Option.some.injEq] at h
    subst h
    refine ⟨cells.toList,by simp [Instr.fill],by simp,rfl,trivial,by simp,rfl,?_⟩
    rwa [List.take_of_length_le (by simpa using Nat.le_of_eq hc)] at h1
  | (i, x) :: ps,(j,y)::qs,k,es,cells,hk,h,hc,h1=>by
    simp only [okRow,Bool.and_eq_true,beq_iff_eq] at hk
    obtain ⟨⟨⟨rfl,rfl⟩,hx⟩,hk⟩:=hk
    simp only [List.map_cons,partsD] at h
    split at h
    · rename_i cs hcs
      split at h
      · rename_i ds hds
        split at h
        · rename_i hl
          split at h
          · rename_i es' hes
            injection h with h
            subst h
            obtain ⟨c1,c2⟩:=cellsV_rep hcs (opd_rep hr hx)
            obtain ⟨d1,d2⟩:=toDs_rep hds c1
            simp only [List.length_cons] at hc
            have hmul:(j+(qs.length+1))*sz=j*sz+(qs.length*sz+sz):=by rw [Nat.add_mul,Nat.succ_mul]
            have hsize:(a.eval x).cells.size=sz:=by rw [← hl,← d1];simp
            have hf:=fold_set (j*sz) (a.eval x).cells.toList 0 cells (by simp;omega)
            simp only [Nat.add_zero] at hf
            have hfl:(((a.eval x).cells.toList.zipIdx 0).foldl (fun cs (x:Value × Nat)=>cs.setIfInBounds (j*sz+x.2) x.1) cells).size=cells.size:=by
              have:=congrArg List.length hf
              simp only [Array.length_toList,List.length_append,List.length_take,List.length_drop] at this
              omega
            have hlen0:(cells.toList.take (j*sz)).length=j*sz:=by
              rw [List.length_take,Array.length_toList]
              omega
            have hlen:(cells.toList.take (j*sz)++(a.eval x).cells.toList).length=(j+1)*sz:=by
              rw [List.length_append,List.length_take,Nat.succ_mul]
              simp only [Array.length_toList]
              omega
            obtain ⟨vs,e1,e2,e3,e4,e5,e6,e7⟩:=partsD_rep hr (k:=j+1) (cells:=((a.eval x).cells.toList.zipIdx 0).foldl (fun cs (x:Value × Nat)=>cs.setIfInBounds (j*sz+x.2) x.1) cells) hk hes
              (by rw [hfl,hc];congr 1;omega) (by
                rw [hf,List.take_left' hlen]
                intro u hu
                rcases List.mem_append.1 hu with hu|hu
                · exact h1 u hu
                · exact c2 u hu)
            rw [hf,List.take_left' hlen] at e3
            refine ⟨vs,?_,by rw [e2,hfl],?_,?_,?_,by simp [e6],e7⟩
            · rw [List.map_cons,Instr.fill]
              have hcond:¬((a.eval x).cells.size≠sz∨j*sz+(a.eval x).cells.size>cells.size):=by
                rw [hc,hmul,hsize]
                omega
              simp only [Bool.or_eq_true,decide_eq_true_eq]
              rw [if_neg hcond,← e1]
              congr 1
              rw [← Array.foldl_toList]
              simp
            · have:=congrArg (List.take (j*sz)) e3
              rw [List.take_take,List.take_append_of_le_length (by simp;omega),List.take_take] at this
              rwa [show min (j*sz) ((j+1)*sz)=j*sz by rw [Nat.succ_mul];omega,Nat.min_self] at this
            · have hdr:vs.drop (j*sz)=(a.eval x).cells.toList++vs.drop ((j+1)*sz):=by
                rw [← List.take_append_drop sz (vs.drop (j*sz)),List.drop_drop,show j*sz+sz=(j+1)*sz by rw [Nat.succ_mul]]
                congr 1
                have:=congrArg (List.drop (j*sz)) e3
                rw [List.drop_take,show (j+1)*sz-j*sz=sz by rw [Nat.succ_mul];omega] at this
                rw [this,List.drop_left' hlen0]
              rw [hdr,List.flatten_cons]
              exact RepCells.append d1 d2 e4
            · intro e he
              rcases List.mem_cons.1 he with rfl|he
              · exact hl
              · exact e5 e he
          · cases h
        · cases h
      · cases h
    · cases h
  | [],_::_,_,_,_,h,_,_,_=>by simp [okRow] at h
  | _::_,[],_,_,_,h,_,_,_=>by simp [okRow] at h
theorem RepCs.of_cells {w:World}{ok:Nat→Prop}{g:Nat}{us:List Value}{bt:TypeId}(hg:w.heap[g]? = some (.cells ⟨us⟩ bt (0,0))){ds:List D}{k:Nat}(h:RepCells w ok ds (us.drop k)):RepCs w ok ⟨g,0,none⟩ k ds :=
  RepCs.of_get fun j c hj=>by
    obtain ⟨u,hu,hr⟩:=h.get j c hj
    refine ⟨u,?_,hr⟩
    rw [add_lit,cell_of_row w g _ _ _ _ hg]
    rw [List.getElem?_drop] at hu
    simpa using hu
theorem RepEs.of_cells {w:World}{ok:Nat→Prop}{g sz:Nat}{us:List Value}{bt:TypeId}(hg:w.heap[g]? = some (.cells ⟨us⟩ bt (0,0))):∀ {es:List (List D)}{k:Nat},(∀ e∈es,e.length=sz)→RepCells w ok es.flatten (us.drop k)→RepEs w ok ⟨g,0,none⟩ k es
  | [],_,_,_=>trivial
  | e :: es,k,hs,h=>by
    rw [List.flatten_cons] at h
    refine ⟨RepCs.of_cells hg (RepCells.of_get fun i d hd => ?_),RepEs.of_cells hg (fun e he=>hs e (List.mem_cons_of_mem _ he)) (RepCells.of_get fun i d hd => ?_)⟩
    · exact h.get i d (by rw [List.getElem?_append_left (List.getElem?_eq_some_iff.1 hd).1];exact hd)
    · obtain ⟨u,hu,hr⟩:=h.get (e.length+i) d (by rw [List.getElem?_append_right (by omega)];simpa using hd)
      refine ⟨u,?_,hr⟩
      rw [List.getElem?_drop] at hu ⊢
      rwa [Nat.add_assoc]
theorem new_sl {w':World}{ok:Nat→Prop}{us:List Value}{bt:TypeId}{g sz cap:Nat}{es:List (List D)}(hg:w'.heap[g]? = some (.cells ⟨us⟩ bt (0,0)))(hok:ok g)(hl:es.length≤cap)(hs:∀ e∈es,e.length=sz)(h:RepCells w' ok es.flatten us) :
    RepD w' ok (.sl es) (.slice (some ⟨g,0,none⟩) es.length cap) :=
  ⟨_,cap,sz,rfl,hl,hs,fun _=>⟨_,rfl,hok,RepEs.of_cells hg hs (by simpa using h)⟩⟩
theorem ss_bsl (hr:Rel C w0 S M N γ st a w) (hd:∀ d,o.dst=some d→d<N) {own:Option Nat} {sz n:Nat} {zero:List D} {parts:List (Nat × Opd)} {I:Nat→Prop} {K:St→Prop} (hk:okS C.P C.φ o (.bsl own sz zero n parts)=true) (hs:stepS I st o.dst K (.bsl own sz zero n parts)) :
    o.wp C.P a w (Lands C w0 S M N I γ K) Q:=by
  obtain ⟨dst,op,ty,pos,aft,gd⟩:=o
  simp only [okS] at hk
  split at hk
  case h_2=>cases hk
  rename_i t n' ps
  simp only [Bool.and_eq_true,beq_iff_eq,decide_eq_true_eq] at hk
  obtain ⟨⟨⟨⟨rfl,hle⟩,hn⟩,hrow⟩,he⟩:=hk
  split at he
  case h_2=>cases he
  rename_i e hel
  obtain ⟨i,z,hi,hz,hz1,hzs,hsz,_,hne⟩:=okElem_run he
  have ht:=elemOf_run hel
  have hzpos:0<z.cells.size:=by omega
  have hrun:∀ vs:List Value,Instr.fill (fun i=>some (i*sz,sz)) ((Array.range (n*sz)).map (z.cells[· % z.cells.size]!)) (ps.toList.map fun (i,x)=>(i,a.eval x))=some ⟨vs⟩ →
      (execOp a.eval { dst:=dst,op:=.buildSlice t n ps,type:=ty,pos:=pos,after:=aft,guard:=gd }).run C.P w = .ok (.value (.slice (some ⟨w.heap.size,0,none⟩) n n)) (w.alloc (.cells ⟨vs⟩ e)):=by
    intro vs hf
    have hpl:(ps.map fun (i,x)=>(i,a.eval x)).toList=ps.toList.map fun (i,x)=>(i,a.eval x):=by simp
    by_cases h0:n*sz=0
    · have:(Array.range (n*sz)).map (z.cells[· % z.cells.size]!)=(Array.range 0).map ((#[]:Array Value)[· % (#[]:Array Value).size]!):=by rw [h0];simp
      rw [this] at hf
      simp only [execOp,Instr.buildSlice,Sem.run_bind,run_underlying ht,Result.andThen_ok,Go.sizeOf,typeInfo,run_program,hi,Sem.run_pure,hsz,h0,if_neg (show ¬ 0>2 ^ 24 by omega),if_true,Sem.run_ite,hpl]
      simp only [hf]
      simp [newRow]
    · simp only [execOp,Instr.buildSlice,Sem.run_bind,run_underlying ht,Result.andThen_ok,Go.sizeOf,typeInfo,run_program,hi,Sem.run_pure,hsz,if_neg h0,if_neg (show ¬n*sz>2 ^ 24 by omega),Sem.run_ite,zeroValue,hz,hpl,hf]
      simp [newRow]
  have hz0:((Array.range (n*sz)).map (z.cells[· % z.cells.size]!)).size=(0+parts.length)*sz:=by simp [hn]
  cases own with
  | none =>
    obtain ⟨es,hps,hK⟩:=hs
    obtain ⟨vs,e1,e2,_,e4,e5,e6,e7⟩:=partsD_rep hr hrow hps hz0 (by simp)
    refine wp_value (hrun vs e1) ⟨γ,_,hK,fun _ _=>rfl,?_⟩
    refine hr.putGrow hd (Grow.alloc w _) (fun ok hok hnew => ?_)
    have hes:es.length=n:=by rw [e6,hn]
    rw [← hes]
    have e4':RepCells w (okOf w0 S γ st.o w) es.flatten vs:=by simpa using e4
    exact new_sl (heap_alloc_new w _) (hnew _ (Nat.le_refl _) (by simp)) (Nat.le_refl _) e5 (RepCells.mono hok e4')
  | some nm =>
    simp only [stepS] at hs
    split at hs
    · rename_i h0
      subst h0
      have hp0:parts=[]:=List.eq_nil_of_length_eq_zero (by omega)
      subst hp0
      obtain ⟨vs,e1,_⟩:=partsD_rep (sz:=sz) hr (es:=[]) hrow (by simp [partsD]) hz0 (by simp)
      refine wp_value (hrun vs e1) ⟨γ,_,hs,fun _ _=>rfl,?_⟩
      exact hr.putGrow hd (Grow.alloc w _) (fun ok hok hnew=>⟨_,rfl⟩)
    · rename_i h0
      obtain ⟨es,hps,hI,hf,hK⟩:=hs
      obtain ⟨vs,e1,e2,_,e4,e5,e6,e7⟩:=partsD_rep hr hrow hps hz0 (by simp)
      have hes:es.length=n:=by rw [e6,hn]
      have hvl:vs.length=n*sz:=by rw [e2];simp
      refine wp_value (hrun vs e1) ⟨upd γ nm (.slice (some ⟨w.heap.size,0,none⟩) n n),_,hK,fun n hn=>upd_other _ _ (fun e=>hI (e▸hn)),?_⟩
      refine hr.new hd hf (Grow.alloc w _) (fun g hg => ?_) (fun ok γ' hok hγ => ?_) rfl (fun ok=>⟨by rw [upd_same],rfl⟩)
      · simp only [blk] at hg
        split at hg
        · cases hg
        · injection hg with hg;exact Nat.le_of_eq hg
      · refine .inr ⟨w.heap.size,n,vs,e,by rw [hes],by omega,heap_alloc_new w _,by omega,?_,hvl,e5,RepCells.mono hok (show RepCells w (okOf w0 S γ st.o w) es.flatten vs by simpa using e4),e7⟩
        have:n≤n*sz:=Nat.le_mul_of_pos_right _ (by omega)
        simp only [maxLen];omega
end
end Pay
end
/- One step: made rows, appends, cuts, maps; the one theorem on steps. -/
section
set_option linter.unusedSimpArgs false
set_option linter.unusedVariables false
namespace Pay
open Go
section
variable {C:Ctx}{w0:World}{S M:Nat→Prop}{N:Nat}{γ:Nat→Value}{st:St}{a:Act}{w:World}{o:Oper}{Q:Exit→Act→World→Prop}
theorem okZeroD_run {P:Program}{t:TypeId}{sz bytes:Nat}{zs:List D}(h:okZeroD P t sz bytes zs=true):∃ i z,P.info? t=some i∧i.zero=some z∧okZeros z.cells.toList (zs.map .d)=true∧i.size=zs.length∧i.size=sz∧i.bytes=bytes:=by
  unfold okZeroD at h
  split at h
  · rename_i i hi
    split at h
    · rename_i z hz
      simp only [Bool.and_eq_true,beq_iff_eq] at h
      exact ⟨i,z,hi,hz,h.1.1.1,h.1.1.2,h.1.2,h.2⟩
    · cases h
  · cases h
theorem made_rep {ok:Nat→Prop}{zs:List D}{z:List Value}(hz:RepCells w ok zs z)(hl:z.length=zs.length)(h1:∀ u∈z,u.oneCell'=true)(n:Nat) :
    ((List.replicate n zs).flatten).length=n*zs.length∧RepCells w ok (List.replicate n zs).flatten (madeCells ⟨z⟩ (n*zs.length)).toList∧∀ u∈(madeCells ⟨z⟩ (n*zs.length)).toList,u.oneCell'=true:=by
  have hlen:((List.replicate n zs).flatten).length=n*zs.length:=by simp
  refine ⟨hlen,RepCells.of_get fun i d hd => ?_,fun u hu => ?_⟩
  · have hi:i<n*zs.length:=by
      have:=(List.getElem?_eq_some_iff.1 hd).1
      omega
    have hp:0<zs.length:=by
      rcases Nat.eq_zero_or_pos zs.length with h|h
      · rw [h] at hi;omega
      · exact h
    have hm:i % zs.length<zs.length:=Nat.mod_lt _ hp
    have hq:i / zs.length<n:=by
      refine Nat.div_lt_of_lt_mul ?_
      rw [Nat.mul_comm];exact hi
    have h2:(List.replicate n zs)[i / zs.length]? = some zs:=by simp [hq]
    have h3:=flat_get (sz:=zs.length) (es:=List.replicate n zs) (by intro e he;rw [(List.mem_replicate.1 he).2]) (i / zs.length) zs (i % zs.length) (zs[i % zs.length]) h2 (List.getElem?_eq_getElem hm)
    have h4:i / zs.length*zs.length+i % zs.length=i:=by
      have:=Nat.div_add_mod i zs.length
      rw [Nat.mul_comm] at this
      exact this
    rw [h4] at h3
    rw [h3] at hd
    injection hd with hd
    subst hd
    obtain ⟨u,hu,hr⟩:=hz.get (i % zs.length) _ (List.getElem?_eq_getElem hm)
    refine ⟨u,?_,hr⟩
    simp only [madeCells,Array.toList_map,Array.toList_range,List.getElem?_map]
    rw [List.getElem?_range hi]
    simp only [Option.map_some,List.size_toArray,hl]
    rw [getElem!_pos (⟨z⟩:Array Value) (i % zs.length) (by simpa [hl] using hm)]
    have:=(List.getElem?_eq_some_iff.1 hu).2
    simp [this]
  · simp only [madeCells,Array.toList_map,Array.toList_range,List.mem_map,List.mem_range] at hu
    obtain ⟨j,hj,rfl⟩:=hu
    have hp:0<z.length:=by
      rcases Nat.eq_zero_or_pos zs.length with h|h
      · rw [h] at hj;omega
      · omega
    simp only [List.size_toArray]
    rw [getElem!_pos (⟨z⟩:Array Value) (j % z.length) (by simpa using Nat.mod_lt _ hp)]
    exact h1 _ (by simp)
theorem ss_mks (hr:Rel C w0 S M N γ st a w) (hd:∀ d,o.dst=some d→d<N) {own:Option Nat} {sz bytes:Nat} {zero:List D} {x:Opd} {I:Nat→Prop} {K:St→Prop} (hk:okS C.P C.φ o (.mks own sz bytes zero x)=true) (hs:stepS I st o.dst K (.mks own sz bytes zero x)) :
    o.wp C.P a w (Lands C w0 S M N I γ K) Q:=by
  obtain ⟨dst,op,ty,pos,aft,gd⟩:=o
  simp only [okS] at hk
  split at hk
  case h_2=>cases hk
  rename_i t x1 x2
  simp only [Bool.and_eq_true] at hk
  obtain ⟨⟨h1,h2⟩,h3⟩:=hk
  split at h3
  case h_2=>cases h3
  rename_i e hel
  simp only [Bool.and_eq_true,bne_iff_ne,ne_eq] at h3
  obtain ⟨h3,h4⟩:=h3
  obtain ⟨i,z,hi,hz,hzs,hsl,hsz,hby⟩:=okZeroD_run h3
  have ht:=elemOf_run hel
  have r1:=opd_rep hr h1
  have r2:=opd_rep hr h2
  have hzl:zero.length=sz:=by omega
  have key:∀ (k:IntKind) (n:Int),opd st.s x = .d (.int k n)→0≤n→n.toNat*bytes≤140737488355328→n≤140737488355328 →
      (execOp a.eval { dst:=dst,op:=.makeSlice t x1 x2,type:=ty,pos:=pos,after:=aft,guard:=gd }).run C.P w = .ok (.value (.slice (some ⟨w.heap.size,0,none⟩) n.toNat n.toNat)) (w.alloc (.cells (madeCells z.cells (n.toNat*i.size)) e)):=by
    intro k n hx h0 hb hle
    rw [hx] at r1 r2
    simp only [RepV,RepD] at r1 r2
    have hb2:(i.bytes:Int)*n≤281474976710656:=by
      have:((n.toNat*i.bytes:Nat):Int)≤140737488355328:=by rw [hby];omega
      rw [Int.natCast_mul,Int.toNat_of_nonneg h0,Int.mul_comm] at this
      omega
    have:=run_make (P:=C.P) w t e i z ht hi hz k k n n h0 (Int.le_refl _) hb2 (by omega)
    simp [execOp,r1,r2,this]
  have rows:∀ (n:Nat) (w':World) (γ':Nat→Value) (ok:Nat→Prop),RepCells w' ok (List.replicate n zero).flatten (madeCells z.cells (n*i.size)).toList∧(∀ u∈(madeCells z.cells (n*i.size)).toList,u.oneCell'=true):=by
    intro n w' γ' ok
    obtain ⟨z1,z2⟩:=okZeros_rep (C:=C) (w:=w') (γ:=γ') (ok:=ok) hzs
    have:=z1.length
    have hm:=made_rep z1.cells (by simpa using this) z2 n
    rw [hsl]
    exact hm.2
  have hes:∀ n,∀ e∈List.replicate n zero,e.length=sz:=fun n e he=>by rw [(List.mem_replicate.1 he).2];exact hzl
  cases own with
  | none =>
    simp only [stepS] at hs
    split at hs
    · rename_i k n hx
      obtain ⟨h0,hb,hle,hK⟩:=hs
      refine wp_value (key k n hx h0 hb hle) ⟨γ,_,hK,fun _ _=>rfl,?_⟩
      refine hr.putGrow hd (Grow.alloc w _) (fun ok hok hnew => ?_)
      have:=(rows n.toNat (w.alloc (.cells (madeCells z.cells (n.toNat*i.size)) e)) γ ok).1
      have h:=new_sl (w':=w.alloc (.cells (madeCells z.cells (n.toNat*i.size)) e)) (ok:=ok) (cap:=n.toNat) (es:=List.replicate n.toNat zero) (heap_alloc_new w _) (hnew _ (Nat.le_refl _) (by simp)) (by simp) (hes _) this
      rw [List.length_replicate] at h
      exact h
    · exact hs.elim
  | some nm =>
    simp only [stepS] at hs
    split at hs
    · rename_i k n hx
      obtain ⟨h0,hb,hle,hI,hf,hK⟩:=hs
      refine wp_value (key k n hx h0 hb hle) ⟨upd γ nm (.slice (some ⟨w.heap.size,0,none⟩) n.toNat n.toNat),_,hK,fun n hn=>upd_other _ _ (fun e=>hI (e▸hn)),?_⟩
      refine hr.new hd hf (Grow.alloc w _) (fun g hg => ?_) (fun ok γ' hok hγ => ?_) rfl (fun ok=>⟨by rw [upd_same],rfl⟩)
      · simp only [blk] at hg
        split at hg
        · cases hg
        · injection hg with hg;exact Nat.le_of_eq hg
      · obtain ⟨q1,q2⟩:=rows n.toNat (w.alloc (.cells (madeCells z.cells (n.toNat*i.size)) e)) γ' ok
        by_cases hz0:n.toNat=0
        · refine .inl ⟨by rw [hz0];rfl,_,by rw [hz0]⟩
        · refine .inr ⟨w.heap.size,n.toNat,(madeCells z.cells (n.toNat*i.size)).toList,e,by simp,by omega,heap_alloc_new w _,by simp,?_,?_,hes _,q1,q2⟩
          · simp only [maxLen];omega
          · have:=size_madeCells z.cells (n.toNat*i.size)
            simpa [hsz] using this
    · exact hs.elim
theorem RepCells.of_take {ok:Nat→Prop}{ds:List D}{us:List Value}{k:Nat}(h:RepCells w ok ds (us.take k)):RepCells w ok ds us :=
  RepCells.of_get fun i d hd=>by
    obtain ⟨u,hu,hr⟩:=h.get i d hd
    rw [List.getElem?_take] at hu
    split at hu
    · exact ⟨u,hu,hr⟩
    · cases hu
mutual
theorem RepV.thaw {ok ok':Nat→Prop}{n:Nat}{es:List (List D)}(hok:∀ g,ok g→w.heap[g]? = w.heap[g]? ∧ ok' g)(hn:RepD w ok' (.sl es) (γ n)):∀ (x:V)(v:Value),RepV C w ok γ x v→RepV C w ok' γ (V.thaw n es x) v
  | .own m,v,r=>by
    rw [V.thaw]
    split
    · rename_i h;subst h;rw [r.1];exact hn
    · exact r
  | .eptr m sz i off,v,r=>by
    rw [V.thaw]
    split
    · trivial
    · exact r
  | .mref m,v,r=>by
    rw [V.thaw]
    split
    · trivial
    · exact r
  | .ptr m off,v,r=>by
    rw [V.thaw]
    split
    · trivial
    · exact r
  | .fn f caps,v,r=>by
    obtain ⟨us,e,r⟩:=r
    exact ⟨us,e,RepVs.thaw hok hn caps us r⟩
  | .agg cs,v,r=>by
    obtain ⟨us,e,r,h1⟩:=r
    exact ⟨us,e,RepVs.thaw hok hn cs us r,h1⟩
  | .tup cs,v,r=>by
    obtain ⟨us,e,r⟩:=r
    exact ⟨us,e,RepVs.thaw hok hn cs us r⟩
  | .d x,v,r=>RepD.mono hok x v r
  | .cap0,v,r=>r
  | .nilp,v,r=>r
  | .cptr cs,v,r=>by
    obtain ⟨ad,e,ho,r⟩:=r
    exact ⟨ad,e,(hok _ ho).2,RepCs.mono hok ad ho 0 cs r⟩
  | .undef,v,r=>trivial
theorem RepVs.thaw {ok ok':Nat→Prop}{n:Nat}{es:List (List D)}(hok:∀ g,ok g→w.heap[g]? = w.heap[g]? ∧ ok' g)(hn:RepD w ok' (.sl es) (γ n)):∀ (xs:List V)(vs:List Value),RepVs C w ok γ xs vs→RepVs C w ok' γ (V.thaws n es xs) vs
  | [],vs,r=>r
  | x::xs,vs,r=>by
    obtain ⟨u,us,e,r1,r2⟩:=r
    exact ⟨u,us,e,RepV.thaw hok hn x u r1,RepVs.thaw hok hn xs us r2⟩
end
theorem Rel.free (hr:Rel C w0 S M N γ st a w) (he:Env C w0 S M) (n:Nat):Rel C w0 S M N γ (st.free n) a w:=by
  unfold St.free
  split
  case h_2=>exact hr
  rename_i sz es hn
  have hsub:∀ m x,(if m=n then none else (st.o m).map (Ob.thaw n es))=some x→m≠n∧∃ y,st.o m=some y∧x=y.thaw n es:=by
    intro m x h
    split at h
    · cases h
    · rename_i hm
      obtain ⟨y,hy,rfl⟩:=Option.map_eq_some_iff.1 h
      exact ⟨hm,y,hy,rfl⟩
  have hok:∀ g,okOf w0 S γ st.o w g→w.heap[g]? = w.heap[g]? ∧ okOf w0 S γ (fun m=>if m=n then none else (st.o m).map (Ob.thaw n es)) w g:=fun g hg =>
    ⟨rfl,hg.1,hg.2.1,fun m x hx=>by
      obtain ⟨_,y,hy,_⟩:=hsub m x hx
      exact hg.2.2 m y hy⟩
  have hrep:RepD w (okOf w0 S γ (fun m=>if m=n then none else (st.o m).map (Ob.thaw n es)) w) (.sl es) (γ n):=by
    have hblt:∀ g,blk (γ n)=some g→okOf w0 S γ (fun m=>if m=n then none else (st.o m).map (Ob.thaw n es)) w g:=by
      intro g hg
      refine ⟨?_,blk_lt (hr.objs n _ hn) hg,fun m x hx hb => ?_⟩
      · rcases hr.muts n _ g hn hg with h|h
        · exact .inl (he.ms g h)
        · exact .inr h
      · obtain ⟨hm,y,hy,_⟩:=hsub m x hx
        exact hm (hr.sep m n y _ g hy hn hb hg)
    rcases hr.objs n _ hn with ⟨rfl,A,h⟩|⟨g,cap,us,bt,h,hcp,hg,hlc,hcm,hul,hes,hrc,hone⟩
    · rw [h]
      exact ⟨A,0,0,rfl,Nat.le_refl _,by simp,fun h=>absurd rfl h⟩
    · have hb:=hblt g (by rw [h];simp [blk];omega)
      rw [h]
      exact new_sl hg hb hlc hes (hrc.mono hok)
  refine ⟨fun t=>RepV.thaw hok hrep _ _ (hr.slots t),fun m x hx => ?_,fun m k x y g hx hy => ?_,fun m x g hx hg => ?_,hr.fram,hr.defers,hr.size⟩
  · obtain ⟨hm,y,hy,rfl⟩:=hsub m x hx
    have ho:=hr.objs m y hy
    cases y with
    | box cs =>
      obtain ⟨g,us,ty,e,hh,hv,h1⟩:=ho
      exact ⟨g,us,ty,e,hh,RepVs.thaw hok hrep cs us hv,h1⟩
    | row sz' es'=>exact RepO.mono hok (fun _ _=>rfl) (fun _ _=>rfl) ho
    | map kvs=>exact RepO.mono hok (fun _ _=>rfl) (fun _ _=>rfl) ho
    | bld k =>
      simp only [Ob.thaw]
      split
      · exact bld_box (RepO.mono hok (fun _ _=>rfl) (fun _ _=>rfl) ho)
      · exact RepO.mono hok (fun _ _=>rfl) (fun _ _=>rfl) ho
    | brow s=>exact RepO.mono hok (fun _ _=>rfl) (fun _ _=>rfl) ho
  · obtain ⟨_,x',hx',_⟩:=hsub m x hx
    obtain ⟨_,y',hy',_⟩:=hsub k y hy
    exact hr.sep m k x' y' g hx' hy'
  · obtain ⟨_,x',hx',_⟩:=hsub m x hx
    exact hr.muts m x' g hx' hg
theorem ss_app (hr:Rel C w0 S M N γ st a w) (he:Env C w0 S M) (hd:∀ d,o.dst=some d→d<N) {own:Option Nat} {sz bytes:Nat} {x y:Opd} {I:Nat→Prop} {K:St→Prop} (hk:okS C.P C.φ o (.app own sz bytes x y)=true) (hs:stepS I st o.dst K (.app own sz bytes x y)) :
    o.wp C.P a w (Lands C w0 S M N I γ K) Q:=by
  obtain ⟨dst,op,ty,pos,aft,gd⟩:=o
  simp only [okS] at hk
  split at hk
  case h_2=>cases hk
  rename_i x1 y1 t t1
  simp only [Bool.and_eq_true,beq_iff_eq] at hk
  obtain ⟨⟨⟨rfl,h1⟩,h2⟩,h3⟩:=hk
  split at h3
  case h_2=>cases h3
  rename_i e hel
  obtain ⟨i,z,hi,hz,hz1,hzs,hsz,hby,hne⟩:=okElem_run h3
  subst hsz hby
  have ht:=elemOf_run hel
  have r1:=opd_rep hr h1
  have r2:=opd_rep hr h2
  simp only [stepS] at hs
  obtain ⟨ys,hys,hyl,hs⟩:=hs
  obtain ⟨B,c,news,hv2,hnl,hB,hn1,hnr⟩:=readD_rep hr hys r2 hyl
  have land:∀ {olds:List Value} {n:Nat},AppPost C.P w t ty i (a.eval x1) n ys.length (.slice B ys.length c) olds news→∃ v' w',(execOp a.eval { dst:=dst,op:=.call { callee:=.builtin .append,args:=⟨[x1,y1]⟩,argTypes:=⟨[t,t]⟩ },type:=ty,pos:=pos,after:=aft,guard:=gd }).run C.P w = .ok (.value v') w'∧Turn w w' (blk (a.eval x1))∧(∀ g,blk v'=some g→blk (a.eval x1)=some g∨w.heap.size≤g) ∧
      ((n+ys.length=0∧∃ A,v' = .slice A 0 0)∨∃ g cap us bt,v' = .slice (some ⟨g,0,none⟩) (n+ys.length) cap∧0<cap∧w'.heap[g]? = some (.cells ⟨us⟩ bt (0,0))∧n+ys.length≤cap∧cap≤maxLen∧us.length=cap*i.size∧us.take ((n+ys.length)*i.size)=olds++news∧∀ u∈us,u.oneCell'=true):=by
    intro olds n ⟨v',w',q1,q2⟩
    refine ⟨v',w',?_,q2⟩
    simp only [execOp,resolve,invoke,builtin,Sem.run_bind,Sem.run_pure,Result.andThen_ok,List.map_toArray,List.map_cons,List.map_nil,hv2,q1]
  split at hs
  · -- to a slice that has no room
    rename_i hx
    obtain ⟨hb,hle,hs⟩:=hs
    rw [hx] at r1
    obtain ⟨A,hv1⟩:=r1
    obtain ⟨v',w',hrun,hturn,hblk,hform⟩:=land (run_append_row (P:=C.P) (w:=w) (ty:=ty) ht hi hz hzs hne hz1 (v:=a.eval x1) (n:=0) (olds:=[]) (.inl ⟨rfl,rfl,A,hv1⟩) (c:=c) hnl hB hn1 (by simpa using hb) (by simpa using hle))
    have hb0:blk (a.eval x1)=none:=by rw [hv1];cases A <;> simp [blk]
    rw [hb0] at hturn hblk
    have hgrow:Grow w w':=⟨hturn.os,hturn.tape,hturn.output,hturn.size,fun g hg=>hturn.block g hg (by simp)⟩
    simp only [Nat.zero_add,List.nil_append] at hform
    have hcells:∀ (ok:Nat→Prop) (us:List Value),(∀ g,okOf w0 S γ st.o w g→w'.heap[g]? = w.heap[g]? ∧ ok g)→us.take (ys.length*i.size)=news→RepCells w' ok ys.flatten us:=fun ok us hok he =>
      RepCells.of_take (k:=ys.length*i.size) (by rw [he];exact hnr.mono hok)
    cases own with
    | none =>
      refine wp_value hrun ⟨γ,_,hs,fun _ _=>rfl,?_⟩
      refine hr.putGrow hd hgrow (fun ok hok hnew => ?_)
      rcases hform with ⟨h0,A',rfl⟩|⟨g,cap,us,bt,rfl,hcp,hg,hlc,hcm,hul,htk,hone⟩
      · have:ys=[]:=List.eq_nil_of_length_eq_zero h0
        subst this
        exact ⟨A',0,0,rfl,Nat.le_refl _,by simp,fun h=>absurd rfl h⟩
      · have hlt:g<w'.heap.size:=(Array.getElem?_eq_some_iff.1 hg).1
        have hge:w.heap.size≤g:=by
          rcases hblk g (by simp [blk];omega) with h|h
          · cases h
          · exact h
        exact new_sl hg (hnew g hge hlt) hlc hyl (hcells ok us hok htk)
    | some nm =>
      obtain ⟨hI,hf,hK⟩:=hs
      refine wp_value hrun ⟨upd γ nm v',_,hK,fun n hn=>upd_other _ _ (fun e=>hI (e▸hn)),?_⟩
      have hone':v'.oneCell'=true:=by
        rcases hform with ⟨h0,A',rfl⟩|⟨g,cap,us,bt,rfl,_⟩ <;> rfl
      refine hr.new hd hf hgrow (fun g hg => ?_) (fun ok γ' hok hγ => ?_) rfl (fun ok=>⟨by rw [upd_same],hone'⟩)
      · rcases hblk g hg with h|h
        · cases h
        · exact h
      · rcases hform with ⟨h0,A',rfl⟩|⟨g,cap,us,bt,rfl,hcp,hg,hlc,hcm,hul,htk,hone⟩
        · have:ys=[]:=List.eq_nil_of_length_eq_zero h0
          exact .inl ⟨this,A',rfl⟩
        · exact .inr ⟨g,cap,us,bt,rfl,hcp,hg,hlc,hcm,hul,hyl,hcells ok us hok htk,hone⟩
  · -- to a slice of the frame's own
    rename_i m hx
    obtain ⟨es,hI,hm,hb,hle,hK⟩:=hs
    rw [hx] at r1
    obtain ⟨hv1,_⟩:=r1
    have hobj:=hr.objs m _ hm
    have hold:∃ olds,((es.length=0∧olds=[]∧∃ A,a.eval x1 = .slice A 0 0)∨∃ g cap us bt,a.eval x1 = .slice (some ⟨g,0,none⟩) es.length cap∧0<cap∧w.heap[g]? = some (.cells ⟨us⟩ bt (0,0))∧es.length≤cap∧cap≤maxLen∧us.length=cap*i.size∧us.take (es.length*i.size)=olds∧∀ u∈us,u.oneCell'=true) ∧
        RepCells w (okOf w0 S γ st.o w) es.flatten olds∧olds.length=es.length*i.size∧∀ e∈es,e.length=i.size:=by
      rcases hobj with ⟨rfl,A,h⟩|⟨g,cap,us,bt,h,hcp,hg,hlc,hcm,hul,hes,hrc,hone⟩
      · exact ⟨[],.inl ⟨rfl,rfl,A,by rw [hv1,h]⟩,trivial,by simp,by simp⟩
      · have hfl:=flat_length hes
        have hmul:=Nat.mul_le_mul_right i.size hlc
        have htk:=hrc.take (es.length*i.size)
        rw [List.take_of_length_le (by omega)] at htk
        exact ⟨us.take (es.length*i.size),.inr ⟨g,cap,us,bt,by rw [hv1,h],hcp,hg,hlc,hcm,hul,rfl,hone⟩,htk,by rw [List.length_take];omega,hes⟩
    obtain ⟨olds,hform0,hor,hol,hes⟩:=hold
    obtain ⟨v',w',hrun,hturn,hblk,hform⟩:=land (run_append_row (P:=C.P) (w:=w) (ty:=ty) ht hi hz hzs hne hz1 (v:=a.eval x1) (n:=es.length) (olds:=olds) hform0 (c:=c) hnl hB hn1 hb hle)
    rw [hv1] at hturn hblk
    have hone':v'.oneCell'=true:=by
      rcases hform with ⟨h0,A',rfl⟩|⟨g,cap,us,bt,rfl,_⟩ <;> rfl
    have fin:Rel C w0 S M N (upd γ m v') { s:=((st.scrub m).put dst (.own m)).s,o:=upd (st.scrub m).o m (some (.row i.size (es++ys))) } (a.put dst v') w'→({ dst:=dst,op:=.call { callee:=.builtin .append,args:=⟨[x1,y1]⟩,argTypes:=⟨[t,t]⟩ },type:=ty,pos:=pos,after:=aft,guard:=gd }:Oper).wp C.P a w (Lands C w0 S M N I γ K) Q:=by
      intro hrel
      cases own with
      | some _=>exact wp_value hrun ⟨upd γ m v',_,hK,fun n hn=>upd_other _ _ (fun e=>hI (e▸hn)),hrel⟩
      | none=>exact wp_value hrun ⟨upd γ m v',_,hK,fun n hn=>upd_other _ _ (fun e=>hI (e▸hn)),hrel.free he m⟩
    refine fin ?_
    have hnew:=hr.turnNew hm hturn (h':=v') hblk (ob':=.row i.size (es++ys)) (fun cs h=>by cases h) (fun ok hok => ?_)
    · have:=hnew.put hd (v:=.own m) (u:=v') ⟨by rw [upd_same],hone'⟩
      cases dst <;> exact this
    · rcases hform with ⟨h0,A',rfl⟩|⟨g,cap,us,bt,rfl,hcp,hg,hlc,hcm,hul,htk,hone⟩
      · have e1:es=[]:=List.eq_nil_of_length_eq_zero (by omega)
        have e2:ys=[]:=List.eq_nil_of_length_eq_zero (by omega)
        subst e1 e2
        exact .inl ⟨rfl,A',rfl⟩
      · refine .inr ⟨g,cap,us,bt,by rw [List.length_append],hcp,hg,by rw [List.length_append];exact hlc,hcm,hul,?_,?_,hone⟩
        · intro e he
          rcases List.mem_append.1 he with h|h
          · exact hes e h
          · exact hyl e h
        · rw [List.flatten_append]
          refine RepCells.of_take (k:=(es.length+ys.length)*i.size) ?_
          rw [htk]
          exact RepCells.append (by rw [hol,flat_length hes]) (hor.mono hok) (hnr.mono hok)
  · exact hs.elim
theorem ss_appD (hr:Rel C w0 S M N γ st a w) (he:Env C w0 S M) (hd:∀ d,o.dst=some d→d<N) {sz bytes:Nat} {x y:Opd} {I:Nat→Prop} {K:St→Prop} (hk:okS C.P C.φ o (.appD sz bytes x y)=true) (hs:stepS I st o.dst K (.appD sz bytes x y)) :
    o.wp C.P a w (Lands C w0 S M N I γ K) Q:=by
  obtain ⟨dst,op,ty,pos,aft,gd⟩:=o
  simp only [okS] at hk
  split at hk
  case h_2=>cases hk
  rename_i x1 y1 t t1
  simp only [Bool.and_eq_true,beq_iff_eq] at hk
  obtain ⟨⟨⟨rfl,h1⟩,h2⟩,h3⟩:=hk
  split at h3
  case h_2=>cases h3
  rename_i e hel
  obtain ⟨i,z,hi,hz,hz1,hzs,hsz,hby,hne⟩:=okElem_run h3
  subst hsz hby
  have ht:=elemOf_run hel
  have r1:=opd_rep hr h1
  have r2:=opd_rep hr h2
  simp only [stepS] at hs
  obtain ⟨ys,hys,hyl,hs⟩:=hs
  obtain ⟨B,c,news,hv2,hnl,hB,hn1,hnr⟩:=readD_rep hr hys r2 hyl
  split at hs
  case h_2=>exact hs.elim
  rename_i m hx
  obtain ⟨es,hI,hm,hb,hle,hK⟩:=hs
  rw [hx] at r1
  obtain ⟨hv1,_⟩:=r1
  have hobj:=hr.objs m _ hm
  have hold:∃ olds,((es.length=0∧olds=[]∧∃ A,a.eval x1 = .slice A 0 0)∨∃ g cap us bt,a.eval x1 = .slice (some ⟨g,0,none⟩) es.length cap∧0<cap∧w.heap[g]? = some (.cells ⟨us⟩ bt (0,0))∧es.length≤cap∧cap≤maxLen∧us.length=cap*i.size∧us.take (es.length*i.size)=olds∧∀ u∈us,u.oneCell'=true) ∧
      RepCells w (okOf w0 S γ st.o w) es.flatten olds∧olds.length=es.length*i.size∧∀ e∈es,e.length=i.size:=by
    rcases hobj with ⟨rfl,A,h⟩|⟨g,cap,us,bt,h,hcp,hg,hlc,hcm,hul,hes,hrc,hone⟩
    · exact ⟨[],.inl ⟨rfl,rfl,A,by rw [hv1,h]⟩,trivial,by simp,by simp⟩
    · have hfl:=flat_length hes
      have hmul:=Nat.mul_le_mul_right i.size hlc
      have htk:=hrc.take (es.length*i.size)
      rw [List.take_of_length_le (by omega)] at htk
      exact ⟨us.take (es.length*i.size),.inr ⟨g,cap,us,bt,by rw [hv1,h],hcp,hg,hlc,hcm,hul,rfl,hone⟩,htk,by rw [List.length_take];omega,hes⟩
  obtain ⟨olds,hform0,hor,hol,hes⟩:=hold
  obtain ⟨v',w',q1,hturn,hblk,hform,hkeep⟩:=run_append_row2 (P:=C.P) (w:=w) (ty:=ty) ht hi hz hzs hne hz1 (v:=a.eval x1) (n:=es.length) (olds:=olds) hform0 (c:=c) hnl hB hn1 hb hle
  have hrun:(execOp a.eval { dst:=dst,op:=.call { callee:=.builtin .append,args:=⟨[x1,y1]⟩,argTypes:=⟨[t,t]⟩ },type:=ty,pos:=pos,after:=aft,guard:=gd }).run C.P w = .ok (.value v') w':=by
    simp only [execOp,resolve,invoke,builtin,Sem.run_bind,Sem.run_pure,Result.andThen_ok,List.map_toArray,List.map_cons,List.map_nil,hv2,q1]
  rw [hv1] at hturn hblk
  have hst:({ st with o:=upd st.o m (some (.row i.size es)) }:St)=st:=by
    cases st
    congr 1
    funext n
    simp only [upd]
    split
    · rename_i hn;rw [hn];exact hm.symm
    · rfl
  have hsame:Rel C w0 S M N γ st a w':=by
    have:=hr.turnSame hm hturn (ob':=.row i.size es) (fun ok hok => ?_)
    · rw [hst] at this;exact this
    · rcases hobj with ⟨rfl,A,h⟩|⟨g,cap,us,bt,h,hcp,hg,hlc,hcm,hul,hes',hrc,hone⟩
      · exact .inl ⟨rfl,A,h⟩
      · obtain ⟨us',k1,k2,k3,k4⟩:=hkeep g us bt (by rw [hv1,h];simp only [blk];rw [if_neg (by omega)]) hg
        refine .inr ⟨g,cap,us',bt,h,hcp,k1,hlc,hcm,by rw [k2];exact hul,hes',?_,k4 hone⟩
        have hfl:=flat_length hes'
        have hmul:=Nat.mul_le_mul_right i.size hlc
        refine RepCells.of_take (k:=es.length*i.size) ?_
        rw [k3]
        have htk:=hrc.take (es.length*i.size)
        rw [List.take_of_length_le (by omega)] at htk
        exact htk.mono hok
  have hfr:=hsame.free he m
  have hfo:∀ n x,(st.free m).o n=some x→n≠m∧∃ y,st.o n=some y:=by
    intro n x h
    unfold St.free at h
    rw [hm] at h
    simp only at h
    split at h
    · cases h
    · rename_i hn
      obtain ⟨y,hy,_⟩:=Option.map_eq_some_iff.1 h
      exact ⟨hn,y,hy⟩
  have hgr:w.heap.size≤w'.heap.size:=hturn.size
  have hok:∀ g,okOf w0 S γ st.o w g→w'.heap[g]? = w.heap[g]? ∧ okOf w0 S γ (st.free m).o w' g:=by
    intro g hg
    refine ⟨hturn.block g hg.2.1 (hg.2.2 m _ hm),hg.1,Nat.lt_of_lt_of_le hg.2.1 hgr,fun n x hx => ?_⟩
    obtain ⟨_,y,hy⟩:=hfo n x hx
    exact hg.2.2 n y hy
  have hnew:∀ g,blk v'=some g→g<w'.heap.size→okOf w0 S γ (st.free m).o w' g:=by
    intro g hg hlt
    rcases hblk g hg with hb'|hb'
    · refine ⟨?_,hlt,fun n x hx hbn => ?_⟩
      · rcases hr.muts m _ g hm hb' with h|h
        · exact .inl (he.ms g h)
        · exact .inr h
      · obtain ⟨hn,y,hy⟩:=hfo n x hx
        exact hn (hr.sep n m y _ g hy hm hbn hb')
    · refine ⟨.inr (Nat.le_trans hr.fram.size hb'),hlt,fun n x hx hbn => ?_⟩
      obtain ⟨hn,y,hy⟩:=hfo n x hx
      have:=blk_lt (hr.objs n y hy) hbn
      omega
  refine wp_value hrun ⟨γ,_,hK,fun _ _=>rfl,hfr.put hd ?_⟩
  rcases hform with ⟨h0,A',rfl⟩|⟨g,cap,us,bt,rfl,hcp,hg,hlc,hcm,hul,htk,hone⟩
  · have e1:es=[]:=List.eq_nil_of_length_eq_zero (by omega)
    have e2:ys=[]:=List.eq_nil_of_length_eq_zero (by omega)
    subst e1 e2
    exact ⟨A',0,0,rfl,Nat.le_refl _,by simp,fun h=>absurd rfl h⟩
  · have hlt:g<w'.heap.size:=(Array.getElem?_eq_some_iff.1 hg).1
    rw [← List.length_append]
    refine new_sl (sz:=i.size) hg (hnew g (by simp only [blk];rw [if_neg (by omega)]) hlt) (by rw [List.length_append];exact hlc) (fun e he => ?_) ?_
    · rcases List.mem_append.1 he with h|h
      · exact hes e h
      · exact hyl e h
    · rw [List.flatten_append]
      refine RepCells.of_take (k:=(es.length+ys.length)*i.size) ?_
      rw [htk]
      exact RepCells.append (by rw [hol,flat_length hes]) (hor.mono hok) (hnr.mono hok)
theorem RepCells.left {w:World}{ok:Nat→Prop}:∀ {ds es:List D}{us:List Value},RepCells w ok (ds++es) us→RepCells w ok ds us
  | [],_,_,_=>trivial
  | _::_,_,[],h=>h.elim
  | d::ds,es,u::us,h=>⟨h.1,RepCells.left h.2⟩
theorem ss_cut (hr:Rel C w0 S M N γ st a w) (hd:∀ d,o.dst=some d→d<N) {x hi:Opd} {I:Nat→Prop} {K:St→Prop} (hk:okS C.P C.φ o (.cut x hi)=true) (hs:stepS I st o.dst K (.cut x hi)) :
    o.wp C.P a w (Lands C w0 S M N I γ K) Q:=by
  obtain ⟨dst,op,ty,pos,aft,gd⟩:=o
  simp only [okS] at hk
  split at hk
  case h_2=>cases hk
  rename_i t x' hi'
  simp only [Bool.and_eq_true] at hk
  obtain ⟨⟨h1,h2⟩,h3⟩:=hk
  split at h3
  case h_2=>cases h3
  rename_i e hel
  obtain ⟨i,hi0⟩:=Option.isSome_iff_exists.1 h3
  have ht:=elemOf_run hel
  have r1:=opd_rep hr h1
  simp only [stepS] at hs
  split at hs
  · rename_i m hx
    obtain ⟨sz,es,h,hI,hm,hb,hK⟩:=hs
    rw [hx] at r1
    obtain ⟨hv1,_⟩:=r1
    have hobj:=hr.objs m _ hm
    obtain ⟨A,cap,hform,hlc⟩:∃ A cap,a.eval x' = .slice A es.length cap∧es.length≤cap:=by
      rcases hobj with ⟨rfl,A,h⟩|⟨g,cap,us,bt,h,hcp,hg,hlc,_⟩
      · exact ⟨A,0,by rw [hv1,h];rfl,Nat.le_refl _⟩
      · exact ⟨_,cap,by rw [hv1,h],hlc⟩
    obtain ⟨hbd,_,hhl⟩:=run_bounds (P:=C.P) (φ:=C.φ) (isS:=true) (cap:=cap) (lo:=none) (hi:=some hi) (lo':=none) (hi':=some hi') (l:=0) (h:=h) hlc (show bndO es.length es.length (some (opd st.s hi))=some h from hb) rfl hr rfl h2
    have hbd:(Instr.sliceBounds true es.length cap none (some (a.eval hi')) none).run C.P w = .ok (0,h,cap) w:=hbd
    have hrun:(execOp a.eval { dst:=dst,op:=.slice t x' none (some hi') none,type:=ty,pos:=pos,after:=aft,guard:=gd }).run C.P w = .ok (.value (.slice (if cap=0 then A else A.map (·.add (0*i.size))) (h-0) (cap-0))) w:=by
      simp [execOp,hform,Instr.sliceAt,Instr.slice,run_underlying ht,hbd,Go.sizeOf,typeInfo,hi0]
    refine wp_value hrun ⟨upd γ m (.slice (if cap=0 then A else A.map (·.add (0*i.size))) (h-0) (cap-0)),_,hK,fun n hn=>upd_other _ _ (fun e=>hI (e▸hn)),?_⟩
    have hnew:=hr.turnNew hm (w':=w) ⟨rfl,rfl,rfl,Nat.le_refl _,fun _ _ _=>rfl⟩ (h':=.slice (if cap=0 then A else A.map (·.add (0*i.size))) (h-0) (cap-0)) (fun g hg=>.inl ?_) (ob':=.row sz (es.take h)) (fun cs h=>by cases h) (fun ok hok => ?_)
    · have:=hnew.put hd (v:=.own m) (u:=.slice (if cap=0 then A else A.map (·.add (0*i.size))) (h-0) (cap-0)) ⟨by rw [upd_same],rfl⟩
      cases dst <;> exact this
    · rw [hv1] at hform
      rw [hform]
      by_cases hc:cap=0
      · subst hc;simp only [if_true] at hg;cases A <;> simp [blk] at hg
      · rw [if_neg hc] at hg
        cases A with
        | none=>simp [blk] at hg
        | some ad =>
          simp only [Option.map_some,blk,Nat.sub_zero,hc,if_false,Option.some.injEq,add_block] at hg ⊢
          exact hg
    · rcases hobj with ⟨rfl,A',hA⟩|⟨g,cap',us,bt,hA,hcp,hg,hlc',hcm,hul,hes,hrc,hone⟩
      · have e0:(Value.slice A ([]:List (List D)).length cap) = .slice A' 0 0:=by rw [← hform,hv1,hA]
        injection e0 with _ _ e2
        subst e2
        have:h=0:=by simpa using hhl
        subst this
        exact .inl ⟨by simp,_,rfl⟩
      · have e0:(Value.slice A es.length cap) = .slice (some ⟨g,0,none⟩) es.length cap':=by rw [← hform,hv1,hA]
        injection e0 with e1 _ e2
        subst e1 e2
        refine .inr ⟨g,cap,us,bt,?_,hcp,hg,?_,hcm,hul,fun e he=>hes e (List.mem_of_mem_take he),?_,hone⟩
        · rw [if_neg (by omega)]
          simp [Addr.add,List.length_take,Nat.min_eq_left hhl]
        · rw [List.length_take];omega
        · have hfl:es.flatten=(es.take h).flatten++(es.drop h).flatten:=by rw [← List.flatten_append,List.take_append_drop]
          rw [hfl] at hrc
          exact hrc.left.mono hok
  · exact hs.elim
theorem ss_nilS (hr:Rel C w0 S M N γ st a w)(hd:∀ d,o.dst=some d→d<N){q:Bool}{x:Opd}{I:Nat→Prop}{K:St→Prop}(hk:okS C.P C.φ o (.nilS q x)=true)(hs:stepS I st o.dst K (.nilS q x)) :
    o.wp C.P a w (Lands C w0 S M N I γ K) Q:=by
  obtain ⟨dst,op,ty,pos,aft,gd⟩:=o
  simp only [okS] at hk
  split at hk
  case h_2=>cases hk
  rename_i op' t x' yt
  simp only [Bool.and_eq_true,beq_iff_eq] at hk
  obtain ⟨⟨h0,h1⟩,h3⟩:=hk
  obtain ⟨e,hel⟩:=Option.isSome_iff_exists.1 h3
  have ht:=elemOf_run hel
  have r1:=opd_rep hr h1
  have hev:a.eval (.const (.slice none 0 0)) = .slice none 0 0:=rfl
  have key:∀ (A:Option Addr) (l c:Nat),a.eval x' = .slice A l c→(∀ b,(b=if q=true then !A.isNone else A.isNone)→K (st.put dst (.d (.bool b))))→({ dst:=dst,op:=.binOp op' t x' (.const (.slice none 0 0)) yt,type:=ty,pos:=pos,after:=aft,guard:=gd }:Oper).wp C.P a w (Lands C w0 S M N I γ K) Q:=by
    intro A l c hp hK
    have hg:(eqGuard op' t x' (.const (.slice none 0 0)) (a.eval x') (.slice none 0 0)).run C.P w = .ok () w:=eqGuard_run (.inr (.inl (by simp))) (by rw [hp];simp)
    have hd':∀ d:Nat,(Op.equalIn (d+1) t (.slice A l c) (.slice none 0 0)).run C.P w = .ok A.isNone w:=fun d=>by
      cases A <;> simp [Op.equalIn,run_underlying ht]
    have hq:(Op.equal t (.slice A l c) (.slice none 0 0)).run C.P w = .ok A.isNone w:=hd' 9999
    rw [hp] at hg
    refine wp_value (u:=.bool (if q=true then !A.isNone else A.isNone)) (w':=w) ?_ ⟨γ,_,hK _ rfl,fun _ _=>rfl,hr.put hd rfl⟩
    cases q <;> simp only [if_true,Bool.false_eq_true,if_false] at h0 ⊢ <;> subst h0 <;> simp [execOp,hev,hg,hp,binOp,hq]
  simp only [stepS] at hs
  split at hs
  · rename_i hx
    rw [hx] at r1
    obtain ⟨A,cap,sz,hv,_⟩:=r1
    exact key A _ _ hv (fun b _=>hs b)
  · rename_i e0 es hx
    rw [hx] at r1
    obtain ⟨A,cap,sz,hv,_,_,hc⟩:=r1
    obtain ⟨ad,rfl,_⟩:=hc (by simp)
    refine key _ _ _ hv (fun b hb => ?_)
    have:b=q:=by rw [hb];cases q <;> rfl
    rw [this];exact hs
  · rename_i hx
    rw [hx] at r1
    obtain ⟨A,hv⟩:=r1
    exact key A _ _ hv (fun b _=>hs b)
  · exact hs.elim
def keyT (d:TypeDesc)(str:Bool):Bool:=match d with | .int _ => !str | .string=>str|_=>false
theorem keyEq_now {d:TypeDesc}{str:Bool}{k k':D}{u u':Value}{ok ok':Nat→Prop}(hd:keyT d str=true)(hk:keyIs str k=true){b:Bool}(h:keyEq k k'=some b)(h1:RepD w ok k u)(h2:RepD w ok' k' u') :
    Instr.sameNow d u u'=some b:=by
  unfold keyEq at h
  split at h
  · rename_i kd x kd' y
    simp only [RepD] at h1 h2
    subst h1 h2
    split at h
    · rename_i hkk
      subst hkk
      injection h with h
      subst h
      cases d <;> simp_all [keyIs,keyT,Instr.sameNow]
    · cases h
  · rename_i x y
    simp only [RepD] at h1 h2
    subst h1 h2
    injection h with h
    subst h
    have:((⟨x.toArray⟩:ByteArray)==⟨y.toArray⟩)=(x==y):=by
      rw [Bool.eq_iff_iff,MapKept.bytes_beq]
      simp
    cases d <;> simp_all [keyIs,keyT,Instr.sameNow]
  · cases h
theorem kvGet_now {d:TypeDesc} {str:Bool} {k:D} {u:Value} {ok:Nat→Prop} (hd:keyT d str=true) (hk:keyIs str k=true) (h1:RepD w ok k u) :
    ∀ {kvs:List (D × D)} {es:List MapEntry} {r:Option D} (i:Nat),kvGet k kvs=some r→RepKvs w ok kvs es →
      (r=none∧Instr.findNow d u es i=some none)∨∃ x v j,r=some x∧Instr.findNow d u es i=some (some (i+j,v))∧RepD w ok x v
  | [],es,r,i,h,hr=>by
    simp only [kvGet,Option.some.injEq] at h
    simp only [RepKvs] at hr
    subst h hr
    exact .inl ⟨rfl,rfl⟩
  | kv::kvs,es,r,i,h,hr=>by
    obtain ⟨e,es',rfl,q1,q2,q3⟩:=hr
    rw [kvGet] at h
    split at h
    · rename_i he
      injection h with h
      subst h
      exact .inr ⟨kv.2,e.val,0,rfl,by simp [Instr.findNow,keyEq_now hd hk he h1 q1],q2⟩
    · rename_i he
      rcases kvGet_now hd hk h1 (i+1) h q3 with ⟨e1,e2⟩|⟨x,v,j,e1,e2,e3⟩
      · exact .inl ⟨e1,by simp [Instr.findNow,keyEq_now hd hk he h1 q1,e2]⟩
      · refine .inr ⟨x,v,j+1,e1,?_,e3⟩
        simp [Instr.findNow,keyEq_now hd hk he h1 q1,e2]
        omega
    · cases h
theorem kvSet_now {d:TypeDesc} {str:Bool} {k x:D} {u v:Value} {ok:Nat→Prop} (hd:keyT d str=true) (hk:keyIs str k=true) (h1:RepD w ok k u) (h2:RepD w ok x v) :
    ∀ {kvs kvs':List (D × D)} {es:List MapEntry} (i:Nat),kvSet k x kvs=some kvs'→RepKvs w ok kvs es →
      (Instr.findNow d u es i=some none∧∀ n,RepKvs w ok kvs' (es++[{ key:=u,val:=v,born:=n }])) ∨
      ∃ j e y,Instr.findNow d u es i=some (some (i+j,y))∧es[j]? = some e∧e.key=u∧RepKvs w ok kvs' (es.set j { e with key:=u,val:=v })
  | [],kvs',es,i,h,hr=>by
    simp only [kvSet,Option.some.injEq] at h
    simp only [RepKvs] at hr
    subst h hr
    exact .inl ⟨rfl,fun n=>⟨_,[],rfl,h1,h2,rfl⟩⟩
  | kv :: kvs,kvs',es,i,h,hr=>by
    obtain ⟨e,es',rfl,q1,q2,q3⟩:=hr
    rw [kvSet] at h
    split at h
    · rename_i he
      injection h with h
      subst h
      refine .inr ⟨0,e,e.val,by simp [Instr.findNow,keyEq_now hd hk he h1 q1],rfl,?_,⟨_,es',rfl,h1,h2,q3⟩⟩
      unfold keyEq at he
      split at he
      · rename_i kd x kd' y e1
        rw [e1] at q1
        simp only [RepD] at q1 h1
        split at he
        · rename_i hkk
          injection he with he
          simp only [beq_iff_eq] at he
          rw [q1,h1,hkk,he]
        · cases he
      · rename_i x y e1
        rw [e1] at q1
        simp only [RepD] at q1 h1
        injection he with he
        simp only [beq_iff_eq] at he
        rw [q1,h1,he]
      · cases he
    · rename_i he
      split at h
      · rename_i r' hr'
        injection h with h
        subst h
        rcases kvSet_now hd hk h1 h2 (i+1) hr' q3 with ⟨e1,e2⟩|⟨j,e',y,e1,e2,e3⟩
        · exact .inl ⟨by simp [Instr.findNow,keyEq_now hd hk he h1 q1,e1],fun n=>⟨e,_,rfl,q1,q2,e2 n⟩⟩
        · refine .inr ⟨j+1,e',y,?_,by simpa using e2,e3.1,e,_,rfl,q1,q2,e3.2⟩
          simp [Instr.findNow,keyEq_now hd hk he h1 q1,e1]
          omega
      · cases h
    · cases h
theorem okMapT_run {P:Program} {t:TypeId} {str:Bool} {zero:Option D} (h:okMapT P t str zero=true):∃ k e d,P.underlying t=some (.map k e)∧P.underlying k=some d∧keyT d str=true ∧
    ∀ z,zero=some z→∃ i u,P.info? e=some i∧i.zero=some u∧okConst u (.d z)=true:=by
  unfold okMapT at h
  split at h
  · rename_i k e ht
    simp only [Bool.and_eq_true] at h
    obtain ⟨h1,h2⟩:=h
    have hz:∀ z,zero=some z→∃ i u,P.info? e=some i∧i.zero=some u∧okConst u (.d z)=true:=by
      intro z hz
      subst hz
      simp only at h2
      split at h2
      · rename_i i hi
        split at h2
        · rename_i u hu
          exact ⟨i,u,hi,hu,h2⟩
        · cases h2
      · cases h2
    split at h1
    · rename_i kd hk
      exact ⟨k,e,_,ht,hk,h1,hz⟩
    · rename_i hk
      exact ⟨k,e,_,ht,hk,h1,hz⟩
    · cases h1
  · cases h
theorem keyIs_isKey {d:TypeDesc}{str:Bool}{k:D}{u:Value}{ok:Nat→Prop}{P:Program}{kt:TypeId}(hd:P.underlying kt=some d)(hm:keyT d str=true)(hk:keyIs str k=true)(h:RepD w ok k u)(e:Bool)(n:Nat) :
    (Instr.checkKey e (n+1) kt u).run P w = .ok () w∧(∀ m,(Instr.keyThatStays u u).run P m = .ok u m):=by
  cases k with
  | int k x =>
    simp only [RepD] at h
    subst h
    refine ⟨?_,fun m => ?_⟩
    · unfold Instr.checkKey
      simp only [Sem.run_bind,run_underlying hd,Result.andThen]
      cases d <;> simp_all [keyIs,keyT]
    · simp [Instr.keyThatStays,Instr.sameBits]
  | str x =>
    simp only [RepD] at h
    subst h
    refine ⟨?_,fun m => ?_⟩
    · unfold Instr.checkKey
      simp only [Sem.run_bind,run_underlying hd,Result.andThen]
      cases d <;> simp_all [keyIs,keyT]
    · have:((⟨x.toArray⟩:ByteArray)==⟨x.toArray⟩)=true:=by rw [MapKept.bytes_beq]
      simp [Instr.keyThatStays,Instr.sameBits,this]
  | _=>simp [keyIs] at hk
theorem ss_mkmap (hr:Rel C w0 S M N γ st a w)(hd:∀ d,o.dst=some d→d<N){nm:Nat}{I:Nat→Prop}{K:St→Prop}(hk:okS C.P C.φ o (.mkmap nm)=true)(hs:stepS I st o.dst K (.mkmap nm)) :
    o.wp C.P a w (Lands C w0 S M N I γ K) Q:=by
  obtain ⟨dst,op,ty,pos,aft,gd⟩:=o
  simp only [okS] at hk
  split at hk
  case h_2=>cases hk
  rename_i t
  obtain ⟨hI,hf,hK⟩:=hs
  refine wp_value (u:=.map (some w.heap.size)) (w':=w.alloc (.map #[] 0)) ?_ ?_
  · simp [execOp,Instr.makeMap]
  · refine ⟨upd γ nm (.map (some w.heap.size)),_,hK,fun n hn=>upd_other _ _ (fun e=>hI (e▸hn)),?_⟩
    refine hr.new hd hf (Grow.alloc w _) (h:=.map (some w.heap.size)) (fun g hg => ?_) (fun ok γ' hok hγ => ?_) rfl (fun ok=>⟨by rw [upd_same],rfl⟩)
    · simp only [blk,Option.some.injEq] at hg;omega
    · exact ⟨w.heap.size,[],0,rfl,heap_alloc_new w _,rfl⟩
theorem ss_mset (hr:Rel C w0 S M N γ st a w) (hd:∀ d,o.dst=some d→d<N) {str:Bool} {m k x:Opd} {I:Nat→Prop} {K:St→Prop} (hk:okS C.P C.φ o (.mset str m k x)=true) (hs:stepS I st o.dst K (.mset str m k x)) :
    o.wp C.P a w (Lands C w0 S M N I γ K) Q:=by
  obtain ⟨dst,op,ty,pos,aft,gd⟩:=o
  simp only [okS] at hk
  split at hk
  case h_2=>cases hk
  rename_i t m' k' x'
  simp only [Bool.and_eq_true] at hk
  obtain ⟨⟨⟨h0,h1⟩,h2⟩,h3⟩:=hk
  obtain ⟨kt,et,d,ht,hkt,hdm,_⟩:=okMapT_run h0
  have r1:=opd_rep hr h1
  have r2:=opd_rep hr h2
  have r3:=opd_rep hr h3
  simp only [stepS] at hs
  split at hs
  · rename_i n k0 x0 e1 e2 e3
    obtain ⟨kvs,kvs',hki,hm,hset,hK⟩:=hs
    rw [e1] at r1
    obtain ⟨q1,_⟩:=r1
    have q2:=toD_rep e2 r2
    have q3:=toD_rep e3 r3
    obtain ⟨r,es,clock,hg,hh,hkv⟩:=hr.objs n _ hm
    obtain ⟨ck,ks⟩:=keyIs_isKey (P:=C.P) hkt hdm hki q2 false 9999
    have go:∀ (o':List MapEntry) (c':Nat),(execOp a.eval { dst:=dst,op:=.mapUpdate t m' k' x',type:=ty,pos:=pos,after:=aft,guard:=gd }).run C.P w = .ok .skip { w with heap:=w.heap.setIfInBounds r (.map ⟨o'⟩ c') } →
        RepKvs w (okOf w0 S γ st.o w) kvs' o'→({ dst:=dst,op:=.mapUpdate t m' k' x',type:=ty,pos:=pos,after:=aft,guard:=gd }:Oper).wp C.P a w (Lands C w0 S M N I γ K) Q:=by
      intro o' c' hrun hrep
      refine wp_skip' hrun ⟨γ,_,hK,fun _ _=>rfl,?_⟩
      refine Rel.put (hr.turnSame hm ?_ ?_) hd trivial
      · rw [hg]
        refine ⟨rfl,rfl,rfl,by simp,fun g _ hne => ?_⟩
        exact (MapKept.heap_set hh).2 g (fun e=>hne (by simp [blk,e]))
      · intro ok hok
        exact ⟨r,o',c',hg,(MapKept.heap_set hh).1,hrep.mono hok⟩
    rcases kvSet_now hdm hki q2 q3 0 hset hkv with ⟨f1,f2⟩|⟨j,e,y,f1,f2,f3⟩
    · refine go (es++[{ key:=a.eval k',val:=a.eval x',born:=clock }]) (clock+1) ?_ (f2 clock)
      simp [execOp,q1,hg,Instr.mapUpdate,run_underlying ht,MapKept.run_getObj_map hh,ck,MapKept.run_findKey hkt f1,MapKept.run_setObj_map _ hh,Result.andThen]
    · refine go (es.set j { e with key:=a.eval k',val:=a.eval x' }) clock ?_ f3.2
      have hmod:es.modify j (fun e=>{ e with key:=a.eval k',val:=a.eval x' })=es.set j { e with key:=a.eval k',val:=a.eval x' }:=by
        simp [List.modify_eq_set,f2]
      have hk0:=f3.1
      simp only [Nat.zero_add] at f1
      simp [execOp,q1,hg,Instr.mapUpdate,run_underlying ht,MapKept.run_getObj_map hh,ck,MapKept.run_findKey hkt f1,f2,hk0,ks,MapKept.run_setObj_map _ hh,Result.andThen,hmod]
  · exact hs.elim
theorem ss_mget (hr:Rel C w0 S M N γ st a w) (hd:∀ d,o.dst=some d→d<N) {str:Bool} {zero:D} {m k:Opd} {okk:Bool} {I:Nat→Prop} {K:St→Prop} (hk:okS C.P C.φ o (.mget str zero m k okk)=true) (hs:stepS I st o.dst K (.mget str zero m k okk)) :
    o.wp C.P a w (Lands C w0 S M N I γ K) Q:=by
  obtain ⟨dst,op,ty,pos,aft,gd⟩:=o
  simp only [okS] at hk
  split at hk
  case h_2=>cases hk
  rename_i t m' k' ok'
  simp only [Bool.and_eq_true,beq_iff_eq] at hk
  obtain ⟨⟨⟨rfl,h0⟩,h1⟩,h2⟩:=hk
  obtain ⟨kt,et,d,ht,hkt,hdm,hzz⟩:=okMapT_run h0
  obtain ⟨i,z,hi,hz,hzc⟩:=hzz zero rfl
  have r1:=opd_rep hr h1
  have r2:=opd_rep hr h2
  simp only [stepS] at hs
  split at hs
  · rename_i n k0 e1 e2
    obtain ⟨kvs,r0,hki,hm,hget,hK⟩:=hs
    rw [e1] at r1
    obtain ⟨q1,_⟩:=r1
    have q2:=toD_rep e2 r2
    obtain ⟨r,es,clock,hg,hh,hkv⟩:=hr.objs n _ hm
    obtain ⟨ck,_⟩:=keyIs_isKey (P:=C.P) hkt hdm hki q2 (⟨es⟩:Array MapEntry).isEmpty 9999
    have hzr:RepD w (okOf w0 S γ st.o w) zero z:=okConst_rep (C:=C) (γ:=γ) hzc
    rcases kvGet_now hdm hki q2 0 hget hkv with ⟨rfl,f1⟩|⟨x,v,j,rfl,f1,f2⟩
    · refine wp_value (u:=if okk=true then .tuple #[z,.bool false] else z) (w':=w) ?_ ⟨γ,_,hK,fun _ _=>rfl,hr.put hd ?_⟩
      · simp at ck
        cases okk <;> simp [execOp,q1,hg,Instr.lookup,run_underlying ht,MapKept.run_getObj_map hh,ck,MapKept.run_findKey hkt f1,zeroValue,typeInfo,hi,hz,Result.andThen]
      · cases okk
        · exact hzr
        · exact ⟨[z,.bool false],rfl,_,_,rfl,hzr,_,_,rfl,rfl,rfl⟩
    · refine wp_value (u:=if okk=true then .tuple #[v,.bool true] else v) (w':=w) ?_ ⟨γ,_,hK,fun _ _=>rfl,hr.put hd ?_⟩
      · simp at ck
        simp only [Nat.zero_add] at f1
        cases okk <;> simp [execOp,q1,hg,Instr.lookup,run_underlying ht,MapKept.run_getObj_map hh,ck,MapKept.run_findKey hkt f1,Result.andThen]
      · cases okk
        · exact f2
        · exact ⟨[v,.bool true],rfl,_,_,rfl,f2,_,_,rfl,rfl,rfl⟩
  · exact hs.elim
end
end Pay
end
