/- Operations: their compact form, what they come to, and which operation of the translation each stands for. -/
import Derived.Test.YthnddhfpkmbacaaDoorPayA
namespace Pay
open Go
inductive Opd where
  | t (n : Nat)
  | c (v : V)
  | f (g : Nat)
inductive AOp where
  | mv (x : Opd)
  | pick (c a b : Opd)
  | bin (op : BinOp) (x y : Opd)
  | un (op : UnOp) (x : Opd)
  | conv (k : IntKind) (x : Opd)
  | same (x : Opd)
  | bstr (x : Opd)
  | ext (x : Opd) (i : Nat)
  | load (n : Option Nat) (p : Opd)
  | faddr (off : Nat) (p : Opd)
  | fld (off : Nat) (n : Option Nat) (x : Opd)
  | iaddr (sz : Nat) (x i : Opd)
  | iaddrA (len sz : Nat) (p i : Opd)
  | idx (x i : Opd)
  | idxA (len sz : Nat) (n : Option Nat) (x i : Opd)
  | slc (sz : Nat) (x : Opd) (lo hi : Option Opd)
  | slcS (x : Opd) (lo hi : Option Opd)
  | len (x : Opd)
  | lenS (x : Opd)
  | mm (mx : Bool) (xs : List Opd)
  | build (zero : List V) (parts : List (Nat × Nat × Opd))
  | fnv (f : Nat) (caps : List Opd)
  | nilc (x : Opd)
  | eqs (neq : Bool) (ks : List Nat) (x y : Opd)
  | beq (neq : Bool) (x y : Opd)
  | nilE (neq : Bool) (x : Opd)
  | nilP (neq : Bool) (x : Opd)
  -- what turns objects, or is told by more than the values
  | nilS (neq : Bool) (x : Opd)
  | store (n : Nat) (p x : Opd)
  | alloc (nm : Nat) (cells : List V)
  | box (nm : Nat) (n : Nat) (x : Opd)
  | bsl (own : Option Nat) (sz : Nat) (zero : List D) (n : Nat) (parts : List (Nat × Opd))
  | mks (own : Option Nat) (sz bytes : Nat) (zero : List D) (n : Opd)
  | app (own : Option Nat) (sz bytes : Nat) (x y : Opd)
  | cut (x hi : Opd)
  | mkmap (nm : Nat)
  | mset (str : Bool) (m k x : Opd)
  | mget (str : Bool) (zero : D) (m k : Opd) (ok : Bool)
  | call (f : Nat) (args : List Opd)
  | callv (x : Opd) (args : List Opd)
  -- what is never come to
  | never
/-- An operation: where its value goes, the slots whose slices are given up ahead of it, and what must hold for it to run: the place of the operation that tells it, its slot, what that must be. -/
structure AOper where
  dst : Option Nat
  op : AOp
  frz : List Nat := []
  deps : List Nat := []
  guard : Option (Nat × Nat × Bool) := none
  tr : Option (List Nat × Option (List Nat)) := none
def opd (s : Nat → V) : Opd → V
  | .t n => s n
  | .c v => v
  | .f g => .fn g []
def okConst : Value → V → Bool
  | .int k n, .d (.int k' m) => decide (k = k' ∧ n = m)
  | .bool b, .d (.bool c) => b == c
  | .string s, .d (.str l) => decide (s.data.toList = l)
  | .slice none 0 0, .cap0 => true
  | .nilIface, .d (.err true) => true
  | .pointer none, .nilp => true
  | _, _ => false
def okOpd (φ : Nat → FuncId) : Operand → Opd → Bool
  | .tmp t, .t n => t == n
  | .const v, .c x => okConst v x
  | .func f, .f g => f == φ g
  | _, _ => false
theorem okConst_rep {C : Ctx} {w : World} {ok : Nat → Prop} {γ : Nat → Value} {u : Value} {v : V} (h : okConst u v = true) : RepV C w ok γ v u := by
  unfold okConst at h
  split at h <;> simp_all [RepV, RepD]
  rename_i s l
  subst h
  rfl
section
variable {C : Ctx} {w0 : World} {S M : Nat → Prop} {N : Nat} {γ : Nat → Value} {st : St} {a : Act} {w : World}
theorem opd_rep (hr : Rel C w0 S M N γ st a w) {x : Operand} {y : Opd} (h : okOpd C.φ x y = true) : RepV C w (okOf w0 S γ st.o w) γ (opd st.s y) (a.eval x) := by
  unfold okOpd at h
  split at h
  · simp only [beq_iff_eq] at h
    subst h
    exact hr.slots _
  · exact okConst_rep h
  · simp only [beq_iff_eq] at h
    subst h
    exact ⟨[], rfl, rfl⟩
  · cases h
end
def andI (k : IntKind) (x y : Int) : Int := k.wrap (BitVec.ofInt k.bits x &&& BitVec.ofInt k.bits y).toNat
def orI (k : IntKind) (x y : Int) : Int := k.wrap (BitVec.ofInt k.bits x ||| BitVec.ofInt k.bits y).toNat
def binInt (op : BinOp) (k : IntKind) (x y : Int) : Option D :=
  match op with
  | .add => some (.int k (k.wrap (x + y)))
  | .sub => some (.int k (k.wrap (x - y)))
  | .mul => some (.int k (k.wrap (x * y)))
  | .quo => if y = 0 then none else some (.int k (k.wrap (x.tdiv y)))
  | .rem => if y = 0 then none else some (.int k (x.tmod y))
  | .eql => some (.bool (x == y))
  | .neq => some (.bool (x != y))
  | .lss => some (.bool (x < y))
  | .leq => some (.bool (x ≤ y))
  | .gtr => some (.bool (x > y))
  | .geq => some (.bool (x ≥ y))
  | .and => some (.int k (andI k x y))
  | .or => some (.int k (orI k x y))
  | _ => none
def shInt (op : BinOp) (k : IntKind) (x y : Int) : Option D :=
  if y < 0 then none else match op with
  | .shl => some (.int k (k.wrap (x * 2 ^ (min y.toNat k.bits))))
  | .shr => some (.int k (x.fdiv (2 ^ (min y.toNat k.bits))))
  | _ => none
def binStr (op : BinOp) (x y : List UInt8) : Option D :=
  match op with
  | .add => if x.length + y.length ≤ 9223372036854775807 then some (.str (x ++ y)) else none
  | .eql => some (.bool (x == y))
  | .neq => some (.bool (!(x == y)))
  | _ => none
def binV (op : BinOp) : V → V → Option V
  | .d (.int k x), .d (.int k' y) => (match op with
    | .shl | .shr => (shInt op k x y).map .d
    | _ => if k = k' then (binInt op k x y).map .d else none)
  | .d (.str x), .d (.str y) => (binStr op x y).map .d
  | _, _ => none
def unV (op : UnOp) : V → Option V
  | .d (.int k x) => (match op with
    | .neg => some (.d (.int k (k.wrap (0 - x))))
    | _ => none)
  | .d (.bool b) => (match op with
    | .not => some (.d (.bool (!b)))
    | _ => none)
  | _ => none
theorem eqGuard_run {P : Program} {w : World} {op : BinOp} {t : TypeId} {x y : Operand} {a b : Value} (h1 : a ≠ .nilIface ∨ b ≠ .nilIface ∨ ∃ c, y = .const c) (h2 : ∀ cs, a ≠ .agg cs) :
    (eqGuard op t x y a b).run P w = .ok () w := by
  unfold eqGuard
  cases op
  case eql | neq =>
    cases a
    case agg cs => exact absurd rfl (h2 cs)
    case nilIface =>
      cases b
      case nilIface =>
        rcases h1 with h1 | h1 | ⟨c, rfl⟩
        · exact absurd rfl h1
        · exact absurd rfl h1
        · cases x <;> rfl
      all_goals rfl
    all_goals (cases b <;> rfl)
  all_goals rfl
def loadV (o : Nat → Option Ob) : Option Nat → V → Option V
  | none, .ptr n off => (match o n with | some (.box cs) => cs[off]? | _ => none)
  | some k, .ptr n off => (match o n with | some (.box cs) => if off + k ≤ cs.length then some (.agg ((cs.drop off).take k)) else none | _ => none)
  | none, .cptr cs => (match cs with | c :: _ => some (.d c) | [] => none)
  | some k, .cptr cs => if k ≤ cs.length then some (.agg ((cs.take k).map .d)) else none
  | none, .eptr n sz i off => (match o n with | some (.row sz' es) => if sz = sz' then (match es[i]? with | some e => (match e[off]? with | some c => some (.d c) | none => none) | none => none) else none | _ => none)
  | some k, .eptr n sz i off => (match o n with | some (.row sz' es) => if sz = sz' then (match es[i]? with | some e => if off + k ≤ e.length then some (.agg (((e.drop off).take k).map .d)) else none | none => none) else none | _ => none)
  | _, _ => none
def faddrV (off : Nat) : V → Option V
  | .ptr n o => some (.ptr n (o + off))
  | .cptr cs => some (.cptr (cs.drop off))
  | .eptr n sz i o => some (.eptr n sz i (o + off))
  | _ => none
def fldV (off : Nat) : Option Nat → V → Option V
  | none, .agg cs => cs[off]?
  | some k, .agg cs => if off + k ≤ cs.length then some (.agg ((cs.drop off).take k)) else none
  | _, _ => none
def iaddrV (o : Nat → Option Ob) (sz : Nat) : V → V → Option V
  | .d (.sl es), .d (.int _ i) => if 0 ≤ i then (match es[i.toNat]? with | some e => if e.length = sz then some (.cptr e) else none | none => none) else none
  | .own n, .d (.int _ i) => (match o n with | some (.row sz' es) => if sz = sz' ∧ 0 ≤ i ∧ i < es.length then some (.eptr n sz i.toNat 0) else none | _ => none)
  | _, _ => none
def iaddrAV (len sz : Nat) : V → V → Option V
  | .ptr n o, .d (.int _ i) => if 0 ≤ i ∧ i < len then some (.ptr n (o + i.toNat * sz)) else none
  | _, _ => none
def idxV : V → V → Option V
  | .d (.str s), .d (.int _ i) => if 0 ≤ i then (match s[i.toNat]? with | some b => some (.d (.int .u8 b.toNat)) | none => none) else none
  | _, _ => none
def idxAV (len sz : Nat) (n : Option Nat) : V → V → Option V
  | x, .d (.int _ i) => if 0 ≤ i ∧ i < len then fldV (i.toNat * sz) n x else none
  | _, _ => none
/-- A bound of a cut. -/
def bnd (mx : Nat) : V → Option Nat
  | .d (.int _ i) => if 0 ≤ i ∧ i ≤ mx then some i.toNat else none
  | _ => none
def bndO (dflt mx : Nat) : Option V → Option Nat
  | none => some dflt
  | some v => bnd mx v
def slcSV (x : V) (lo hi : Option V) : Option V :=
  match x with
  | .d (.str s) => (match bndO s.length s.length hi with
    | some h => (match bndO 0 h lo with | some l => some (.d (.str ((s.take h).drop l))) | none => none)
    | none => none)
  | _ => none
def slcV (sz : Nat) (x : V) (lo hi : Option V) : Option V :=
  match x with
  | .d (.sl es) => (match bndO es.length es.length hi with
    | some h => (match bndO 0 h lo with | some l => if (es.all fun e => e.length == sz) = true then some (.d (.sl ((es.take h).drop l))) else none | none => none)
    | none => none)
  | _ => none
def lenV (o : Nat → Option Ob) : V → Option V
  | .d (.sl es) => some (.d (.int .i64 es.length))
  | .cap0 => some (.d (.int .i64 0))
  | .own n => (match o n with | some (.row _ es) => some (.d (.int .i64 es.length)) | _ => none)
  | _ => none
def mmV (mx : Bool) : List V → Option V
  | [.d (.int k x), .d (.int k' y)] => if k = k' then some (.d (.int k (if mx then (if y > x then y else x) else (if y < x then y else x)))) else none
  | [.d (.int k x), .d (.int k1 y), .d (.int k2 z), .d (.int k3 u)] => if k = k1 ∧ k = k2 ∧ k = k3 then
      (let m := fun (a b : Int) => if mx then (if b > a then b else a) else (if b < a then b else a)
       some (.d (.int k (m (m (m x y) z) u)))) else none
  | _ => none
/-- Is this one cell? (A struct, several results, are none.) -/
def V.one : V → Bool
  | .agg _ | .tup _ | .undef => false
  | _ => true
def cellsV : V → Option (List V)
  | .agg cs => some cs
  | .tup _ => none
  | .undef => none
  | v => some [v]
def setRange {α : Type} (cs : List α) (off : Nat) (new : List α) : List α := cs.take off ++ new ++ cs.drop (off + new.length)
def buildV (vs : Opd → V) : List V → List (Nat × Nat × Opd) → Option (List V)
  | cs, [] => some cs
  | cs, (off, size, x) :: rest => (match cellsV (vs x) with
    | some new => if new.length = size ∧ off + size ≤ cs.length then buildV vs (setRange cs off new) rest else none
    | none => none)
/-- '==' of data without memory: 0 a number, 1 a bool, 2 a string. -/
def eqD : Nat → D → D → Option Bool
  | 0, .int k x, .int k' y => if k = k' then some (x == y) else none
  | 1, .bool x, .bool y => some (x == y)
  | 2, .str x, .str y => some (x == y)
  | _, _, _ => none
def eqCells : List Nat → List V → List V → Option Bool
  | [], [], [] => some true
  | k :: ks, .d x :: xs, .d y :: ys => (match eqD k x y with
    | some b => (match eqCells ks xs ys with | some c => some (b && c) | none => none)
    | none => none)
  | _, _, _ => none
/-- The bytes that a row of one cell each holds. -/
def bytesD : List (List D) → Option (List UInt8)
  | [] => some []
  | [.int .u8 n] :: r => (match bytesD r with | some l => some (UInt8.ofNat n.toNat :: l) | none => none)
  | _ => none
def bstrV : V → Option V
  | .d (.sl es) => (match bytesD es with | some l => some (.d (.str l)) | none => none)
  | _ => none
def evP (st : St) : AOp → Option V
  | .bstr x => bstrV (opd st.s x)
  | .mv x => some (opd st.s x)
  | .pick c a b => (match opd st.s c with | .d (.bool t) => some (if t = true then opd st.s a else opd st.s b) | _ => none)
  | .bin op x y => binV op (opd st.s x) (opd st.s y)
  | .un op x => unV op (opd st.s x)
  | .conv k x => (match opd st.s x with | .d (.int _ n) => some (.d (.int k (k.wrap n))) | _ => none)
  | .same x => (match opd st.s x with | .d (.str s) => some (.d (.str s)) | _ => none)
  | .ext x i => (match opd st.s x with | .tup vs => vs[i]? | _ => none)
  | .load n p => loadV st.o n (opd st.s p)
  | .faddr off p => faddrV off (opd st.s p)
  | .fld off n x => fldV off n (opd st.s x)
  | .iaddr sz x i => iaddrV st.o sz (opd st.s x) (opd st.s i)
  | .iaddrA len sz p i => iaddrAV len sz (opd st.s p) (opd st.s i)
  | .idx x i => idxV (opd st.s x) (opd st.s i)
  | .idxA len sz n x i => idxAV len sz n (opd st.s x) (opd st.s i)
  | .slc sz x lo hi => slcV sz (opd st.s x) (lo.map (opd st.s)) (hi.map (opd st.s))
  | .slcS x lo hi => slcSV (opd st.s x) (lo.map (opd st.s)) (hi.map (opd st.s))
  | .len x => lenV st.o (opd st.s x)
  | .lenS x => (match opd st.s x with | .d (.str s) => some (.d (.int .i64 s.length)) | _ => none)
  | .mm mx xs => mmV mx (xs.map (opd st.s))
  | .build zero parts => (buildV (opd st.s) zero parts).map .agg
  | .fnv f caps => some (.fn f (caps.map (opd st.s)))
  | .nilc x => (match opd st.s x with | .ptr n off => some (.ptr n off) | .fn f caps => some (.fn f caps) | _ => none)
  | .eqs neq ks x y => (match opd st.s x, opd st.s y with
    | .agg xs, .agg ys => (match eqCells ks xs ys with | some b => some (.d (.bool (if neq = true then !b else b))) | none => none)
    | _, _ => none)
  | .beq neq x y => (match opd st.s x, opd st.s y with
    | .d (.bool b), .d (.bool c) => some (.d (.bool (if neq = true then !(b == c) else b == c)))
    | _, _ => none)
  | .nilE neq x => (match opd st.s x with | .d (.err b) => some (.d (.bool (if neq = true then !b else b))) | _ => none)
  | .nilP neq x => (match opd st.s x with
    | .ptr _ _ => some (.d (.bool neq))
    | .nilp => some (.d (.bool (!neq)))
    | _ => none)
  | _ => none
def szOf (P : Program) (t : TypeId) : Nat := ((P.info? t).map (·.size)).getD 0
/-- A variable of this type is loaded as one cell (none) or as so many. -/
def okShape (P : Program) (t : TypeId) (n : Option Nat) : Bool :=
  match P.underlying t, P.info? t with
  | some (.struct _), some i => n == some i.size
  | some (.array _ _), some i => n == some i.size
  | some _, some _ => n == none
  | _, _ => false
def okField (P : Program) (s : TypeId) (field off : Nat) (n : Option (Option Nat)) : Bool :=
  match P.underlying s with
  | some (.struct fs) => (match fs[field]? with
    | some f => f.offset == off && (match P.info? f.type with | some i => i.size != 0 | none => false) && (match n with | some k => okShape P f.type k | none => true)
    | none => false)
  | _ => false
def okSlice (P : Program) (t : TypeId) (sz : Nat) : Bool :=
  match P.underlying t with
  | some (.slice e) => (match P.info? e with | some i => i.size == sz && sz != 0 | none => false)
  | _ => false
def okArray (P : Program) (t : TypeId) (len sz : Nat) : Option TypeId :=
  match P.underlying t with
  | some (.array n e) => (match P.info? e with | some i => if n = len ∧ i.size = sz then some e else none | none => none)
  | _ => none
def okOpdO (φ : Nat → FuncId) : Option Operand → Option Opd → Bool
  | none, none => true
  | some x, some y => okOpd φ x y
  | _, _ => false
def okOpds (φ : Nat → FuncId) : List Operand → List Opd → Bool
  | [], [] => true
  | x :: xs, y :: ys => okOpd φ x y && okOpds φ xs ys
  | _, _ => false
def okZeros : List Value → List V → Bool
  | [], [] => true
  | v :: vs, x :: xs => okConst v x && okZeros vs xs
  | _, _ => false
def okZero (P : Program) (t : TypeId) (zs : List V) : Bool :=
  match P.info? t with
  | some i => (match i.zero with | some z => okZeros z.cells.toList zs && i.size == zs.length | none => false)
  | none => false
/-- The parts of a struct, or an array: each one's place. -/
def okParts (φ : Nat → FuncId) (place : Nat → Option (Nat × Nat)) : List (Nat × Operand) → List (Nat × Nat × Opd) → Bool
  | [], [] => true
  | (i, x) :: ps, (off, size, y) :: qs => place i == some (off, size) && okOpd φ x y && okParts φ place ps qs
  | _, _ => false
/-- The kinds of the fields in a row, each a plain cell at its place. -/
def plainFields (P : Program) : Nat → Nat → List Field → Option (List Nat)
  | _, _, [] => some []
  | 0, _, _ :: _ => none
  | d + 1, off, f :: fs => if f.name = "_" ∨ f.offset ≠ off then none else
    match P.underlying f.type with
    | some .bool => (plainFields P d (off + 1) fs).map (1 :: ·)
    | some (.int _) => (plainFields P d (off + 1) fs).map (0 :: ·)
    | some .string => (plainFields P d (off + 1) fs).map (2 :: ·)
    | some (.struct gs) => (match plainFields P d 0 gs.toList with
      | some k => if P.stoodInHeld f.type = true ∨ okShape P f.type (some k.length) = false then none else (plainFields P d (off + k.length) fs).map (k ++ ·)
      | none => none)
    | _ => none
def okBuild (P : Program) (φ : Nat → FuncId) (t : TypeId) (ps : List (Nat × Operand)) (parts : List (Nat × Nat × Opd)) : Bool :=
  match P.underlying t with
  | some (.struct fs) => (match fs.toList.mapM (fun f => (P.info? f.type).map fun i => (f.offset, i.size)) with
    | some places => okParts φ (places.toArray[·]?) ps parts
    | none => false)
  | some (.array _ e) => (match P.info? e with
    | some i => okParts φ (fun k => some (k * i.size, i.size)) ps parts
    | none => false)
  | _ => false
def strSlice (P : Program) (t : TypeId) : Bool := match P.underlying t with | some .string => true | _ => false
def okPlain (P : Program) (t : TypeId) (ks : List Nat) : Bool :=
  match P.underlying t with
  | some (.struct fs) => plainFields P 60 0 fs.toList == some ks
  | _ => false
def okP (P : Program) (φ : Nat → FuncId) (o : Oper) : AOp → Bool
  | .mv y => (match o.op with | .move x => okOpd φ x y | .assign x => okOpd φ x y | _ => false)
  | .never => true
  | .pick c a b => (match o.op with | .pick c' a' b' => okOpd φ c' c && okOpd φ a' a && okOpd φ b' b | _ => false)
  | .bin op x y => (match o.op with | .binOp op' _ x' y' _ => op == op' && okOpd φ x' x && okOpd φ y' y | _ => false)
  | .beq neq x y => (match o.op with | .binOp op t x' y' _ => op == (if neq then .neq else .eql) && okOpd φ x' x && okOpd φ y' y && (match P.underlying t with | some .bool => true | _ => false) | _ => false)
  | .nilE neq x => (match o.op with | .binOp op t x' (.const .nilIface) _ => op == (if neq then .neq else .eql) && okOpd φ x' x && (match P.underlying t with | some (.interface _) => true | _ => false) | _ => false)
  | .nilP neq x => (match o.op with | .binOp op t x' (.const (.pointer none)) _ => op == (if neq then .neq else .eql) && okOpd φ x' x && (match P.underlying t with | some (.pointer _) => true | _ => false) | _ => false)
  | .un op x => (match o.op with | .unOp op' _ x' => op == op' && okOpd φ x' x | _ => false)
  | .conv k x => (match o.op with | .convert src dst x' => (P.underlying src).isSome && (match P.underlying dst with | some (.int k') => k == k' | _ => false) && okOpd φ x' x | _ => false)
  | .same x => (match o.op with | .convert src dst x' => (P.underlying src).isSome && strSlice P dst && okOpd φ x' x && (match P.underlying src with | some (.slice _) => false | some .unsafePointer => false | _ => true) | _ => false)
  | .bstr x => (match o.op with | .convert src dst x' => (match P.underlying src with | some (.slice e) => (match P.underlying e with | some (.int .u8) => true | _ => false) | _ => false) && strSlice P dst && okOpd φ x' x | _ => false)
  | .ext x i => (match o.op with | .extract x' i' => i == i' && okOpd φ x' x | _ => false)
  | .load n p => (match o.op with | .load t p' => okShape P t n && okOpd φ p' p | _ => false)
  | .faddr off p => (match o.op with | .fieldAddr s p' f => okField P s f off none && okOpd φ p' p | _ => false)
  | .fld off n x => (match o.op with | .field s x' f => okField P s f off (some n) && okOpd φ x' x | _ => false)
  | .iaddr sz x i => (match o.op with | .indexAddr t x' i' => okSlice P t sz && okOpd φ x' x && okOpd φ i' i | _ => false)
  | .iaddrA len sz p i => (match o.op with | .indexAddr t x' i' => (okArray P t len sz).isSome && okOpd φ x' p && okOpd φ i' i | _ => false)
  | .idx x i => (match o.op with | .index t x' i' => strSlice P t && okOpd φ x' x && okOpd φ i' i | _ => false)
  | .idxA len sz n x i => (match o.op with | .index t x' i' => (match okArray P t len sz with | some e => okShape P e n | none => false) && okOpd φ x' x && okOpd φ i' i | _ => false)
  | .slcS x lo hi => (match o.op with | .slice t x' lo' hi' none => strSlice P t && okOpd φ x' x && okOpdO φ lo' lo && okOpdO φ hi' hi | _ => false)
  | .slc sz x lo hi => (match o.op with | .slice t x' lo' hi' none => okSlice P t sz && okOpd φ x' x && okOpdO φ lo' lo && okOpdO φ hi' hi | _ => false)
  | .len x => (match o.op with | .call { callee := .builtin .len, args := ⟨[x']⟩, argTypes := ⟨[t]⟩ } => (match P.underlying t with | some (.slice _) => true | _ => false) && okOpd φ x' x | _ => false)
  | .lenS x => (match o.op with | .call { callee := .builtin .len, args := ⟨[x']⟩, argTypes := ⟨[t]⟩ } => strSlice P t && okOpd φ x' x | _ => false)
  | .mm mx xs => (match o.op with | .call { callee := .builtin .max, args := ⟨xs'⟩, .. } => mx && okOpds φ xs' xs | .call { callee := .builtin .min, args := ⟨xs'⟩, .. } => !mx && okOpds φ xs' xs | _ => false)
  | .build zero parts => (match o.op with | .build t ps => okZero P t zero && okBuild P φ t ps.toList parts | _ => false)
  | .fnv f caps => (match o.op with | .makeFunc (.func g) ⟨[]⟩ caps' => g == φ f && okOpds φ caps'.toList caps | _ => false)
  | .nilc x => (match o.op with | .nilCheck x' => okOpd φ x' x | _ => false)
  | .eqs neq ks x y => (match o.op with | .binOp op t x' y' _ => op == (if neq then .neq else .eql) && okOpd φ x' x && okOpd φ y' y && !P.eqGuardType P.depth t && !P.stoodInHeld t && okPlain P t ks | _ => false)
  | _ => false
end Pay
