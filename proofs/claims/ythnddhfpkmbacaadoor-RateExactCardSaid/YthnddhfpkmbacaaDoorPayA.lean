/- The abstract machine of the proofs: by-value data, frame values, objects by name; what they stand for in memory. -/
import Derived.Calls
import Derived.Orders
import Derived.Tactics
import Derived.Below
import Derived.Laws.AppendOwn
import Derived.Laws.Entries
namespace Pay
open Go
/-- Data by value: a cell's content, slices as the lists of their elements' cells. -/
inductive D where
  | int (k : IntKind) (n : Int)
  | bool (b : Bool)
  | str (s : List UInt8)
  | err (isNil : Bool)
  | sl (es : List (List D))
  deriving Inhabited
/-- What a slot, or a cell of an own variable, holds. -/
inductive V where
  | d (x : D)
  | cap0
  | nilp
  | agg (cs : List V)
  | ptr (n off : Nat)
  | own (n : Nat)
  | eptr (n sz i off : Nat)
  | cptr (cs : List D)
  | fn (f : Nat) (caps : List V)
  | tup (vs : List V)
  | mref (n : Nat)
  | undef
  deriving Inhabited
/-- An object of the frame's own: a variable in memory, a slice that it alone holds, a map. -/
inductive Ob where
  | box (cs : List V)
  | row (sz : Nat) (es : List (List D))
  | map (kvs : List (D × D))
  deriving Inhabited
structure St where
  s : Nat → V
  o : Nat → Option Ob
structure Ctx where
  P : Program
  φ : Nat → FuncId
  mixed : P.follows .mixedOrders = true
  gi : World → Prop
  base : Nat
  keep : ∀ w w' : World, gi w → (∀ g, g < base → w'.heap[g]? = w.heap[g]?) → gi w'
mutual
def RepD (w : World) (ok : Nat → Prop) : D → Value → Prop
  | .int k n, v => v = .int k n
  | .bool b, v => v = .bool b
  | .str s, v => v = .string ⟨s.toArray⟩
  | .err b, v => if b = true then v = .nilIface else ∃ t u, v = .iface t u
  | .sl es, v => ∃ A cap sz, v = .slice A es.length cap ∧ es.length ≤ cap ∧ (∀ e ∈ es, e.length = sz) ∧
      (es ≠ [] → ∃ a, A = some a ∧ ok a.block ∧ RepEs w ok a 0 es)
def RepEs (w : World) (ok : Nat → Prop) (a : Addr) : Nat → List (List D) → Prop
  | _, [] => True
  | off, e :: es => RepCs w ok a off e ∧ RepEs w ok a (off + e.length) es
def RepCs (w : World) (ok : Nat → Prop) (a : Addr) : Nat → List D → Prop
  | _, [] => True
  | off, c :: cs => (∃ u, w.cell? (a.add off) = some u ∧ RepD w ok c u) ∧ RepCs w ok a (off + 1) cs
end
mutual
def RepV (C : Ctx) (w : World) (ok : Nat → Prop) (γ : Nat → Value) : V → Value → Prop
  | .d x, v => RepD w ok x v
  | .cap0, v => ∃ A, v = .slice A 0 0
  | .nilp, v => v = .pointer none
  | .ptr n off, v => ∃ g, γ n = .pointer (some ⟨g, 0, none⟩) ∧ v = .pointer (some ⟨g, off, none⟩)
  | .own n, v => v = γ n ∧ v.oneCell' = true
  | .eptr n sz i off, v => ∃ g l c, γ n = .slice (some ⟨g, 0, none⟩) l c ∧ v = .pointer (some ⟨g, i * sz + off, none⟩)
  | .cptr cs, v => ∃ a, v = .pointer (some a) ∧ ok a.block ∧ RepCs w ok a 0 cs
  | .mref n, v => v = γ n ∧ v.oneCell' = true
  | .fn f caps, v => ∃ us, v = .func (.func (C.φ f)) #[] ⟨us⟩ ∧ RepVs C w ok γ caps us
  | .agg cs, v => ∃ us, v = .agg ⟨us⟩ ∧ RepVs C w ok γ cs us ∧ ∀ u ∈ us, u.oneCell' = true
  | .tup cs, v => ∃ us, v = .tuple ⟨us⟩ ∧ RepVs C w ok γ cs us
  | .undef, _ => True
def RepVs (C : Ctx) (w : World) (ok : Nat → Prop) (γ : Nat → Value) : List V → List Value → Prop
  | [], us => us = []
  | c :: cs, us => ∃ u us', us = u :: us' ∧ RepV C w ok γ c u ∧ RepVs C w ok γ cs us'
end
def blk : Value → Option Nat
  | .pointer (some a) => some a.block
  | .slice (some a) _ cap => if cap = 0 then none else some a.block
  | .map (some r) => some r
  | _ => none
def RepCells (w : World) (ok : Nat → Prop) : List D → List Value → Prop
  | [], _ => True
  | _ :: _, [] => False
  | d :: ds, u :: us => RepD w ok d u ∧ RepCells w ok ds us
def RepKvs (w : World) (ok : Nat → Prop) : List (D × D) → List MapEntry → Prop
  | [], es => es = []
  | kv :: kvs, es => ∃ e es', es = e :: es' ∧ RepD w ok kv.1 e.key ∧ RepD w ok kv.2 e.val ∧ RepKvs w ok kvs es'
def RepO (C : Ctx) (w : World) (ok : Nat → Prop) (γ : Nat → Value) : Ob → Value → Prop
  | .box cs, v => ∃ g us ty, v = .pointer (some ⟨g, 0, none⟩) ∧ w.heap[g]? = some (.cells ⟨us⟩ ty (0, 0)) ∧ RepVs C w ok γ cs us ∧ ∀ u ∈ us, u.oneCell' = true
  | .row sz es, v => (es = [] ∧ ∃ A, v = .slice A 0 0) ∨
      ∃ g cap us ty, v = .slice (some ⟨g, 0, none⟩) es.length cap ∧ 0 < cap ∧ w.heap[g]? = some (.cells ⟨us⟩ ty (0, 0)) ∧ es.length ≤ cap ∧ cap ≤ maxLen ∧
        us.length = cap * sz ∧ (∀ e ∈ es, e.length = sz) ∧ RepCells w ok es.flatten us ∧ ∀ u ∈ us, u.oneCell' = true
  | .map kvs, v => ∃ r es c, v = .map (some r) ∧ w.heap[r]? = some (.map ⟨es⟩ c) ∧ RepKvs w ok kvs es
/-- Blocks that by-value data may lie in: given as stable, or new, and no object's own. -/
def okOf (w0 : World) (S : Nat → Prop) (γ : Nat → Value) (o : Nat → Option Ob) (w : World) (g : Nat) : Prop :=
  (S g ∨ w0.heap.size ≤ g) ∧ g < w.heap.size ∧ ∀ n x, o n = some x → blk (γ n) ≠ some g
structure Fram (w0 w : World) (M : Nat → Prop) : Prop where
  os : w.os = w0.os
  tape : w.tape = w0.tape
  output : w.output = w0.output
  size : w0.heap.size ≤ w.heap.size
  block : ∀ g, g < w0.heap.size → ¬ M g → w.heap[g]? = w0.heap[g]?
structure Rel (C : Ctx) (w0 : World) (S M : Nat → Prop) (N : Nat) (γ : Nat → Value) (st : St) (a : Act) (w : World) : Prop where
  slots : ∀ t, RepV C w (okOf w0 S γ st.o w) γ (st.s t) (a.tmps.getD t undef)
  objs : ∀ n x, st.o n = some x → RepO C w (okOf w0 S γ st.o w) γ x (γ n)
  sep : ∀ n m x y g, st.o n = some x → st.o m = some y → blk (γ n) = some g → blk (γ m) = some g → n = m
  muts : ∀ n x g, st.o n = some x → blk (γ n) = some g → M g ∨ w0.heap.size ≤ g
  fram : Fram w0 w M
  defers : a.defers = []
  size : N ≤ a.tmps.size
/-- What stands around a frame: stable blocks are old; the blocks that may be written are among them (as long as an object has them, no data lies there), and the program's own variables are not. -/
structure Env (C : Ctx) (w0 : World) (S M : Nat → Prop) : Prop where
  gi : C.gi w0
  bs : C.base ≤ w0.heap.size
  mb : ∀ g, M g → C.base ≤ g ∧ g < w0.heap.size
  sm : ∀ g, S g → g < w0.heap.size
  ms : ∀ g, M g → S g
mutual
theorem RepD.mono {w w' : World} {ok ok' : Nat → Prop} (h : ∀ g, ok g → w'.heap[g]? = w.heap[g]? ∧ ok' g) : ∀ (d : D) (v : Value), RepD w ok d v → RepD w' ok' d v
  | .int k n, v, r => r
  | .bool b, v, r => r
  | .str s, v, r => r
  | .err b, v, r => r
  | .sl es, v, r => by
    obtain ⟨A, cap, sz, e, hl, hs, hc⟩ := r
    refine ⟨A, cap, sz, e, hl, hs, fun hne => ?_⟩
    obtain ⟨a, ea, hok, hes⟩ := hc hne
    exact ⟨a, ea, (h _ hok).2, RepEs.mono h a hok 0 es hes⟩
theorem RepEs.mono {w w' : World} {ok ok' : Nat → Prop} (h : ∀ g, ok g → w'.heap[g]? = w.heap[g]? ∧ ok' g) (a : Addr) (ha : ok a.block) : ∀ (off : Nat) (es : List (List D)), RepEs w ok a off es → RepEs w' ok' a off es
  | _, [], _ => trivial
  | off, e :: es, r => ⟨RepCs.mono h a ha off e r.1, RepEs.mono h a ha _ es r.2⟩
theorem RepCs.mono {w w' : World} {ok ok' : Nat → Prop} (h : ∀ g, ok g → w'.heap[g]? = w.heap[g]? ∧ ok' g) (a : Addr) (ha : ok a.block) : ∀ (off : Nat) (cs : List D), RepCs w ok a off cs → RepCs w' ok' a off cs
  | _, [], _ => trivial
  | off, c :: cs, r => by
    obtain ⟨⟨u, hu, hr⟩, hrest⟩ := r
    refine ⟨⟨u, ?_, RepD.mono h c u hr⟩, RepCs.mono h a ha _ cs hrest⟩
    have hb : (a.add off).block = a.block := by unfold Addr.add; split <;> rfl
    have := (h _ ha).1
    rw [World.cell?_of_block (w := w) (by rw [hb]; exact this)]
    exact hu
end
end Pay
