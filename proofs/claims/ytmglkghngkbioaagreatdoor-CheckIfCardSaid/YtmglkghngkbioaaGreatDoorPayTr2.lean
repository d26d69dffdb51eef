/- The parser of rule sets by trees: the state's expressions are the trees', one behind the other. -/
import Derived.Test.YtmglkghngkbioaaGreatDoorPayC44
import Derived.Test.YtmglkghngkbioaaGreatDoorPayC48
import Derived.Test.YtmglkghngkbioaaGreatDoorPayTr1
set_option linter.unusedSimpArgs false
set_option linter.unusedVariables false
namespace Pay
inductive Xt where
  | leaf (op nm : List UInt8) (v : Int)
  | neg (e : Xt)
  | bin (op : List UInt8) (a b : Xt)
  | ite (a b c : Xt)
  deriving DecidableEq
def Xt.size : Xt → Nat
  | .leaf _ _ _ => 1
  | .neg e => e.size + 1
  | .bin _ a b => a.size + b.size + 1
  | .ite a b c => a.size + b.size + c.size + 1
theorem Xt.pos (t : Xt) : 1 ≤ t.size := by cases t <;> simp [Xt.size]
/-- Its expressions, the first one at a place; the last one is it. -/
def flat : Nat → Xt → List Xpr
  | _, .leaf op nm v => [xLeaf op nm v]
  | n, .neg e => flat n e ++ [xNode wNeg (n + e.size - 1) 0 0]
  | n, .bin op a b => flat n a ++ flat (n + a.size) b ++ [xNode op (n + a.size - 1) (n + a.size + b.size - 1) 0]
  | n, .ite a b c => flat n a ++ flat (n + a.size) b ++ flat (n + a.size + b.size) c ++ [xNode wIf (n + a.size - 1) (n + a.size + b.size - 1) (n + a.size + b.size + c.size - 1)]
abbrev Er := Int × Int
abbrev TR := Except Er (Xt × List Tok)
def putT (t : Xt) (r : List Tok) (x : PS) : PS × Nat := ({ x with ts := r, exprs := x.exprs ++ flat x.exprs.length t }, x.exprs.length + t.size - 1)
def Corr1 (x : PS) (y : PS × Nat) : TR → Prop
  | .ok (t, r) => y = putT t r x
  | .error (e, p) => e ≠ 0 ∧ y.1.err = e ∧ y.1.place = p
def Corr (f : Pr) (g : List Tok → TR) : Prop := ∀ x, x.err = 0 → Corr1 x (f x) (g x.ts)
theorem Corr1.ok {x : PS} {y : PS × Nat} {t : Xt} {r : List Tok} (h : y = putT t r x) : Corr1 x y (.ok (t, r)) := h
theorem Corr1.no {x z : PS} {y : PS × Nat} {e p : Int} (hs : Step z y.1) (h : e ≠ 0 ∧ z.err = e ∧ z.place = p) : Corr1 x y (.error (e, p)) := by
  obtain ⟨h0, h1, h2⟩ := h
  have := hs.err (by rw [h1]; exact h0)
  exact ⟨h0, this.1.trans h1, this.2.trans h2⟩
theorem Step.put (x : PS) (e : Xpr) : x.err ≠ 0 → (putS e x).1.err = x.err ∧ (putS e x).1.place = x.place := fun _ => ⟨rfl, rfl⟩
/-- Errors stay. -/
structure Stays (x y : PS) : Prop where
  err : x.err ≠ 0 → y.err = x.err ∧ y.place = x.place
theorem Stays.trans {x y z : PS} (h : Stays x y) (g : Stays y z) : Stays x z := ⟨fun hx => by
    obtain ⟨h1, h2⟩ := h.err hx
    obtain ⟨g1, g2⟩ := g.err (by rw [h1]; exact hx)
    exact ⟨g1.trans h1, g2.trans h2⟩⟩
theorem Corr.ok {f : Pr} {g : List Tok → TR} (hc : Corr f g) {x : PS} (hx : x.err = 0) {t : Xt} {r : List Tok} (h : g x.ts = .ok (t, r)) : f x = putT t r x := by
  have := hc x hx
  rw [h] at this
  exact this
theorem Corr.no {f : Pr} {g : List Tok → TR} (hc : Corr f g) {x : PS} (hx : x.err = 0) {e : Er} (h : g x.ts = .error e) : e.1 ≠ 0 ∧ (f x).1.err = e.1 ∧ (f x).1.place = e.2 := by
  have := hc x hx
  rw [h] at this
  exact this
end Pay
