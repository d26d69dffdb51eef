/- Plain laws: each expression but the roots is a part of just one, behind it. -/
import Derived.Test.YtmglkghngkbioaaGreatDoorPayC44
import Derived.Test.YtmglkghngkbioaaGreatDoorPayTr1
import Derived.Test.YtmglkghngkbioaaGreatDoorPayTr2
import Derived.Test.YtmglkghngkbioaaGreatDoorPayTr3
set_option linter.unusedSimpArgs false
set_option linter.unusedVariables false
namespace Pay
def partsX (x : Xpr) : List Int := if x.op = wNeg then [x.a] else if binOps.contains x.op = true then [x.a, x.b] else if x.op = wIf then [x.a, x.b, x.c] else []
def leafOps : List (List UInt8) := [wWhole, wAmount, wRate, wName]
def WfX (x : Xpr) : Prop := x.op ∈ leafOps ∨ x.op = wNeg ∨ x.op ∈ binOps ∨ x.op = wIf
/-- Parts ahead of it. -/
def Ahead (n : Nat) (xs : List Xpr) : Prop := ∀ j x, xs[j]? = some x → WfX x ∧ ∀ q ∈ partsX x, 0 ≤ q ∧ q < (n + j : Nat)
theorem Ahead.app {n : Nat} {xs ys : List Xpr} (h : Ahead n xs) (g : Ahead (n + xs.length) ys) : Ahead n (xs ++ ys) := by
  intro j x hx
  rcases Nat.lt_or_ge j xs.length with hj | hj
  · rw [List.getElem?_append_left hj] at hx; exact h j x hx
  · rw [List.getElem?_append_right hj] at hx
    have := g _ x hx
    rw [show n + xs.length + (j - xs.length) = n + j by omega] at this
    exact this
theorem Ahead.one {n : Nat} {x : Xpr} (h : WfX x) (g : ∀ q ∈ partsX x, 0 ≤ q ∧ q < (n : Int)) : Ahead n [x] := by
  intro j y hy
  cases j with
  | zero =>
    simp only [List.getElem?_cons_zero, Option.some.injEq] at hy
    subst hy
    exact ⟨h, g⟩
  | succ j => simp at hy
theorem bin_op {op : List UInt8} (h : op ∈ binOps) : op ≠ wNeg ∧ binOps.contains op = true ∧ op ≠ wIf := by
  refine ⟨?_, by simpa using h, ?_⟩
  · rintro rfl; exact absurd h (by decide)
  · rintro rfl; exact absurd h (by decide)
/-- What is read: an error, or trees. -/
theorem parse_cases (s : List UInt8) : ((parseP s).2.2 ≠ 0 ∧ (parseP s).1 = ⟨[], []⟩) ∨ ∃ l, (∀ q ∈ l, WfT q.tree) ∧ parseP s = (progOf l, 0, 0) := by
  unfold parseP
  cases hl : lexS s with | mk ts o =>
  cases o with
  | some e => exact .inl ⟨(by decide : (2 : Int) ≠ 0), rfl⟩
  | none =>
    simp only
    rw [parseT_eq]
    cases hr : readT s.length ts with
    | error e =>
      left
      have h := prog_corr s.length ts.length (x := ps0 ts) rfl
      rw [show progK s.length ts.length (ps0 ts).rules.length (ps0 ts).ts = .error e from hr] at h
      exact ⟨h.1, rfl⟩
    | ok l => exact .inr ⟨l, prog_wf _ _ _ _ hr, rfl⟩
theorem bin_list {op : List UInt8} (h : op ∈ binOps) : op = [60] ∨ op = [60, 61] ∨ op = [61] ∨ op = [60, 62] ∨ op = [62] ∨ op = [62, 61] ∨ op = [43] ∨ op = [45] ∨ op = [42] ∨ op = wMin ∨ op = wMax := by
  simpa [binOps] using h
end Pay
