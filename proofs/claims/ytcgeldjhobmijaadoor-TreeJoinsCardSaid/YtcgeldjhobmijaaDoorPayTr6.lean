/- Plain laws: each expression but the roots is a part of just one, behind it. -/
import Derived.Test.YtcgeldjhobmijaaDoorPayC44
import Derived.Test.YtcgeldjhobmijaaDoorPayTr1
import Derived.Test.YtcgeldjhobmijaaDoorPayTr2
import Derived.Test.YtcgeldjhobmijaaDoorPayTr3
set_option linter.unusedSimpArgs false
set_option linter.unusedVariables false
namespace Pay
def partsX (x : Xpr) : List Int := if x.op = wNeg then [x.a] else if binOps.contains x.op = true then [x.a, x.b] else if x.op = wIf then [x.a, x.b, x.c] else []
def leafOps : List (List UInt8) := [wWhole, wAmount, wRate, wName]
def WfX (x : Xpr) : Prop := x.op ∈ leafOps ∨ x.op = wNeg ∨ x.op ∈ binOps ∨ x.op = wIf
/-- Parts ahead of it. -/
def Ahead (n : Nat) (xs : List Xpr) : Prop := ∀ j x, xs[j]? = some x → WfX x ∧ ∀ q ∈ partsX x, 0 ≤ q ∧ q < (n + j : Nat)
theorem Ahead.app {n : Nat} {xs ys : List Xpr} (h : Ahead n xs) (g : Ahead (n + xs.length) ys) : Ahead n (xs ++ ys) := by
  intro j x hx
  rcases Nat.lt_or_ge j xs.length with hj | hj
  · rw [List.getElem?_append_left hj] at hx; exact h j x hx
  · rw [List.getElem?_append_right hj] at hx
    have := g _ x hx
    rw [show n + xs.length + (j - xs.length) = n + j by omega] at this
    exact this
theorem Ahead.one {n : Nat} {x : Xpr} (h : WfX x) (g : ∀ q ∈ partsX x, 0 ≤ q ∧ q < (n : Int)) : Ahead n [x] := by
  intro j y hy
  cases j with
  | zero =>
    simp only [List.getElem?_cons_zero, Option.some.injEq] at hy
    subst hy
    exact ⟨h, g⟩
  | succ j => simp at hy
theorem bin_op {op : List UInt8} (h : op ∈ binOps) : op ≠ wNeg ∧ binOps.contains op = true ∧ op ≠ wIf := by
  refine ⟨?_, by simpa using h, ?_⟩
  · rintro rfl; exact absurd h (by decide)
  · rintro rfl; exact absurd h (by decide)
theorem parts_leaf {op nm : List UInt8} {v : Int} (h : op = wWhole ∨ op = wAmount ∨ op = wRate ∨ op = wName) : partsX (xLeaf op nm v) = [] := by
  unfold xLeaf
  have key : ∀ op : List UInt8, op ≠ wNeg → binOps.contains op = false → op ≠ wIf → partsX ⟨op, nm, v, 0, 0, 0⟩ = [] := by
    intro op h1 h2 h3
    unfold partsX
    rw [if_neg h1, if_neg (by rw [h2]; simp), if_neg h3]
  rcases h with rfl | rfl | rfl | rfl <;> exact key _ (by decide) (by decide) (by decide)
theorem parts_neg (a b c : Nat) : partsX (xNode wNeg a b c) = [(a : Int)] := by
  unfold partsX xNode
  rw [if_pos rfl]
theorem parts_bin {op : List UInt8} (h : op ∈ binOps) (a b c : Nat) : partsX (xNode op a b c) = [(a : Int), (b : Int)] := by
  obtain ⟨h1, h2, _⟩ := bin_op h
  unfold partsX xNode
  rw [if_neg h1, if_pos h2]
theorem parts_if (a b c : Nat) : partsX (xNode wIf a b c) = [(a : Int), (b : Int), (c : Int)] := by
  have h1 : wIf ≠ wNeg := by decide
  have h2 : ¬ binOps.contains wIf = true := by decide
  unfold partsX xNode
  rw [if_neg h1, if_neg h2, if_pos rfl]
theorem flat_ahead : ∀ (t : Xt) (n : Nat), WfT t → Ahead n (flat n t)
  | .leaf op nm v, n, h => by
    have h : op = wWhole ∨ op = wAmount ∨ op = wRate ∨ op = wName := h
    refine Ahead.one (.inl ?_) (fun q hq => ?_)
    · rcases h with rfl | rfl | rfl | rfl <;> simp [leafOps, xLeaf]
    · rw [parts_leaf h] at hq; cases hq
  | .neg e, n, h => by
    have := e.pos
    refine (flat_ahead e n h).app (Ahead.one (.inr (.inl rfl)) (fun q hq => ?_))
    rw [parts_neg, List.mem_singleton] at hq
    subst hq
    rw [flat_len]; omega
  | .bin op a b, n, h => by
    have := a.pos
    have := b.pos
    refine ((flat_ahead a n h.2.1).app ?_).app (Ahead.one (.inr (.inr (.inl h.1))) (fun q hq => ?_))
    · rw [flat_len]; exact flat_ahead b _ h.2.2
    · rw [parts_bin h.1] at hq
      simp only [List.mem_cons, List.not_mem_nil, or_false] at hq
      rw [List.length_append, flat_len, flat_len]
      rcases hq with rfl | rfl <;> omega
  | .ite a b c, n, h => by
    have := a.pos
    have := b.pos
    have := c.pos
    refine (((flat_ahead a n h.1).app ?_).app ?_).app (Ahead.one (.inr (.inr (.inr rfl))) (fun q hq => ?_))
    · rw [flat_len]; exact flat_ahead b _ h.2.1
    · rw [List.length_append, flat_len, flat_len, ← Nat.add_assoc]; exact flat_ahead c _ h.2.2
    · rw [parts_if] at hq
      simp only [List.mem_cons, List.not_mem_nil, or_false] at hq
      simp only [List.length_append, flat_len]
      rcases hq with rfl | rfl | rfl <;> omega
/-- How often each is a part. -/
def allParts (xs : List Xpr) : List Int := xs.flatMap partsX
theorem allParts_app (xs ys : List Xpr) : allParts (xs ++ ys) = allParts xs ++ allParts ys := by simp [allParts]
theorem cnt_one (m q : Int) : [q].count m = if q = m then 1 else 0 := by
  rw [List.count_cons, List.count_nil]
  by_cases h : q = m
  · subst h; simp
  · simp [h]
/-- Is it from here up to there? -/
def ind (a b m : Int) : Nat := if a ≤ m ∧ m < b then 1 else 0
theorem flat_count : ∀ (t : Xt) (n : Nat) (m : Int), WfT t → (allParts (flat n t)).count m = ind n (n + t.size - 1 : Nat) m
  | .leaf op nm v, n, m, h => by
    have h : op = wWhole ∨ op = wAmount ∨ op = wRate ∨ op = wName := h
    simp only [flat, allParts, List.flatMap_cons, List.flatMap_nil, parts_leaf h, List.append_nil, List.count_nil, Xt.size]
    unfold ind
    rw [if_neg (by omega)]
  | .neg e, n, m, h => by
    have := e.pos
    have ih := flat_count e n m h
    simp only [flat, allParts_app, List.count_append, ih]
    simp only [allParts, List.flatMap_cons, List.flatMap_nil, parts_neg, List.append_nil, cnt_one, Xt.size]
    unfold ind
    repeat' split
    all_goals omega
  | .bin op a b, n, m, h => by
    have := a.pos
    have := b.pos
    have i1 := flat_count a n m h.2.1
    have i2 := flat_count b (n + a.size) m h.2.2
    simp only [flat, allParts_app, List.count_append, i1, i2]
    simp only [allParts, List.flatMap_cons, List.flatMap_nil, parts_bin h.1, List.append_nil, Xt.size]
    rw [show ([((n + a.size - 1 : Nat) : Int), ((n + a.size + b.size - 1 : Nat) : Int)]) = [((n + a.size - 1 : Nat) : Int)] ++ [((n + a.size + b.size - 1 : Nat) : Int)] from rfl, List.count_append, cnt_one, cnt_one]
    unfold ind
    repeat' split
    all_goals omega
  | .ite a b c, n, m, h => by
    have := a.pos
    have := b.pos
    have := c.pos
    have i1 := flat_count a n m h.1
    have i2 := flat_count b (n + a.size) m h.2.1
    have i3 := flat_count c (n + a.size + b.size) m h.2.2
    simp only [flat, allParts_app, List.count_append, i1, i2, i3]
    simp only [allParts, List.flatMap_cons, List.flatMap_nil, parts_if, List.append_nil, Xt.size]
    rw [show ([((n + a.size - 1 : Nat) : Int), ((n + a.size + b.size - 1 : Nat) : Int), ((n + a.size + b.size + c.size - 1 : Nat) : Int)]) = [((n + a.size - 1 : Nat) : Int)] ++ [((n + a.size + b.size - 1 : Nat) : Int)] ++ [((n + a.size + b.size + c.size - 1 : Nat) : Int)] from rfl, List.count_append, List.count_append, cnt_one, cnt_one, cnt_one]
    unfold ind
    repeat' split
    all_goals omega
theorem exprsOf_ahead : ∀ (l : List RT) (n : Nat), (∀ q ∈ l, WfT q.tree) → Ahead n (exprsOf n l)
  | [], n, _ => fun j x hx => by simp [exprsOf] at hx
  | q :: l, n, h => by
    refine (flat_ahead q.tree n (h q (by simp))).app ?_
    rw [flat_len]
    exact exprsOf_ahead l _ (fun x hx => h x (List.mem_cons_of_mem _ hx))
theorem roots_in : ∀ (l : List RT) (n : Nat), ∀ r ∈ rulesOf n l, (n : Int) ≤ r.root ∧ r.root < (n + (exprsOf n l).length : Nat)
  | [], n, r, hr => by cases hr
  | q :: l, n, r, hr => by
    have := q.tree.pos
    simp only [rulesOf, List.mem_cons] at hr
    simp only [exprsOf, List.length_append, flat_len]
    rcases hr with rfl | hr
    · simp only; omega
    · have := roots_in l (n + q.tree.size) r hr
      omega
theorem total_count : ∀ (l : List RT) (n : Nat) (m : Int), (∀ q ∈ l, WfT q.tree) → (allParts (exprsOf n l)).count m + ((rulesOf n l).map (·.root)).count m = ind n (n + (exprsOf n l).length : Nat) m
  | [], n, m, _ => by
    simp only [exprsOf, rulesOf, allParts, List.flatMap_nil, List.map_nil, List.count_nil, List.length_nil]
    unfold ind
    rw [if_neg (by omega)]
  | q :: l, n, m, h => by
    have := q.tree.pos
    have i1 := flat_count q.tree n m (h q (by simp))
    have i2 := total_count l (n + q.tree.size) m (fun x hx => h x (List.mem_cons_of_mem _ hx))
    simp only [exprsOf, rulesOf, allParts_app, List.count_append, i1, List.map_cons, List.length_append, flat_len]
    rw [show ((n + q.tree.size - 1 : Nat) : Int) :: (rulesOf (n + q.tree.size) l).map (·.root) = [((n + q.tree.size - 1 : Nat) : Int)] ++ (rulesOf (n + q.tree.size) l).map (·.root) from rfl, List.count_append, cnt_one]
    have : ∀ a b c : Nat, a + (b + c) = b + (a + c) := by omega
    rw [this]
    revert i2
    generalize (allParts (exprsOf (n + q.tree.size) l)).count m = A
    generalize ((rulesOf (n + q.tree.size) l).map (·.root)).count m = B
    intro i2
    unfold ind at i2 ⊢
    repeat' split
    all_goals (repeat' split at i2)
    all_goals omega
/-- What is read: an error, or trees. -/
theorem parse_cases (s : List UInt8) : ((parseP s).2.2 ≠ 0 ∧ (parseP s).1 = ⟨[], []⟩) ∨ ∃ l, (∀ q ∈ l, WfT q.tree) ∧ parseP s = (progOf l, 0, 0) := by
  unfold parseP
  cases hl : lexS s with | mk ts o =>
  cases o with
  | some e => exact .inl ⟨(by decide : (2 : Int) ≠ 0), rfl⟩
  | none =>
    simp only
    rw [parseT_eq]
    cases hr : readT s.length ts with
    | error e =>
      left
      have h := prog_corr s.length ts.length (x := ps0 ts) rfl
      rw [show progK s.length ts.length (ps0 ts).rules.length (ps0 ts).ts = .error e from hr] at h
      exact ⟨h.1, rfl⟩
    | ok l => exact .inr ⟨l, prog_wf _ _ _ _ hr, rfl⟩
theorem bin_list {op : List UInt8} (h : op ∈ binOps) : op = [60] ∨ op = [60, 61] ∨ op = [61] ∨ op = [60, 62] ∨ op = [62] ∨ op = [62, 61] ∨ op = [43] ∨ op = [45] ∨ op = [42] ∨ op = wMin ∨ op = wMax := by
  simpa [binOps] using h
end Pay
