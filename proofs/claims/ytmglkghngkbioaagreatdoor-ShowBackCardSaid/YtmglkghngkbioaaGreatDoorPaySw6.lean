/- What is written of a program that was read is its text. -/
import Derived.Test.YtmglkghngkbioaaGreatDoorPayC48
import Derived.Test.YtmglkghngkbioaaGreatDoorPayC61
import Derived.Test.YtmglkghngkbioaaGreatDoorPaySw1
import Derived.Test.YtmglkghngkbioaaGreatDoorPaySw2
import Derived.Test.YtmglkghngkbioaaGreatDoorPaySw3
import Derived.Test.YtmglkghngkbioaaGreatDoorPaySw5
import Derived.Test.YtmglkghngkbioaaGreatDoorPayTr1
import Derived.Test.YtmglkghngkbioaaGreatDoorPayTr2
import Derived.Test.YtmglkghngkbioaaGreatDoorPayTr3
import Derived.Test.YtmglkghngkbioaaGreatDoorPayTr6
set_option linter.unusedSimpArgs false
set_option linter.unusedVariables false
namespace Pay
open Go
theorem lf_cases {op nm : List UInt8} {v : Int} (h : LfOk op nm v) : (op = wName ∧ Good 1 nm ∧ leafW (xLeaf op nm v) = nm) ∨ (nm = [] ∧ (op = wWhole ∨ op = wAmount ∨ op = wRate)) := by
  obtain ⟨h1, h2, _⟩ := h
  unfold leafE at h1
  simp only at h1
  split at h1
  · rename_i hk
    split at h1
    · injection h1 with h1; injection h1 with e1 e2 e3
      rw [hk] at h2
      exact .inl ⟨e1.symm, by rw [e2] at h2; exact h2, e2⟩
    · cases h1
  · split at h1
    · injection h1 with h1; injection h1 with e1 e2 e3
      exact .inr ⟨e2.symm, .inl e1.symm⟩
    · split at h1
      · injection h1 with h1; injection h1 with e1 e2 e3
        exact .inr ⟨e2.symm, .inr (.inl e1.symm)⟩
      · split at h1
        · injection h1 with h1; injection h1 with e1 e2 e3
          exact .inr ⟨e2.symm, .inr (.inr e1.symm)⟩
        · cases h1
theorem lf_lvl {op nm : List UInt8} {v : Int} (h : LfOk op nm v) : lvlS op = 4 := by
  rcases lf_cases h with ⟨rfl, _⟩ | ⟨_, rfl | rfl | rfl⟩ <;> decide
theorem lf_ne {op nm : List UInt8} {v : Int} (h : LfOk op nm v) : leafW (xLeaf op nm v) ≠ [] := by
  obtain ⟨c, r, e⟩ := h.2.1.cons
  rw [e]; simp
/-- Such expressions stand there. -/
def At (es : List Xpr) (n : Nat) (xs : List Xpr) : Prop := ∀ (j : Nat) (x : Xpr), xs[j]? = some x → es[n + j]? = some x
theorem At.left {es xs ys : List Xpr} {n : Nat} (h : At es n (xs ++ ys)) : At es n xs := fun j x hx => h j x (by
  rw [List.getElem?_append_left (List.getElem?_eq_some_iff.1 hx).1]; exact hx)
theorem At.right {es xs ys : List Xpr} {n m : Nat} (h : At es n (xs ++ ys)) (hm : m = n + xs.length) : At es m ys := fun j x hx => by
  subst hm
  rw [Nat.add_assoc]
  exact h (xs.length + j) x (by rw [List.getElem?_append_right (Nat.le_add_right _ _), Nat.add_sub_cancel_left]; exact hx)
theorem At.one {es : List Xpr} {n : Nat} {x : Xpr} (h : At es n [x]) : es[n]? = some x := h 0 x rfl
theorem wrM_s' {es : List Xpr} {k : Nat} (hk : 1 ≤ k) (u : List UInt8) (r : List It) : wrM es k (.s u :: r) = u ++ wrM es k r := by
  obtain ⟨k, rfl⟩ : ∃ j, k = j + 1 := ⟨k - 1, by omega⟩
  exact wrM_s es k u r
theorem leafW_node {op : List UInt8} (a b c : Nat) (h : op = wNeg ∨ op ∈ binOps ∨ op = wIf) : leafW (xNode op a b c) = [] := by
  have : op ≠ wWhole ∧ op ≠ wAmount ∧ op ≠ wRate ∧ op ≠ wName := by
    rcases h with rfl | h | rfl
    · decide
    · exact (show ∀ o ∈ binOps, o ≠ wWhole ∧ o ≠ wAmount ∧ o ≠ wRate ∧ o ≠ wName by decide) op h
    · decide
  obtain ⟨h1, h2, h3, h4⟩ := this
  simp [leafW, xNode, h1, h2, h3, h4]
theorem wr_tree {es : List Xpr} : ∀ (t : Xt) (n : Nat) (L : Int) (k : Nat) (r : List It), WfP t → At es n (flat n t) → L ≤ 4 → 1 ≤ k → wrM es (t.size + k) (.x ((n + t.size - 1 : Nat) : Int) L :: r) = prT t L ++ wrM es k r
  | .leaf op nm v, n, L, k, r, h, ha, hL, hk => by
    have hx : es[(((n + 1 - 1 : Nat) : Int)).toNat]? = some (xLeaf op nm v) := ha.one
    show wrM es (1 + k) (.x ((n + 1 - 1 : Nat) : Int) L :: r) = leafW (xLeaf op nm v) ++ _
    rw [Nat.add_comm 1 k, wrM_x hx]
    have hl : ¬ lvlS (xLeaf op nm v).op < L := by show ¬ lvlS op < L; rw [lf_lvl h]; omega
    have hp : partsW (xLeaf op nm v) = [.s (leafW (xLeaf op nm v))] := if_pos (lf_ne h)
    rw [openW, if_neg hl, hp]
    exact wrM_s' hk _ _
  | .neg e, n, L, k, r, h, ha, hL, hk => by
    have hp := e.pos
    have ha1 : At es n (flat n e) := ha.left
    have hx : es[(((n + (e.size + 1) - 1 : Nat) : Int)).toNat]? = some (xNode wNeg (n + e.size - 1) 0 0) := (ha.right (by rw [flat_len]; rfl)).one
    show wrM es (e.size + 1 + k) (.x ((n + (e.size + 1) - 1 : Nat) : Int) L :: r) = (45 :: prT e 4) ++ _
    rw [show e.size + 1 + k = (e.size + k) + 1 by omega, wrM_x hx]
    have hl : ¬ lvlS (xNode wNeg (n + e.size - 1) 0 0).op < L := by show ¬ (4 : Int) < L; omega
    have hq : partsW (xNode wNeg (n + e.size - 1) 0 0) = [.s [45], .x ((n + e.size - 1 : Nat) : Int) 4] := by
      rw [partsW, leafW_node _ _ _ (.inl rfl)]; rfl
    rw [openW, if_neg hl, hq]
    show wrM es (e.size + k) (.s [45] :: .x ((n + e.size - 1 : Nat) : Int) 4 :: r) = _
    rw [wrM_s' (by omega), wr_tree e n 4 k r h ha1 (by decide) hk]
    simp
  | .bin op a b, n, L, k, r, h, ha, hL, hk => by
    obtain ⟨h1, h2, h3⟩ := h
    have pa := a.pos
    have pb := b.pos
    have ha1 : At es n (flat n a) := ha.left.left
    have hb1 : At es (n + a.size) (flat (n + a.size) b) := ha.left.right (by rw [flat_len])
    have hx : es[(((n + (a.size + b.size + 1) - 1 : Nat) : Int)).toNat]? = some (xNode op (n + a.size - 1) (n + a.size + b.size - 1) 0) :=
      (ha.right (m := n + (a.size + b.size + 1) - 1) (by rw [List.length_append, flat_len, flat_len]; omega)).one
    have ia := fun L k r hL hk => wr_tree a n L k r h2 ha1 hL hk
    have ib := fun L k r hL hk => wr_tree b (n + a.size) L k r h3 hb1 hL hk
    have hlf := leafW_node (n + a.size - 1) (n + a.size + b.size - 1) 0 (.inr (.inl h1) : op = wNeg ∨ op ∈ binOps ∨ op = wIf)
    have hneg : op ≠ wNeg := (bin_op h1).1
    have hif : op ≠ wIf := (bin_op h1).2.2
    show wrM es (a.size + b.size + 1 + k) (.x ((n + (a.size + b.size + 1) - 1 : Nat) : Int) L :: r) = _
    rw [show a.size + b.size + 1 + k = (a.size + (b.size + k)) + 1 by omega, wrM_x hx]
    cases hm : mmB op with
    | true =>
      have hlv : lvlS op = 4 := by rcases mm_op hm with rfl | rfl <;> decide
      have hl : ¬ lvlS (xNode op (n + a.size - 1) (n + a.size + b.size - 1) 0).op < L := by show ¬ lvlS op < L; omega
      have hq : partsW (xNode op (n + a.size - 1) (n + a.size + b.size - 1) 0) = [.s (op ++ [40]), .x ((n + a.size - 1 : Nat) : Int) 0, .s [44, 32], .x ((n + a.size + b.size - 1 : Nat) : Int) 0, .s [41]] := by
        rw [partsW, hlf, if_neg (by simp), if_neg (by show ¬ op = wNeg; exact hneg), if_pos (by show op = wMin ∨ op = wMax; exact mm_op hm)]; rfl
      rw [openW, if_neg hl, hq]
      simp only [List.cons_append, List.nil_append]
      rw [wrM_s' (by omega), ia 0 _ _ (by decide) (by omega), wrM_s' (by omega), ib 0 _ _ (by decide) hk, wrM_s' hk]
      have e : prT (.bin op a b) L = op ++ 40 :: (prT a 0 ++ 44 :: 32 :: (prT b 0 ++ [41])) := if_pos hm
      rw [e]
      simp
    | false =>
      have hlv : lvlS op ≤ 3 := by
        rcases bin_lvl h1 with ⟨hh, _⟩ | ⟨_, _, hl⟩ | ⟨_, _, hl⟩ | ⟨_, _, hl⟩
        · rw [hm] at hh; cases hh
        all_goals omega
      have hmm : ¬ (op = wMin ∨ op = wMax) := fun h => by
        rcases h with rfl | rfl <;> exact absurd hm (by decide)
      have hq : partsW (xNode op (n + a.size - 1) (n + a.size + b.size - 1) 0) = [.x ((n + a.size - 1 : Nat) : Int) (max (lvlS op) 2), .s ([32] ++ op ++ [32]), .x ((n + a.size + b.size - 1 : Nat) : Int) (lvlS op + 1)] := by
        rw [partsW, hlf, if_neg (by simp), if_neg (by show ¬ op = wNeg; exact hneg), if_neg (by show ¬ (op = wMin ∨ op = wMax); exact hmm), if_neg (by show ¬ op = wIf; exact hif)]; rfl
      have e : prT (.bin op a b) L = heldS (decide (lvlS op < L)) (prT a (max (lvlS op) 2) ++ 32 :: (op ++ 32 :: prT b (lvlS op + 1))) := if_neg (by rw [hm]; simp)
      rw [e, openW, hq]
      by_cases hl : lvlS op < L
      · rw [if_pos (by show lvlS op < L; exact hl), decide_eq_true hl]
        simp only [List.cons_append, List.nil_append]
        rw [wrM_s' (by omega), ia _ _ _ (by omega) (by omega), wrM_s' (by omega), ib _ _ _ (by omega) hk, wrM_s' hk]
        simp [heldS]
      · rw [if_neg (by show ¬ lvlS op < L; exact hl), decide_eq_false hl]
        simp only [List.cons_append, List.nil_append]
        rw [ia _ _ _ (by omega) (by omega), wrM_s' (by omega), ib _ _ _ (by omega) hk]
        simp [heldS]
  | .ite a b c, n, L, k, r, h, ha, hL, hk => by
    obtain ⟨h1, h2, h3⟩ := h
    have pa := a.pos
    have pb := b.pos
    have pc := c.pos
    have ha1 : At es n (flat n a) := ha.left.left.left
    have hb1 : At es (n + a.size) (flat (n + a.size) b) := ha.left.left.right (by rw [flat_len])
    have hc1 : At es (n + a.size + b.size) (flat (n + a.size + b.size) c) := ha.left.right (by rw [List.length_append, flat_len, flat_len]; omega)
    have hx : es[(((n + (a.size + b.size + c.size + 1) - 1 : Nat) : Int)).toNat]? = some (xNode wIf (n + a.size - 1) (n + a.size + b.size - 1) (n + a.size + b.size + c.size - 1)) :=
      (ha.right (m := n + (a.size + b.size + c.size + 1) - 1) (by rw [List.length_append, List.length_append, flat_len, flat_len, flat_len]; omega)).one
    have ia := fun L k r hL hk => wr_tree a n L k r h1 ha1 hL hk
    have ib := fun L k r hL hk => wr_tree b (n + a.size) L k r h2 hb1 hL hk
    have ic := fun L k r hL hk => wr_tree c (n + a.size + b.size) L k r h3 hc1 hL hk
    show wrM es (a.size + b.size + c.size + 1 + k) (.x ((n + (a.size + b.size + c.size + 1) - 1 : Nat) : Int) L :: r) = _
    rw [show a.size + b.size + c.size + 1 + k = (a.size + (b.size + (c.size + k))) + 1 by omega, wrM_x hx]
    have hq : partsW (xNode wIf (n + a.size - 1) (n + a.size + b.size - 1) (n + a.size + b.size + c.size - 1)) = [.s [105, 102, 32], .x ((n + a.size - 1 : Nat) : Int) 0, .s [32, 116, 104, 101, 110, 32], .x ((n + a.size + b.size - 1 : Nat) : Int) 0, .s [32, 101, 108, 115, 101, 32], .x ((n + a.size + b.size + c.size - 1 : Nat) : Int) 0] := by
      rw [partsW, leafW_node _ _ _ (.inr (.inr rfl))]; rfl
    have e : prT (.ite a b c) L = heldS (decide (0 < L)) (wIf ++ 32 :: (prT a 0 ++ 32 :: (wThen ++ 32 :: (prT b 0 ++ 32 :: (wElse ++ 32 :: prT c 0))))) := rfl
    rw [e, openW, hq]
    by_cases hl : (0 : Int) < L
    · rw [if_pos (by show lvlS wIf < L; exact hl), decide_eq_true hl]
      simp only [List.cons_append, List.nil_append]
      rw [wrM_s' (by omega), wrM_s' (by omega), ia _ _ _ (by omega) (by omega), wrM_s' (by omega), ib _ _ _ (by omega) (by omega), wrM_s' (by omega), ic _ _ _ (by omega) hk, wrM_s' hk]
      simp [heldS]
    · rw [if_neg (by show ¬ lvlS wIf < L; exact hl), decide_eq_false hl]
      simp only [List.cons_append, List.nil_append]
      rw [wrM_s' (by omega), ia _ _ _ (by omega) (by omega), wrM_s' (by omega), ib _ _ _ (by omega) (by omega), wrM_s' (by omega), ic _ _ _ (by omega) hk]
      simp [heldS]
theorem write_tree {es : List Xpr} {t : Xt} {n : Nat} (h : WfP t) (ha : At es n (flat n t)) (hn : n + t.size ≤ es.length) : writeW es ((n + t.size - 1 : Nat) : Int) = prT t 0 := by
  unfold writeW
  have := wr_tree (es := es) t n 0 (es.length + 1 - t.size) [] h ha (by decide) (by omega)
  rw [show t.size + (es.length + 1 - t.size) = es.length + 1 by omega] at this
  rw [this, wrM_nil, List.append_nil]
theorem text_rules {es : List Xpr} : ∀ (l : List RT) (n : Nat), (∀ q ∈ l, RtOk q) → At es n (exprsOf n l) → n + (exprsOf n l).length ≤ es.length → (rulesOf n l).flatMap (lineW es) = progTx l
  | [], n, _, _, _ => rfl
  | q :: l, n, h, ha, hn => by
    have hn : n + (flat n q.tree ++ exprsOf (n + q.tree.size) l).length ≤ es.length := hn
    rw [List.length_append, flat_len] at hn
    have ha : At es n (flat n q.tree ++ exprsOf (n + q.tree.size) l) := ha
    show (_ :: rulesOf (n + q.tree.size) l).flatMap _ = _
    unfold progTx
    rw [List.flatMap_cons, List.flatMap_cons, text_rules l (n + q.tree.size) (fun x hx => h x (List.mem_cons_of_mem _ hx)) (ha.right (by rw [flat_len])) (by omega)]
    congr 1
    show lineX q.kind q.name (writeW es ((n + q.tree.size - 1 : Nat) : Int)) = _
    rw [write_tree (h q (by simp)).wf ha.left (by omega)]
theorem At.self (xs : List Xpr) : At xs 0 xs := fun j x h => by rw [Nat.zero_add]; exact h
theorem text_prog {l : List RT} (h : ∀ q ∈ l, RtOk q) : textW (progOf l) = progTx l := text_rules l 0 h (At.self _) (by rw [Nat.zero_add]; exact Nat.le_refl _)
def Snd (n : Nat) (xs : List Xpr) : Prop := ∀ (j : Nat) (x : Xpr), xs[j]? = some x → soundX (n + j) x = true ∧ IRange x.val
theorem Snd.app {n m : Nat} {xs ys : List Xpr} (h : Snd n xs) (g : Snd m ys) (hm : m = n + xs.length) : Snd n (xs ++ ys) := by
  intro j x hx
  by_cases hj : j < xs.length
  · rw [List.getElem?_append_left hj] at hx; exact h j x hx
  · rw [List.getElem?_append_right (by omega)] at hx
    have := g _ x hx
    rwa [hm, show n + xs.length + (j - xs.length) = n + j by omega] at this
theorem Snd.one {n : Nat} {x : Xpr} (h : soundX n x = true ∧ IRange x.val) : Snd n [x] := by
  intro j y hy
  cases j with
  | zero => simp at hy; subst hy; exact h
  | succ j => simp at hy
theorem soundX_of {n : Nat} {x : Xpr} (ha : 0 ≤ x.a ∧ x.a < max (n : Int) 1) (hb : 0 ≤ x.b ∧ x.b < max (n : Int) 1) (hc : 0 ≤ x.c ∧ x.c < max (n : Int) 1) (h1 : x.op.length ≤ 12) (h2 : x.name.length ≤ 12) : soundX n x = true := by
  unfold soundX shPartOk
  rw [decide_eq_true ha.1, decide_eq_true ha.2, decide_eq_true hb.1, decide_eq_true hb.2, decide_eq_true hc.1, decide_eq_true hc.2, decide_eq_true h1, decide_eq_true h2]
  rfl
theorem soundR_of {n : Nat} {r : Rul} (h1 : 0 ≤ r.root) (h2 : r.root < (n : Int)) (h3 : r.kind.length ≤ 12) (h4 : r.name.length ≤ 12) : soundR n r = true := by
  unfold soundR
  rw [decide_eq_true h1, decide_eq_true h2, decide_eq_true h3, decide_eq_true h4]
  rfl
theorem sound_node {n a b c : Nat} {op : List UInt8} (ho : op.length ≤ 12) (ha : a < n) (hb : b < n) (hc : c < n) : soundX n (xNode op a b c) = true ∧ IRange (xNode op a b c).val := by
  refine ⟨soundX_of (x := xNode op a b c) ?_ ?_ ?_ ho (by show 0 ≤ 12; omega), ?_⟩
  · show 0 ≤ (a : Int) ∧ (a : Int) < max (n : Int) 1; omega
  · show 0 ≤ (b : Int) ∧ (b : Int) < max (n : Int) 1; omega
  · show 0 ≤ (c : Int) ∧ (c : Int) < max (n : Int) 1; omega
  · show IRange 0; exact ⟨by decide, by decide⟩
theorem good_len1 {u : List UInt8} (h : Good 1 u) : u.length ≤ 12 := by
  obtain ⟨c, r, rfl⟩ := h.cons
  exact (good_kind h).2.2 rfl
theorem bin_len {op : List UInt8} (h : op ∈ binOps) : op.length ≤ 12 := (show ∀ o ∈ binOps, o.length ≤ 12 by decide) op h
theorem flat_sound : ∀ (t : Xt) (n : Nat), WfP t → Snd n (flat n t)
  | .leaf op nm v, n, h => by
    refine Snd.one ⟨?_, h.2.2⟩
    have hl : op.length ≤ 12 ∧ nm.length ≤ 12 := by
      rcases lf_cases h with ⟨rfl, hg, _⟩ | ⟨rfl, rfl | rfl | rfl⟩
      · exact ⟨by decide, good_len1 hg⟩
      all_goals decide
    have z : (0 : Int) ≤ 0 ∧ (0 : Int) < max (n : Int) 1 := by omega
    exact soundX_of (x := xLeaf op nm v) z z z hl.1 hl.2
  | .neg e, n, h => by
    have := e.pos
    exact (flat_sound e n h).app (m := n + e.size) (Snd.one (sound_node (by decide) (by omega) (by omega) (by omega))) (by rw [flat_len])
  | .bin op a b, n, h => by
    have := a.pos
    have := b.pos
    exact ((flat_sound a n h.2.1).app (flat_sound b (n + a.size) h.2.2) (by rw [flat_len])).app (m := n + a.size + b.size) (Snd.one (sound_node (bin_len h.1) (by omega) (by omega) (by omega))) (by rw [List.length_append, flat_len, flat_len]; omega)
  | .ite a b c, n, h => by
    have := a.pos
    have := b.pos
    have := c.pos
    exact (((flat_sound a n h.1).app (flat_sound b (n + a.size) h.2.1) (by rw [flat_len])).app (flat_sound c (n + a.size + b.size) h.2.2) (by rw [List.length_append, flat_len, flat_len]; omega)).app (m := n + a.size + b.size + c.size)
      (Snd.one (sound_node (by decide) (by omega) (by omega) (by omega))) (by rw [List.length_append, List.length_append, flat_len, flat_len, flat_len]; omega)
theorem exprs_sound : ∀ (l : List RT) (n : Nat), (∀ q ∈ l, RtOk q) → Snd n (exprsOf n l)
  | [], n, _ => fun j x h => by simp [exprsOf] at h
  | q :: l, n, h => (flat_sound q.tree n (h q (by simp)).wf).app (exprs_sound l (n + q.tree.size) (fun x hx => h x (List.mem_cons_of_mem _ hx))) (by rw [flat_len])
theorem soundXs_of : ∀ {xs : List Xpr} {n : Nat}, Snd n xs → soundXs n xs = true
  | [], _, _ => rfl
  | x :: xs, n, h => by
    have h0 := (h 0 x rfl).1
    rw [Nat.add_zero] at h0
    rw [soundXs, h0, Bool.true_and]
    exact soundXs_of (fun j y hy => by have := h (j + 1) y (by simpa using hy); rwa [show n + (j + 1) = n + 1 + j by omega] at this)
theorem rules_sound : ∀ (l : List RT) (n N : Nat), (∀ q ∈ l, RtOk q) → n + (exprsOf n l).length ≤ N → (rulesOf n l).all (soundR N) = true
  | [], _, _, _, _ => rfl
  | q :: l, n, N, h, hn => by
    have hn : n + (flat n q.tree ++ exprsOf (n + q.tree.size) l).length ≤ N := hn
    rw [List.length_append, flat_len] at hn
    have hp := q.tree.pos
    have hq := h q (by simp)
    show (_ :: rulesOf (n + q.tree.size) l).all _ = true
    rw [List.all_cons, rules_sound l (n + q.tree.size) N (fun x hx => h x (List.mem_cons_of_mem _ hx)) (by omega), Bool.and_true]
    exact soundR_of (r := ⟨q.kind, q.name, ((n + q.tree.size - 1 : Nat) : Int)⟩) (by show (0 : Int) ≤ ((n + q.tree.size - 1 : Nat) : Int); omega) (by show ((n + q.tree.size - 1 : Nat) : Int) < (N : Int); omega) (good_len1 (good_kinds hq.kind)) (good_len1 hq.good)
theorem sound_prog {l : List RT} (h : ∀ q ∈ l, RtOk q) (hn : l.length ≤ 60) : soundP (progOf l) = true := by
  have h1 := soundXs_of (exprs_sound l 0 h)
  have h2 := rules_sound l 0 (exprsOf 0 l).length h (by omega)
  have h3 : (rulesOf 0 l).length ≤ 60 := by rw [rulesOf_len]; exact hn
  show (soundXs 0 (exprsOf 0 l) && (rulesOf 0 l).all (soundR (exprsOf 0 l).length) && decide ((rulesOf 0 l).length ≤ 60)) = true
  rw [h1, h2]
  simpa using h3
theorem show_prog {l : List RT} (h : ∀ q ∈ l, RtOk q) (hn : l.length ≤ 60) : showW (progOf l) = (progTx l, 0) := by
  unfold showW
  rw [text_prog h, parse_print h hn, sound_prog h hn, if_pos ⟨rfl, rfl, rfl⟩]
end Pay
