/- The plain law: of one person and period there is never more than one live entry. -/
import Derived.Test.YtbhjjheefdilbaaPayC9
set_option linter.unusedSimpArgs false
set_option linter.unusedVariables false
namespace Pay
open Go

theorem filt_congr {p q : Nat → Ent → Bool} : ∀ (l : List Ent) (k : Nat), (∀ j e, l[j]? = some e → p (k + j) e = q (k + j) e) → filtFrom p k l = filtFrom q k l
  | [], k, _ => rfl
  | e :: l, k, h => by
    have h0 := h 0 e rfl
    have ih := filt_congr (p := p) (q := q) l (k + 1) (fun j x hj => by rw [show k + 1 + j = k + (j + 1) by omega]; exact h (j + 1) x (by simpa using hj))
    simp only [Nat.add_zero] at h0
    simp only [filtFrom, h0, ih]
theorem filt_append (p : Nat → Ent → Bool) (m : List Ent) : ∀ (l : List Ent) (k : Nat), filtFrom p k (l ++ m) = filtFrom p k l ++ filtFrom p (k + l.length) m
  | [], k => by simp [filtFrom]
  | e :: l, k => by
    simp only [List.cons_append, filtFrom, filt_append p m l (k + 1), List.length_cons]
    rw [show k + 1 + l.length = k + (l.length + 1) by omega]
    split <;> simp
theorem filt_mem {p : Nat → Ent → Bool} : ∀ {l : List Ent} {k : Nat} {e : Ent}, e ∈ filtFrom p k l → e ∈ l
  | [], k, e, h => by simp [filtFrom] at h
  | x :: l, k, e, h => by
    simp only [filtFrom] at h
    split at h
    · rcases List.mem_cons.1 h with rfl | h
      · simp
      · exact List.mem_cons_of_mem _ (filt_mem h)
    · exact List.mem_cons_of_mem _ (filt_mem h)
theorem filt_count (p : Nat → Ent → Bool) (q : Ent → Bool) : ∀ (l : List Ent) (k : Nat), (filtFrom p k l).countP q = (filtFrom (fun i e => p i e && q e) k l).length
  | [], k => rfl
  | e :: l, k => by
    have ih := filt_count p q l (k + 1)
    simp only [filtFrom]
    by_cases h1 : p k e = true <;> by_cases h2 : q e = true <;> simp [h1, h2, ih]
theorem find_neg {p : Nat → Ent → Bool} : ∀ (l : List Ent) (k : Nat), filtFrom p k l = [] → findFrom p k l = -1
  | [], k, _ => rfl
  | e :: l, k, h => by
    simp only [filtFrom] at h
    split at h
    · cases h
    · rename_i hp
      simp only [findFrom, hp]
      exact find_neg l (k + 1) h
theorem find_pos {p : Nat → Ent → Bool} : ∀ (l : List Ent) (k : Nat), filtFrom p k l ≠ [] → ∃ j e, findFrom p k l = ((k + j : Nat) : Int) ∧ l[j]? = some e ∧ p (k + j) e = true
  | [], k, h => absurd rfl h
  | e :: l, k, h => by
    by_cases hp : p k e = true
    · exact ⟨0, e, by simp [findFrom, hp], rfl, hp⟩
    · simp only [filtFrom, hp] at h
      obtain ⟨j, x, h1, h2, h3⟩ := find_pos l (k + 1) (by simpa using h)
      refine ⟨j + 1, x, ?_, by simpa using h2, by rwa [show k + 1 + j = k + (j + 1) by omega] at h3⟩
      simp only [findFrom, hp, h1]
      simp; omega
theorem filt_remove {p : Nat → Ent → Bool} (q : Ent → Bool) : ∀ (l : List Ent) (k j : Nat) (e : Ent), l[j]? = some e → p (k + j) e = true →
    (filtFrom (fun i x => p i x && i != k + j) k l).countP q + (if q e = true then 1 else 0) = (filtFrom p k l).countP q
  | [], k, j, e, h, _ => by simp at h
  | x :: l, k, 0, e, h, hp => by
    simp only [List.getElem?_cons_zero, Option.some.injEq] at h
    subst h
    have hc : filtFrom (fun i y => p i y && i != k + 0) (k + 1) l = filtFrom p (k + 1) l := filt_congr l (k + 1) (fun j y _ => by
      have : (k + 1 + j != k + 0) = true := by simp; omega
      show (p (k + 1 + j) y && (k + 1 + j != k + 0)) = _
      rw [this, Bool.and_true])
    simp only [Nat.add_zero] at hp hc
    simp only [filtFrom, Nat.add_zero, hc, hp]
    simp [List.countP_cons]
  | x :: l, k, j + 1, e, h, hp => by
    have ih := filt_remove (p := p) q l (k + 1) j e (by simpa using h) (by rwa [show k + 1 + j = k + (j + 1) by omega])
    rw [show k + 1 + j = k + (j + 1) by omega] at ih
    have hk : (k != k + (j + 1)) = true := by simp
    simp only [filtFrom, hk, Bool.and_true]
    cases hx : p k x
    · simpa using ih
    · simp only [if_true, List.countP_cons]
      omega

theorem findP_eq {l : List Ent} {id per : Int} {i : Nat} {e : Ent} (h : l[i]? = some e) : findP l id per i e = (aliveP l id i e && e.per == per) := by
  have hi : i < l.length := (List.getElem?_eq_some_iff.1 h).1
  have hi' : (i : Int) < (l.length : Int) := by omega
  simp only [findP, aliveP, liveS, Int.toNat_natCast, h, Int.natCast_nonneg, hi', decide_true, Bool.true_and]
  cases e.id == id <;> cases e.per == per <;> cases e.back == 0 <;> simp
theorem count_find (l : List Ent) (p : Int) : (aliveS l 1).countP (fun e => e.per == p) = (filtFrom (findP l 1 p) 0 l).length := by
  unfold aliveS
  rw [filt_count]
  congr 1
  refine filt_congr l 0 (fun j e hj => ?_)
  rw [Nat.zero_add, findP_eq hj]

theorem once_find_neg {l : List Ent} {t : Nat → Int} {p : Nat} (h : Once l t) (hp : p < 4) (ht : t p = 0) : findS l 1 p = -1 := by
  have := (h.cnt p hp).1
  rw [count_find, ht] at this
  exact find_neg l 0 (List.length_eq_zero_iff.1 (by omega))
theorem once_find_pos {l : List Ent} {t : Nat → Int} {p : Nat} (h : Once l t) (hp : p < 4) (ht : t p = 1) : ∃ (j : Nat) (e : Ent), findS l 1 p = j ∧ l[j]? = some e ∧ aliveP l 1 j e = true ∧ e.per = p := by
  have := (h.cnt p hp).1
  rw [count_find, ht] at this
  obtain ⟨j, e, h1, h2, h3⟩ := find_pos (p := findP l 1 p) l 0 (fun h0 => by rw [h0] at this; simp at this)
  rw [Nat.zero_add] at h1 h3
  rw [findP_eq h2] at h3
  simp only [Bool.and_eq_true, beq_iff_eq] at h3
  exact ⟨j, e, h1, h2, h3.1, h3.2⟩
theorem once_alive_live {l : List Ent} {j : Nat} {e : Ent} (h : l[j]? = some e) (ha : aliveP l 1 j e = true) : liveS l j = true ∧ e.back = 0 := by
  have hi : j < l.length := (List.getElem?_eq_some_iff.1 h).1
  have hi' : (j : Int) < (l.length : Int) := by omega
  simp only [aliveP, Bool.and_eq_true, beq_iff_eq] at ha
  refine ⟨?_, ha.2.1⟩
  simp only [liveS, Int.toNat_natCast, h, Int.natCast_nonneg, hi', decide_true, Bool.true_and, ha.2.1, ha.2.2]
  rfl

theorem law_addErr (l : List Ent) (t : Nat → Int) (p : Nat) (x : Int) (h : Once l t) (hp : p < 4) : addErr l (entOf p 1 x) = 0 ↔ t p = 0 := by
  have hc := (h.cnt p hp).2
  have hb : (entOf p 1 x).back = 0 := rfl
  have hi : (entOf p 1 x).id = 1 := rfl
  have hq : (entOf p 1 x).per = p := rfl
  simp only [addErr, hb, hi, hq, if_true]
  rcases hc with hc | hc
  · rw [once_find_neg h hp hc]; simp [hc]
  · obtain ⟨j, e, h1, _⟩ := once_find_pos h hp hc
    rw [h1]; simp [hc]
theorem law_revErr (l : List Ent) (t : Nat → Int) (p : Nat) (h : Once l t) (hp : p < 4) : revErr l (findS l 1 p) = 0 ↔ t p = 1 := by
  have hc := (h.cnt p hp).2
  rcases hc with hc | hc
  · rw [once_find_neg h hp hc]; simp [hc, revErr]
  · obtain ⟨j, e, h1, h2, h3, h4⟩ := once_find_pos h hp hc
    have hi : j < l.length := (List.getElem?_eq_some_iff.1 h2).1
    obtain ⟨a1, a2⟩ := once_alive_live h2 h3
    have hn : ¬ ((j : Int) < 0 ∨ (j : Int) ≥ (l.length : Int)) := by omega
    rw [h1]
    simp only [revErr, if_neg hn, Int.toNat_natCast, h2, a2, a1, if_true, hc]

theorem upd_eq {t : Nat → Int} {p : Nat} {x : Int} (h : t p = x) : upd t p x = t := by
  funext q
  simp only [upd]
  split
  · rename_i e; rw [e, h]
  · rfl

theorem tx_ok {p : Nat} (hp : p < 4) : ((p : Int) = 0 ∧ tx p = 1 ∨ (p : Int) = 1 ∧ tx p = 2 ∨ (p : Int) = 2 ∧ tx p = 4 ∨ (p : Int) = 3 ∧ tx p = 8) := by
  match p, hp with
  | 0, _ => exact .inl ⟨rfl, rfl⟩
  | 1, _ => exact .inr (.inl ⟨rfl, rfl⟩)
  | 2, _ => exact .inr (.inr (.inl ⟨rfl, rfl⟩))
  | 3, _ => exact .inr (.inr (.inr ⟨rfl, rfl⟩))

theorem law_add (l : List Ent) (t : Nat → Int) (p : Nat) (h : Once l t) (hp : p < 4) : Once (addTo l (entOf p 1 (tx p))) (upd t p 1) := by
  have hc := (h.cnt p hp).2
  have hb : (entOf p 1 (tx p)).back = 0 := rfl
  have hi : (entOf p 1 (tx p)).id = 1 := rfl
  have hq : (entOf p 1 (tx p)).per = p := rfl
  rcases hc with hc | hc
  case inr =>
    obtain ⟨j, e, h1, _⟩ := once_find_pos h hp hc
    rw [upd_eq hc]
    have : addTo l (entOf p 1 (tx p)) = l := by simp [addTo, hb, hi, hq, h1]
    rw [this]; exact h
  have hto : addTo l (entOf p 1 (tx p)) = l ++ [entOf p 1 (tx p)] := by simp [addTo, hb, hi, hq, once_find_neg h hp hc]
  rw [hto]
  have hal : aliveS (l ++ [entOf p 1 (tx p)]) 1 = aliveS l 1 ++ [entOf p 1 (tx p)] := by
    unfold aliveS
    rw [filt_append]
    congr 1
    · refine filt_congr l 0 (fun j e hj => ?_)
      simp only [aliveP, List.any_append, List.any_cons, List.any_nil, hb, Bool.or_false]
      have : ((0 : Int) == ((0 + j : Nat) : Int) + 1) = false := by simp; omega
      rw [this, Bool.or_false]
    · have hany : (l ++ [entOf p 1 (tx p)]).any (fun x => x.back == ((0 + l.length : Nat) : Int) + 1) = false := by
        rw [List.any_eq_false]
        intro x hx
        rcases List.mem_append.1 hx with hx | hx
        · have := (h.ok x hx).2.2
          simp; omega
        · simp only [List.mem_singleton] at hx
          subst hx
          simp [hb]; omega
      simp only [filtFrom, aliveP, hany, hi, hb]
      rfl
  constructor
  · intro e he
    rcases List.mem_append.1 he with he | he
    · obtain ⟨a, b, c, d⟩ := h.ok e he
      exact ⟨a, b, c, by simp; omega⟩
    · simp only [List.mem_singleton] at he
      subst he
      exact ⟨rfl, tx_ok hp, by rw [hb]; omega, by rw [hb]; omega⟩
  · intro q hq4
    have := h.cnt q hq4
    rw [hal, List.countP_append]
    simp only [upd]
    by_cases e : q = p
    · subst e
      simp [hq, this.1, hc]
    · have e' : ¬ ((p : Int) = (q : Int)) := by omega
      simp [hq, e, e', this.1, this.2]

theorem law_rev (l : List Ent) (t : Nat → Int) (p : Nat) (h : Once l t) (hp : p < 4) : Once (revTo l (findS l 1 p)) (upd t p 0) := by
  have hc := (h.cnt p hp).2
  rcases hc with hc | hc
  case inl =>
    rw [upd_eq hc, once_find_neg h hp hc]
    have : revTo l (-1) = l := by simp [revTo]
    rw [this]; exact h
  obtain ⟨j, e, h1, h2, h3, h4⟩ := once_find_pos h hp hc
  have hi : j < l.length := (List.getElem?_eq_some_iff.1 h2).1
  obtain ⟨a1, a2⟩ := once_alive_live h2 h3
  have hn : ¬ ((j : Int) < 0 ∨ (j : Int) ≥ (l.length : Int)) := by omega
  have hto : revTo l (findS l 1 p) = l ++ [setBack e ((j : Int) + 1)] := by
    rw [h1]
    simp only [revTo, if_neg hn, Int.toNat_natCast, h2, a1, if_true]
  rw [hto]
  have hbk : (setBack e ((j : Int) + 1)).back = (j : Int) + 1 := rfl
  have hal : aliveS (l ++ [setBack e ((j : Int) + 1)]) 1 = filtFrom (fun i x => aliveP l 1 i x && i != 0 + j) 0 l := by
    unfold aliveS
    rw [filt_append]
    have h0 : filtFrom (aliveP (l ++ [setBack e ((j : Int) + 1)]) 1) (0 + l.length) [setBack e ((j : Int) + 1)] = [] := by
      have : ((j : Int) + 1 == 0) = false := by simp; omega
      simp [filtFrom, aliveP, hbk, this]
    rw [h0, List.append_nil]
    refine filt_congr l 0 (fun i x hx => ?_)
    simp only [aliveP, List.any_append, List.any_cons, List.any_nil, hbk, Bool.or_false, Nat.zero_add]
    by_cases hij : i = j
    · subst hij; simp
    · have e1 : ((j : Int) + 1 == (i : Int) + 1) = false := by simp; omega
      have e2 : (i != j) = true := by simp [hij]
      rw [e1, e2]; simp
  constructor
  · intro x hx
    rcases List.mem_append.1 hx with hx | hx
    · obtain ⟨a, b, c, d⟩ := h.ok x hx
      exact ⟨a, b, c, by simp; omega⟩
    · simp only [List.mem_singleton] at hx
      subst hx
      obtain ⟨a, b, c, d⟩ := h.ok e (List.mem_of_getElem? h2)
      exact ⟨a, b, by rw [hbk]; omega, by rw [hbk]; simp; omega⟩
  · intro q hq4
    have hq := h.cnt q hq4
    have hr := filt_remove (p := aliveP l 1) (fun x => x.per == (q : Int)) l 0 j e h2 (by rwa [Nat.zero_add])
    rw [hal]
    have hq1 := hq.1
    unfold aliveS at hq1
    simp only [upd]
    by_cases e0 : q = p
    · subst e0
      simp only [h4, beq_self_eq_true, if_true] at hr
      simp only [if_true]
      refine ⟨?_, .inl trivial⟩
      omega
    · have e' : (e.per == (q : Int)) = false := by rw [h4]; simp; omega
      simp only [e', Bool.false_eq_true, if_false, Nat.add_zero] at hr
      simp only [e0, if_false]
      rw [hr]
      exact hq

theorem sum_fold : ∀ (A : List Ent) (y : Yr), (∀ e ∈ A, e.per = 0 ∧ e.taxable = 1 ∨ e.per = 1 ∧ e.taxable = 2 ∨ e.per = 2 ∧ e.taxable = 4 ∨ e.per = 3 ∧ e.taxable = 8) → 0 ≤ y.taxable → y.taxable + 8 * A.length < 1000000 →
    (A.foldl (yStep 0) y).taxable = y.taxable + (A.countP (fun e => e.per == ((0 : Nat) : Int)) : Int) + 2 * (A.countP (fun e => e.per == ((1 : Nat) : Int)) : Int) + 4 * (A.countP (fun e => e.per == ((2 : Nat) : Int)) : Int) + 8 * (A.countP (fun e => e.per == ((3 : Nat) : Int)) : Int)
  | [], y, _, _, _ => by simp
  | e :: A, y, h, h0, hb => by
    have he := h e (by simp)
    simp only [List.length_cons] at hb
    have hy : (yStep 0 y e).taxable = y.taxable + e.taxable := by
      have ht : w64 (e.per.tdiv 12) = 0 := by
        rcases he with he | he | he | he <;> rw [he.1] <;> rfl
      simp only [yStep, ht, if_true]
      exact wrapI (by omega) (by omega)
    have ih := sum_fold A (yStep 0 y e) (fun x hx => h x (by simp [hx])) (by omega) (by omega)
    rw [List.foldl_cons, ih, hy]
    simp only [List.countP_cons]
    rcases he with he | he | he | he <;> rw [he.1, he.2] <;> simp <;> omega

theorem onceLaw : OnceLaw where
  addErr := law_addErr
  add := law_add
  revErr := law_revErr
  rev := law_rev
  sum := fun l t hl h => by
    have := sum_fold (aliveS l 1) (yZero 0) (fun e he => (h.ok e (filt_mem he)).2.1) (by decide) (by
      have := filtFrom_len (aliveP l 1) l 0
      have hz : (yZero 0).taxable = 0 := rfl
      rw [hz]
      unfold aliveS
      omega)
    unfold yearS
    rw [this, (h.cnt 0 (by omega)).1, (h.cnt 1 (by omega)).1, (h.cnt 2 (by omega)).1, (h.cnt 3 (by omega)).1]
    have hz : (yZero 0).taxable = 0 := rfl
    rw [hz]; omega
end Pay
