/- Bytes of a program's text: its lines, its (. -/
import Derived.Test.YtmglkghngkbioaaGreatDoorPayBc0
import Derived.Test.YtmglkghngkbioaaGreatDoorPayC41
import Derived.Test.YtmglkghngkbioaaGreatDoorPayC43
import Derived.Test.YtmglkghngkbioaaGreatDoorPayC47
import Derived.Test.YtmglkghngkbioaaGreatDoorPayC48
import Derived.Test.YtmglkghngkbioaaGreatDoorPayC61
import Derived.Test.YtmglkghngkbioaaGreatDoorPayC63
import Derived.Test.YtmglkghngkbioaaGreatDoorPayMSw5
import Derived.Test.YtmglkghngkbioaaGreatDoorPayMTr1
set_option linter.unusedSimpArgs false
set_option linter.unusedVariables false
namespace Pay
open Go
theorem good_bytes {k : Int} {u : List UInt8} (h : Good k u) : (∀ c ∈ u, c ≠ 10) ∧ (u ≠ [40] → ∀ c ∈ u, c ≠ 40) := by
  have e := h.self
  obtain ⟨d, u', rfl⟩ := h.cons
  rw [oneS_cons] at e
  by_cases hl : letB d = true
  · rw [if_pos hl] at e
    split at e
    · exact absurd (congrArg Prod.fst e).symm h.ne
    · have ha := run_all (p := wordB) (u := d :: u') (congrArg Prod.snd e)
      have hb := List.all_eq_true.1 ha
      exact ⟨fun c hc e => by have := hb c hc; rw [e] at this; exact absurd this (by decide), fun _ c hc e => by have := hb c hc; rw [e] at this; exact absurd this (by decide)⟩
  · rw [if_neg hl] at e
    by_cases hd : digB d = true
    · rw [if_pos hd] at e
      have ha := run_all (p := numB) (u := d :: u') (congrArg Prod.snd e)
      have hb := List.all_eq_true.1 ha
      exact ⟨fun c hc e => by have := hb c hc; rw [e] at this; exact absurd this (by decide), fun _ c hc e => by have := hb c hc; rw [e] at this; exact absurd this (by decide)⟩
    · rw [if_neg hd] at e
      split at e
      · exact absurd (congrArg Prod.fst e).symm h.ne
      · rename_i h3
        have hlen : signN (d :: u') = (d :: u').length := congrArg Prod.snd e
        have hc : signSet.contains d = true := by
          rw [signN_eq] at h3
          cases hc : signSet.contains d with
          | true => rfl
          | false => rw [hc] at h3; exact absurd rfl h3
        rw [signN_eq, if_pos hc] at hlen
        cases u' with
        | nil =>
          refine ⟨fun x hcm e2 => ?_, fun hne x hcm e2 => ?_⟩
          · simp only [List.mem_singleton] at hcm
            rw [← hcm, e2] at hc
            exact absurd hc (by decide)
          · simp only [List.mem_singleton] at hcm
            exact hne (by rw [← hcm, e2])
        | cons c r =>
          simp only [signR] at hlen
          split at hlen
          · rename_i hp
            simp only [List.length_cons] at hlen
            have hr : r = [] := List.eq_nil_of_length_eq_zero (by omega)
            subst hr
            have key : ∀ x ∈ [d, c], x = 60 ∨ x = 61 ∨ x = 62 := by
              intro x hx
              simp only [List.mem_cons, List.not_mem_nil, or_false] at hx
              rcases hp with ⟨h1, h2 | h2⟩ | ⟨h1, h2⟩ <;> rcases hx with rfl | rfl <;> simp [h1, h2]
            refine ⟨fun x hx e => ?_, fun _ x hx e => ?_⟩ <;>
              (have := key x hx; rw [e] at this; revert this; decide)
          · simp only [List.length_cons] at hlen
            omega
def Cn (s : List UInt8) (l : List Kt) : Prop := s.count 40 = cK l ∧ s.count 10 = 0
theorem Cn.app {s t : List UInt8} {l m : List Kt} (h : Cn s l) (g : Cn t m) : Cn (s ++ t) (l ++ m) :=
  ⟨by rw [List.count_append, cK_app, h.1, g.1], by rw [List.count_append, h.2, g.2]⟩
theorem Cn.byte {c : UInt8} (h : c ≠ 40 ∧ c ≠ 10) {s : List UInt8} {l : List Kt} (g : Cn s l) : Cn (c :: s) l :=
  ⟨by rw [List.count_cons, g.1]; simp [h.1], by rw [List.count_cons, g.2]; simp [h.2]⟩
theorem Cn.put {k : Int} {u s : List UInt8} {l : List Kt} (h : Good k u) (g : Cn s l) : Cn (u ++ s) ((k, u) :: l) := by
  obtain ⟨h1, h2⟩ := good_bytes h
  have c10 : u.count 10 = 0 := List.count_eq_zero.2 (fun hm => h1 10 hm rfl)
  refine ⟨?_, by rw [List.count_append, c10, g.2]⟩
  rw [List.count_append, cK_cons, g.1]
  by_cases hu : u = [40]
  · subst hu
    simp; omega
  · rw [if_neg hu, List.count_eq_zero.2 (fun hm => h2 hu 40 hm rfl)]
    omega
theorem Cn.nil : Cn [] [] := ⟨rfl, rfl⟩
theorem held_cn {b : Bool} {s r : List UInt8} {k l : List Kt} (h : Cn s k) (hr : Cn r l) : Cn (heldS b s ++ r) (heldK b k ++ l) := by
  cases b with
  | false => exact h.app hr
  | true =>
    have := Cn.put good_40 (h.app (Cn.put good_41 hr))
    simpa [heldS, heldK] using this
theorem b32 : (32 : UInt8) ≠ 40 ∧ (32 : UInt8) ≠ 10 := by decide
theorem prT_cn : ∀ (t : Xt) (L : Int), WfP t → Cn (prT t L) (tkT t L)
  | .leaf op nm v, L, h => by have := Cn.put h.2.1 Cn.nil; rwa [List.append_nil] at this
  | .neg e, L, h => Cn.put (u := [45]) good_45 (prT_cn e 4 h)
  | .bin op a b, L, h => by
    obtain ⟨h1, h2, h3⟩ := h
    cases hm : mmB op with
    | true =>
      rw [tk_mm hm, show prT (.bin op a b) L = op ++ 40 :: (prT a 0 ++ 44 :: 32 :: (prT b 0 ++ [41])) from if_pos hm]
      have e1 := Cn.put good_41 Cn.nil
      have e2 := Cn.put (u := [44]) good_44 (Cn.byte b32 ((prT_cn b 0 h3).app e1))
      have e3 := Cn.put (u := [40]) good_40 ((prT_cn a 0 h2).app e2)
      have e4 := Cn.put (good_mm hm) e3
      simpa using e4
    | false =>
      rw [tk_bin' hm, show prT (.bin op a b) L = heldS (decide (lvlS op < L)) (prT a (max (lvlS op) 2) ++ 32 :: (op ++ 32 :: prT b (lvlS op + 1))) from if_neg (by rw [hm]; simp)]
      have e := held_cn (b := decide (lvlS op < L)) ((prT_cn a (max (lvlS op) 2) h2).app (Cn.byte b32 (Cn.put (good_bin h1 hm) (Cn.byte b32 (prT_cn b (lvlS op + 1) h3))))) Cn.nil
      rwa [List.append_nil, List.append_nil] at e
  | .ite a b c, L, h => by
    obtain ⟨h1, h2, h3⟩ := h
    have e1 := Cn.put good_else (Cn.byte b32 (prT_cn c 0 h3))
    have e2 := Cn.put good_then (Cn.byte b32 ((prT_cn b 0 h2).app (Cn.byte b32 e1)))
    have e3 := Cn.put good_if (Cn.byte b32 ((prT_cn a 0 h1).app (Cn.byte b32 e2)))
    have e := held_cn (b := decide ((0 : Int) < L)) e3 Cn.nil
    rw [List.append_nil, List.append_nil] at e
    exact e
def bodyX (q : RT) : List UInt8 := q.kind ++ 32 :: (q.name ++ 32 :: 61 :: 32 :: prT q.tree 0)
theorem lineX_eq (q : RT) : lineX q.kind q.name (prT q.tree 0) = bodyX q ++ [59, 10] := by simp [lineX, bodyX]
theorem body_cn {q : RT} (h : RtOk q) : Cn (bodyX q) ((1, q.kind) :: (1, q.name) :: (5, [61]) :: tkT q.tree 0) := by
  have e1 := Cn.put (u := [61]) good_61 (Cn.byte b32 (prT_cn q.tree 0 h.wf))
  exact Cn.put (good_kinds h.kind) (Cn.byte b32 (Cn.put h.good (Cn.byte b32 e1)))
theorem prog_open : ∀ (l : List RT), (∀ q ∈ l, RtOk q) → (progTx l).count 40 = cK (progKt l) ∧ (progTx l).count 10 = l.length
  | [], _ => ⟨rfl, rfl⟩
  | q :: l, h => by
    have hq := h q (by simp)
    have ih := prog_open l (fun x hx => h x (List.mem_cons_of_mem _ hx))
    have hb := body_cn hq
    have e1 : progTx (q :: l) = (bodyX q ++ [59, 10]) ++ progTx l := by unfold progTx; rw [List.flatMap_cons, lineX_eq]
    have e2 : progKt (q :: l) = lineK q ++ progKt l := List.flatMap_cons
    have e3 : cK (lineK q) = (bodyX q).count 40 := by
      rw [hb.1]
      simp [lineK, cK_cons, cK_app, cK_nil]
    rw [e1, e2, cK_app, e3]
    simp only [List.count_append, List.length_cons]
    rw [ih.1, ih.2, hb.2]
    refine ⟨?_, ?_⟩
    · simp
    · simp; omega
def Ends10 (t : List UInt8) : Prop := ∀ (i : Nat), t[i]? = some 10 → ∃ j : Nat, i = j + 1 ∧ t[j]? = some 59
theorem Ends10.app {s t : List UInt8} (h : Ends10 s) (g : Ends10 t) : Ends10 (s ++ t) := by
  intro i hi
  by_cases hlt : i < s.length
  · rw [List.getElem?_append_left hlt] at hi
    obtain ⟨j, rfl, hj⟩ := h i hi
    exact ⟨j, rfl, by rw [List.getElem?_append_left (by omega)]; exact hj⟩
  · rw [List.getElem?_append_right (by omega)] at hi
    obtain ⟨j, e, hj⟩ := g _ hi
    exact ⟨s.length + j, by omega, by rw [List.getElem?_append_right (by omega), Nat.add_sub_cancel_left]; exact hj⟩
theorem cnt_step {t : List UInt8} {i : Nat} (h : i < t.length) (d : UInt8) : ((t.take (i + 1)).count d : Nat) = (t.take i).count d + (if t[i] == d then 1 else 0) := by
  rw [List.take_add_one, List.getElem?_eq_getElem h, List.count_append]
  simp [List.count_cons]
end Pay
