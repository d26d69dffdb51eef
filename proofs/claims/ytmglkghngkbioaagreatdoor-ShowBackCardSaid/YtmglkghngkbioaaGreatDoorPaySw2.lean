/- A tree's text, its tokens; the text is read to the tokens, the tokens to the tree. -/
import Derived.Test.YtmglkghngkbioaaGreatDoorPayC41
import Derived.Test.YtmglkghngkbioaaGreatDoorPayC47
import Derived.Test.YtmglkghngkbioaaGreatDoorPayC48
import Derived.Test.YtmglkghngkbioaaGreatDoorPaySw1
import Derived.Test.YtmglkghngkbioaaGreatDoorPayTr1
import Derived.Test.YtmglkghngkbioaaGreatDoorPayTr2
import Derived.Test.YtmglkghngkbioaaGreatDoorPayTr3
import Derived.Test.YtmglkghngkbioaaGreatDoorPayTr5
import Derived.Test.YtmglkghngkbioaaGreatDoorPayTr6
set_option linter.unusedSimpArgs false
set_option linter.unusedVariables false
namespace Pay
open Go
def heldS (b : Bool) (s : List UInt8) : List UInt8 := if b then 40 :: (s ++ [41]) else s
abbrev Kt := Int × List UInt8
def heldK (b : Bool) (s : List Kt) : List Kt := if b then (5, [40]) :: (s ++ [(5, [41])]) else s
def mmB (op : List UInt8) : Bool := op == wMin || op == wMax
def lvT : Xt → Int
  | .leaf _ _ _ => 4
  | .neg _ => 4
  | .bin op _ _ => lvlS op
  | .ite _ _ _ => 0
def kdL (op : List UInt8) : Int := if op = wName then 1 else if op = wWhole then 2 else if op = wAmount then 3 else 4
/-- A tree's text, where so much must be bound. -/
def prT : Xt → Int → List UInt8
  | .leaf op nm v, _ => leafW (xLeaf op nm v)
  | .neg e, _ => 45 :: prT e 4
  | .bin op a b, L => if mmB op = true then op ++ 40 :: (prT a 0 ++ 44 :: 32 :: (prT b 0 ++ [41])) else heldS (decide (lvlS op < L)) (prT a (max (lvlS op) 2) ++ 32 :: (op ++ 32 :: prT b (lvlS op + 1)))
  | .ite a b c, L => heldS (decide (0 < L)) (wIf ++ 32 :: (prT a 0 ++ 32 :: (wThen ++ 32 :: (prT b 0 ++ 32 :: (wElse ++ 32 :: prT c 0)))))
def tkT : Xt → Int → List Kt
  | .leaf op nm v, _ => [(kdL op, leafW (xLeaf op nm v))]
  | .neg e, _ => (5, [45]) :: tkT e 4
  | .bin op a b, L => if mmB op = true then (1, op) :: (5, [40]) :: (tkT a 0 ++ (5, [44]) :: (tkT b 0 ++ [(5, [41])])) else heldK (decide (lvlS op < L)) (tkT a (max (lvlS op) 2) ++ (5, op) :: tkT b (lvlS op + 1))
  | .ite a b c, L => heldK (decide (0 < L)) ((1, wIf) :: (tkT a 0 ++ (1, wThen) :: (tkT b 0 ++ (1, wElse) :: tkT c 0)))
def ndT : Xt → Int → Nat
  | .leaf _ _ _, _ => 1
  | .neg e, _ => ndT e 4 + 1
  | .bin op a b, L => if mmB op = true then max (ndT a 0) (ndT b 0) + 1 else max (ndT a (max (lvlS op) 2)) (ndT b (lvlS op + 1)) + (if lvlS op < L then 1 else 0)
  | .ite a b c, L => max (ndT a 0) (max (ndT b 0) (ndT c 0)) + 1 + (if 0 < L then 1 else 0)
def IRange (v : Int) : Prop := -9223372036854775808 ≤ v ∧ v ≤ 9223372036854775807
def LfOk (op nm : List UInt8) (v : Int) : Prop := leafE ⟨kdL op, leafW (xLeaf op nm v), 0⟩ = some (.leaf op nm v) ∧ Good (kdL op) (leafW (xLeaf op nm v)) ∧ IRange v
def WfP : Xt → Prop
  | .leaf op nm v => LfOk op nm v
  | .neg e => WfP e
  | .bin op a b => op ∈ binOps ∧ WfP a ∧ WfP b
  | .ite a b c => WfP a ∧ WfP b ∧ WfP c
def cl (r : List UInt8) : Prop := ∀ c r', r = c :: r' → c = 32 ∨ c = 41 ∨ c = 44 ∨ c = 59
theorem cl_cons {c : UInt8} {r : List UInt8} (h : c = 32 ∨ c = 41 ∨ c = 44 ∨ c = 59) : cl (c :: r) := fun _ _ e => by cases e; exact h
theorem cl_stop {u r : List UInt8} (h : cl r) : Stop u r := by
  intro d u' c r' _ hr
  rcases h c r' hr with rfl | rfl | rfl | rfl
  all_goals exact ⟨fun _ => by decide, fun _ => by decide, fun _ => by simp⟩
theorem sign_stop {d : UInt8} (h : d = 40 ∨ d = 45) (r : List UInt8) : Stop [d] r := by
  intro d' u' c r' e hr
  simp only [List.cons.injEq] at e
  obtain ⟨rfl, rfl⟩ := e
  rcases h with rfl | rfl
  all_goals exact ⟨fun h => absurd h (by decide), fun h => absurd h (by decide), fun _ h => by simp at h⟩
theorem word_stop {u r : List UInt8} (h : ∀ d u', u = d :: u' → letB d = true) : Stop u (40 :: r) := by
  intro d u' c r' e hr
  simp only [List.cons.injEq] at hr
  obtain ⟨rfl, rfl⟩ := hr
  have := h d u' e
  refine ⟨fun _ => by decide, fun _ => by decide, fun _ => by simp⟩
/-- A text that is read to tokens, wherever it stands. -/
def Rd (r : List UInt8) (l : List Kt) : Prop := ∀ p, Same2 (lexT p r) l
theorem Rd.put {k : Int} {u r : List UInt8} {l : List Kt} (h : Good k u) (hs : Stop u r) (hr : Rd r l) : Rd (u ++ r) ((k, u) :: l) := fun p => by
  rw [lex_stop h hs]
  exact Same2.put (hr _)
theorem Rd.blank {r : List UInt8} {l : List Kt} (hr : Rd r l) : Rd (32 :: r) l := fun p => by
  rw [lexT_blank (.inl rfl)]
  exact hr _
theorem Rd.line {r : List UInt8} {l : List Kt} (hr : Rd r l) : Rd (10 :: r) l := fun p => by
  rw [lexT_blank (.inr rfl)]
  exact hr _
theorem Rd.nil : Rd [] [] := fun p => ⟨rfl, rfl⟩
theorem good_40 : Good 5 [40] := by have := good_of (t := [40]) (by decide); exact this
theorem good_41 : Good 5 [41] := by have := good_of (t := [41]) (by decide); exact this
theorem good_44 : Good 5 [44] := by have := good_of (t := [44]) (by decide); exact this
theorem good_45 : Good 5 [45] := by have := good_of (t := [45]) (by decide); exact this
theorem good_61 : Good 5 [61] := by have := good_of (t := [61]) (by decide); exact this
theorem good_if : Good 1 wIf := by have := good_of (t := wIf) (by decide); exact this
theorem good_then : Good 1 wThen := by have := good_of (t := wThen) (by decide); exact this
theorem good_else : Good 1 wElse := by have := good_of (t := wElse) (by decide); exact this
theorem mm_op {op : List UInt8} (h : mmB op = true) : op = wMin ∨ op = wMax := by simpa [mmB] using h
theorem good_mm {op : List UInt8} (h : mmB op = true) : Good 1 op := by
  rcases mm_op h with rfl | rfl
  · have := good_of (t := wMin) (by decide); exact this
  · have := good_of (t := wMax) (by decide); exact this
theorem good_bin {op : List UInt8} (h : op ∈ binOps) (hm : mmB op = false) : Good 5 op := by
  rcases bin_list h with rfl | rfl | rfl | rfl | rfl | rfl | rfl | rfl | rfl | rfl | rfl
  · have := good_of (t := [60]) (by decide); exact this
  · have := good_of (t := [60, 61]) (by decide); exact this
  · have := good_of (t := [61]) (by decide); exact this
  · have := good_of (t := [60, 62]) (by decide); exact this
  · have := good_of (t := [62]) (by decide); exact this
  · have := good_of (t := [62, 61]) (by decide); exact this
  · have := good_of (t := [43]) (by decide); exact this
  · have := good_of (t := [45]) (by decide); exact this
  · have := good_of (t := [42]) (by decide); exact this
  · exact absurd hm (by decide)
  · exact absurd hm (by decide)
theorem held_rd {b : Bool} {s r : List UInt8} {k l : List Kt} (h : ∀ r l, cl r → Rd r l → Rd (s ++ r) (k ++ l)) (hc : cl r) (hr : Rd r l) : Rd (heldS b s ++ r) (heldK b k ++ l) := by
  cases b with
  | false => exact h r l hc hr
  | true =>
    have := Rd.put good_40 (sign_stop (.inl rfl) _) (h ([41] ++ r) ((5, [41]) :: l) (cl_cons (.inr (.inl rfl))) (Rd.put good_41 (cl_stop hc) hr))
    simpa [heldS, heldK] using this
theorem lexP : ∀ (t : Xt) (L : Int), WfP t → ∀ (r : List UInt8) (l : List Kt), cl r → Rd r l → Rd (prT t L ++ r) (tkT t L ++ l)
  | .leaf op nm v, L, h, r, l, hc, hr => Rd.put h.2.1 (cl_stop hc) hr
  | .neg e, L, h, r, l, hc, hr => Rd.put good_45 (sign_stop (.inr rfl) _) (lexP e 4 h r l hc hr)
  | .bin op a b, L, h, r, l, hc, hr => by
    obtain ⟨h1, h2, h3⟩ := h
    unfold prT tkT
    cases hm : mmB op with
    | true =>
      simp only [if_true, hm, List.append_assoc, List.cons_append]
      have e1 := Rd.put good_41 (cl_stop hc) hr
      have e2 := lexP b 0 h3 _ _ (cl_cons (.inr (.inl rfl))) e1
      have e3 := Rd.put (u := [44]) good_44 (cl_stop (cl_cons (.inl rfl))) e2.blank
      have e4 := lexP a 0 h2 _ _ (cl_cons (.inr (.inr (.inl rfl)))) e3
      have e5 := Rd.put (u := [40]) good_40 (sign_stop (.inl rfl) _) e4
      have e6 := Rd.put (good_mm hm) (word_stop (by
        intro d u' e
        rcases mm_op hm with rfl | rfl
        · injection e with e _; subst e; decide
        · injection e with e _; subst e; decide)) e5
      simpa using e6
    | false =>
      simp only [Bool.false_eq_true, if_false, hm]
      refine held_rd (fun r l hc hr => ?_) hc hr
      have e1 := lexP b (lvlS op + 1) h3 r l hc hr
      have e2 := Rd.put (good_bin h1 hm) (cl_stop (cl_cons (.inl rfl))) e1.blank
      have e3 := lexP a (max (lvlS op) 2) h2 _ _ (cl_cons (.inl rfl)) e2.blank
      simpa using e3
  | .ite a b c, L, h, r, l, hc, hr => by
    obtain ⟨h1, h2, h3⟩ := h
    unfold prT tkT
    refine held_rd (fun r l hc hr => ?_) hc hr
    have e1 := lexP c 0 h3 r l hc hr
    have e2 := Rd.put good_else (cl_stop (cl_cons (.inl rfl))) e1.blank
    have e3 := lexP b 0 h2 _ _ (cl_cons (.inl rfl)) e2.blank
    have e4 := Rd.put good_then (cl_stop (cl_cons (.inl rfl))) e3.blank
    have e5 := lexP a 0 h1 _ _ (cl_cons (.inl rfl)) e4.blank
    have e6 := Rd.put good_if (cl_stop (cl_cons (.inl rfl))) e5.blank
    simpa using e6
end Pay
