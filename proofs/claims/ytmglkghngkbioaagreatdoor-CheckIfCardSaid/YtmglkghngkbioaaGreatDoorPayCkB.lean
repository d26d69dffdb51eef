/- A statement's arguments: programs, with their size. -/
import Derived.Test.YtmglkghngkbioaaGreatDoorPayBc0
import Derived.Test.YtmglkghngkbioaaGreatDoorPayTr1
set_option linter.unusedVariables false
namespace Pay
open Go
/-- What a program that came in is made of. -/
structure WfRl (r : Rul) : Prop where
  kind : r.kind.length ≤ maxLen
  name : r.name.length ≤ maxLen
  root : -9223372036854775808 ≤ r.root ∧ r.root < 9223372036854775808
structure WfXp (x : Xpr) : Prop where
  op : x.op.length ≤ maxLen
  name : x.name.length ≤ maxLen
  val : -9223372036854775808 ≤ x.val ∧ x.val < 9223372036854775808
  a : -9223372036854775808 ≤ x.a ∧ x.a < 9223372036854775808
  b : -9223372036854775808 ≤ x.b ∧ x.b < 9223372036854775808
  c : -9223372036854775808 ≤ x.c ∧ x.c < 9223372036854775808
abbrev shRl : List Sh := [.str, .str, .int .i64]
abbrev shXp : List Sh := [.str, .str, .int .i64, .int .i64, .int .i64, .int .i64]
theorem map_wf {α : Type} {enc : α → List D} {W : α → Prop} {ss : List Sh} (h : ∀ e, ConfC e ss → ∃ x, e = enc x ∧ W x) : ∀ (es : List (List D)), (∀ e ∈ es, ConfC e ss) → ∃ xs : List α, es = xs.map enc ∧ ∀ x ∈ xs, W x
  | [], _ => ⟨[], rfl, by simp⟩
  | e :: es, he => by
    obtain ⟨x, rfl, hx⟩ := h e (he e (by simp))
    obtain ⟨xs, rfl, hs⟩ := map_wf h es (fun y hy => he y (by simp [hy]))
    exact ⟨x :: xs, rfl, by simpa using ⟨hx, hs⟩⟩
theorem conf_strL {d : D} (h : Conf d .str) : ∃ s, d = .str s ∧ s.length ≤ maxLen := by
  cases d with
  | str s => exact ⟨s, rfl, h⟩
  | _ => exact h.elim
theorem conf_rl (e : List D) (h : ConfC e shRl) : ∃ x, e = encRl x ∧ WfRl x := by
  obtain ⟨d1, r, rfl, h1, h⟩ := confC_cons h
  obtain ⟨d2, r, rfl, h2, h⟩ := confC_cons h
  obtain ⟨d3, r, rfl, h3, h⟩ := confC_cons h
  obtain rfl := confC_nil h
  obtain ⟨s1, rfl, l1⟩ := conf_strL h1
  obtain ⟨s2, rfl, l2⟩ := conf_strL h2
  obtain ⟨n, rfl, w⟩ := conf_int h3
  exact ⟨⟨s1, s2, n⟩, rfl, l1, l2, wf_i64 w⟩
theorem conf_xp (e : List D) (h : ConfC e shXp) : ∃ x, e = encX x ∧ WfXp x := by
  obtain ⟨d1, r, rfl, h1, h⟩ := confC_cons h
  obtain ⟨d2, r, rfl, h2, h⟩ := confC_cons h
  obtain ⟨d3, r, rfl, h3, h⟩ := confC_cons h
  obtain ⟨d4, r, rfl, h4, h⟩ := confC_cons h
  obtain ⟨d5, r, rfl, h5, h⟩ := confC_cons h
  obtain ⟨d6, r, rfl, h6, h⟩ := confC_cons h
  obtain rfl := confC_nil h
  obtain ⟨s1, rfl, l1⟩ := conf_strL h1
  obtain ⟨s2, rfl, l2⟩ := conf_strL h2
  obtain ⟨n3, rfl, w3⟩ := conf_int h3
  obtain ⟨n4, rfl, w4⟩ := conf_int h4
  obtain ⟨n5, rfl, w5⟩ := conf_int h5
  obtain ⟨n6, rfl, w6⟩ := conf_int h6
  exact ⟨⟨s1, s2, n3, n4, n5, n6⟩, rfl, l1, l2, wf_i64 w3, wf_i64 w4, wf_i64 w5, wf_i64 w6⟩
abbrev shPg : Bool × List Sh := (true, [.sl shRl, .sl shXp])
theorem confA_prog {ss : List (Bool × List Sh)} {dss : List (List D)} (h : ConfA (shPg :: ss) dss) :
    ∃ (p : Prog) (r : List (List D)), dss = [.sl (p.rules.map encRl), .sl (p.exprs.map encX)] :: r ∧ ((∀ x ∈ p.rules, WfRl x) ∧ ∀ x ∈ p.exprs, WfXp x) ∧ ConfA ss r := by
  obtain ⟨ds, r, rfl, h1, h2⟩ := confA_cons h
  obtain ⟨d1, q, rfl, k1, h1⟩ := confC_cons h1
  obtain ⟨d2, q, rfl, k2, h1⟩ := confC_cons h1
  obtain rfl := confC_nil h1
  obtain ⟨es1, rfl, e1⟩ := conf_sl k1
  obtain ⟨es2, rfl, e2⟩ := conf_sl k2
  obtain ⟨rs, rfl, w1⟩ := map_wf conf_rl es1 e1
  obtain ⟨xs, rfl, w2⟩ := map_wf conf_xp es2 e2
  exact ⟨⟨rs, xs⟩, r, rfl, ⟨w1, w2⟩, h2⟩
/-- The rows of a program's rules are not more than memory holds. -/
theorem szA_prog {p : Prog} {dss : List (List D)} {zs : List (List (Option Nat))} (h : SzA ([some 40, some 64] :: zs) ([.sl (p.rules.map encRl), .sl (p.exprs.map encX)] :: dss)) : p.rules.length * 40 ≤ 140737488355328 := by
  have := h.1.1 _ rfl
  rw [List.length_map] at this
  unfold reachBytes at this
  omega
end Pay
