/- What the laws of texts say, plainly. -/
import Derived.Test.YtmglkghngkbioaaGreatDoorPayC44
import Derived.Test.YtmglkghngkbioaaGreatDoorPayC48
import Derived.Test.YtmglkghngkbioaaGreatDoorPayC61
import Derived.Test.YtmglkghngkbioaaGreatDoorPayC65
import Derived.Test.YtmglkghngkbioaaGreatDoorPaySw1
import Derived.Test.YtmglkghngkbioaaGreatDoorPaySw2
import Derived.Test.YtmglkghngkbioaaGreatDoorPaySw4
import Derived.Test.YtmglkghngkbioaaGreatDoorPaySw5
import Derived.Test.YtmglkghngkbioaaGreatDoorPaySw6
import Derived.Test.YtmglkghngkbioaaGreatDoorPaySw7
import Derived.Test.YtmglkghngkbioaaGreatDoorPayTr1
import Derived.Test.YtmglkghngkbioaaGreatDoorPayTr2
import Derived.Test.YtmglkghngkbioaaGreatDoorPayTr3
set_option linter.unusedSimpArgs false
set_option linter.unusedVariables false
namespace Pay
open Go
theorem sprog_PK {all : List Tok} {en : Nat} : ∀ (n : Nat) (x : PS), PK all x → PK all (progL en n x)
  | 0, x, h => h
  | n + 1, x, h => by
    unfold progL
    split
    · exact h
    · exact sprog_PK n _ h.rule
theorem sparse_small (s : List UInt8) (hs : s.length < 100000) : (parseP s).1.rules.length ≤ s.length ∧ (parseP s).1.exprs.length ≤ s.length := by
  unfold parseP
  cases hl : lexS s with | mk ts o =>
  cases o with
  | some e => simp
  | none =>
    have hp := sprog_PK (en := s.length) ts.length _ (lex_PK hs hl)
    have h1 := hp.many
    have h2 := hp.rules
    have hc : ts.length ≤ s.length := by
      have hc : Chain s 0 ts := by
        have := lex_chain s s 0 rfl (Nat.zero_le _)
        rw [← lexS_T, hl] at this
        exact this
      have := chain_many hc (Nat.zero_le _)
      omega
    simp only
    unfold parseT
    simp only
    split
    · simp only; omega
    · simp
theorem lf_len {op nm : List UInt8} {v : Int} (h : LfOk op nm v) : (leafW (xLeaf op nm v)).length ≤ 64 :=
  leafW_len (x := xLeaf op nm v) h.2.2 (by
    rcases lf_cases h with ⟨rfl, hg, _⟩ | ⟨rfl, _⟩
    · exact good_len1 hg
    · show ([] : List UInt8).length ≤ 12; decide)
theorem held_len (b : Bool) (s : List UInt8) : (heldS b s).length ≤ s.length + 2 := by
  cases b <;> simp [heldS]
theorem prT_len : ∀ (t : Xt) (L : Int), WfP t → (prT t L).length ≤ 64 * t.size
  | .leaf op nm v, L, h => by
    have := lf_len h
    show (leafW (xLeaf op nm v)).length ≤ 64 * 1
    omega
  | .neg e, L, h => by
    have := prT_len e 4 h
    show (prT e 4).length + 1 ≤ 64 * (e.size + 1)
    omega
  | .bin op a b, L, h => by
    obtain ⟨h1, h2, h3⟩ := h
    have ho := bin_len h1
    have a0 := prT_len a 0 h2
    have b0 := prT_len b 0 h3
    have a1 := prT_len a (max (lvlS op) 2) h2
    have b1 := prT_len b (lvlS op + 1) h3
    show _ ≤ 64 * (a.size + b.size + 1)
    unfold prT
    split
    · simp only [List.length_append, List.length_cons, List.length_nil]; omega
    · refine Nat.le_trans (held_len _ _) ?_
      simp only [List.length_append, List.length_cons, List.length_nil]; omega
  | .ite a b c, L, h => by
    obtain ⟨h1, h2, h3⟩ := h
    have a0 := prT_len a 0 h1
    have b0 := prT_len b 0 h2
    have c0 := prT_len c 0 h3
    show (heldS _ _).length ≤ 64 * (a.size + b.size + c.size + 1)
    refine Nat.le_trans (held_len _ _) ?_
    simp only [List.length_append, List.length_cons, List.length_nil]; omega
theorem progTx_len : ∀ (l : List RT) (n : Nat), (∀ q ∈ l, RtOk q) → (progTx l).length ≤ 64 * (exprsOf n l).length + 64 * l.length
  | [], n, _ => by simp [progTx]
  | q :: l, n, h => by
    have hq := h q (by simp)
    have ih := progTx_len l (n + q.tree.size) (fun x hx => h x (List.mem_cons_of_mem _ hx))
    have h1 := prT_len q.tree 0 hq.wf
    have h2 := good_len1 (good_kinds hq.kind)
    have h3 := good_len1 hq.good
    have hL : (lineX q.kind q.name (prT q.tree 0)).length ≤ 32 + 64 * q.tree.size := by
      simp only [lineX, List.length_append, List.length_cons, List.length_nil]; omega
    unfold progTx at ih ⊢
    rw [List.flatMap_cons, List.length_append]
    show _ ≤ 64 * (flat n q.tree ++ exprsOf (n + q.tree.size) l).length + 64 * (l.length + 1)
    rw [List.length_append, flat_len]
    omega
/-- What is read of a short text. -/
structure ReadOk (s : List UInt8) (l : List RT) : Prop where
  rts : ∀ q ∈ l, RtOk q
  many : l.length ≤ 60
  eq : parseP s = (progOf l, 0, 0)
  size : (progOf l).exprs.length ≤ s.length
  cnt : cK (progKt l) ≤ s.count 40
theorem read_facts (s : List UInt8) (hs : s.length < 100000) : ((parseP s).2.2 ≠ 0 ∧ (parseP s).1 = ⟨[], []⟩) ∨ ∃ l, ReadOk s l := by
  rcases parse_fit s with h | ⟨l, h1, h2, h3, h4⟩
  · exact .inl h
  · have h5 := (sparse_small s hs).2
    rw [h3] at h5
    exact .inr ⟨l, h1, h2, h3, h5, h4⟩
theorem prog_rules {l : List RT} (hn : l.length ≤ 60) : (progOf l).rules.length ≤ 60 := by
  show (rulesOf 0 l).length ≤ 60
  rw [rulesOf_len]; exact hn
theorem prog_okE {l : List RT} (h : ∀ q ∈ l, RtOk q) (hn : l.length ≤ 60) (hx : (progOf l).exprs.length < 100000) : OkE (progOf l).exprs := by
  have hs := sound_prog h hn
  refine ⟨?_, fun x hx => ?_, hx⟩
  · simp only [soundP, Bool.and_eq_true] at hs
    exact hs.1.1
  · obtain ⟨j, hj, rfl⟩ := List.mem_iff_getElem.1 hx
    exact (exprs_sound l 0 h j _ (List.getElem?_eq_getElem hj)).2
theorem prog_text_len {l : List RT} (h : ∀ q ∈ l, RtOk q) (hn : l.length ≤ 60) (hx : (progOf l).exprs.length ≤ 1000) : (progTx l).length < 100000 := by
  have h1 := progTx_len l 0 h
  have h2 : (exprsOf 0 l).length ≤ 1000 := hx
  omega
end Pay
