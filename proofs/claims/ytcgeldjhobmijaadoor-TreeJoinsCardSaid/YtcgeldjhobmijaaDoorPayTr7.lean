/- Plain laws: two rule sets, one behind the other. -/
import Derived.Test.YtcgeldjhobmijaaDoorPayC41
import Derived.Test.YtcgeldjhobmijaaDoorPayC43
import Derived.Test.YtcgeldjhobmijaaDoorPayC44
import Derived.Test.YtcgeldjhobmijaaDoorPayC47
import Derived.Test.YtcgeldjhobmijaaDoorPayC48
import Derived.Test.YtcgeldjhobmijaaDoorPayTr1
import Derived.Test.YtcgeldjhobmijaaDoorPayTr2
import Derived.Test.YtcgeldjhobmijaaDoorPayTr3
import Derived.Test.YtcgeldjhobmijaaDoorPayTr4
set_option linter.unusedSimpArgs false
set_option linter.unusedVariables false
namespace Pay
def Code {α : Type} (x : Except Er α) : Prop := ∀ e, x = .error e → e.1 = 2 ∨ e.1 = 9
def CodeF (f : List Tok → TR) : Prop := ∀ ts, Code (f ts)
theorem code_ok {α : Type} (a : α) : Code (.ok a : Except Er α) := fun e h => by cases h
theorem code_2 {α : Type} (p : Int) : Code (.error (2, p) : Except Er α) := fun e h => by injection h with h; subst h; exact .inl rfl
theorem code_9 {α : Type} (p : Int) : Code (.error (9, p) : Except Er α) := fun e h => by injection h with h; subst h; exact .inr rfl
theorem Code.bind {α β : Type} {x : Except Er α} {f : α → Except Er β} (hx : Code x) (hf : ∀ a, Code (f a)) : Code (x >>= f) := by
  cases x with
  | ok a => exact hf a
  | error e => exact fun e' h => hx e' (by injection h with h; rw [h])
theorem need_code (en : Nat) (s : List UInt8) (ts : List Tok) : Code (needK en s ts) := by
  unfold needK
  split
  · exact code_ok _
  · exact code_2 _
theorem leaf_code (en : Nat) : CodeF (leafK en) := by
  intro ts
  unfold leafK
  split
  · exact code_2 _
  · split
    · exact code_ok _
    · exact code_2 _
theorem chainK_code {f : List Tok → TR} (hf : CodeF f) {ops : List (List UInt8)} : ∀ (n : Nat) (ts : List Tok) (a : Xt), Code (chainK f ops n ts a)
  | 0, ts, a => code_ok _
  | n + 1, ts, a => by
    unfold chainK
    split
    · exact code_ok _
    · rename_i op r _
      have := hf r
      split
      · rename_i e h; rw [h] at this; exact fun e' h' => this e' (by injection h' with h'; rw [h'])
      · exact chainK_code hf n _ _
theorem chain_code {f : List Tok → TR} (hf : CodeF f) {ops : List (List UInt8)} : CodeF (chainT f ops) := by
  intro ts
  have := hf ts
  unfold chainT
  split
  · rename_i e h; rw [h] at this; exact fun e' h' => this e' (by injection h' with h'; rw [h'])
  · exact chainK_code hf _ _ _
theorem pair_code (en : Nat) {f : List Tok → TR} (hf : CodeF f) (op : List UInt8) : CodeF (pairK en f op) := fun ts =>
  (need_code _ _ _).bind fun _ => (hf _).bind fun _ => (need_code _ _ _).bind fun _ => (hf _).bind fun _ => (need_code _ _ _).bind fun _ => code_ok _
theorem ite_code (en : Nat) {f : List Tok → TR} (hf : CodeF f) : CodeF (iteK en f) := fun ts =>
  (hf _).bind fun _ => (need_code _ _ _).bind fun _ => (hf _).bind fun _ => (need_code _ _ _).bind fun _ => (hf _).bind fun _ => code_ok _
theorem fac_code (en : Nat) {f g : List Tok → TR} (hf : CodeF f) (hg : CodeF g) : CodeF (facK en f g) := by
  intro ts
  unfold facK
  split
  · exact (hf _).bind fun _ => code_ok _
  · split
    · exact pair_code en hg _ _
    · split
      · exact (hg _).bind fun _ => (need_code _ _ _).bind fun _ => code_ok _
      · exact leaf_code en _
theorem cmp_code {f : List Tok → TR} (hf : CodeF f) : CodeF (cmpT f) := fun ts =>
  (hf _).bind fun p => by
    simp only
    split
    · exact (hf _).bind fun _ => code_ok _
    · exact code_ok _
theorem exprK_code (en : Nat) {f g : List Tok → TR} (hf : CodeF f) (hg : CodeF g) : CodeF (exprK en f g) := by
  intro ts
  unfold exprK
  split
  · exact ite_code en hg _
  · exact cmp_code (chain_code (chain_code hf)) _
theorem prK_code (en : Nat) : ∀ d, CodeF (prK en d).1 ∧ CodeF (prK en d).2
  | 0 => ⟨fun ts => code_9 _, fun ts => code_9 _⟩
  | d + 1 => by
    obtain ⟨h1, h2⟩ := prK_code en d
    exact ⟨fac_code en h1 h2, exprK_code en (fac_code en h1 h2) h2⟩
theorem rule_code (en n : Nat) (ts : List Tok) : Code (ruleK en n ts) := by
  unfold ruleK
  split
  · exact code_2 _
  · split
    · exact code_9 _
    · split
      · split
        · exact code_2 _
        · split
          · exact (need_code _ _ _).bind fun _ => ((prK_code en 20).2 _).bind fun _ => (need_code _ _ _).bind fun _ => code_ok _
          · exact code_2 _
      · exact code_2 _
theorem prog_code (en : Nat) : ∀ (f n : Nat) (ts : List Tok), Code (progK en f n ts)
  | 0, _, _ => code_ok _
  | f + 1, n, ts => by
    unfold progK
    split
    · exact code_ok _
    · have := rule_code en n ts
      split
      · rename_i e h; rw [h] at this; exact fun e' h' => this e' (by injection h' with h'; rw [h'])
      · rename_i q r _
        have := prog_code en f (n + 1) r
        split
        · rename_i e h; rw [h] at this; exact fun e' h' => this e' (by injection h' with h'; rw [h'])
        · exact code_ok _
theorem read_cases (s : List UInt8) : ((parseP s).1 = ⟨[], []⟩ ∧ ((parseP s).2.2 = 2 ∨ (parseP s).2.2 = 9)) ∨
    ∃ ts l, lexS s = (ts, none) ∧ readT s.length ts = .ok l ∧ (∀ q ∈ l, WfT q.tree) ∧ parseP s = (progOf l, 0, 0) := by
  unfold parseP
  cases hl : lexS s with | mk ts o =>
  cases o with
  | some e => exact .inl ⟨rfl, .inl rfl⟩
  | none =>
    simp only
    rw [parseT_eq]
    cases hr : readT s.length ts with
    | error e => exact .inl ⟨rfl, prog_code _ _ _ _ e hr⟩
    | ok l => exact .inr ⟨ts, l, rfl, hr, prog_wf _ _ _ _ hr, rfl⟩
theorem sign_ok {s : List UInt8} {ts : List Tok} (h : lexS s = (ts, none)) : ∀ t ∈ ts, t.kind = 5 → kindsL.contains t.text = false := fun t ht h5 =>
  good_sign (lex_good s 0 t (by rw [← lexS_T, h]; exact ht)) h5
theorem joins_law {s t : List UInt8} {ts : List Tok} {l : List RT} (hs : lexS s = (ts, none)) (hl : readT s.length ts = .ok l) :
    (∃ m, (∀ q ∈ m, WfT q.tree) ∧ parseP t = (progOf m, 0, 0) ∧ (60 < l.length + m.length → (parseP (s ++ 10 :: t)).2.2 = 9) ∧ (l.length + m.length ≤ 60 → parseP (s ++ 10 :: t) = (progOf (l ++ m), 0, 0))) ∨
    ((parseP t).1 = ⟨[], []⟩ ∧ ((parseP t).2.2 = 2 ∨ (parseP t).2.2 = 9) ∧ (parseP (s ++ 10 :: t)).1 = ⟨[], []⟩ ∧
      (((parseP (s ++ 10 :: t)).2.2 = (parseP t).2.2 ∧ (parseP (s ++ 10 :: t)).2.1 = (parseP t).2.1 + s.length + 1) ∨ (parseP (s ++ 10 :: t)).2.2 = 9)) := by
  have hlex : lexS (s ++ 10 :: t) = lexJoin (ts, none) (lexUp (s.length + 1) (lexS t)) := by
    rw [lexS_T, lex_join, ← lexS_T, hs, lexT_at, Nat.zero_add, ← lexS_T]
  have h60 := prog_60 ts.length 0 ts l (sign_ok hs) (by omega) hl
  have hlen : (s ++ 10 :: t).length = t.length + (s.length + 1) := by simp; omega
  unfold parseP
  rw [hlex, hlen]
  cases ht : lexS t with | mk us o =>
  cases o with
  | some e =>
    right
    have : us = [] := by
      have := lex_none t 0 e (by rw [← lexS_T, ht])
      rw [← lexS_T, ht] at this
      exact this
    subst this
    simp only [lexUp, List.map_nil, Option.map_some, lexJoin]
    refine ⟨?_, .inl ?_, ?_, .inl ⟨?_, ?_⟩⟩ <;> first | trivial | omega
  | none =>
    simp only [lexUp, Option.map_none, lexJoin]
    rw [parseT_eq, parseT_eq]
    have e1 : readT (t.length + (s.length + 1)) (ts ++ us.map (tokUp (s.length + 1))) = match progK (t.length + (s.length + 1)) (us.map (tokUp (s.length + 1))).length l.length (us.map (tokUp (s.length + 1))) with
        | .ok m => .ok (l ++ m)
        | .error e => .error e := by
      unfold readT
      have := prog_app (en' := t.length + (s.length + 1)) (us := us.map (tokUp (s.length + 1))) ts.length 0 ts l (Nat.le_refl _) hl
      rw [List.length_append, this, Nat.zero_add]
      cases progK (t.length + (s.length + 1)) (us.map (tokUp (s.length + 1))).length l.length (us.map (tokUp (s.length + 1))) <;> rfl
    rw [e1]
    have hR := prog_R (P := fun p q => q = p + ((s.length + 1 : Nat) : Int)) (en := t.length) (en' := t.length + (s.length + 1)) (by simp) us.length 0 (tokR_up (s.length + 1) us)
    have hlim := prog_limit (en := t.length + (s.length + 1)) us.length 0 l.length (us.map (tokUp (s.length + 1))) (Nat.zero_le _)
    have hsg : ∀ x ∈ us.map (tokUp (s.length + 1)), x.kind = 5 → kindsL.contains x.text = false := by
      intro x hx h5
      obtain ⟨y, hy, rfl⟩ := List.mem_map.1 hx
      exact sign_ok ht y hy h5
    rw [List.length_map]
    cases hr : readT t.length us with
    | ok m =>
      left
      have hr' : progK t.length us.length 0 us = .ok m := hr
      rw [hr'] at hR
      cases hy : progK (t.length + (s.length + 1)) us.length 0 (us.map (tokUp (s.length + 1))) with
      | error e => rw [hy] at hR; exact hR.elim
      | ok m' =>
        rw [hy] at hR
        have hR : m = m' := hR
        subst hR
        refine ⟨m, prog_wf _ _ _ _ hr', rfl, fun h => ?_, fun h => ?_⟩
        · obtain ⟨p, hp⟩ := prog_beyond us.length 0 l.length _ m hsg (Nat.zero_le _) (by omega) hy h
          rw [hp]
        · rw [prog_within us.length 0 l.length _ m (Nat.zero_le _) hy h]
    | error e =>
      right
      have hr' : progK t.length us.length 0 us = .error e := hr
      have hc := prog_code _ _ _ _ e hr'
      rw [hr'] at hR
      cases hy : progK (t.length + (s.length + 1)) us.length 0 (us.map (tokUp (s.length + 1))) with
      | ok m' => rw [hy] at hR; exact hR.elim
      | error e' =>
        rw [hy] at hR hlim
        obtain ⟨q1, q2⟩ : e.1 = e'.1 ∧ e'.2 = e.2 + ((s.length + 1 : Nat) : Int) := hR
        refine ⟨rfl, hc, ?_⟩
        rcases hlim with h | ⟨p, h⟩
        · rw [h]
          refine ⟨rfl, .inl ⟨q1.symm, ?_⟩⟩
          simp only
          rw [q2]; omega
        · rw [h]
          exact ⟨rfl, .inr rfl⟩
theorem lex_err (e : Nat) : ∀ (t : List UInt8) (p : Nat), (lexT p t).2 = some e → e ≤ p + t.length := by
  refine lex_ind (M := fun t => ∀ p, (lexT p t).2 = some e → e ≤ p + t.length) ?_ ?_ ?_ ?_ ?_
  · intro p h; cases h
  · intro c r h ih p hp; rw [lexT_blank h] at hp; have := ih _ hp; simp only [List.length_cons]; omega
  · intro r ih p hp
    rw [lexT_line] at hp
    have := ih _ hp
    have hle := runN_le lineB r
    rw [List.length_drop] at this
    simp only [List.length_cons]; omega
  · intro t h ih p hp
    rw [lexT_tok h] at hp
    have ho := oneS_pos h
    have h2 : (lexT (p + (oneS t).2) (t.drop (oneS t).2)).2 = some e := by
      rcases hx : lexT (p + (oneS t).2) (t.drop (oneS t).2) with ⟨ts, _ | e'⟩
      · rw [hx] at hp; cases hp
      · rw [hx] at hp; exact hp
    have := ih _ h2
    rw [List.length_drop] at this
    omega
  · intro c r h1 h2 h3 p hp
    rw [lexT_bad h1 h2 h3] at hp
    injection hp with hp
    subst hp
    simp only [List.length_cons]; omega
theorem chain_pos {s : List UInt8} : ∀ {ts : List Tok} {e : Nat}, Chain s e ts → TokR (fun p q => 0 ≤ p ∧ p ≤ (s.length : Int)) ts ts
  | [], _, _ => trivial
  | x :: r, e, h => ⟨rfl, rfl, by have := h.2.2.1; omega, chain_pos h.2.2.2.2⟩
theorem parse_place (s : List UInt8) : 0 ≤ (parseP s).2.1 ∧ (parseP s).2.1 ≤ (s.length : Int) := by
  unfold parseP
  cases hl : lexS s with | mk ts o =>
  cases o with
  | some e =>
    have := lex_err e s 0 (by rw [← lexS_T, hl])
    simp only
    omega
  | none =>
    have hc : Chain s 0 ts := by
      have := lex_chain s s 0 rfl (Nat.zero_le _)
      rw [← lexS_T, hl] at this
      exact this
    simp only
    rw [parseT_eq]
    have := read_R (P := fun p q => 0 ≤ p ∧ p ≤ (s.length : Int)) (en := s.length) (en' := s.length) (by omega) (chain_pos hc)
    cases hr : readT s.length ts with
    | error e => rw [hr] at this; exact this.2
    | ok l => simp
end Pay
