/- Plain laws: a token ahead of anything that is no part of it; a sum of numbers, from the left. -/
import Derived.KernelRfl
import Derived.Test.YtmglkghngkbioaaGreatDoorPayBc0
import Derived.Test.YtmglkghngkbioaaGreatDoorPayC41
import Derived.Test.YtmglkghngkbioaaGreatDoorPayC43
import Derived.Test.YtmglkghngkbioaaGreatDoorPayC44
import Derived.Test.YtmglkghngkbioaaGreatDoorPayC47
import Derived.Test.YtmglkghngkbioaaGreatDoorPayC48
import Derived.Test.YtmglkghngkbioaaGreatDoorPayTr2
import Derived.Test.YtmglkghngkbioaaGreatDoorPayTr3
set_option linter.unusedSimpArgs false
set_option linter.unusedVariables false
namespace Pay
/-- What stands behind a token is no part of it. -/
def Stop (u r : List UInt8) : Prop := ∀ d u' c r', u = d :: u' → r = c :: r' →
  (letB d = true → wordB c = false) ∧ (digB d = true → numB c = false) ∧ (u' = [] → ¬ ((d = 60 ∧ (c = 61 ∨ c = 62)) ∨ (d = 62 ∧ c = 61)))
theorem run_all {p : UInt8 → Bool} : ∀ {u : List UInt8}, runN p u = u.length → u.all p = true
  | [], _ => rfl
  | c :: u, h => by
    rw [runN, List.takeWhile_cons] at h
    cases hc : p c with
    | false => rw [hc] at h; simp at h
    | true =>
      rw [hc] at h
      simp only [if_true, List.length_cons, Nat.add_right_cancel_iff] at h
      simp only [List.all_cons, hc, Bool.true_and]
      exact run_all (u := u) h
theorem Good.stop {k : Int} {u : List UInt8} (h : Good k u) {r : List UInt8} (hs : Stop u r) : oneS (u ++ r) = (k, u.length) := by
  have e := h.self
  obtain ⟨d, u', rfl⟩ := h.cons
  have hs : ∀ c r', r = c :: r' → _ := fun c r' hr => hs d u' c r' rfl hr
  rw [List.cons_append]
  rw [oneS_cons] at e ⊢
  by_cases h1 : letB d = true
  · rw [if_pos h1] at e ⊢
    by_cases h2 : runN wordB (d :: u') > 12
    · rw [if_pos h2] at e
      exact absurd (congrArg Prod.fst e).symm h.ne
    · rw [if_neg h2] at e
      have hl : runN wordB (d :: u') = (d :: u').length := congrArg Prod.snd e
      have ha := runN_app (p := wordB) (u := d :: u') (r := r) (run_all hl) (fun c r' hr => (hs c r' hr).1 h1)
      rw [List.cons_append] at ha
      rw [ha, if_neg (by omega)]
      rw [← e, hl]
  · rw [if_neg h1] at e ⊢
    by_cases h2 : digB d = true
    · rw [if_pos h2] at e ⊢
      have hl : runN numB (d :: u') = (d :: u').length := congrArg Prod.snd e
      have ha := runN_app (p := numB) (u := d :: u') (r := r) (run_all hl) (fun c r' hr => (hs c r' hr).2.1 h2)
      rw [List.cons_append] at ha
      rw [hl, List.take_length] at e
      rw [ha, ← e, show (d :: (u' ++ r)).take (d :: u').length = d :: u' by rw [← List.cons_append]; simp]
    · rw [if_neg h2] at e ⊢
      by_cases h3 : signN (d :: u') = 0
      · rw [if_pos h3] at e
        exact absurd (congrArg Prod.fst e).symm h.ne
      · rw [if_neg h3] at e
        have hl : signN (d :: u') = (d :: u').length := congrArg Prod.snd e
        have hc : signSet.contains d = true := by
          rw [signN_eq] at h3
          cases hc : signSet.contains d with
          | true => rfl
          | false => rw [hc] at h3; exact absurd rfl h3
        have key : signN (d :: (u' ++ r)) = (d :: u').length := by
          rw [signN_eq, if_pos hc] at hl ⊢
          cases u' with
          | nil =>
            cases r with
            | nil => exact hl
            | cons c r =>
              have := (hs c r rfl).2.2 rfl
              simp only [List.nil_append, signR]
              rw [if_neg this]
              rfl
          | cons c u' => exact hl
        rw [key, if_neg (by simp), ← e, hl]
theorem lex_stop {k : Int} {u : List UInt8} (h : Good k u) {r : List UInt8} (hs : Stop u r) (p : Nat) : lexT p (u ++ r) = lexPut k u p (lexT (p + u.length) r) := by
  have e := h.stop hs
  rw [lexT_tok (by rw [e]; exact h.ne), e]
  simp
theorem stop_sep {u r : List UInt8} (h : sepHead r) : Stop u r := by
  intro d u' c r' _ hr
  have hc : c = 32 ∨ c = 10 := h c r' hr
  rcases hc with rfl | rfl
  · exact ⟨fun _ => by decide, fun _ => by decide, fun _ => by simp⟩
  · exact ⟨fun _ => by decide, fun _ => by decide, fun _ => by simp⟩
theorem semi_good : Good 5 [59] := by
  have := good_of (t := [59]) (by decide)
  exact this
def toks (l : List (Int × List UInt8)) : List Tok := l.map fun x => ⟨x.1, x.2, 0⟩
theorem toks_kt (l : List (Int × List UInt8)) : (toks l).map kt = l := by
  unfold toks
  rw [List.map_map]
  conv => rhs; rw [← List.map_id l]
  rfl
theorem take_other {l : List (List UInt8)} {s : List UInt8} (h : l.contains s = false) (k : Int) (p : Nat) (r : List Tok) : takeK l (⟨k, s, p⟩ :: r) = none := by
  unfold takeK
  simp only
  rw [if_neg]
  rintro ⟨_, h2⟩
  rw [h] at h2; cases h2
theorem prog_nil {en : Nat} (f n : Nat) : progK en f n [] = .ok [] := by cases f <;> simp [progK]
end Pay
