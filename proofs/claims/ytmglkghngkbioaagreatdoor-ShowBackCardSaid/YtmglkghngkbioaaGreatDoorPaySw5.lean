/- A program's text is read to the program. -/
import Derived.Test.YtmglkghngkbioaaGreatDoorPayC43
import Derived.Test.YtmglkghngkbioaaGreatDoorPayC44
import Derived.Test.YtmglkghngkbioaaGreatDoorPayC47
import Derived.Test.YtmglkghngkbioaaGreatDoorPayC48
import Derived.Test.YtmglkghngkbioaaGreatDoorPayC61
import Derived.Test.YtmglkghngkbioaaGreatDoorPaySw2
import Derived.Test.YtmglkghngkbioaaGreatDoorPaySw3
import Derived.Test.YtmglkghngkbioaaGreatDoorPaySw4
import Derived.Test.YtmglkghngkbioaaGreatDoorPayTr1
import Derived.Test.YtmglkghngkbioaaGreatDoorPayTr2
import Derived.Test.YtmglkghngkbioaaGreatDoorPayTr3
import Derived.Test.YtmglkghngkbioaaGreatDoorPayTr5
import Derived.Test.YtmglkghngkbioaaGreatDoorPayTr6
set_option linter.unusedSimpArgs false
set_option linter.unusedVariables false
namespace Pay
open Go
structure RtOk (q : RT) : Prop where
  kind : q.kind ∈ kindsL
  good : Good 1 q.name
  named : namedB q.name = true
  wf : WfP q.tree
  nd : ndT q.tree 0 ≤ 20
def lineK (q : RT) : List Kt := (1, q.kind) :: (1, q.name) :: (5, [61]) :: (tkT q.tree 0 ++ [(5, [59])])
def progKt (l : List RT) : List Kt := l.flatMap lineK
def lineX (kind name body : List UInt8) : List UInt8 := kind ++ [32] ++ name ++ [32, 61, 32] ++ body ++ [59, 10]
def progTx (l : List RT) : List UInt8 := l.flatMap fun q => lineX q.kind q.name (prT q.tree 0)
theorem good_kinds {k : List UInt8} (h : k ∈ kindsL) : Good 1 k := by
  simp only [kindsL, List.mem_cons, List.not_mem_nil, or_false] at h
  rcases h with rfl | rfl | rfl | rfl
  · have := good_of (t := wEarn) (by decide); exact this
  · have := good_of (t := wPretax) (by decide); exact this
  · have := good_of (t := wPost) (by decide); exact this
  · have := good_of (t := wLet) (by decide); exact this
theorem line_rd {q : RT} (h : RtOk q) {r : List UInt8} {l : List Kt} (hr : Rd r l) : Rd (lineX q.kind q.name (prT q.tree 0) ++ r) (lineK q ++ l) := by
  have e1 : Rd (59 :: (10 :: r)) ((5, [59]) :: l) := Rd.put (u := [59]) semi_good (stop_sep (sep_cons (.inr rfl))) hr.line
  have e2 := lexP q.tree 0 h.wf _ _ (cl_cons (.inr (.inr (.inr rfl)))) e1
  have e3 := Rd.put (u := [61]) good_61 (stop_sep (sep_cons (.inl rfl))) e2.blank
  have e4 := Rd.put h.good (cl_stop (cl_cons (.inl rfl))) e3.blank
  have e5 := Rd.put (good_kinds h.kind) (cl_stop (cl_cons (.inl rfl))) e4.blank
  simpa [lineX, lineK] using e5
theorem prog_rd : ∀ (l : List RT), (∀ q ∈ l, RtOk q) → Rd (progTx l) (progKt l)
  | [], _ => Rd.nil
  | q :: l, h => by
    unfold progTx progKt
    rw [List.flatMap_cons, List.flatMap_cons]
    exact line_rd (h q (by simp)) (prog_rd l (fun x hx => h x (List.mem_cons_of_mem _ hx)))
theorem rule_read {en n : Nat} (hn : n < 60) {q : RT} (h : RtOk q) (r : List Tok) : ruleK en n (toks (lineK q) ++ r) = .ok (q, r) := by
  unfold lineK
  simp only [toks_cons, toks_app, toks_nil, List.cons_append, List.append_assoc, List.nil_append]
  unfold ruleK
  have hk : kindsL.contains q.kind = true := List.contains_iff_mem.2 h.kind
  simp only [signT, beq_self_eq_true, Bool.true_or, hk, true_and, and_true, if_true, h.named]
  rw [if_neg (by omega), (need_yes (en := en) (.inr rfl)).2, bind_ok, (readP en q.tree h.wf).f0 20 _ h.nd (take_other (by decide) _ _ _) (take_other (by decide) _ _ _) (take_other (by decide) _ _ _)]
  simp only [bind_ok]
  rw [(need_yes (en := en) (.inr rfl)).2, bind_ok]
theorem prog_read {en : Nat} : ∀ (l : List RT) (n : Nat), (∀ q ∈ l, RtOk q) → n + l.length ≤ 60 → ∀ f, (toks (progKt l)).length ≤ f → progK en f n (toks (progKt l)) = .ok l
  | [], n, _, _, f, _ => prog_nil f n
  | q :: l, n, h, hn, f, hf => by
    have e : progKt (q :: l) = lineK q ++ progKt l := List.flatMap_cons
    rw [e, toks_app] at hf ⊢
    have hl : 1 ≤ (toks (lineK q)).length := by unfold lineK; rw [toks_cons]; simp
    rw [List.length_append] at hf
    simp only [List.length_cons] at hn
    obtain ⟨f, rfl⟩ : ∃ k, f = k + 1 := ⟨f - 1, by omega⟩
    unfold progK
    rw [if_neg (by intro e; have := congrArg List.length e; simp at this; have h1 := this.1; rw [h1] at hl; simp at hl), rule_read (by omega) (h q (by simp))]
    simp only
    rw [prog_read l (n + 1) (fun x hx => h x (List.mem_cons_of_mem _ hx)) (by omega) f (by omega)]
theorem parse_rd {s : List UInt8} {l : List RT} (hs : Rd s (progKt l)) (h : ∀ q ∈ l, RtOk q) (hn : l.length ≤ 60) : parseP s = (progOf l, 0, 0) := by
  unfold parseP
  rw [lexS_T]
  have hs := hs 0
  cases hx : lexT 0 s with | mk ts o =>
  rw [hx] at hs
  obtain ⟨rfl, h2⟩ := hs
  simp only
  rw [parseT_eq]
  have h3 := read_R (P := fun _ _ => True) (en := s.length) (en' := 0) trivial (tokR_kt (ts := ts) (us := toks (progKt l)) (by rw [toks_kt]; exact h2))
  rw [show readT 0 (toks (progKt l)) = .ok l from prog_read l 0 h (by omega) _ (Nat.le_refl _)] at h3
  cases hr : readT s.length ts with
  | error e => rw [hr] at h3; exact h3.elim
  | ok m =>
    rw [hr] at h3
    have h3 : m = l := h3
    rw [h3]
theorem parse_print {l : List RT} (h : ∀ q ∈ l, RtOk q) (hn : l.length ≤ 60) : parseP (progTx l) = (progOf l, 0, 0) := parse_rd (prog_rd l h) h hn
theorem sign_head {k : Int} {u : List UInt8} (h : Good k u) (h5 : k = 5) : kindsL.contains u = false := by
  subst h5
  cases hc : kindsL.contains u with
  | false => rfl
  | true =>
    have h1 := good_kinds (List.contains_iff_mem.1 hc)
    have e1 := h.self
    rw [h1.self] at e1
    have : (1 : Int) = 5 := congrArg Prod.fst e1
    omega
theorem good_ne40 {u : List UInt8} (h : Good 1 u) : u ≠ [40] := by
  rintro rfl
  have e := h.self
  rw [good_40.self] at e
  exact absurd (congrArg Prod.fst e) (by decide)
theorem cK_line {q : RT} (h : RtOk q) : cK (lineK q) = cK (tkT q.tree 0) := by
  unfold lineK
  have h1 := good_ne40 (good_kinds h.kind)
  have h2 := good_ne40 h.good
  simp [cK_cons, cK_app, cK_nil, h1, h2]
theorem rule_fit {en n : Nat} {ts r : List Tok} {q : RT} (hg : AllG ts) (h : ruleK en n ts = .ok (q, r)) : RtOk q ∧ AllG r ∧ n < 60 ∧ cT r + cK (lineK q) ≤ cT ts := by
  unfold ruleK at h
  split at h
  · cases h
  · rename_i t r1
    split at h
    · cases h
    · rename_i h60
      split at h
      · rename_i hsg
        split at h
        · cases h
        · rename_i m r2
          split at h
          · rename_i hm
            obtain ⟨r3, h3, h⟩ := bind_ok_iff.1 h
            obtain ⟨⟨e, r4⟩, h4, h⟩ := bind_ok_iff.1 h
            obtain ⟨r5, h5, h⟩ := bind_ok_iff.1 h
            injection h with h; injection h with e1 e2; subst e1; subst e2
            have gt := hg t (by simp)
            have gm := hg m (by simp)
            have k1 : t.kind = 1 := by
              have := hsg.1
              unfold signT at this
              simp only [Bool.or_eq_true, beq_iff_eq] at this
              rcases this with h | h
              · exact h
              · have := sign_head gt h
                rw [hsg.2] at this; cases this
            have g3 := need_cnt hg.tail.tail h3
            have fe := (prK_fit en 20).2 _ _ _ g3.1 h4
            have g5 := need_cnt fe.all h5
            have ok : RtOk ⟨t.text, m.text, e⟩ := ⟨List.contains_iff_mem.1 hsg.2, by have := gm; rw [hm.1] at this; exact this, hm.2, fe.wf, fe.nd⟩
            refine ⟨ok, g5.1, ?_, ?_⟩
            · by_cases hn : n < 60
              · exact hn
              · exact absurd ⟨by omega, k1, hsg.2⟩ h60
            · rw [cK_line ok]
              have q1 : cT r4 + cK (tkT e 0) ≤ cT r3 := fe.cnt
              have := g5.2
              have := g3.2
              rw [cT_cons, cT_cons]
              show cT r5 + cK (tkT e 0) ≤ _
              omega
          · cases h
      · cases h
theorem prog_fit {en : Nat} : ∀ (f n : Nat) (ts : List Tok) (l : List RT), AllG ts → n ≤ 60 → progK en f n ts = .ok l → (∀ q ∈ l, RtOk q) ∧ n + l.length ≤ 60 ∧ cK (progKt l) ≤ cT ts
  | 0, n, ts, l, hg, hn, h => by
    injection h with h; subst h
    exact ⟨fun _ h => by simp at h, by simpa using hn, Nat.zero_le _⟩
  | f + 1, n, ts, l, hg, hn, h => by
    unfold progK at h
    split at h
    · injection h with h; subst h
      exact ⟨fun _ h => by simp at h, by simpa using hn, Nat.zero_le _⟩
    · split at h
      · cases h
      · rename_i q r hk
        obtain ⟨k1, k2, k3, k4⟩ := rule_fit hg hk
        split at h
        · cases h
        · rename_i m hm
          injection h with h; subst h
          obtain ⟨i1, i2, i3⟩ := prog_fit f (n + 1) r m k2 (by omega) hm
          refine ⟨fun x hx => ?_, by simp only [List.length_cons]; omega, ?_⟩
          · rcases List.mem_cons.1 hx with rfl | hx
            · exact k1
            · exact i1 x hx
          · have e : progKt (q :: m) = lineK q ++ progKt m := List.flatMap_cons
            rw [e, cK_app]
            omega
theorem cT_put {k : Int} {u : List UInt8} {p : Nat} {x : List Tok × Option Nat} : cT (lexPut k u p x).1 ≤ cT x.1 + (if u = [40] then 1 else 0) := by
  obtain ⟨ts, o⟩ := x
  cases o with
  | none => show cT (_ :: ts) ≤ _; rw [cT_cons]; exact Nat.le_refl _
  | some e => exact Nat.le_trans (Nat.le_of_eq (by simp [lexPut, cT])) (Nat.zero_le _)
theorem lex_count : ∀ (t : List UInt8) (p : Nat), cT (lexT p t).1 ≤ t.count 40 := by
  refine lex_ind (M := fun t => ∀ p, cT (lexT p t).1 ≤ t.count 40) (fun p => Nat.le_refl _) (fun c r hc ih p => ?_) (fun r ih p => ?_) (fun t h ih p => ?_) (fun c r h1 h2 h3 p => ?_)
  · rw [lexT_blank hc]
    refine Nat.le_trans (ih _) ?_
    rw [List.count_cons]; omega
  · rw [lexT_line]
    refine Nat.le_trans (ih _) ?_
    rw [List.count_cons]
    exact Nat.le_trans (List.Sublist.count_le _ (List.drop_sublist _ _)) (Nat.le_add_right _ _)
  · rw [lexT_tok h]
    refine Nat.le_trans cT_put ?_
    have e := List.take_append_drop (oneS t).2 t
    have := ih (p + (oneS t).2)
    conv => rhs; rw [← e]
    rw [List.count_append]
    split
    · rename_i e1
      rw [e1]
      simp
      omega
    · omega
  · rw [lexT_bad h1 h2 h3]
    exact Nat.zero_le _
theorem parse_fit (s : List UInt8) : ((parseP s).2.2 ≠ 0 ∧ (parseP s).1 = ⟨[], []⟩) ∨ ∃ l, (∀ q ∈ l, RtOk q) ∧ l.length ≤ 60 ∧ parseP s = (progOf l, 0, 0) ∧ cK (progKt l) ≤ s.count 40 := by
  rcases parse_cases s with h | ⟨l, _, h⟩
  · exact .inl h
  · unfold parseP at h ⊢
    rw [lexS_T] at h ⊢
    have hg := lex_good s 0
    have hc := lex_count s 0
    cases hx : lexT 0 s with | mk ts o =>
    rw [hx] at h hg hc
    cases o with
    | some e =>
      simp only [Prod.mk.injEq] at h
      exact absurd h.2.2 (by decide)
    | none =>
      simp only at h ⊢
      rw [parseT_eq] at h ⊢
      cases hr : readT s.length ts with
      | error e =>
        left
        have := (prog_corr s.length ts.length (x := ps0 ts) rfl)
        rw [show progK s.length ts.length (ps0 ts).rules.length (ps0 ts).ts = .error e from hr] at this
        exact ⟨this.1, rfl⟩
      | ok m =>
        right
        obtain ⟨k1, k2, k3⟩ := prog_fit _ _ _ _ hg (by omega) hr
        exact ⟨m, k1, by omega, rfl, Nat.le_trans k3 hc⟩
end Pay
