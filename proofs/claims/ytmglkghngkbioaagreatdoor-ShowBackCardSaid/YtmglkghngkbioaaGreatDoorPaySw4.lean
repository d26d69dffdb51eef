/- What is read of tokens has a text, that needs no more depth and no more ( than was there. -/
import Derived.Test.YtmglkghngkbioaaGreatDoorPayBc0
import Derived.Test.YtmglkghngkbioaaGreatDoorPayC32
import Derived.Test.YtmglkghngkbioaaGreatDoorPayC34
import Derived.Test.YtmglkghngkbioaaGreatDoorPayC41
import Derived.Test.YtmglkghngkbioaaGreatDoorPayC42
import Derived.Test.YtmglkghngkbioaaGreatDoorPayC43
import Derived.Test.YtmglkghngkbioaaGreatDoorPayC44
import Derived.Test.YtmglkghngkbioaaGreatDoorPayC47
import Derived.Test.YtmglkghngkbioaaGreatDoorPayC48
import Derived.Test.YtmglkghngkbioaaGreatDoorPaySw1
import Derived.Test.YtmglkghngkbioaaGreatDoorPaySw2
import Derived.Test.YtmglkghngkbioaaGreatDoorPaySw3
import Derived.Test.YtmglkghngkbioaaGreatDoorPayTr1
import Derived.Test.YtmglkghngkbioaaGreatDoorPayTr2
import Derived.Test.YtmglkghngkbioaaGreatDoorPayTr3
set_option linter.unusedSimpArgs false
set_option linter.unusedVariables false
namespace Pay
open Go
theorem good_fig {k : Int} {u : List UInt8} (h : Good k u) (h1 : k ≠ 1) (h5 : k ≠ 5) : figS u = k ∧ ∃ c r, u = c :: r ∧ digB c = true := by
  have e := h.self
  obtain ⟨d, u', rfl⟩ := h.cons
  rw [oneS_cons] at e
  by_cases hl : letB d = true
  · rw [if_pos hl] at e
    split at e
    · exact absurd (congrArg Prod.fst e).symm h.ne
    · exact absurd (congrArg Prod.fst e).symm h1
  · rw [if_neg hl] at e
    by_cases hd : digB d = true
    · rw [if_pos hd] at e
      have e2 : runN numB (d :: u') = (d :: u').length := congrArg Prod.snd e
      rw [e2, List.take_length] at e
      exact ⟨congrArg Prod.fst e, d, u', rfl, hd⟩
    · rw [if_neg hd] at e
      split at e
      · exact absurd (congrArg Prod.fst e).symm h.ne
      · exact absurd (congrArg Prod.fst e).symm h5
theorem dg1_of {c : UInt8} (h : digB c = true) : ∃ d, d < 10 ∧ c = dg1 d := by
  obtain ⟨h1, h2⟩ := digB_iff.1 h
  refine ⟨c.toNat - 48, by omega, ?_⟩
  unfold dg1
  rw [show 48 + (c.toNat - 48) = c.toNat by omega]
  exact (UInt8.ofNat_toNat).symm
theorem canon : ∀ (k : Nat) (s : List UInt8), s.length = k + 1 → s.all digB = true → (s = [48] ∨ s.head? ≠ some 48) → ∃ n, s = Lib.decDigits n ∧ n < 10 ^ (k + 1) ∧ (s ≠ [48] → 1 ≤ n)
  | 0, s, hl, ha, hh => by
    obtain ⟨c, rfl⟩ := List.length_eq_one_iff.1 hl
    obtain ⟨d, hd, rfl⟩ := dg1_of (c := c) (by simpa using ha)
    refine ⟨d, (dec_one hd).symm, by omega, fun h => ?_⟩
    rcases Nat.eq_zero_or_pos d with rfl | h'
    · exact absurd rfl h
    · exact h'
  | k + 1, s, hl, ha, hh => by
    obtain ⟨s', c, rfl⟩ : ∃ s' c, s = s' ++ [c] := ⟨s.dropLast, s.getLast (by intro e; subst e; simp at hl), (List.dropLast_concat_getLast _).symm⟩
    have hl' : s'.length = k + 1 := by simp at hl; exact hl
    simp only [List.all_append, Bool.and_eq_true, List.all_cons, List.all_nil, Bool.and_true] at ha
    obtain ⟨d, hd, rfl⟩ := dg1_of ha.2
    have hne : s'.head? ≠ some 48 := by
      rcases hh with h | h
      · have := congrArg List.length h
        simp [hl'] at this
      · cases s' with
        | nil => simp at hl'
        | cons x xs => simpa using h
    obtain ⟨n, e1, e2, e3⟩ := canon k s' hl' ha.1 (.inr hne)
    have h1 : 1 ≤ n := e3 (fun e => by subst e; exact hne rfl)
    refine ⟨10 * n + d, ?_, ?_, fun _ => by omega⟩
    · rw [dec_step (n := 10 * n + d) (by omega), show (10 * n + d) / 10 = n by omega, show (10 * n + d) % 10 = d by omega, e1]
    · rw [Nat.pow_succ]; omega
theorem atoi_dec {n : Nat} (h : n ≤ 9223372036854775807) : Lib.atoiAll (Lib.decDigits n) = .ok n := by
  have hm : Lib.parseMag (Lib.decDigits n) = .ok n := by
    obtain ⟨c, r, e, _, _⟩ := dec_head n
    have := pu_dec n [] h
    rw [List.append_nil] at this
    rw [Lib.parseMag, if_neg (by rw [e]; simp), this, Lib.parseUint10]
  obtain ⟨c, r, e, g1, g2⟩ := dec_head n
  rw [e] at hm ⊢
  have g3 : ¬ c.toNat = 45 := by omega
  have g4 : ¬ c.toNat = 43 := by omega
  rw [Lib.atoiAll]
  simp only [g3, g4, or_false, if_false, hm, false_and, not_false_eq_true, true_and]
  rw [if_neg (by omega)]
theorem whole_back {s : List UInt8} (hn : s ≠ []) (h : wholeB s = true) : Lib.itoa (atoiV s) = s ∧ 0 ≤ atoiV s ∧ atoiV s ≤ 9223372036854775807 := by
  simp only [wholeB, Bool.and_eq_true, decide_eq_true_eq, Bool.or_eq_true, beq_iff_eq, bne_iff_ne, ne_eq] at h
  obtain ⟨⟨h1, h2⟩, h3⟩ := h
  have hp : s.length ≠ 0 := fun e => hn (List.eq_nil_of_length_eq_zero e)
  obtain ⟨n, e, hlt, _⟩ := canon (s.length - 1) s (by omega) h2 h3
  rw [show s.length - 1 + 1 = s.length by omega] at hlt
  have : n < 10 ^ 9 := Nat.lt_of_lt_of_le hlt (Nat.pow_le_pow_right (by decide) h1)
  have hv : atoiV s = (n : Int) := by rw [atoiV, e, atoi_dec (by omega)]
  rw [hv, Lib.itoa_nonneg]
  exact ⟨e.symm, by omega, by omega⟩
theorem text_back {s : List UInt8} (h : (parseS s).2 = true) : (textS (parseS s).1).1 = s := by
  obtain ⟨h1, h2, h3⟩ := parseS_ok h
  rw [textS_eq (decide_eq_true h2) (by omega)]
  exact h1.symm
theorem rate_back' {s : List UInt8} (h : (rateP s).2 = true) : (rateTextS (rateP s).1).1 = s ∧ 0 ≤ (rateP s).1 ∧ (rateP s).1 ≤ 10000 := by
  unfold rateP at h ⊢
  split at h
  · rename_i hc
    rw [if_pos hc]
    obtain ⟨c1, c2, c3⟩ := hc
    have hr := rateR_iff.1 c3
    refine ⟨?_, hr⟩
    unfold rateTextS
    rw [if_pos c3]
    show textR (parseS (cutSuf s [37]).1).1 ++ [37] = s
    rw [← (parseS_ok c2).1]
    unfold cutSuf at c1 ⊢
    split at c1
    · rename_i hs
      rw [if_pos hs]
      simp only [hasSuf, Bool.and_eq_true, decide_eq_true_eq, beq_iff_eq] at hs
      have e := List.take_append_drop (s.length - [37].length) s
      exact (congrArg (List.take (s.length - [37].length) s ++ ·) hs.2).symm.trans e
    · cases c1
  · cases h
theorem leaf_ok {t : Tok} (hg : Good t.kind t.text) {x : Xt} (h : leafE t = some x) : ∃ op nm v, x = .leaf op nm v ∧ LfOk op nm v ∧ kdL op = t.kind ∧ leafW (xLeaf op nm v) = t.text ∧ IRange v := by
  have key : ∀ op nm v, x = .leaf op nm v → kdL op = t.kind → leafW (xLeaf op nm v) = t.text → IRange v → ∃ op nm v, x = .leaf op nm v ∧ LfOk op nm v ∧ kdL op = t.kind ∧ leafW (xLeaf op nm v) = t.text ∧ IRange v := by
    intro op nm v e1 e2 e3 e4
    refine ⟨op, nm, v, e1, ⟨?_, by rw [e2, e3]; exact hg, e4⟩, e2, e3, e4⟩
    rw [← e1, ← h]
    exact leafE_R e2 e3
  unfold leafE at h
  by_cases h1 : t.kind = 1
  · rw [if_pos h1] at h
    split at h
    · injection h with h
      exact key _ _ _ h.symm h1.symm rfl ⟨by decide, by decide⟩
    · cases h
  rw [if_neg h1] at h
  by_cases h2 : t.kind = 2
  · rw [if_pos h2] at h
    injection h with h
    obtain ⟨f, c, r, e, _⟩ := good_fig hg h1 (by omega)
    rw [h2] at f
    have hw : wholeB t.text = true := by
      unfold figS at f
      repeat' split at f
      all_goals first | omega | assumption
    obtain ⟨b1, b2, b3⟩ := whole_back (by rw [e]; simp) hw
    exact key _ _ _ h.symm h2.symm b1 ⟨by show _ ≤ atoiV t.text; omega, b3⟩
  rw [if_neg h2] at h
  by_cases h3 : t.kind = 3
  · rw [if_pos h3] at h
    injection h with h
    obtain ⟨f, _⟩ := good_fig hg h1 (by omega)
    rw [h3] at f
    have hw : (parseS t.text).2 = true := by
      unfold figS at f
      repeat' split at f
      all_goals first | omega | assumption
    have hb := parseS_ok hw
    exact key _ _ _ h.symm h3.symm (text_back hw) ⟨by show _ ≤ (parseS t.text).1; omega, hb.2.2⟩
  rw [if_neg h3] at h
  by_cases h4 : t.kind = 4
  · rw [if_pos h4] at h
    injection h with h
    obtain ⟨f, _⟩ := good_fig hg h1 (by omega)
    rw [h4] at f
    have hw : (rateP t.text).2 = true := by
      unfold figS at f
      repeat' split at f
      all_goals first | omega | assumption
    have hb := rate_back' hw
    exact key _ _ _ h.symm h4.symm hb.1 ⟨by show _ ≤ (rateP t.text).1; omega, by show (rateP t.text).1 ≤ _; omega⟩
  rw [if_neg h4] at h
  cases h
def cK (l : List Kt) : Nat := (l.map (·.2)).count [40]
def cT (ts : List Tok) : Nat := (ts.map (·.text)).count [40]
theorem cK_cons (k : Int) (u : List UInt8) (l : List Kt) : cK ((k, u) :: l) = cK l + (if u = [40] then 1 else 0) := by
  simp only [cK, List.map_cons, List.count_cons, beq_iff_eq]
theorem cK_app (l m : List Kt) : cK (l ++ m) = cK l + cK m := by simp [cK]
theorem cK_nil : cK [] = 0 := rfl
theorem cT_cons (t : Tok) (l : List Tok) : cT (t :: l) = cT l + (if t.text = [40] then 1 else 0) := by
  simp only [cT, List.map_cons, List.count_cons, beq_iff_eq]
theorem cK_held (b : Bool) (s : List Kt) : cK (heldK b s) = cK s + (if b = true then 1 else 0) := by
  cases b with
  | false => rfl
  | true => simp [heldK, cK_cons, cK_app, cK_nil]
theorem tk_bin' {op : List UInt8} (hm : mmB op = false) (a b : Xt) (L : Int) : tkT (.bin op a b) L = heldK (decide (lvlS op < L)) (tkT a (max (lvlS op) 2) ++ (5, op) :: tkT b (lvlS op + 1)) := if_neg (by rw [hm]; simp)
theorem nd_bin' {op : List UInt8} (hm : mmB op = false) (a b : Xt) (L : Int) : ndT (.bin op a b) L = max (ndT a (max (lvlS op) 2)) (ndT b (lvlS op + 1)) + (if lvlS op < L then 1 else 0) := if_neg (by rw [hm]; simp)
theorem tk_ite (a b c : Xt) (L : Int) : tkT (.ite a b c) L = heldK (decide (0 < L)) ((1, wIf) :: (tkT a 0 ++ (1, wThen) :: (tkT b 0 ++ (1, wElse) :: tkT c 0))) := rfl
theorem nd_ite (a b c : Xt) (L : Int) : ndT (.ite a b c) L = max (ndT a 0) (max (ndT b 0) (ndT c 0)) + 1 + (if 0 < L then 1 else 0) := rfl
theorem nd_mono {t : Xt} {L M : Int} (h : L ≤ M) : ndT t L ≤ ndT t M ∧ cK (tkT t L) ≤ cK (tkT t M) := by
  cases t with
  | leaf op nm v => exact ⟨Nat.le_refl _, Nat.le_refl _⟩
  | neg e => exact ⟨Nat.le_refl _, Nat.le_refl _⟩
  | bin op a b =>
    cases hm : mmB op with
    | true => rw [nd_mm hm, nd_mm hm, tk_mm hm, tk_mm hm]; exact ⟨Nat.le_refl _, Nat.le_refl _⟩
    | false =>
      rw [nd_bin' hm, nd_bin' hm, tk_bin' hm, tk_bin' hm, cK_held, cK_held]
      by_cases h1 : lvlS op < L
      · have h2 : lvlS op < M := by omega
        simp [h1, h2]
      · simp [h1]
  | ite a b c =>
    rw [nd_ite, nd_ite, tk_ite, tk_ite, cK_held, cK_held]
    by_cases h1 : (0 : Int) < L
    · have h2 : (0 : Int) < M := by omega
      simp [h1, h2]
    · simp [h1]
theorem nd_up (t : Xt) (L : Int) : ndT t L ≤ ndT t 0 + 1 ∧ cK (tkT t L) ≤ cK (tkT t 0) + 1 := by
  cases t with
  | leaf op nm v => exact ⟨Nat.le_succ _, Nat.le_succ _⟩
  | neg e => exact ⟨Nat.le_succ _, Nat.le_succ _⟩
  | bin op a b =>
    cases hm : mmB op with
    | true => rw [nd_mm hm, nd_mm hm, tk_mm hm, tk_mm hm]; exact ⟨Nat.le_succ _, Nat.le_succ _⟩
    | false =>
      rw [nd_bin' hm, nd_bin' hm, tk_bin' hm, tk_bin' hm, cK_held, cK_held]
      constructor
      · split <;> split <;> omega
      · split <;> split <;> omega
  | ite a b c =>
    rw [nd_ite, nd_ite, tk_ite, tk_ite, cK_held, cK_held]
    constructor
    · split <;> split <;> omega
    · split <;> split <;> omega
def AllG (ts : List Tok) : Prop := ∀ x ∈ ts, Good x.kind x.text
theorem AllG.tail {t : Tok} {ts : List Tok} (h : AllG (t :: ts)) : AllG ts := fun x hx => h x (List.mem_cons_of_mem _ hx)
theorem AllG.suf {r ts : List Tok} (h : AllG ts) (hs : r <:+ ts) : AllG r := fun x hx => h x (hs.mem hx)
/-- What it gives can be written, within so much depth, with no more ( than it took. -/
structure FitT (L : Int) (d : Nat) (ts : List Tok) (t : Xt) (r : List Tok) : Prop where
  wf : WfP t
  nd : ndT t L ≤ d
  cnt : cT r + cK (tkT t L) ≤ cT ts
  all : AllG r
def Fit (L : Int) (d : Nat) (f : List Tok → TR) : Prop := ∀ ts t r, AllG ts → f ts = .ok (t, r) → FitT L d ts t r
theorem FitT.down {L M : Int} {d : Nat} {ts r : List Tok} {t : Xt} (h : FitT M d ts t r) (hl : L ≤ M) : FitT L d ts t r :=
  ⟨h.wf, Nat.le_trans (nd_mono hl).1 h.nd, by have := (nd_mono (t := t) hl).2; have := h.cnt; omega, h.all⟩
theorem leaf_fit (en d : Nat) : Fit 4 (d + 1) (leafK en) := by
  intro ts t r hg h
  cases ts with
  | nil => cases h
  | cons u ts =>
    unfold leafK at h
    simp only at h
    split at h
    · rename_i e he
      injection h with h; injection h with h1 h2
      subst h1; subst h2
      obtain ⟨op, nm, v, rfl, k1, k2, k3, _⟩ := leaf_ok (hg u (by simp)) he
      refine ⟨k1, by show 1 ≤ d + 1; omega, ?_, hg.tail⟩
      show cT _ + cK [(kdL op, leafW (xLeaf op nm v))] ≤ _
      rw [cK_cons, cT_cons, k3, cK_nil]
      omega
    · cases h
theorem need_cnt {en : Nat} {s : List UInt8} {ts r : List Tok} (hg : AllG ts) (h : needK en s ts = .ok r) : AllG r ∧ cT ts = cT r + (if s = [40] then 1 else 0) := by
  obtain ⟨t, rfl, _, h2⟩ := needK_ok h
  exact ⟨hg.tail, by rw [cT_cons, h2]⟩
theorem take_cnt {l : List (List UInt8)} {s : List UInt8} {ts r : List Tok} (hg : AllG ts) (h : takeK l ts = some (s, r)) : AllG r ∧ s ∈ l ∧ cT ts = cT r + (if s = [40] then 1 else 0) := by
  obtain ⟨t, rfl, _, h2, h3⟩ := takeK_suf h
  exact ⟨hg.tail, h3, by rw [cT_cons, h2]⟩
theorem chainK_fit {L : Int} {d : Nat} {f : List Tok → TR} (hf : Fit (L + 1) d f) (hL : 2 ≤ L) {ops : List (List UInt8)} (ho : ∀ o ∈ ops, o ∈ binOps ∧ mmB o = false ∧ lvlS o = L) :
    ∀ (n : Nat) (ts : List Tok) (a t : Xt) (r : List Tok), AllG ts → WfP a → ndT a L ≤ d → chainK f ops n ts a = .ok (t, r) → WfP t ∧ ndT t L ≤ d ∧ cT r + cK (tkT t L) ≤ cT ts + cK (tkT a L) ∧ AllG r
  | 0, ts, a, t, r, hg, hw, hn, h => by
    injection h with h; injection h with h1 h2; subst h1; subst h2
    exact ⟨hw, hn, Nat.le_refl _, hg⟩
  | n + 1, ts, a, t, r, hg, hw, hn, h => by
    unfold chainK at h
    split at h
    · injection h with h; injection h with h1 h2; subst h1; subst h2
      exact ⟨hw, hn, Nat.le_refl _, hg⟩
    · rename_i op r1 hk
      obtain ⟨g1, g2, g3⟩ := take_cnt hg hk
      obtain ⟨o1, o2, o3⟩ := ho op g2
      split at h
      · cases h
      · rename_i b r2 h2
        have fb := hf _ _ _ g1 h2
        have e1 : tkT (.bin op a b) L = tkT a L ++ (5, op) :: tkT b (L + 1) := by
          rw [tk_bin o2 a b (by omega), o3, show max L 2 = L by omega]
        have e2 : ndT (.bin op a b) L = max (ndT a L) (ndT b (L + 1)) := by
          rw [nd_bin o2 a b (by omega), o3, show max L 2 = L by omega]
        have ih := chainK_fit hf hL ho n r2 (.bin op a b) t r fb.all ⟨o1, hw, fb.wf⟩ (by rw [e2]; have := fb.nd; omega) h
        refine ⟨ih.1, ih.2.1, ?_, ih.2.2.2⟩
        have h3 := ih.2.2.1
        rw [e1, cK_app, cK_cons] at h3
        have := fb.cnt
        omega
theorem chain_fit {L : Int} {d : Nat} {f : List Tok → TR} (hf : Fit (L + 1) d f) (hL : 2 ≤ L) {ops : List (List UInt8)} (ho : ∀ o ∈ ops, o ∈ binOps ∧ mmB o = false ∧ lvlS o = L) : Fit L d (chainT f ops) := by
  intro ts t r hg h
  unfold chainT at h
  split at h
  · cases h
  · rename_i a r1 h1
    have fa := (hf _ _ _ hg h1).down (L := L) (by omega)
    obtain ⟨k1, k2, k3, k4⟩ := chainK_fit hf hL ho _ _ _ _ _ fa.all fa.wf fa.nd h
    exact ⟨k1, k2, by have := fa.cnt; omega, k4⟩
theorem pair_fit {en d : Nat} {f : List Tok → TR} (hf : Fit 0 d f) {op : List UInt8} (hm : mmB op = true) (ho : op ∈ binOps) : Fit 4 (d + 1) (pairK en f op) := by
  intro ts t r hg h
  unfold pairK at h
  obtain ⟨r1, h1, h⟩ := bind_ok_iff.1 h
  obtain ⟨⟨a, r2⟩, h2, h⟩ := bind_ok_iff.1 h
  obtain ⟨r3, h3, h⟩ := bind_ok_iff.1 h
  obtain ⟨⟨b, r4⟩, h4, h⟩ := bind_ok_iff.1 h
  obtain ⟨r5, h5, h⟩ := bind_ok_iff.1 h
  injection h with h; injection h with e1 e2; subst e1; subst e2
  have g1 := need_cnt hg h1
  have fa := hf _ _ _ g1.1 h2
  have g3 := need_cnt fa.all h3
  have fb := hf _ _ _ g3.1 h4
  have g5 := need_cnt fb.all h5
  refine ⟨⟨ho, fa.wf, fb.wf⟩, ?_, ?_, g5.1⟩
  · rw [nd_mm hm]; have := fa.nd; have := fb.nd; omega
  · have hop : op ≠ [40] := by rcases mm_op hm with rfl | rfl <;> decide
    have := g1.2; have := g3.2; have := g5.2; have := fa.cnt; have := fb.cnt
    rw [tk_mm hm]
    simp only [cK_cons, cK_app, cK_nil, hop, if_false, if_true, List.cons.injEq, and_true, reduceCtorEq] at *
    simp at *
    omega
theorem ite_fit {en d : Nat} {f : List Tok → TR} (hf : Fit 0 d f) : Fit 0 (d + 1) (iteK en f) := by
  intro ts t r hg h
  unfold iteK at h
  obtain ⟨⟨a, r1⟩, h1, h⟩ := bind_ok_iff.1 h
  obtain ⟨r2, h2, h⟩ := bind_ok_iff.1 h
  obtain ⟨⟨b, r3⟩, h3, h⟩ := bind_ok_iff.1 h
  obtain ⟨r4, h4, h⟩ := bind_ok_iff.1 h
  obtain ⟨⟨c, r5⟩, h5, h⟩ := bind_ok_iff.1 h
  injection h with h; injection h with e1 e2; subst e1; subst e2
  have fa := hf _ _ _ hg h1
  have g2 := need_cnt fa.all h2
  have fb := hf _ _ _ g2.1 h3
  have g4 := need_cnt fb.all h4
  have fc := hf _ _ _ g4.1 h5
  refine ⟨⟨fa.wf, fb.wf, fc.wf⟩, ?_, ?_, fc.all⟩
  · rw [nd_ite, if_neg (by decide)]; have := fa.nd; have := fb.nd; have := fc.nd; omega
  · have := g2.2; have := g4.2; have := fa.cnt; have := fb.cnt; have := fc.cnt
    rw [tk_ite, cK_held]
    simp only [cK_cons, cK_app] at *
    simp at *
    omega
theorem fac_fit {en d : Nat} {f g : List Tok → TR} (hf : Fit 4 d f) (hg : Fit 0 d g) : Fit 4 (d + 1) (facK en f g) := by
  intro ts t r ha h
  unfold facK at h
  split at h
  · rename_i s r1 hk
    obtain ⟨a1, a2, a3⟩ := take_cnt ha hk
    obtain ⟨⟨a, r2⟩, h1, h⟩ := bind_ok_iff.1 h
    injection h with h; injection h with e1 e2; subst e1; subst e2
    have fa := hf _ _ _ a1 h1
    refine ⟨fa.wf, by show ndT a 4 + 1 ≤ d + 1; have := fa.nd; omega, ?_, fa.all⟩
    rw [tk_neg, cK_cons]
    have := fa.cnt
    simp
    omega
  · split at h
    · rename_i s r1 hk
      obtain ⟨a1, a2, a3⟩ := take_cnt ha hk
      have hm : mmB s = true := by
        simp only [List.mem_cons, List.not_mem_nil, or_false] at a2
        rcases a2 with rfl | rfl <;> decide
      have fp := pair_fit (en := en) hg hm (by rcases mm_op hm with rfl | rfl <;> decide) _ _ _ a1 h
      exact ⟨fp.wf, fp.nd, by have := fp.cnt; omega, fp.all⟩
    · split at h
      · rename_i s r1 hk
        obtain ⟨a1, a2, a3⟩ := take_cnt ha hk
        obtain ⟨⟨a, r2⟩, h1, h⟩ := bind_ok_iff.1 h
        obtain ⟨r3, h3, h⟩ := bind_ok_iff.1 h
        injection h with h; injection h with e1 e2; subst e1; subst e2
        have fa := hg _ _ _ a1 h1
        have g3 := need_cnt fa.all h3
        have hs : s = [40] := by simpa using a2
        rw [if_pos hs] at a3
        have := nd_up a 4
        refine ⟨fa.wf, by have := fa.nd; omega, ?_, g3.1⟩
        have := fa.cnt; have := g3.2
        simp at *
        omega
      · exact leaf_fit en d _ _ _ ha h
theorem cmp_fit {d : Nat} {f : List Tok → TR} (hf : Fit 2 d f) : Fit 0 d (cmpT f) := by
  intro ts t r ha h
  unfold cmpT at h
  obtain ⟨⟨a, r1⟩, h1, h⟩ := bind_ok_iff.1 h
  have fa := hf _ _ _ ha h1
  simp only at h
  split at h
  · rename_i op r2 hk
    obtain ⟨a1, a2, a3⟩ := take_cnt fa.all hk
    obtain ⟨⟨b, r3⟩, h3, h⟩ := bind_ok_iff.1 h
    injection h with h; injection h with e1 e2; subst e1; subst e2
    have fb := hf _ _ _ a1 h3
    have ho := (show ∀ o ∈ cmpL, o ∈ binOps ∧ mmB o = false ∧ lvlS o = 1 ∧ o ≠ [40] by decide) op a2
    obtain ⟨o1, o2, o3, o4⟩ := ho
    refine ⟨⟨o1, fa.wf, fb.wf⟩, ?_, ?_, fb.all⟩
    · rw [nd_bin o2 a b (by omega), o3]
      have := fa.nd; have := fb.nd
      show max (ndT a 2) (ndT b 2) ≤ d
      omega
    · rw [tk_bin o2 a b (by omega), o3, cK_app, cK_cons]
      have q1 : cT r1 + cK (tkT a 2) ≤ cT ts := fa.cnt
      have q2 : cT r3 + cK (tkT b 2) ≤ cT r2 := fb.cnt
      show cT r3 + (cK (tkT a 2) + (cK (tkT b 2) + _)) ≤ cT ts
      omega
  · injection h with h; injection h with e1 e2; subst e1; subst e2
    exact fa.down (by decide)
theorem expr_fit {en d : Nat} {f g : List Tok → TR} (hf : Fit 4 (d + 1) f) (hg : Fit 0 d g) : Fit 0 (d + 1) (exprK en f g) := by
  intro ts t r ha h
  unfold exprK at h
  split at h
  · rename_i s r1 hk
    obtain ⟨a1, a2, a3⟩ := take_cnt ha hk
    have fi := ite_fit hg _ _ _ a1 h
    exact ⟨fi.wf, fi.nd, by have := fi.cnt; omega, fi.all⟩
  · exact cmp_fit (chain_fit (L := 2) (chain_fit (L := 3) hf (by decide) (by decide)) (by decide) (by decide)) _ _ _ ha h
theorem prK_fit (en : Nat) : ∀ d, Fit 4 d (prK en d).1 ∧ Fit 0 d (prK en d).2
  | 0 => ⟨fun ts t r _ h => (by cases h), fun ts t r _ h => (by cases h)⟩
  | d + 1 => by
    obtain ⟨h1, h2⟩ := prK_fit en d
    exact ⟨fac_fit h1 h2, expr_fit (fac_fit h1 h2) h2⟩
end Pay
