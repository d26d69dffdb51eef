/- The parser, plainly: what it makes of tokens that are alike but for their places; of tokens behind tokens. -/
import Derived.Test.YtcgeldjhobmijaaDoorPayC44
import Derived.Test.YtcgeldjhobmijaaDoorPayC48
import Derived.Test.YtcgeldjhobmijaaDoorPayTr1
import Derived.Test.YtcgeldjhobmijaaDoorPayTr2
set_option linter.unusedSimpArgs false
set_option linter.unusedVariables false
namespace Pay
def TokR (P : Int → Int → Prop) : List Tok → List Tok → Prop
  | [], [] => True
  | t :: ts, u :: us => t.kind = u.kind ∧ t.text = u.text ∧ P t.pos u.pos ∧ TokR P ts us
  | _, _ => False
theorem TokR.length {P : Int → Int → Prop} : ∀ {ts us : List Tok}, TokR P ts us → ts.length = us.length
  | [], [], _ => rfl
  | _ :: ts, _ :: us, h => by simp [TokR.length h.2.2.2]
  | [], _ :: _, h => h.elim
  | _ :: _, [], h => h.elim
def ResR {α : Type} (P : Int → Int → Prop) (A : α → α → Prop) : Except Er α → Except Er α → Prop
  | .ok a, .ok b => A a b
  | .error e, .error f => e.1 = f.1 ∧ P e.2 f.2
  | _, _ => False
def TreeR (P : Int → Int → Prop) (x y : Xt × List Tok) : Prop := x.1 = y.1 ∧ TokR P x.2 y.2
def FunR (P : Int → Int → Prop) (f g : List Tok → TR) : Prop := ∀ ts us, TokR P ts us → ResR P (TreeR P) (f ts) (g us)
theorem ResR.bind {α β : Type} {P : Int → Int → Prop} {A : α → α → Prop} {B : β → β → Prop} {x y : Except Er α} {f g : α → Except Er β} (h : ResR P A x y) (hf : ∀ a b, A a b → ResR P B (f a) (g b)) : ResR P B (x >>= f) (y >>= g) := by
  match x, y, h with
  | .ok a, .ok b, h => exact hf a b h
  | .error e, .error e', h => exact h
section
variable {P : Int → Int → Prop} {en en' : Nat}
theorem pos_R (hen : P en en') : ∀ {ts us : List Tok}, TokR P ts us → P (posT en ts) (posT en' us)
  | [], [], _ => hen
  | _ :: _, _ :: _, h => h.2.2.1
  | [], _ :: _, h => h.elim
  | _ :: _, [], h => h.elim
theorem take_R {l : List (List UInt8)} : ∀ {ts us : List Tok}, TokR P ts us → (takeK l ts = none ∧ takeK l us = none) ∨ ∃ s r r', takeK l ts = some (s, r) ∧ takeK l us = some (s, r') ∧ TokR P r r'
  | [], [], _ => .inl ⟨rfl, rfl⟩
  | t :: ts, u :: us, h => by
    obtain ⟨h1, h2, _, h4⟩ := h
    unfold takeK
    simp only
    have e : signT t = signT u := by unfold signT; rw [h1]
    rw [e, h2]
    split
    · exact .inr ⟨_, _, _, rfl, rfl, h4⟩
    · exact .inl ⟨rfl, rfl⟩
  | [], _ :: _, h => h.elim
  | _ :: _, [], h => h.elim
theorem need_R (hen : P en en') {s : List UInt8} {ts us : List Tok} (h : TokR P ts us) : ResR P (TokR P) (needK en s ts) (needK en' s us) := by
  unfold needK
  rcases take_R (l := [s]) h with ⟨h1, h2⟩ | ⟨s', r, r', h1, h2, h3⟩
  · rw [h1, h2]; exact ⟨rfl, pos_R hen h⟩
  · rw [h1, h2]; exact h3
theorem leafE_R {t u : Tok} (h1 : t.kind = u.kind) (h2 : t.text = u.text) : leafE t = leafE u := by unfold leafE; rw [h1, h2]
theorem leaf_R (hen : P en en') : FunR P (leafK en) (leafK en')
  | [], [], _ => ⟨rfl, hen⟩
  | t :: ts, u :: us, h => by
    unfold leafK
    simp only
    rw [leafE_R h.1 h.2.1]
    cases leafE u with
    | none => exact ⟨rfl, h.2.2.1⟩
    | some e => exact ⟨rfl, h.2.2.2⟩
  | [], _ :: _, h => h.elim
  | _ :: _, [], h => h.elim
theorem chainK_R {f g : List Tok → TR} (hf : FunR P f g) {ops : List (List UInt8)} : ∀ (n : Nat) {ts us : List Tok} (a : Xt), TokR P ts us → ResR P (TreeR P) (chainK f ops n ts a) (chainK g ops n us a)
  | 0, ts, us, a, h => ⟨rfl, h⟩
  | n + 1, ts, us, a, h => by
    unfold chainK
    rcases take_R (l := ops) h with ⟨h1, h2⟩ | ⟨s, r, r', h1, h2, h3⟩
    · rw [h1, h2]; exact ⟨rfl, h⟩
    · rw [h1, h2]
      simp only
      have := hf _ _ h3
      match f r, g r', this with
      | .ok (b, q), .ok (b', q'), h => 
        obtain ⟨rfl, h⟩ := h
        exact chainK_R hf n _ h
      | .error _, .error _, h => exact h
theorem chain_R {f g : List Tok → TR} (hf : FunR P f g) {ops : List (List UInt8)} : FunR P (chainT f ops) (chainT g ops) := by
  intro ts us h
  unfold chainT
  have := hf _ _ h
  match f ts, g us, this with
  | .ok (b, q), .ok (b', q'), h =>
    obtain ⟨rfl, h⟩ := h
    have h : TokR P q q' := h
    simp only
    rw [h.length]
    exact chainK_R hf _ _ h
  | .error _, .error _, h => exact h
theorem pair_R (hen : P en en') {f g : List Tok → TR} (hf : FunR P f g) (op : List UInt8) : FunR P (pairK en f op) (pairK en' g op) := by
  intro ts us h
  unfold pairK
  refine (need_R hen h).bind (fun r r' h => (hf _ _ h).bind ?_)
  rintro ⟨a, r⟩ ⟨a', r'⟩ ⟨rfl, h⟩
  refine (need_R hen h).bind (fun r r' h => (hf _ _ h).bind ?_)
  rintro ⟨b, r⟩ ⟨b', r'⟩ ⟨rfl, h⟩
  exact (need_R hen h).bind (fun r r' h => ⟨rfl, h⟩)
theorem ite_R (hen : P en en') {f g : List Tok → TR} (hf : FunR P f g) : FunR P (iteK en f) (iteK en' g) := by
  intro ts us h
  unfold iteK
  refine (hf _ _ h).bind ?_
  rintro ⟨a, r⟩ ⟨a', r'⟩ ⟨rfl, h⟩
  refine (need_R hen h).bind (fun r r' h => (hf _ _ h).bind ?_)
  rintro ⟨b, r⟩ ⟨b', r'⟩ ⟨rfl, h⟩
  refine (need_R hen h).bind (fun r r' h => (hf _ _ h).bind ?_)
  rintro ⟨c, r⟩ ⟨c', r'⟩ ⟨rfl, h⟩
  exact ⟨rfl, h⟩
theorem fac_R (hen : P en en') {f g f' g' : List Tok → TR} (hf : FunR P f g) (hf' : FunR P f' g') : FunR P (facK en f f') (facK en' g g') := by
  intro ts us h
  unfold facK
  rcases take_R (l := [[45]]) h with ⟨h1, h2⟩ | ⟨s, r, r', h1, h2, h3⟩
  · rw [h1, h2]
    simp only
    rcases take_R (l := [wMin, wMax]) h with ⟨h1, h2⟩ | ⟨s, r, r', h1, h2, h3⟩
    · rw [h1, h2]
      simp only
      rcases take_R (l := [[40]]) h with ⟨h1, h2⟩ | ⟨s, r, r', h1, h2, h3⟩
      · rw [h1, h2]; exact leaf_R hen _ _ h
      · rw [h1, h2]
        refine (hf' _ _ h3).bind ?_
        rintro ⟨a, r⟩ ⟨a', r'⟩ ⟨rfl, h⟩
        exact (need_R hen h).bind (fun r r' h => ⟨rfl, h⟩)
    · rw [h1, h2]; exact pair_R hen hf' s _ _ h3
  · rw [h1, h2]
    refine (hf _ _ h3).bind ?_
    rintro ⟨a, r⟩ ⟨a', r'⟩ ⟨rfl, h⟩
    exact ⟨rfl, h⟩
theorem cmp_R {f g : List Tok → TR} (hf : FunR P f g) : FunR P (cmpT f) (cmpT g) := by
  intro ts us h
  unfold cmpT
  refine (hf _ _ h).bind ?_
  rintro ⟨a, r⟩ ⟨a', r'⟩ ⟨rfl, h⟩
  simp only at h ⊢
  rcases take_R (l := cmpL) h with ⟨h1, h2⟩ | ⟨s, q, q', h1, h2, h3⟩
  · rw [h1, h2]; exact ⟨rfl, h⟩
  · rw [h1, h2]
    refine (hf _ _ h3).bind ?_
    rintro ⟨b, r⟩ ⟨b', r'⟩ ⟨rfl, h⟩
    exact ⟨rfl, h⟩
theorem exprK_R (hen : P en en') {f g f' g' : List Tok → TR} (hf : FunR P f g) (hf' : FunR P f' g') : FunR P (exprK en f f') (exprK en' g g') := by
  intro ts us h
  unfold exprK
  rcases take_R (l := [wIf]) h with ⟨h1, h2⟩ | ⟨s, r, r', h1, h2, h3⟩
  · rw [h1, h2]; exact cmp_R (chain_R (chain_R hf)) _ _ h
  · rw [h1, h2]; exact ite_R hen hf' _ _ h3
theorem long_R (hen : P en en') : FunR P (longK en) (longK en') := fun ts us h => ⟨rfl, pos_R hen h⟩
theorem prK_R (hen : P en en') : ∀ d, FunR P (prK en d).1 (prK en' d).1 ∧ FunR P (prK en d).2 (prK en' d).2
  | 0 => ⟨long_R hen, long_R hen⟩
  | d + 1 => by
    obtain ⟨h1, h2⟩ := prK_R hen d
    exact ⟨fac_R hen h1 h2, exprK_R hen (fac_R hen h1 h2) h2⟩
theorem expr_R (hen : P en en') (d : Nat) : FunR P (exprT en d) (exprT en' d) := (prK_R hen d).2
theorem rule_R (hen : P en en') (n : Nat) : ∀ {ts us : List Tok}, TokR P ts us → ResR P (fun x y => x.1 = y.1 ∧ TokR P x.2 y.2) (ruleK en n ts) (ruleK en' n us)
  | [], [], _ => ⟨rfl, hen⟩
  | [], _ :: _, h => h.elim
  | _ :: _, [], h => h.elim
  | t :: ts, u :: us, h => by
    obtain ⟨h1, h2, h3, h4⟩ := h
    unfold ruleK
    simp only
    have e : signT t = signT u := by unfold signT; rw [h1]
    rw [h1, h2, e]
    split
    · exact ⟨rfl, h3⟩
    · split
      · match ts, us, h4 with
        | [], [], _ => exact ⟨rfl, hen⟩
        | m :: ts, k :: us, h =>
          obtain ⟨k1, k2, k3, k4⟩ := h
          simp only
          rw [k1, k2]
          split
          · refine (need_R hen k4).bind (fun r r' h => (expr_R hen 20 _ _ h).bind ?_)
            rintro ⟨a, r⟩ ⟨a', r'⟩ ⟨rfl, h⟩
            exact (need_R hen h).bind (fun r r' h => ⟨rfl, h⟩)
          · exact ⟨rfl, k3⟩
      · exact ⟨rfl, h3⟩
theorem prog_R (hen : P en en') : ∀ (f n : Nat) {ts us : List Tok}, TokR P ts us → ResR P (fun x y => x = y) (progK en f n ts) (progK en' f n us)
  | 0, _, _, _, _ => rfl
  | f + 1, n, ts, us, h => by
    unfold progK
    have hl := h.length
    by_cases h0 : ts = []
    · subst h0
      have : us = [] := List.eq_nil_of_length_eq_zero hl.symm
      subst this
      rfl
    · have h1 : us ≠ [] := fun e => h0 (by subst e; exact List.eq_nil_of_length_eq_zero hl)
      rw [if_neg h0, if_neg h1]
      have := rule_R hen n h
      match ruleK en n ts, ruleK en' n us, this with
      | .ok (q, r), .ok (q', r'), h =>
        obtain ⟨rfl, h⟩ := h
        have := prog_R hen f (n + 1) h
        simp only
        match progK en f (n + 1) r, progK en' f (n + 1) r', this with
        | .ok l, .ok l', h => exact congrArg (q :: ·) h
        | .error _, .error _, h => exact h
      | .error _, .error _, h => exact h
theorem read_R (hen : P en en') {ts us : List Tok} (h : TokR P ts us) : ResR P (fun x y => x = y) (readT en ts) (readT en' us) := by
  unfold readT
  rw [h.length]
  exact prog_R hen _ _ h
end
theorem tokR_kt : ∀ {ts us : List Tok}, ts.map kt = us.map kt → TokR (fun _ _ => True) ts us
  | [], [], _ => trivial
  | [], _ :: _, h => by simp at h
  | _ :: _, [], h => by simp at h
  | t :: ts, u :: us, h => by
    simp only [List.map_cons, List.cons.injEq, kt, Prod.mk.injEq] at h
    exact ⟨h.1.1, h.1.2, trivial, tokR_kt h.2⟩
theorem tokR_up (d : Nat) : ∀ (ts : List Tok), TokR (fun p q => q = p + d) ts (ts.map (tokUp d))
  | [] => trivial
  | t :: ts => ⟨rfl, rfl, by simp [tokUp], tokR_up d ts⟩
def Suf (f : List Tok → TR) : Prop := ∀ ts t r, f ts = .ok (t, r) → r <:+ ts
theorem takeK_suf {l : List (List UInt8)} {ts : List Tok} {s : List UInt8} {r : List Tok} (h : takeK l ts = some (s, r)) : ∃ t, ts = t :: r ∧ signT t = true ∧ s = t.text ∧ s ∈ l := by
  cases ts with
  | nil => cases h
  | cons t ts =>
    unfold takeK at h
    simp only at h
    split at h
    · rename_i hc
      simp only [Option.some.injEq, Prod.mk.injEq] at h
      obtain ⟨rfl, rfl⟩ := h
      exact ⟨t, rfl, hc.1, rfl, by simpa using hc.2⟩
    · cases h
theorem needK_ok {en : Nat} {s : List UInt8} {ts r : List Tok} (h : needK en s ts = .ok r) : ∃ t, ts = t :: r ∧ signT t = true ∧ t.text = s := by
  unfold needK at h
  split at h
  · rename_i hk
    injection h with h
    subst h
    obtain ⟨t, h1, h2, h3, h4⟩ := takeK_suf hk
    exact ⟨t, h1, h2, by rw [← h3]; simpa using h4⟩
  · cases h
theorem bind_ok_iff {α β : Type} {x : Except Er α} {f : α → Except Er β} {b : β} : (x >>= f) = .ok b ↔ ∃ a, x = .ok a ∧ f a = .ok b := by
  cases x with
  | ok a => exact ⟨fun h => ⟨a, rfl, h⟩, fun ⟨a', h1, h2⟩ => by injection h1 with h1; subst h1; exact h2⟩
  | error e => exact ⟨fun h => (by cases h), fun ⟨_, h, _⟩ => (by cases h)⟩
theorem need_suf {en : Nat} {s : List UInt8} {ts r : List Tok} (h : needK en s ts = .ok r) : r <:+ ts := by
  obtain ⟨t, rfl, _⟩ := needK_ok h
  exact List.suffix_cons t r
theorem leaf_suf (en : Nat) : Suf (leafK en) := by
  intro ts t r h
  cases ts with
  | nil => cases h
  | cons u ts =>
    unfold leafK at h
    simp only at h
    split at h
    · injection h with h; injection h with _ h; subst h; exact List.suffix_cons u ts
    · cases h
theorem chainK_suf {f : List Tok → TR} (hf : Suf f) {ops : List (List UInt8)} : ∀ (n : Nat) (ts : List Tok) (a t : Xt) (r : List Tok), chainK f ops n ts a = .ok (t, r) → r <:+ ts
  | 0, ts, a, t, r, h => by injection h with h; injection h with _ h; subst h; exact List.suffix_refl _
  | n + 1, ts, a, t, r, h => by
    unfold chainK at h
    split at h
    · injection h with h; injection h with _ h; subst h; exact List.suffix_refl _
    · rename_i op r1 hk
      obtain ⟨u, rfl, _⟩ := takeK_suf hk
      split at h
      · cases h
      · rename_i b r2 h2
        exact ((chainK_suf hf n r2 _ t r h).trans (hf _ _ _ h2)).trans (List.suffix_cons u r1)
theorem chain_suf {f : List Tok → TR} (hf : Suf f) {ops : List (List UInt8)} : Suf (chainT f ops) := by
  intro ts t r h
  unfold chainT at h
  split at h
  · cases h
  · rename_i a r1 h1
    exact (chainK_suf hf _ _ _ _ _ h).trans (hf _ _ _ h1)
theorem pair_suf (en : Nat) {f : List Tok → TR} (hf : Suf f) (op : List UInt8) : Suf (pairK en f op) := by
  intro ts t r h
  unfold pairK at h
  obtain ⟨r1, h1, h⟩ := bind_ok_iff.1 h
  obtain ⟨⟨a, r2⟩, h2, h⟩ := bind_ok_iff.1 h
  obtain ⟨r3, h3, h⟩ := bind_ok_iff.1 h
  obtain ⟨⟨b, r4⟩, h4, h⟩ := bind_ok_iff.1 h
  obtain ⟨r5, h5, h⟩ := bind_ok_iff.1 h
  injection h with h; injection h with _ h; subst h
  exact ((((need_suf h5).trans (hf _ _ _ h4)).trans (need_suf h3)).trans (hf _ _ _ h2)).trans (need_suf h1)
theorem ite_suf (en : Nat) {f : List Tok → TR} (hf : Suf f) : Suf (iteK en f) := by
  intro ts t r h
  unfold iteK at h
  obtain ⟨⟨a, r1⟩, h1, h⟩ := bind_ok_iff.1 h
  obtain ⟨r2, h2, h⟩ := bind_ok_iff.1 h
  obtain ⟨⟨b, r3⟩, h3, h⟩ := bind_ok_iff.1 h
  obtain ⟨r4, h4, h⟩ := bind_ok_iff.1 h
  obtain ⟨⟨c, r5⟩, h5, h⟩ := bind_ok_iff.1 h
  injection h with h; injection h with _ h; subst h
  exact ((((hf _ _ _ h5).trans (need_suf h4)).trans (hf _ _ _ h3)).trans (need_suf h2)).trans (hf _ _ _ h1)
theorem fac_suf (en : Nat) {f g : List Tok → TR} (hf : Suf f) (hg : Suf g) : Suf (facK en f g) := by
  intro ts t r h
  unfold facK at h
  split at h
  · rename_i s r1 hk
    obtain ⟨u, rfl, _⟩ := takeK_suf hk
    obtain ⟨⟨a, r2⟩, h1, h⟩ := bind_ok_iff.1 h
    injection h with h; injection h with _ h; subst h
    exact (hf _ _ _ h1).trans (List.suffix_cons u r1)
  · split at h
    · rename_i s r1 hk
      obtain ⟨u, rfl, _⟩ := takeK_suf hk
      exact (pair_suf en hg _ _ _ _ h).trans (List.suffix_cons u r1)
    · split at h
      · rename_i s r1 hk
        obtain ⟨u, rfl, _⟩ := takeK_suf hk
        obtain ⟨⟨a, r2⟩, h1, h⟩ := bind_ok_iff.1 h
        obtain ⟨r3, h3, h⟩ := bind_ok_iff.1 h
        injection h with h; injection h with _ h; subst h
        exact ((need_suf h3).trans (hg _ _ _ h1)).trans (List.suffix_cons u r1)
      · exact leaf_suf en _ _ _ h
theorem cmp_suf {f : List Tok → TR} (hf : Suf f) : Suf (cmpT f) := by
  intro ts t r h
  unfold cmpT at h
  obtain ⟨⟨a, r1⟩, h1, h⟩ := bind_ok_iff.1 h
  simp only at h
  split at h
  · rename_i op r2 hk
    obtain ⟨u, rfl, _⟩ := takeK_suf hk
    obtain ⟨⟨b, r3⟩, h3, h⟩ := bind_ok_iff.1 h
    injection h with h; injection h with _ h; subst h
    exact ((hf _ _ _ h3).trans (List.suffix_cons u r2)).trans (hf _ _ _ h1)
  · injection h with h; injection h with _ h; subst h
    exact hf _ _ _ h1
theorem exprK_suf (en : Nat) {f g : List Tok → TR} (hf : Suf f) (hg : Suf g) : Suf (exprK en f g) := by
  intro ts t r h
  unfold exprK at h
  split at h
  · rename_i s r1 hk
    obtain ⟨u, rfl, _⟩ := takeK_suf hk
    exact (ite_suf en hg _ _ _ h).trans (List.suffix_cons u r1)
  · exact cmp_suf (chain_suf (chain_suf hf)) _ _ _ h
theorem prK_suf (en : Nat) : ∀ d, Suf (prK en d).1 ∧ Suf (prK en d).2
  | 0 => ⟨fun ts t r h => (by cases h), fun ts t r h => (by cases h)⟩
  | d + 1 => by
    obtain ⟨h1, h2⟩ := prK_suf en d
    exact ⟨fac_suf en h1 h2, exprK_suf en (fac_suf en h1 h2) h2⟩
theorem rule_suf {en n : Nat} {ts : List Tok} {q : RT} {r : List Tok} (h : ruleK en n ts = .ok (q, r)) : r <:+ ts ∧ r.length < ts.length := by
  unfold ruleK at h
  split at h
  · cases h
  · rename_i t r1
    split at h
    · cases h
    · split at h
      · split at h
        · cases h
        · rename_i m r2
          split at h
          · obtain ⟨r3, h3, h⟩ := bind_ok_iff.1 h
            obtain ⟨⟨e, r4⟩, h4, h⟩ := bind_ok_iff.1 h
            obtain ⟨r5, h5, h⟩ := bind_ok_iff.1 h
            injection h with h; injection h with _ h; subst h
            have hs := ((need_suf h5).trans ((prK_suf en 20).2 _ _ _ h4)).trans (need_suf h3)
            refine ⟨(hs.trans (List.suffix_cons m r2)).trans (List.suffix_cons t _), ?_⟩
            have := hs.length_le
            simp only [List.length_cons]; omega
          · cases h
      · cases h
theorem prog_fuel {en : Nat} : ∀ (f g n : Nat) (ts : List Tok), ts.length ≤ f → ts.length ≤ g → progK en f n ts = progK en g n ts
  | 0, g, n, ts, hf, _ => by
    have : ts = [] := List.eq_nil_of_length_eq_zero (Nat.le_zero.1 hf)
    subst this
    cases g <;> simp [progK]
  | f + 1, 0, n, ts, _, hg => by
    have : ts = [] := List.eq_nil_of_length_eq_zero (Nat.le_zero.1 hg)
    subst this
    simp [progK]
  | f + 1, g + 1, n, ts, hf, hg => by
    unfold progK
    split
    · rfl
    · cases h : ruleK en n ts with
      | error e => rfl
      | ok p =>
        obtain ⟨q, r⟩ := p
        have := (rule_suf h).2
        simp only
        rw [prog_fuel f g (n + 1) r (by omega) (by omega)]
def Ext (f : List Tok → TR) (g : List Tok → TR) : Prop := ∀ ts us t r, f ts = .ok (t, r) → r ≠ [] → g (ts ++ us) = .ok (t, r ++ us)
theorem take_ext {l : List (List UInt8)} {ts us : List Tok} {p : List UInt8 × List Tok} (h : takeK l ts = some p) : takeK l (ts ++ us) = some (p.1, p.2 ++ us) := by
  cases ts with
  | nil => cases h
  | cons t ts =>
    unfold takeK at h
    simp only at h
    show (if signT t = true ∧ l.contains t.text = true then some (t.text, ts ++ us) else none) = _
    split at h
    · rename_i hc; rw [if_pos hc]; injection h with h; subst h; rfl
    · cases h
theorem take_ext0 {l : List (List UInt8)} {ts us : List Tok} (h : takeK l ts = none) (h0 : ts ≠ []) : takeK l (ts ++ us) = none := by
  cases ts with
  | nil => exact absurd rfl h0
  | cons t ts =>
    unfold takeK at h
    simp only at h
    show (if signT t = true ∧ l.contains t.text = true then some (t.text, ts ++ us) else none) = _
    split at h
    · cases h
    · rename_i hc; rw [if_neg hc]
theorem need_ext {en en' : Nat} {s : List UInt8} {ts us r : List Tok} (h : needK en s ts = .ok r) : needK en' s (ts ++ us) = .ok (r ++ us) := by
  unfold needK at h ⊢
  cases hk : takeK [s] ts with
  | none => rw [hk] at h; cases h
  | some p =>
    rw [hk] at h
    rw [take_ext hk]
    injection h with h
    subst h
    rfl
theorem ne_of_suf {r ts : List Tok} (h : r <:+ ts) (hr : r ≠ []) : ts ≠ [] := by
  rintro rfl
  exact hr (List.suffix_nil.1 h)
section
variable {en en' : Nat}
theorem leaf_ext : Ext (leafK en) (leafK en') := by
  intro ts us t r h hr
  cases ts with
  | nil => cases h
  | cons u ts =>
    unfold leafK at h
    simp only at h
    show (match leafE u with | some e => Except.ok (e, ts ++ us) | none => _) = _
    split at h
    · rename_i e he; rw [he]; injection h with h; injection h with h1 h2; subst h1 h2; rfl
    · cases h
theorem chainK_ext {f g : List Tok → TR} (hf : Suf f) (he : Ext f g) {ops : List (List UInt8)} (us : List Tok) : ∀ (n : Nat) (ts : List Tok) (a t : Xt) (r : List Tok), ts.length ≤ n → chainK f ops n ts a = .ok (t, r) → r ≠ [] → chainK g ops (n + us.length) (ts ++ us) a = .ok (t, r ++ us)
  | 0, ts, a, t, r, hn, h, hr => by
    have : ts = [] := List.eq_nil_of_length_eq_zero (Nat.le_zero.1 hn)
    subst this
    injection h with h; injection h with _ h
    exact absurd h.symm hr
  | n + 1, ts, a, t, r, hn, h, hr => by
    rw [show n + 1 + us.length = (n + us.length) + 1 by omega]
    unfold chainK at h ⊢
    cases hk : takeK ops ts with
    | none =>
      rw [hk] at h
      simp only at h
      injection h with h; injection h with h1 h2; subst h1 h2
      rw [take_ext0 hk hr]
    | some p =>
      obtain ⟨op, r1⟩ := p
      rw [hk] at h
      rw [take_ext hk]
      simp only at h ⊢
      obtain ⟨u, rfl, _⟩ := takeK_suf hk
      simp only [List.length_cons] at hn
      cases h1 : f r1 with
      | error e => rw [h1] at h; cases h
      | ok q =>
        obtain ⟨b, r2⟩ := q
        rw [h1] at h
        simp only at h
        have hs := chainK_suf hf _ _ _ _ _ h
        have hl := (hf _ _ _ h1).length_le
        rw [he r1 us b r2 h1 (ne_of_suf hs hr)]
        exact chainK_ext hf he us n r2 _ t r (by omega) h hr
theorem chain_ext {f g : List Tok → TR} (hf : Suf f) (he : Ext f g) {ops : List (List UInt8)} : Ext (chainT f ops) (chainT g ops) := by
  intro ts us t r h hr
  unfold chainT at h ⊢
  cases h1 : f ts with
  | error e => rw [h1] at h; cases h
  | ok q =>
    obtain ⟨a, r1⟩ := q
    rw [h1] at h
    simp only at h
    have hs := chainK_suf hf _ _ _ _ _ h
    rw [he ts us a r1 h1 (ne_of_suf hs hr)]
    have := chainK_ext hf he us r1.length r1 a t r (Nat.le_refl _) h hr
    simp only
    rw [List.length_append]
    exact this
theorem pair_ext {f g : List Tok → TR} (hf : Suf f) (he : Ext f g) (op : List UInt8) : Ext (pairK en f op) (pairK en' g op) := by
  intro ts us t r h hr
  unfold pairK at h ⊢
  obtain ⟨r1, h1, h⟩ := bind_ok_iff.1 h
  obtain ⟨⟨a, r2⟩, h2, h⟩ := bind_ok_iff.1 h
  obtain ⟨r3, h3, h⟩ := bind_ok_iff.1 h
  obtain ⟨⟨b, r4⟩, h4, h⟩ := bind_ok_iff.1 h
  obtain ⟨r5, h5, h⟩ := bind_ok_iff.1 h
  injection h with h; injection h with ht h; subst h ht
  have n4 := ne_of_suf (need_suf h5) hr
  have n3 := ne_of_suf (hf _ _ _ h4) n4
  have n2 := ne_of_suf (need_suf h3) n3
  rw [need_ext h1, bind_ok, he _ us _ _ h2 n2, bind_ok]
  simp only
  rw [need_ext h3, bind_ok, he _ us _ _ h4 n4, bind_ok]
  simp only
  rw [need_ext h5, bind_ok]
theorem ite_ext {f g : List Tok → TR} (hf : Suf f) (he : Ext f g) : Ext (iteK en f) (iteK en' g) := by
  intro ts us t r h hr
  unfold iteK at h ⊢
  obtain ⟨⟨a, r1⟩, h1, h⟩ := bind_ok_iff.1 h
  obtain ⟨r2, h2, h⟩ := bind_ok_iff.1 h
  obtain ⟨⟨b, r3⟩, h3, h⟩ := bind_ok_iff.1 h
  obtain ⟨r4, h4, h⟩ := bind_ok_iff.1 h
  obtain ⟨⟨c, r5⟩, h5, h⟩ := bind_ok_iff.1 h
  injection h with h; injection h with ht h; subst h ht
  have n4 := ne_of_suf (hf _ _ _ h5) hr
  have n3 := ne_of_suf (need_suf h4) n4
  have n2 := ne_of_suf (hf _ _ _ h3) n3
  have n1 := ne_of_suf (need_suf h2) n2
  rw [he _ us _ _ h1 n1, bind_ok]
  simp only
  rw [need_ext h2, bind_ok, he _ us _ _ h3 n3, bind_ok]
  simp only
  rw [need_ext h4, bind_ok, he _ us _ _ h5 hr, bind_ok]
theorem fac_ext {f g f' g' : List Tok → TR} (hf : Suf f) (hg : Suf g) (he : Ext f f') (hh : Ext g g') : Ext (facK en f g) (facK en' f' g') := by
  intro ts us t r h hr
  have hts : ts ≠ [] := ne_of_suf (fac_suf en hf hg _ _ _ h) hr
  unfold facK at h ⊢
  cases hk : takeK [[45]] ts with
  | some p =>
    obtain ⟨s, r1⟩ := p
    rw [hk] at h
    rw [take_ext hk]
    simp only at h ⊢
    obtain ⟨⟨a, r2⟩, h1, h⟩ := bind_ok_iff.1 h
    injection h with h; injection h with ht h; subst h ht
    rw [he _ us _ _ h1 hr, bind_ok]
  | none =>
    rw [hk] at h
    rw [take_ext0 hk hts]
    simp only at h ⊢
    cases hk : takeK [wMin, wMax] ts with
    | some p =>
      obtain ⟨s, r1⟩ := p
      rw [hk] at h
      rw [take_ext hk]
      exact pair_ext hg hh s _ us _ _ h hr
    | none =>
      rw [hk] at h
      rw [take_ext0 hk hts]
      simp only at h ⊢
      cases hk : takeK [[40]] ts with
      | some p =>
        obtain ⟨s, r1⟩ := p
        rw [hk] at h
        rw [take_ext hk]
        simp only at h ⊢
        obtain ⟨⟨a, r2⟩, h1, h⟩ := bind_ok_iff.1 h
        obtain ⟨r3, h3, h⟩ := bind_ok_iff.1 h
        injection h with h; injection h with ht h; subst h ht
        rw [hh _ us _ _ h1 (ne_of_suf (need_suf h3) hr), bind_ok]
        simp only
        rw [need_ext h3, bind_ok]
      | none =>
        rw [hk] at h
        rw [take_ext0 hk hts]
        exact leaf_ext ts us t r h hr
theorem cmp_ext {f g : List Tok → TR} (hf : Suf f) (he : Ext f g) : Ext (cmpT f) (cmpT g) := by
  intro ts us t r h hr
  unfold cmpT at h ⊢
  obtain ⟨⟨a, r1⟩, h1, h⟩ := bind_ok_iff.1 h
  simp only at h
  cases hk : takeK cmpL r1 with
  | some p =>
    obtain ⟨op, r2⟩ := p
    rw [hk] at h
    simp only at h
    obtain ⟨⟨b, r3⟩, h3, h⟩ := bind_ok_iff.1 h
    injection h with h; injection h with ht h; subst h ht
    obtain ⟨u, rfl, _⟩ := takeK_suf hk
    rw [he _ us _ _ h1 (by simp), bind_ok]
    simp only
    rw [take_ext hk]
    simp only
    rw [he _ us _ _ h3 hr, bind_ok]
  | none =>
    rw [hk] at h
    simp only at h
    injection h with h; injection h with ht h; subst h ht
    rw [he _ us _ _ h1 hr, bind_ok]
    simp only
    rw [take_ext0 hk hr]
theorem exprK_ext {f g f' g' : List Tok → TR} (hf : Suf f) (hg : Suf g) (he : Ext f f') (hh : Ext g g') : Ext (exprK en f g) (exprK en' f' g') := by
  intro ts us t r h hr
  have hts : ts ≠ [] := ne_of_suf (exprK_suf en hf hg _ _ _ h) hr
  unfold exprK at h ⊢
  cases hk : takeK [wIf] ts with
  | some p =>
    obtain ⟨s, r1⟩ := p
    rw [hk] at h
    rw [take_ext hk]
    exact ite_ext hg hh _ us _ _ h hr
  | none =>
    rw [hk] at h
    rw [take_ext0 hk hts]
    exact cmp_ext (chain_suf (chain_suf hf)) (chain_ext (chain_suf hf) (chain_ext hf he)) _ us _ _ h hr
theorem prK_ext : ∀ d, Ext (prK en d).1 (prK en' d).1 ∧ Ext (prK en d).2 (prK en' d).2
  | 0 => ⟨fun ts us t r h => (by cases h), fun ts us t r h => (by cases h)⟩
  | d + 1 => by
    obtain ⟨h1, h2⟩ := prK_ext d
    obtain ⟨s1, s2⟩ := prK_suf en d
    exact ⟨fac_ext s1 s2 h1 h2, exprK_ext (fac_suf en s1 s2) s2 (fac_ext s1 s2 h1 h2) h2⟩
theorem rule_ext {n : Nat} {ts us : List Tok} {q : RT} {r : List Tok} (h : ruleK en n ts = .ok (q, r)) : ruleK en' n (ts ++ us) = .ok (q, r ++ us) := by
  unfold ruleK at h
  split at h
  · cases h
  · rename_i t r1
    show (if 60 ≤ n ∧ t.kind = 1 ∧ kindsL.contains t.text = true then _ else if signT t = true ∧ kindsL.contains t.text = true then (match r1 ++ us with | [] => _ | m :: r => _) else _) = _
    split at h
    · cases h
    · rename_i c1
      rw [if_neg c1]
      split at h
      · rename_i c2
        rw [if_pos c2]
        split at h
        · cases h
        · rename_i m r2
          simp only [List.cons_append]
          split at h
          · rename_i c3
            rw [if_pos c3]
            obtain ⟨r3, h3, h⟩ := bind_ok_iff.1 h
            obtain ⟨⟨e, r4⟩, h4, h⟩ := bind_ok_iff.1 h
            obtain ⟨r5, h5, h⟩ := bind_ok_iff.1 h
            injection h with h; injection h with ht h; subst h ht
            obtain ⟨u, hu, _⟩ := needK_ok h5
            rw [need_ext h3, bind_ok, show exprT en' 20 (r3 ++ us) = _ from (prK_ext 20).2 _ us _ _ h4 (by rw [hu]; simp), bind_ok]
            simp only
            rw [need_ext h5, bind_ok]
          · cases h
      · cases h
end
theorem prog_app {en en' : Nat} {us : List Tok} : ∀ (f n : Nat) (ts : List Tok) (l : List RT), ts.length ≤ f → progK en f n ts = .ok l →
    progK en' (f + us.length) n (ts ++ us) = match progK en' us.length (n + l.length) us with
      | .ok m => .ok (l ++ m)
      | .error e => .error e
  | 0, n, ts, l, hn, h => by
    have : ts = [] := List.eq_nil_of_length_eq_zero (Nat.le_zero.1 hn)
    subst this
    injection h with h
    subst h
    simp only [Nat.zero_add, List.nil_append, List.length_nil, Nat.add_zero]
    cases progK en' us.length n us <;> rfl
  | f + 1, n, ts, l, hn, h => by
    by_cases h0 : ts = []
    · subst h0
      unfold progK at h
      rw [if_pos rfl] at h
      injection h with h
      subst h
      simp only [List.nil_append, List.length_nil, Nat.add_zero]
      rw [prog_fuel (f + 1 + us.length) us.length n us (by omega) (Nat.le_refl _)]
      cases progK en' us.length n us <;> rfl
    · rw [show f + 1 + us.length = (f + us.length) + 1 by omega]
      unfold progK at h
      conv => lhs; unfold progK
      rw [if_neg h0] at h
      rw [if_neg (by simp [h0])]
      cases hk : ruleK en n ts with
      | error e => rw [hk] at h; cases h
      | ok p =>
        obtain ⟨q, r⟩ := p
        rw [hk] at h
        rw [rule_ext (en' := en') hk]
        have hl := (rule_suf hk).2
        simp only at h ⊢
        cases hp : progK en f (n + 1) r with
        | error e => rw [hp] at h; cases h
        | ok l' =>
          rw [hp] at h
          simp only at h
          injection h with h
          subst h
          rw [prog_app f (n + 1) r l' (by omega) hp, show n + (q :: l').length = n + 1 + l'.length by simp; omega]
          cases progK en' us.length (n + 1 + l'.length) us <;> rfl
theorem rule_limit {en n n' : Nat} (hn : n ≤ n') (ts : List Tok) : ruleK en n' ts = ruleK en n ts ∨ (60 ≤ n' ∧ ∃ p, ruleK en n' ts = .error (9, p)) := by
  unfold ruleK
  cases ts with
  | nil => exact .inl rfl
  | cons t r =>
    simp only
    by_cases h : 60 ≤ n' ∧ t.kind = 1 ∧ kindsL.contains t.text = true
    · exact .inr ⟨h.1, t.pos, by rw [if_pos h]⟩
    · left
      have h2 : ¬ (60 ≤ n ∧ t.kind = 1 ∧ kindsL.contains t.text = true) := fun h' => h ⟨by omega, h'.2⟩
      rw [if_neg h, if_neg h2]
theorem rule_kind {en n n' : Nat} {ts : List Tok} {p : RT × List Tok} (hg : ∀ t ∈ ts, t.kind = 5 → kindsL.contains t.text = false) (h : ruleK en n ts = .ok p) (hn : 60 ≤ n') : ∃ p, ruleK en n' ts = .error (9, p) := by
  unfold ruleK at h ⊢
  cases ts with
  | nil => cases h
  | cons t r =>
    simp only at h ⊢
    split at h
    · cases h
    · split at h
      · rename_i h1 h2
        have hk : t.kind = 1 := by
          have := h2.1
          unfold signT at this
          simp only [Bool.or_eq_true, beq_iff_eq] at this
          rcases this with h | h
          · exact h
          · rw [hg t (by simp) h] at h2; cases h2.2
        exact ⟨t.pos, by rw [if_pos ⟨hn, hk, h2.2⟩]⟩
      · cases h
theorem prog_limit {en : Nat} : ∀ (f n n' : Nat) (ts : List Tok), n ≤ n' → progK en f n' ts = progK en f n ts ∨ ∃ p, progK en f n' ts = .error (9, p)
  | 0, _, _, _, _ => .inl rfl
  | f + 1, n, n', ts, hn => by
    unfold progK
    by_cases h0 : ts = []
    · rw [if_pos h0, if_pos h0]; exact .inl rfl
    · rw [if_neg h0, if_neg h0]
      rcases rule_limit hn ts with h | ⟨_, p, h⟩
      · rw [h]
        cases ruleK en n ts with
        | error e => exact .inl rfl
        | ok q =>
          obtain ⟨q, r⟩ := q
          simp only
          rcases prog_limit f (n + 1) (n' + 1) r (by omega) with h | ⟨p, h⟩
          · rw [h]; exact .inl rfl
          · rw [h]; exact .inr ⟨p, rfl⟩
      · rw [h]; exact .inr ⟨p, rfl⟩
theorem prog_within {en : Nat} : ∀ (f n n' : Nat) (ts : List Tok) (l : List RT), n ≤ n' → progK en f n ts = .ok l → n' + l.length ≤ 60 → progK en f n' ts = .ok l
  | 0, _, _, _, _, _, h, _ => h
  | f + 1, n, n', ts, l, hn, h, hl => by
    unfold progK at h ⊢
    by_cases h0 : ts = []
    · rw [if_pos h0] at h ⊢; exact h
    · rw [if_neg h0] at h ⊢
      cases hk : ruleK en n ts with
      | error e => rw [hk] at h; cases h
      | ok q =>
        obtain ⟨q, r⟩ := q
        rw [hk] at h
        simp only at h
        cases hp : progK en f (n + 1) r with
        | error e => rw [hp] at h; cases h
        | ok m =>
          rw [hp] at h
          simp only at h
          injection h with h
          subst h
          simp only [List.length_cons] at hl
          rcases rule_limit hn ts with h | ⟨h, _⟩
          · rw [h, hk]
            simp only
            rw [prog_within f (n + 1) (n' + 1) r m (by omega) hp (by omega)]
          · omega
theorem prog_beyond {en : Nat} : ∀ (f n n' : Nat) (ts : List Tok) (l : List RT), (∀ t ∈ ts, t.kind = 5 → kindsL.contains t.text = false) → n ≤ n' → n' ≤ 60 → progK en f n ts = .ok l → 60 < n' + l.length → ∃ p, progK en f n' ts = .error (9, p)
  | 0, n, n', ts, l, _, hn, h60, h, hl => by injection h with h; subst h; simp at hl; omega
  | f + 1, n, n', ts, l, hg, hn, h60, h, hl => by
    unfold progK at h ⊢
    by_cases h0 : ts = []
    · rw [if_pos h0] at h; injection h with h; subst h; simp at hl; omega
    · rw [if_neg h0] at h ⊢
      cases hk : ruleK en n ts with
      | error e => rw [hk] at h; cases h
      | ok q =>
        obtain ⟨q, r⟩ := q
        rw [hk] at h
        simp only at h
        cases hp : progK en f (n + 1) r with
        | error e => rw [hp] at h; cases h
        | ok m =>
          rw [hp] at h
          simp only at h
          injection h with h
          subst h
          simp only [List.length_cons] at hl
          by_cases h6 : n' = 60
          · obtain ⟨p, hp⟩ := rule_kind hg hk (n' := n') (by omega)
            rw [hp]; exact ⟨p, rfl⟩
          · rcases rule_limit hn ts with h | ⟨h, _⟩
            · rw [h, hk]
              simp only
              have hs := (rule_suf hk).1
              obtain ⟨p, hp⟩ := prog_beyond f (n + 1) (n' + 1) r m (fun t ht => hg t (hs.subset ht)) (by omega) (by omega) hp (by omega)
              rw [hp]; exact ⟨p, rfl⟩
            · omega
theorem prog_60 {en : Nat} : ∀ (f n : Nat) (ts : List Tok) (l : List RT), (∀ t ∈ ts, t.kind = 5 → kindsL.contains t.text = false) → n ≤ 60 → progK en f n ts = .ok l → n + l.length ≤ 60 := by
  intro f n ts l hg hn h
  rcases Nat.lt_or_ge 60 (n + l.length) with hl | hl
  · obtain ⟨p, hp⟩ := prog_beyond f n n ts l hg (Nat.le_refl _) hn h hl
    rw [h] at hp; cases hp
  · exact hl
theorem good_sign {k : Int} {u : List UInt8} (h : Good k u) (h5 : k = 5) : kindsL.contains u = false := by
  obtain ⟨c, r, rfl⟩ := h.cons
  obtain ⟨_, h2, _⟩ := good_kind h
  subst h5
  rw [Bool.eq_false_iff]
  intro hc
  simp only [kindsL, wEarn, wPretax, wPost, wLet, List.contains_eq_mem, List.mem_cons, List.not_mem_nil, or_false, decide_eq_true_eq, List.cons.injEq] at hc
  rcases hc with ⟨rfl, _⟩ | ⟨rfl, _⟩ | ⟨rfl, _⟩ | ⟨rfl, _⟩ <;> exact absurd h2 (by decide)
/-- Tokens alike make the same program, or the same error. -/
theorem blanks_law {en en' : Nat} {ts us : List Tok} (h : ts.map kt = us.map kt) : (parseT en ts).1 = (parseT en' us).1 ∧ (parseT en ts).2.2 = (parseT en' us).2.2 := by
  rw [parseT_eq, parseT_eq]
  have := read_R (P := fun _ _ => True) (en := en) (en' := en') trivial (tokR_kt h)
  match readT en ts, readT en' us, this with
  | .ok l, .ok l', h => rw [show l = l' from h]; exact ⟨rfl, rfl⟩
  | .error e, .error e', h => exact ⟨rfl, h.1⟩
def shiftX (d : Nat) (x : Xpr) : Xpr :=
  if x.op = wWhole ∨ x.op = wAmount ∨ x.op = wRate ∨ x.op = wName then x
  else if x.op = wIf then { x with a := x.a + d, b := x.b + d, c := x.c + d }
  else if x.op = wNeg then { x with a := x.a + d }
  else { x with a := x.a + d, b := x.b + d }
def shiftR (d : Nat) (r : Rul) : Rul := ⟨r.kind, r.name, r.root + d⟩
/-- Operations as they are read. -/
def binOps : List (List UInt8) := cmpL ++ sumL ++ mulL ++ [wMin, wMax]
def WfT : Xt → Prop
  | .leaf op _ _ => op = wWhole ∨ op = wAmount ∨ op = wRate ∨ op = wName
  | .neg e => WfT e
  | .bin op a b => op ∈ binOps ∧ WfT a ∧ WfT b
  | .ite a b c => WfT a ∧ WfT b ∧ WfT c
def Wf (f : List Tok → TR) : Prop := ∀ ts t r, f ts = .ok (t, r) → WfT t
theorem leaf_wf (en : Nat) : Wf (leafK en) := by
  intro ts t r h
  cases ts with
  | nil => cases h
  | cons u ts =>
    unfold leafK at h
    simp only at h
    split at h
    · rename_i e he
      injection h with h; injection h with h _; subst h
      unfold leafE at he
      repeat' split at he
      all_goals first | (injection he with he; subst he; simp [WfT]) | cases he
    · cases h
theorem chainK_wf {f : List Tok → TR} (hf : Wf f) {ops : List (List UInt8)} (ho : ∀ o ∈ ops, o ∈ binOps) : ∀ (n : Nat) (ts : List Tok) (a t : Xt) (r : List Tok), WfT a → chainK f ops n ts a = .ok (t, r) → WfT t
  | 0, ts, a, t, r, ha, h => by injection h with h; injection h with h _; subst h; exact ha
  | n + 1, ts, a, t, r, ha, h => by
    unfold chainK at h
    split at h
    · injection h with h; injection h with h _; subst h; exact ha
    · rename_i op r1 hk
      obtain ⟨u, _, _, _, hm⟩ := takeK_suf hk
      split at h
      · cases h
      · rename_i b r2 h2
        exact chainK_wf hf ho n r2 _ t r (show WfT (.bin op a b) from ⟨ho _ hm, ha, hf _ _ _ h2⟩) h
theorem chain_wf {f : List Tok → TR} (hf : Wf f) {ops : List (List UInt8)} (ho : ∀ o ∈ ops, o ∈ binOps) : Wf (chainT f ops) := by
  intro ts t r h
  unfold chainT at h
  split at h
  · cases h
  · rename_i a r1 h1
    exact chainK_wf hf ho _ _ _ _ _ (hf _ _ _ h1) h
theorem pair_wf (en : Nat) {f : List Tok → TR} (hf : Wf f) {op : List UInt8} (ho : op ∈ binOps) : Wf (pairK en f op) := by
  intro ts t r h
  unfold pairK at h
  obtain ⟨r1, h1, h⟩ := bind_ok_iff.1 h
  obtain ⟨⟨a, r2⟩, h2, h⟩ := bind_ok_iff.1 h
  obtain ⟨r3, h3, h⟩ := bind_ok_iff.1 h
  obtain ⟨⟨b, r4⟩, h4, h⟩ := bind_ok_iff.1 h
  obtain ⟨r5, h5, h⟩ := bind_ok_iff.1 h
  injection h with h; injection h with h _; subst h
  exact ⟨ho, hf _ _ _ h2, hf _ _ _ h4⟩
theorem ite_wf (en : Nat) {f : List Tok → TR} (hf : Wf f) : Wf (iteK en f) := by
  intro ts t r h
  unfold iteK at h
  obtain ⟨⟨a, r1⟩, h1, h⟩ := bind_ok_iff.1 h
  obtain ⟨r2, h2, h⟩ := bind_ok_iff.1 h
  obtain ⟨⟨b, r3⟩, h3, h⟩ := bind_ok_iff.1 h
  obtain ⟨r4, h4, h⟩ := bind_ok_iff.1 h
  obtain ⟨⟨c, r5⟩, h5, h⟩ := bind_ok_iff.1 h
  injection h with h; injection h with h _; subst h
  exact ⟨hf _ _ _ h1, hf _ _ _ h3, hf _ _ _ h5⟩
theorem fac_wf (en : Nat) {f g : List Tok → TR} (hf : Wf f) (hg : Wf g) : Wf (facK en f g) := by
  intro ts t r h
  unfold facK at h
  split at h
  · obtain ⟨⟨a, r2⟩, h1, h⟩ := bind_ok_iff.1 h
    injection h with h; injection h with h _; subst h
    show WfT a
    exact hf _ _ _ h1
  · split at h
    · rename_i s r1 hk
      obtain ⟨u, _, _, _, hm⟩ := takeK_suf hk
      refine pair_wf en hg ?_ _ _ _ h
      simp only [List.mem_cons, List.not_mem_nil, or_false] at hm
      rcases hm with rfl | rfl <;> decide
    · split at h
      · obtain ⟨⟨a, r2⟩, h1, h⟩ := bind_ok_iff.1 h
        obtain ⟨r3, h3, h⟩ := bind_ok_iff.1 h
        injection h with h; injection h with h _; subst h
        exact hg _ _ _ h1
      · exact leaf_wf en _ _ _ h
theorem cmp_wf {f : List Tok → TR} (hf : Wf f) : Wf (cmpT f) := by
  intro ts t r h
  unfold cmpT at h
  obtain ⟨⟨a, r1⟩, h1, h⟩ := bind_ok_iff.1 h
  simp only at h
  split at h
  · rename_i op r2 hk
    obtain ⟨u, _, _, _, hm⟩ := takeK_suf hk
    obtain ⟨⟨b, r3⟩, h3, h⟩ := bind_ok_iff.1 h
    injection h with h; injection h with h _; subst h
    refine ⟨?_, hf _ _ _ h1, hf _ _ _ h3⟩
    unfold binOps
    simp only [List.mem_append]
    exact .inl (.inl (.inl hm))
  · injection h with h; injection h with h _; subst h
    exact hf _ _ _ h1
theorem exprK_wf (en : Nat) {f g : List Tok → TR} (hf : Wf f) (hg : Wf g) : Wf (exprK en f g) := by
  intro ts t r h
  unfold exprK at h
  split at h
  · exact ite_wf en hg _ _ _ h
  · exact cmp_wf (chain_wf (chain_wf hf (by decide)) (by decide)) _ _ _ h
theorem prK_wf (en : Nat) : ∀ d, Wf (prK en d).1 ∧ Wf (prK en d).2
  | 0 => ⟨fun ts t r h => (by cases h), fun ts t r h => (by cases h)⟩
  | d + 1 => by
    obtain ⟨h1, h2⟩ := prK_wf en d
    exact ⟨fac_wf en h1 h2, exprK_wf en (fac_wf en h1 h2) h2⟩
theorem rule_wf {en n : Nat} {ts : List Tok} {q : RT} {r : List Tok} (h : ruleK en n ts = .ok (q, r)) : WfT q.tree := by
  unfold ruleK at h
  split at h
  · cases h
  · split at h
    · cases h
    · split at h
      · split at h
        · cases h
        · split at h
          · obtain ⟨r3, h3, h⟩ := bind_ok_iff.1 h
            obtain ⟨⟨e, r4⟩, h4, h⟩ := bind_ok_iff.1 h
            obtain ⟨r5, h5, h⟩ := bind_ok_iff.1 h
            injection h with h; injection h with h _; subst h
            exact (prK_wf en 20).2 _ _ _ h4
          · cases h
      · cases h
theorem prog_wf {en : Nat} : ∀ (f n : Nat) (ts : List Tok) (l : List RT), progK en f n ts = .ok l → ∀ q ∈ l, WfT q.tree
  | 0, _, _, l, h, q, hq => by injection h with h; subst h; cases hq
  | f + 1, n, ts, l, h, q, hq => by
    unfold progK at h
    split at h
    · injection h with h; subst h; cases hq
    · split at h
      · cases h
      · rename_i q' r hk
        split at h
        · cases h
        · rename_i m hm
          injection h with h
          subst h
          rcases List.mem_cons.1 hq with rfl | hq
          · exact rule_wf hk
          · exact prog_wf f _ _ _ hm q hq
theorem flat_shift (d : Nat) : ∀ (t : Xt) (n : Nat), WfT t → flat (n + d) t = (flat n t).map (shiftX d)
  | .leaf op nm v, n, h => by
    have h : op = wWhole ∨ op = wAmount ∨ op = wRate ∨ op = wName := h
    simp [flat, xLeaf, shiftX, h]
  | .neg e, n, h => by
    have := e.pos
    simp only [flat, List.map_append, List.map_cons, List.map_nil, flat_shift d e n h]
    congr 2
    simp [shiftX, xNode]
    omega
  | .bin op a b, n, h => by
    obtain ⟨ho, ha, hb⟩ := h
    have := a.pos
    have := b.pos
    have h1 : ¬ (op = wWhole ∨ op = wAmount ∨ op = wRate ∨ op = wName) := by
      rintro (rfl | rfl | rfl | rfl) <;> exact absurd ho (by decide)
    have h2 : op ≠ wIf := by rintro rfl; exact absurd ho (by decide)
    have h3 : op ≠ wNeg := by rintro rfl; exact absurd ho (by decide)
    simp only [flat, List.map_append, List.map_cons, List.map_nil]
    rw [flat_shift d a n ha, show n + d + a.size = n + a.size + d by omega, flat_shift d b (n + a.size) hb]
    have e : shiftX d (xNode op (n + a.size - 1) (n + a.size + b.size - 1) 0) = xNode op (n + a.size + d - 1) (n + a.size + d + b.size - 1) 0 := by
      simp only [not_or] at h1
      simp [shiftX, xNode, h1, h2, h3]
      omega
    rw [e]
  | .ite a b c, n, h => by
    obtain ⟨ha, hb, hc⟩ := h
    have := a.pos
    have := b.pos
    have := c.pos
    simp only [flat, List.map_append, List.map_cons, List.map_nil]
    rw [flat_shift d a n ha, show n + d + a.size = n + a.size + d by omega, flat_shift d b (n + a.size) hb, show n + a.size + d + b.size = n + a.size + b.size + d by omega, flat_shift d c (n + a.size + b.size) hc]
    congr 2
    simp [shiftX, xNode]
    omega
theorem exprsOf_shift (d : Nat) : ∀ (l : List RT) (n : Nat), (∀ q ∈ l, WfT q.tree) → exprsOf (n + d) l = (exprsOf n l).map (shiftX d)
  | [], n, _ => rfl
  | q :: l, n, h => by
    simp only [exprsOf, List.map_append]
    rw [flat_shift d _ n (h q (by simp)), show n + d + q.tree.size = n + q.tree.size + d by omega, exprsOf_shift d l _ (fun x hx => h x (List.mem_cons_of_mem _ hx))]
theorem rulesOf_shift (d : Nat) : ∀ (l : List RT) (n : Nat), rulesOf (n + d) l = (rulesOf n l).map (shiftR d)
  | [], n => rfl
  | q :: l, n => by
    have := q.tree.pos
    simp only [rulesOf, List.map_cons]
    rw [show n + d + q.tree.size = n + q.tree.size + d by omega, rulesOf_shift d l _]
    congr 1
    simp only [shiftR, Rul.mk.injEq, true_and]
    omega
theorem rulesOf_len : ∀ (l : List RT) (n : Nat), (rulesOf n l).length = l.length
  | [], n => rfl
  | q :: l, n => by simp [rulesOf, rulesOf_len l]
theorem exprsOf_app : ∀ (l m : List RT) (n : Nat), exprsOf n (l ++ m) = exprsOf n l ++ exprsOf (n + (exprsOf n l).length) m
  | [], m, n => by simp [exprsOf]
  | q :: l, m, n => by
    simp only [exprsOf, List.cons_append, List.append_assoc, List.length_append, flat_len]
    rw [exprsOf_app l m, Nat.add_assoc]
theorem rulesOf_app : ∀ (l m : List RT) (n : Nat), rulesOf n (l ++ m) = rulesOf n l ++ rulesOf (n + (exprsOf n l).length) m
  | [], m, n => by simp [exprsOf, rulesOf]
  | q :: l, m, n => by
    simp only [exprsOf, rulesOf, List.cons_append, List.length_append, flat_len]
    rw [rulesOf_app l m, Nat.add_assoc]
theorem progOf_app {l m : List RT} (h : ∀ q ∈ m, WfT q.tree) : progOf (l ++ m) = ⟨(progOf l).rules ++ (progOf m).rules.map (shiftR (progOf l).exprs.length), (progOf l).exprs ++ (progOf m).exprs.map (shiftX (progOf l).exprs.length)⟩ := by
  unfold progOf
  simp only
  rw [exprsOf_app, rulesOf_app, ← exprsOf_shift _ m 0 h, ← rulesOf_shift]
end Pay
