/- The parser, plainly: what it makes of tokens that are alike but for their places; of tokens behind tokens. -/
import Derived.Test.YtmglkghngkbioaaGreatDoorPayC44
import Derived.Test.YtmglkghngkbioaaGreatDoorPayC48
import Derived.Test.YtmglkghngkbioaaGreatDoorPayTr1
import Derived.Test.YtmglkghngkbioaaGreatDoorPayTr2
set_option linter.unusedSimpArgs false
set_option linter.unusedVariables false
namespace Pay
def TokR (P : Int → Int → Prop) : List Tok → List Tok → Prop
  | [], [] => True
  | t :: ts, u :: us => t.kind = u.kind ∧ t.text = u.text ∧ P t.pos u.pos ∧ TokR P ts us
  | _, _ => False
theorem TokR.length {P : Int → Int → Prop} : ∀ {ts us : List Tok}, TokR P ts us → ts.length = us.length
  | [], [], _ => rfl
  | _ :: ts, _ :: us, h => by simp [TokR.length h.2.2.2]
  | [], _ :: _, h => h.elim
  | _ :: _, [], h => h.elim
def ResR {α : Type} (P : Int → Int → Prop) (A : α → α → Prop) : Except Er α → Except Er α → Prop
  | .ok a, .ok b => A a b
  | .error e, .error f => e.1 = f.1 ∧ P e.2 f.2
  | _, _ => False
def TreeR (P : Int → Int → Prop) (x y : Xt × List Tok) : Prop := x.1 = y.1 ∧ TokR P x.2 y.2
def FunR (P : Int → Int → Prop) (f g : List Tok → TR) : Prop := ∀ ts us, TokR P ts us → ResR P (TreeR P) (f ts) (g us)
theorem ResR.bind {α β : Type} {P : Int → Int → Prop} {A : α → α → Prop} {B : β → β → Prop} {x y : Except Er α} {f g : α → Except Er β} (h : ResR P A x y) (hf : ∀ a b, A a b → ResR P B (f a) (g b)) : ResR P B (x >>= f) (y >>= g) := by
  match x, y, h with
  | .ok a, .ok b, h => exact hf a b h
  | .error e, .error e', h => exact h
section
variable {P : Int → Int → Prop} {en en' : Nat}
theorem pos_R (hen : P en en') : ∀ {ts us : List Tok}, TokR P ts us → P (posT en ts) (posT en' us)
  | [], [], _ => hen
  | _ :: _, _ :: _, h => h.2.2.1
  | [], _ :: _, h => h.elim
  | _ :: _, [], h => h.elim
theorem take_R {l : List (List UInt8)} : ∀ {ts us : List Tok}, TokR P ts us → (takeK l ts = none ∧ takeK l us = none) ∨ ∃ s r r', takeK l ts = some (s, r) ∧ takeK l us = some (s, r') ∧ TokR P r r'
  | [], [], _ => .inl ⟨rfl, rfl⟩
  | t :: ts, u :: us, h => by
    obtain ⟨h1, h2, _, h4⟩ := h
    unfold takeK
    simp only
    have e : signT t = signT u := by unfold signT; rw [h1]
    rw [e, h2]
    split
    · exact .inr ⟨_, _, _, rfl, rfl, h4⟩
    · exact .inl ⟨rfl, rfl⟩
  | [], _ :: _, h => h.elim
  | _ :: _, [], h => h.elim
theorem need_R (hen : P en en') {s : List UInt8} {ts us : List Tok} (h : TokR P ts us) : ResR P (TokR P) (needK en s ts) (needK en' s us) := by
  unfold needK
  rcases take_R (l := [s]) h with ⟨h1, h2⟩ | ⟨s', r, r', h1, h2, h3⟩
  · rw [h1, h2]; exact ⟨rfl, pos_R hen h⟩
  · rw [h1, h2]; exact h3
theorem leafE_R {t u : Tok} (h1 : t.kind = u.kind) (h2 : t.text = u.text) : leafE t = leafE u := by unfold leafE; rw [h1, h2]
theorem leaf_R (hen : P en en') : FunR P (leafK en) (leafK en')
  | [], [], _ => ⟨rfl, hen⟩
  | t :: ts, u :: us, h => by
    unfold leafK
    simp only
    rw [leafE_R h.1 h.2.1]
    cases leafE u with
    | none => exact ⟨rfl, h.2.2.1⟩
    | some e => exact ⟨rfl, h.2.2.2⟩
  | [], _ :: _, h => h.elim
  | _ :: _, [], h => h.elim
theorem chainK_R {f g : List Tok → TR} (hf : FunR P f g) {ops : List (List UInt8)} : ∀ (n : Nat) {ts us : List Tok} (a : Xt), TokR P ts us → ResR P (TreeR P) (chainK f ops n ts a) (chainK g ops n us a)
  | 0, ts, us, a, h => ⟨rfl, h⟩
  | n + 1, ts, us, a, h => by
    unfold chainK
    rcases take_R (l := ops) h with ⟨h1, h2⟩ | ⟨s, r, r', h1, h2, h3⟩
    · rw [h1, h2]; exact ⟨rfl, h⟩
    · rw [h1, h2]
      simp only
      have := hf _ _ h3
      match f r, g r', this with
      | .ok (b, q), .ok (b', q'), h => 
        obtain ⟨rfl, h⟩ := h
        exact chainK_R hf n _ h
      | .error _, .error _, h => exact h
theorem chain_R {f g : List Tok → TR} (hf : FunR P f g) {ops : List (List UInt8)} : FunR P (chainT f ops) (chainT g ops) := by
  intro ts us h
  unfold chainT
  have := hf _ _ h
  match f ts, g us, this with
  | .ok (b, q), .ok (b', q'), h =>
    obtain ⟨rfl, h⟩ := h
    have h : TokR P q q' := h
    simp only
    rw [h.length]
    exact chainK_R hf _ _ h
  | .error _, .error _, h => exact h
theorem pair_R (hen : P en en') {f g : List Tok → TR} (hf : FunR P f g) (op : List UInt8) : FunR P (pairK en f op) (pairK en' g op) := by
  intro ts us h
  unfold pairK
  refine (need_R hen h).bind (fun r r' h => (hf _ _ h).bind ?_)
  rintro ⟨a, r⟩ ⟨a', r'⟩ ⟨rfl, h⟩
  refine (need_R hen h).bind (fun r r' h => (hf _ _ h).bind ?_)
  rintro ⟨b, r⟩ ⟨b', r'⟩ ⟨rfl, h⟩
  exact (need_R hen h).bind (fun r r' h => ⟨rfl, h⟩)
theorem ite_R (hen : P en en') {f g : List Tok → TR} (hf : FunR P f g) : FunR P (iteK en f) (iteK en' g) := by
  intro ts us h
  unfold iteK
  refine (hf _ _ h).bind ?_
  rintro ⟨a, r⟩ ⟨a', r'⟩ ⟨rfl, h⟩
  refine (need_R hen h).bind (fun r r' h => (hf _ _ h).bind ?_)
  rintro ⟨b, r⟩ ⟨b', r'⟩ ⟨rfl, h⟩
  refine (need_R hen h).bind (fun r r' h => (hf _ _ h).bind ?_)
  rintro ⟨c, r⟩ ⟨c', r'⟩ ⟨rfl, h⟩
  exact ⟨rfl, h⟩
theorem fac_R (hen : P en en') {f g f' g' : List Tok → TR} (hf : FunR P f g) (hf' : FunR P f' g') : FunR P (facK en f f') (facK en' g g') := by
  intro ts us h
  unfold facK
  rcases take_R (l := [[45]]) h with ⟨h1, h2⟩ | ⟨s, r, r', h1, h2, h3⟩
  · rw [h1, h2]
    simp only
    rcases take_R (l := [wMin, wMax]) h with ⟨h1, h2⟩ | ⟨s, r, r', h1, h2, h3⟩
    · rw [h1, h2]
      simp only
      rcases take_R (l := [[40]]) h with ⟨h1, h2⟩ | ⟨s, r, r', h1, h2, h3⟩
      · rw [h1, h2]; exact leaf_R hen _ _ h
      · rw [h1, h2]
        refine (hf' _ _ h3).bind ?_
        rintro ⟨a, r⟩ ⟨a', r'⟩ ⟨rfl, h⟩
        exact (need_R hen h).bind (fun r r' h => ⟨rfl, h⟩)
    · rw [h1, h2]; exact pair_R hen hf' s _ _ h3
  · rw [h1, h2]
    refine (hf _ _ h3).bind ?_
    rintro ⟨a, r⟩ ⟨a', r'⟩ ⟨rfl, h⟩
    exact ⟨rfl, h⟩
theorem cmp_R {f g : List Tok → TR} (hf : FunR P f g) : FunR P (cmpT f) (cmpT g) := by
  intro ts us h
  unfold cmpT
  refine (hf _ _ h).bind ?_
  rintro ⟨a, r⟩ ⟨a', r'⟩ ⟨rfl, h⟩
  simp only at h ⊢
  rcases take_R (l := cmpL) h with ⟨h1, h2⟩ | ⟨s, q, q', h1, h2, h3⟩
  · rw [h1, h2]; exact ⟨rfl, h⟩
  · rw [h1, h2]
    refine (hf _ _ h3).bind ?_
    rintro ⟨b, r⟩ ⟨b', r'⟩ ⟨rfl, h⟩
    exact ⟨rfl, h⟩
theorem exprK_R (hen : P en en') {f g f' g' : List Tok → TR} (hf : FunR P f g) (hf' : FunR P f' g') : FunR P (exprK en f f') (exprK en' g g') := by
  intro ts us h
  unfold exprK
  rcases take_R (l := [wIf]) h with ⟨h1, h2⟩ | ⟨s, r, r', h1, h2, h3⟩
  · rw [h1, h2]; exact cmp_R (chain_R (chain_R hf)) _ _ h
  · rw [h1, h2]; exact ite_R hen hf' _ _ h3
theorem long_R (hen : P en en') : FunR P (longK en) (longK en') := fun ts us h => ⟨rfl, pos_R hen h⟩
theorem prK_R (hen : P en en') : ∀ d, FunR P (prK en d).1 (prK en' d).1 ∧ FunR P (prK en d).2 (prK en' d).2
  | 0 => ⟨long_R hen, long_R hen⟩
  | d + 1 => by
    obtain ⟨h1, h2⟩ := prK_R hen d
    exact ⟨fac_R hen h1 h2, exprK_R hen (fac_R hen h1 h2) h2⟩
theorem expr_R (hen : P en en') (d : Nat) : FunR P (exprT en d) (exprT en' d) := (prK_R hen d).2
theorem rule_R (hen : P en en') (n : Nat) : ∀ {ts us : List Tok}, TokR P ts us → ResR P (fun x y => x.1 = y.1 ∧ TokR P x.2 y.2) (ruleK en n ts) (ruleK en' n us)
  | [], [], _ => ⟨rfl, hen⟩
  | [], _ :: _, h => h.elim
  | _ :: _, [], h => h.elim
  | t :: ts, u :: us, h => by
    obtain ⟨h1, h2, h3, h4⟩ := h
    unfold ruleK
    simp only
    have e : signT t = signT u := by unfold signT; rw [h1]
    rw [h1, h2, e]
    split
    · exact ⟨rfl, h3⟩
    · split
      · match ts, us, h4 with
        | [], [], _ => exact ⟨rfl, hen⟩
        | m :: ts, k :: us, h =>
          obtain ⟨k1, k2, k3, k4⟩ := h
          simp only
          rw [k1, k2]
          split
          · refine (need_R hen k4).bind (fun r r' h => (expr_R hen 20 _ _ h).bind ?_)
            rintro ⟨a, r⟩ ⟨a', r'⟩ ⟨rfl, h⟩
            exact (need_R hen h).bind (fun r r' h => ⟨rfl, h⟩)
          · exact ⟨rfl, k3⟩
      · exact ⟨rfl, h3⟩
theorem prog_R (hen : P en en') : ∀ (f n : Nat) {ts us : List Tok}, TokR P ts us → ResR P (fun x y => x = y) (progK en f n ts) (progK en' f n us)
  | 0, _, _, _, _ => rfl
  | f + 1, n, ts, us, h => by
    unfold progK
    have hl := h.length
    by_cases h0 : ts = []
    · subst h0
      have : us = [] := List.eq_nil_of_length_eq_zero hl.symm
      subst this
      rfl
    · have h1 : us ≠ [] := fun e => h0 (by subst e; exact List.eq_nil_of_length_eq_zero hl)
      rw [if_neg h0, if_neg h1]
      have := rule_R hen n h
      match ruleK en n ts, ruleK en' n us, this with
      | .ok (q, r), .ok (q', r'), h =>
        obtain ⟨rfl, h⟩ := h
        have := prog_R hen f (n + 1) h
        simp only
        match progK en f (n + 1) r, progK en' f (n + 1) r', this with
        | .ok l, .ok l', h => exact congrArg (q :: ·) h
        | .error _, .error _, h => exact h
      | .error _, .error _, h => exact h
theorem read_R (hen : P en en') {ts us : List Tok} (h : TokR P ts us) : ResR P (fun x y => x = y) (readT en ts) (readT en' us) := by
  unfold readT
  rw [h.length]
  exact prog_R hen _ _ h
end
theorem tokR_kt : ∀ {ts us : List Tok}, ts.map kt = us.map kt → TokR (fun _ _ => True) ts us
  | [], [], _ => trivial
  | [], _ :: _, h => by simp at h
  | _ :: _, [], h => by simp at h
  | t :: ts, u :: us, h => by
    simp only [List.map_cons, List.cons.injEq, kt, Prod.mk.injEq] at h
    exact ⟨h.1.1, h.1.2, trivial, tokR_kt h.2⟩
def Suf (f : List Tok → TR) : Prop := ∀ ts t r, f ts = .ok (t, r) → r <:+ ts
theorem takeK_suf {l : List (List UInt8)} {ts : List Tok} {s : List UInt8} {r : List Tok} (h : takeK l ts = some (s, r)) : ∃ t, ts = t :: r ∧ signT t = true ∧ s = t.text ∧ s ∈ l := by
  cases ts with
  | nil => cases h
  | cons t ts =>
    unfold takeK at h
    simp only at h
    split at h
    · rename_i hc
      simp only [Option.some.injEq, Prod.mk.injEq] at h
      obtain ⟨rfl, rfl⟩ := h
      exact ⟨t, rfl, hc.1, rfl, by simpa using hc.2⟩
    · cases h
theorem needK_ok {en : Nat} {s : List UInt8} {ts r : List Tok} (h : needK en s ts = .ok r) : ∃ t, ts = t :: r ∧ signT t = true ∧ t.text = s := by
  unfold needK at h
  split at h
  · rename_i hk
    injection h with h
    subst h
    obtain ⟨t, h1, h2, h3, h4⟩ := takeK_suf hk
    exact ⟨t, h1, h2, by rw [← h3]; simpa using h4⟩
  · cases h
theorem bind_ok_iff {α β : Type} {x : Except Er α} {f : α → Except Er β} {b : β} : (x >>= f) = .ok b ↔ ∃ a, x = .ok a ∧ f a = .ok b := by
  cases x with
  | ok a => exact ⟨fun h => ⟨a, rfl, h⟩, fun ⟨a', h1, h2⟩ => by injection h1 with h1; subst h1; exact h2⟩
  | error e => exact ⟨fun h => (by cases h), fun ⟨_, h, _⟩ => (by cases h)⟩
theorem need_suf {en : Nat} {s : List UInt8} {ts r : List Tok} (h : needK en s ts = .ok r) : r <:+ ts := by
  obtain ⟨t, rfl, _⟩ := needK_ok h
  exact List.suffix_cons t r
theorem leaf_suf (en : Nat) : Suf (leafK en) := by
  intro ts t r h
  cases ts with
  | nil => cases h
  | cons u ts =>
    unfold leafK at h
    simp only at h
    split at h
    · injection h with h; injection h with _ h; subst h; exact List.suffix_cons u ts
    · cases h
theorem chainK_suf {f : List Tok → TR} (hf : Suf f) {ops : List (List UInt8)} : ∀ (n : Nat) (ts : List Tok) (a t : Xt) (r : List Tok), chainK f ops n ts a = .ok (t, r) → r <:+ ts
  | 0, ts, a, t, r, h => by injection h with h; injection h with _ h; subst h; exact List.suffix_refl _
  | n + 1, ts, a, t, r, h => by
    unfold chainK at h
    split at h
    · injection h with h; injection h with _ h; subst h; exact List.suffix_refl _
    · rename_i op r1 hk
      obtain ⟨u, rfl, _⟩ := takeK_suf hk
      split at h
      · cases h
      · rename_i b r2 h2
        exact ((chainK_suf hf n r2 _ t r h).trans (hf _ _ _ h2)).trans (List.suffix_cons u r1)
theorem chain_suf {f : List Tok → TR} (hf : Suf f) {ops : List (List UInt8)} : Suf (chainT f ops) := by
  intro ts t r h
  unfold chainT at h
  split at h
  · cases h
  · rename_i a r1 h1
    exact (chainK_suf hf _ _ _ _ _ h).trans (hf _ _ _ h1)
theorem pair_suf (en : Nat) {f : List Tok → TR} (hf : Suf f) (op : List UInt8) : Suf (pairK en f op) := by
  intro ts t r h
  unfold pairK at h
  obtain ⟨r1, h1, h⟩ := bind_ok_iff.1 h
  obtain ⟨⟨a, r2⟩, h2, h⟩ := bind_ok_iff.1 h
  obtain ⟨r3, h3, h⟩ := bind_ok_iff.1 h
  obtain ⟨⟨b, r4⟩, h4, h⟩ := bind_ok_iff.1 h
  obtain ⟨r5, h5, h⟩ := bind_ok_iff.1 h
  injection h with h; injection h with _ h; subst h
  exact ((((need_suf h5).trans (hf _ _ _ h4)).trans (need_suf h3)).trans (hf _ _ _ h2)).trans (need_suf h1)
theorem ite_suf (en : Nat) {f : List Tok → TR} (hf : Suf f) : Suf (iteK en f) := by
  intro ts t r h
  unfold iteK at h
  obtain ⟨⟨a, r1⟩, h1, h⟩ := bind_ok_iff.1 h
  obtain ⟨r2, h2, h⟩ := bind_ok_iff.1 h
  obtain ⟨⟨b, r3⟩, h3, h⟩ := bind_ok_iff.1 h
  obtain ⟨r4, h4, h⟩ := bind_ok_iff.1 h
  obtain ⟨⟨c, r5⟩, h5, h⟩ := bind_ok_iff.1 h
  injection h with h; injection h with _ h; subst h
  exact ((((hf _ _ _ h5).trans (need_suf h4)).trans (hf _ _ _ h3)).trans (need_suf h2)).trans (hf _ _ _ h1)
theorem fac_suf (en : Nat) {f g : List Tok → TR} (hf : Suf f) (hg : Suf g) : Suf (facK en f g) := by
  intro ts t r h
  unfold facK at h
  split at h
  · rename_i s r1 hk
    obtain ⟨u, rfl, _⟩ := takeK_suf hk
    obtain ⟨⟨a, r2⟩, h1, h⟩ := bind_ok_iff.1 h
    injection h with h; injection h with _ h; subst h
    exact (hf _ _ _ h1).trans (List.suffix_cons u r1)
  · split at h
    · rename_i s r1 hk
      obtain ⟨u, rfl, _⟩ := takeK_suf hk
      exact (pair_suf en hg _ _ _ _ h).trans (List.suffix_cons u r1)
    · split at h
      · rename_i s r1 hk
        obtain ⟨u, rfl, _⟩ := takeK_suf hk
        obtain ⟨⟨a, r2⟩, h1, h⟩ := bind_ok_iff.1 h
        obtain ⟨r3, h3, h⟩ := bind_ok_iff.1 h
        injection h with h; injection h with _ h; subst h
        exact ((need_suf h3).trans (hg _ _ _ h1)).trans (List.suffix_cons u r1)
      · exact leaf_suf en _ _ _ h
theorem cmp_suf {f : List Tok → TR} (hf : Suf f) : Suf (cmpT f) := by
  intro ts t r h
  unfold cmpT at h
  obtain ⟨⟨a, r1⟩, h1, h⟩ := bind_ok_iff.1 h
  simp only at h
  split at h
  · rename_i op r2 hk
    obtain ⟨u, rfl, _⟩ := takeK_suf hk
    obtain ⟨⟨b, r3⟩, h3, h⟩ := bind_ok_iff.1 h
    injection h with h; injection h with _ h; subst h
    exact ((hf _ _ _ h3).trans (List.suffix_cons u r2)).trans (hf _ _ _ h1)
  · injection h with h; injection h with _ h; subst h
    exact hf _ _ _ h1
theorem exprK_suf (en : Nat) {f g : List Tok → TR} (hf : Suf f) (hg : Suf g) : Suf (exprK en f g) := by
  intro ts t r h
  unfold exprK at h
  split at h
  · rename_i s r1 hk
    obtain ⟨u, rfl, _⟩ := takeK_suf hk
    exact (ite_suf en hg _ _ _ h).trans (List.suffix_cons u r1)
  · exact cmp_suf (chain_suf (chain_suf hf)) _ _ _ h
theorem prK_suf (en : Nat) : ∀ d, Suf (prK en d).1 ∧ Suf (prK en d).2
  | 0 => ⟨fun ts t r h => (by cases h), fun ts t r h => (by cases h)⟩
  | d + 1 => by
    obtain ⟨h1, h2⟩ := prK_suf en d
    exact ⟨fac_suf en h1 h2, exprK_suf en (fac_suf en h1 h2) h2⟩
theorem chain_fuel {f : List Tok → TR} (hf : Suf f) {ops : List (List UInt8)} : ∀ (n m : Nat) (ts : List Tok) (a : Xt), ts.length ≤ n → ts.length ≤ m → chainK f ops n ts a = chainK f ops m ts a
  | 0, m, ts, a, hn, _ => by
    have : ts = [] := List.eq_nil_of_length_eq_zero (Nat.le_zero.1 hn)
    subst this
    cases m <;> simp [chainK, takeK]
  | n + 1, 0, ts, a, _, hm => by
    have : ts = [] := List.eq_nil_of_length_eq_zero (Nat.le_zero.1 hm)
    subst this
    simp [chainK, takeK]
  | n + 1, m + 1, ts, a, hn, hm => by
    unfold chainK
    cases hk : takeK ops ts with
    | none => rfl
    | some p =>
      obtain ⟨op, r⟩ := p
      obtain ⟨u, rfl, _⟩ := takeK_suf hk
      simp only [List.length_cons] at hn hm
      simp only
      cases h : f r with
      | error e => rfl
      | ok p =>
        obtain ⟨b, r2⟩ := p
        have := (hf _ _ _ h).length_le
        exact chain_fuel hf n m r2 _ (by omega) (by omega)
section
variable {en en' : Nat}
end
/-- Operations as they are read. -/
def binOps : List (List UInt8) := cmpL ++ sumL ++ mulL ++ [wMin, wMax]
def WfT : Xt → Prop
  | .leaf op _ _ => op = wWhole ∨ op = wAmount ∨ op = wRate ∨ op = wName
  | .neg e => WfT e
  | .bin op a b => op ∈ binOps ∧ WfT a ∧ WfT b
  | .ite a b c => WfT a ∧ WfT b ∧ WfT c
def Wf (f : List Tok → TR) : Prop := ∀ ts t r, f ts = .ok (t, r) → WfT t
theorem leaf_wf (en : Nat) : Wf (leafK en) := by
  intro ts t r h
  cases ts with
  | nil => cases h
  | cons u ts =>
    unfold leafK at h
    simp only at h
    split at h
    · rename_i e he
      injection h with h; injection h with h _; subst h
      unfold leafE at he
      repeat' split at he
      all_goals first | (injection he with he; subst he; simp [WfT]) | cases he
    · cases h
theorem chainK_wf {f : List Tok → TR} (hf : Wf f) {ops : List (List UInt8)} (ho : ∀ o ∈ ops, o ∈ binOps) : ∀ (n : Nat) (ts : List Tok) (a t : Xt) (r : List Tok), WfT a → chainK f ops n ts a = .ok (t, r) → WfT t
  | 0, ts, a, t, r, ha, h => by injection h with h; injection h with h _; subst h; exact ha
  | n + 1, ts, a, t, r, ha, h => by
    unfold chainK at h
    split at h
    · injection h with h; injection h with h _; subst h; exact ha
    · rename_i op r1 hk
      obtain ⟨u, _, _, _, hm⟩ := takeK_suf hk
      split at h
      · cases h
      · rename_i b r2 h2
        exact chainK_wf hf ho n r2 _ t r (show WfT (.bin op a b) from ⟨ho _ hm, ha, hf _ _ _ h2⟩) h
theorem chain_wf {f : List Tok → TR} (hf : Wf f) {ops : List (List UInt8)} (ho : ∀ o ∈ ops, o ∈ binOps) : Wf (chainT f ops) := by
  intro ts t r h
  unfold chainT at h
  split at h
  · cases h
  · rename_i a r1 h1
    exact chainK_wf hf ho _ _ _ _ _ (hf _ _ _ h1) h
theorem pair_wf (en : Nat) {f : List Tok → TR} (hf : Wf f) {op : List UInt8} (ho : op ∈ binOps) : Wf (pairK en f op) := by
  intro ts t r h
  unfold pairK at h
  obtain ⟨r1, h1, h⟩ := bind_ok_iff.1 h
  obtain ⟨⟨a, r2⟩, h2, h⟩ := bind_ok_iff.1 h
  obtain ⟨r3, h3, h⟩ := bind_ok_iff.1 h
  obtain ⟨⟨b, r4⟩, h4, h⟩ := bind_ok_iff.1 h
  obtain ⟨r5, h5, h⟩ := bind_ok_iff.1 h
  injection h with h; injection h with h _; subst h
  exact ⟨ho, hf _ _ _ h2, hf _ _ _ h4⟩
theorem ite_wf (en : Nat) {f : List Tok → TR} (hf : Wf f) : Wf (iteK en f) := by
  intro ts t r h
  unfold iteK at h
  obtain ⟨⟨a, r1⟩, h1, h⟩ := bind_ok_iff.1 h
  obtain ⟨r2, h2, h⟩ := bind_ok_iff.1 h
  obtain ⟨⟨b, r3⟩, h3, h⟩ := bind_ok_iff.1 h
  obtain ⟨r4, h4, h⟩ := bind_ok_iff.1 h
  obtain ⟨⟨c, r5⟩, h5, h⟩ := bind_ok_iff.1 h
  injection h with h; injection h with h _; subst h
  exact ⟨hf _ _ _ h1, hf _ _ _ h3, hf _ _ _ h5⟩
theorem fac_wf (en : Nat) {f g : List Tok → TR} (hf : Wf f) (hg : Wf g) : Wf (facK en f g) := by
  intro ts t r h
  unfold facK at h
  split at h
  · obtain ⟨⟨a, r2⟩, h1, h⟩ := bind_ok_iff.1 h
    injection h with h; injection h with h _; subst h
    show WfT a
    exact hf _ _ _ h1
  · split at h
    · rename_i s r1 hk
      obtain ⟨u, _, _, _, hm⟩ := takeK_suf hk
      refine pair_wf en hg ?_ _ _ _ h
      simp only [List.mem_cons, List.not_mem_nil, or_false] at hm
      rcases hm with rfl | rfl <;> decide
    · split at h
      · obtain ⟨⟨a, r2⟩, h1, h⟩ := bind_ok_iff.1 h
        obtain ⟨r3, h3, h⟩ := bind_ok_iff.1 h
        injection h with h; injection h with h _; subst h
        exact hg _ _ _ h1
      · exact leaf_wf en _ _ _ h
theorem cmp_wf {f : List Tok → TR} (hf : Wf f) : Wf (cmpT f) := by
  intro ts t r h
  unfold cmpT at h
  obtain ⟨⟨a, r1⟩, h1, h⟩ := bind_ok_iff.1 h
  simp only at h
  split at h
  · rename_i op r2 hk
    obtain ⟨u, _, _, _, hm⟩ := takeK_suf hk
    obtain ⟨⟨b, r3⟩, h3, h⟩ := bind_ok_iff.1 h
    injection h with h; injection h with h _; subst h
    refine ⟨?_, hf _ _ _ h1, hf _ _ _ h3⟩
    unfold binOps
    simp only [List.mem_append]
    exact .inl (.inl (.inl hm))
  · injection h with h; injection h with h _; subst h
    exact hf _ _ _ h1
theorem exprK_wf (en : Nat) {f g : List Tok → TR} (hf : Wf f) (hg : Wf g) : Wf (exprK en f g) := by
  intro ts t r h
  unfold exprK at h
  split at h
  · exact ite_wf en hg _ _ _ h
  · exact cmp_wf (chain_wf (chain_wf hf (by decide)) (by decide)) _ _ _ h
theorem prK_wf (en : Nat) : ∀ d, Wf (prK en d).1 ∧ Wf (prK en d).2
  | 0 => ⟨fun ts t r h => (by cases h), fun ts t r h => (by cases h)⟩
  | d + 1 => by
    obtain ⟨h1, h2⟩ := prK_wf en d
    exact ⟨fac_wf en h1 h2, exprK_wf en (fac_wf en h1 h2) h2⟩
theorem rule_wf {en n : Nat} {ts : List Tok} {q : RT} {r : List Tok} (h : ruleK en n ts = .ok (q, r)) : WfT q.tree := by
  unfold ruleK at h
  split at h
  · cases h
  · split at h
    · cases h
    · split at h
      · split at h
        · cases h
        · split at h
          · obtain ⟨r3, h3, h⟩ := bind_ok_iff.1 h
            obtain ⟨⟨e, r4⟩, h4, h⟩ := bind_ok_iff.1 h
            obtain ⟨r5, h5, h⟩ := bind_ok_iff.1 h
            injection h with h; injection h with h _; subst h
            exact (prK_wf en 20).2 _ _ _ h4
          · cases h
      · cases h
theorem prog_wf {en : Nat} : ∀ (f n : Nat) (ts : List Tok) (l : List RT), progK en f n ts = .ok l → ∀ q ∈ l, WfT q.tree
  | 0, _, _, l, h, q, hq => by injection h with h; subst h; cases hq
  | f + 1, n, ts, l, h, q, hq => by
    unfold progK at h
    split at h
    · injection h with h; subst h; cases hq
    · split at h
      · cases h
      · rename_i q' r hk
        split at h
        · cases h
        · rename_i m hm
          injection h with h
          subst h
          rcases List.mem_cons.1 hq with rfl | hq
          · exact rule_wf hk
          · exact prog_wf f _ _ _ hm q hq
theorem rulesOf_len : ∀ (l : List RT) (n : Nat), (rulesOf n l).length = l.length
  | [], n => rfl
  | q :: l, n => by simp [rulesOf, rulesOf_len l]
end Pay
