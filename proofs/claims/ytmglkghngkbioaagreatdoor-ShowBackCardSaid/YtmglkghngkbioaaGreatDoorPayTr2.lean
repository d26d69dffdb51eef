/- The parser of rule sets by trees: the state's expressions are the trees', one behind the other. -/
import Derived.Test.YtmglkghngkbioaaGreatDoorPayC44
import Derived.Test.YtmglkghngkbioaaGreatDoorPayC48
import Derived.Test.YtmglkghngkbioaaGreatDoorPayTr1
set_option linter.unusedSimpArgs false
set_option linter.unusedVariables false
namespace Pay
inductive Xt where
  | leaf (op nm : List UInt8) (v : Int)
  | neg (e : Xt)
  | bin (op : List UInt8) (a b : Xt)
  | ite (a b c : Xt)
  deriving DecidableEq
def Xt.size : Xt → Nat
  | .leaf _ _ _ => 1
  | .neg e => e.size + 1
  | .bin _ a b => a.size + b.size + 1
  | .ite a b c => a.size + b.size + c.size + 1
theorem Xt.pos (t : Xt) : 1 ≤ t.size := by cases t <;> simp [Xt.size]
/-- Its expressions, the first one at a place; the last one is it. -/
def flat : Nat → Xt → List Xpr
  | _, .leaf op nm v => [xLeaf op nm v]
  | n, .neg e => flat n e ++ [xNode wNeg (n + e.size - 1) 0 0]
  | n, .bin op a b => flat n a ++ flat (n + a.size) b ++ [xNode op (n + a.size - 1) (n + a.size + b.size - 1) 0]
  | n, .ite a b c => flat n a ++ flat (n + a.size) b ++ flat (n + a.size + b.size) c ++ [xNode wIf (n + a.size - 1) (n + a.size + b.size - 1) (n + a.size + b.size + c.size - 1)]
theorem flat_len : ∀ (t : Xt) (n : Nat), (flat n t).length = t.size
  | .leaf _ _ _, _ => rfl
  | .neg e, n => by simp [flat, Xt.size, flat_len e]
  | .bin _ a b, n => by simp [flat, Xt.size, flat_len a, flat_len b]; omega
  | .ite a b c, n => by simp [flat, Xt.size, flat_len a, flat_len b, flat_len c]; omega
abbrev Er := Int × Int
abbrev TR := Except Er (Xt × List Tok)
def takeK (l : List (List UInt8)) : List Tok → Option (List UInt8 × List Tok)
  | [] => none
  | t :: r => if signT t = true ∧ l.contains t.text = true then some (t.text, r) else none
def needK (en : Nat) (s : List UInt8) (ts : List Tok) : Except Er (List Tok) := match takeK [s] ts with
  | some (_, r) => .ok r
  | none => .error (2, posT en ts)
def leafE (t : Tok) : Option Xt :=
  if t.kind = 1 then (if namedB t.text = true then some (.leaf wName t.text 0) else none)
  else if t.kind = 2 then some (.leaf wWhole [] (valW t.text))
  else if t.kind = 3 then some (.leaf wAmount [] (amtV t.text))
  else if t.kind = 4 then some (.leaf wRate [] (rateV t.text))
  else none
def leafK (en : Nat) : List Tok → TR
  | [] => .error (2, en)
  | t :: r => (match leafE t with
    | some e => .ok (e, r)
    | none => .error (2, t.pos))
def chainK (next : List Tok → TR) (ops : List (List UInt8)) : Nat → List Tok → Xt → TR
  | 0, ts, a => .ok (a, ts)
  | f + 1, ts, a => match takeK ops ts with
    | none => .ok (a, ts)
    | some (op, r) => match next r with
      | .error e => .error e
      | .ok (b, r') => chainK next ops f r' (.bin op a b)
def chainT (next : List Tok → TR) (ops : List (List UInt8)) (ts : List Tok) : TR := match next ts with
  | .error e => .error e
  | .ok (a, r) => chainK next ops r.length r a
def pairK (en : Nat) (expr : List Tok → TR) (op : List UInt8) (ts : List Tok) : TR := do
  let r ← needK en [40] ts
  let (a, r) ← expr r
  let r ← needK en [44] r
  let (b, r) ← expr r
  let r ← needK en [41] r
  .ok (.bin op a b, r)
def iteK (en : Nat) (expr : List Tok → TR) (ts : List Tok) : TR := do
  let (a, r) ← expr ts
  let r ← needK en wThen r
  let (b, r) ← expr r
  let r ← needK en wElse r
  let (c, r) ← expr r
  .ok (.ite a b c, r)
def facK (en : Nat) (fac expr : List Tok → TR) (ts : List Tok) : TR := match takeK [[45]] ts with
  | some (_, r) => (do let (a, r) ← fac r; .ok (.neg a, r))
  | none => match takeK [wMin, wMax] ts with
    | some (op, r) => pairK en expr op r
    | none => match takeK [[40]] ts with
      | some (_, r) => (do let (a, r) ← expr r; let r ← needK en [41] r; .ok (a, r))
      | none => leafK en ts
def prodT (fac : List Tok → TR) : List Tok → TR := chainT fac mulL
def sumT (fac : List Tok → TR) : List Tok → TR := chainT (prodT fac) sumL
def cmpT (sum : List Tok → TR) (ts : List Tok) : TR := do
  let (a, r) ← sum ts
  match takeK cmpL r with
  | some (op, r) => (do let (b, r) ← sum r; .ok (.bin op a b, r))
  | none => .ok (a, r)
def exprK (en : Nat) (fac expr : List Tok → TR) (ts : List Tok) : TR := match takeK [wIf] ts with
  | some (_, r) => iteK en expr r
  | none => cmpT (sumT fac) ts
def longK (en : Nat) (ts : List Tok) : TR := .error (9, posT en ts)
def prK (en : Nat) : Nat → (List Tok → TR) × (List Tok → TR)
  | 0 => (longK en, longK en)
  | d + 1 => (facK en (prK en d).1 (prK en d).2, exprK en (facK en (prK en d).1 (prK en d).2) (prK en d).2)
def facT (en d : Nat) : List Tok → TR := (prK en d).1
def exprT (en d : Nat) : List Tok → TR := (prK en d).2
theorem facT_succ (en d : Nat) : facT en (d + 1) = facK en (facT en d) (exprT en d) := rfl
theorem exprT_succ (en d : Nat) : exprT en (d + 1) = exprK en (facT en (d + 1)) (exprT en d) := rfl
def putT (t : Xt) (r : List Tok) (x : PS) : PS × Nat := ({ x with ts := r, exprs := x.exprs ++ flat x.exprs.length t }, x.exprs.length + t.size - 1)
def Corr1 (x : PS) (y : PS × Nat) : TR → Prop
  | .ok (t, r) => y = putT t r x
  | .error (e, p) => e ≠ 0 ∧ y.1.err = e ∧ y.1.place = p
def Corr (f : Pr) (g : List Tok → TR) : Prop := ∀ x, x.err = 0 → Corr1 x (f x) (g x.ts)
theorem Corr1.ok {x : PS} {y : PS × Nat} {t : Xt} {r : List Tok} (h : y = putT t r x) : Corr1 x y (.ok (t, r)) := h
theorem Corr1.no {x z : PS} {y : PS × Nat} {e p : Int} (hs : Step z y.1) (h : e ≠ 0 ∧ z.err = e ∧ z.place = p) : Corr1 x y (.error (e, p)) := by
  obtain ⟨h0, h1, h2⟩ := h
  have := hs.err (by rw [h1]; exact h0)
  exact ⟨h0, this.1.trans h1, this.2.trans h2⟩
theorem Step.put (x : PS) (e : Xpr) : x.err ≠ 0 → (putS e x).1.err = x.err ∧ (putS e x).1.place = x.place := fun _ => ⟨rfl, rfl⟩
/-- Errors stay. -/
structure Stays (x y : PS) : Prop where
  err : x.err ≠ 0 → y.err = x.err ∧ y.place = x.place
theorem Stays.trans {x y z : PS} (h : Stays x y) (g : Stays y z) : Stays x z := ⟨fun hx => by
    obtain ⟨h1, h2⟩ := h.err hx
    obtain ⟨g1, g2⟩ := g.err (by rw [h1]; exact hx)
    exact ⟨g1.trans h1, g2.trans h2⟩⟩
theorem Step.stays {x y : PS} (h : Step x y) : Stays x y := ⟨h.err⟩
theorem put_stays (x : PS) (e : Xpr) : Stays x (putS e x).1 := ⟨fun _ => ⟨rfl, rfl⟩⟩
theorem Corr1.stop {x z : PS} {y : PS × Nat} {e : Er} (hs : Stays z y.1) (h : e.1 ≠ 0 ∧ z.err = e.1 ∧ z.place = e.2) : Corr1 x y (.error e) := by
  obtain ⟨h0, h1, h2⟩ := h
  have := hs.err (by rw [h1]; exact h0)
  exact ⟨h0, this.1.trans h1, this.2.trans h2⟩
theorem take_K {l : List (List UInt8)} {x : PS} (h : x.err = 0) : takeT l x = (takeK l x.ts).map (fun p => (p.1, x.go p.2)) := by
  unfold takeT takeK
  rw [if_pos h]
  cases x.ts with
  | nil => rfl
  | cons t r =>
    simp only
    split <;> rfl
theorem need_K (en : Nat) (s : List UInt8) {x : PS} (h : x.err = 0) : match needK en s x.ts with
    | .ok r => needS en s x = x.go r
    | .error e => e.1 ≠ 0 ∧ (needS en s x).err = e.1 ∧ (needS en s x).place = e.2 := by
  unfold needK needS
  rw [take_K h]
  cases takeK [s] x.ts with
  | none => simp [failS, h]
  | some p => rfl
theorem leaf_X (t : Tok) : leafX t = (leafE t).map (fun e => match e with | .leaf op nm v => xLeaf op nm v | _ => xLeaf [] [] 0) := by
  unfold leafX leafE
  repeat' split
  all_goals rfl
theorem leafE_leaf {t : Tok} {e : Xt} (h : leafE t = some e) : ∃ op nm v, e = .leaf op nm v := by
  unfold leafE at h
  repeat' split at h
  all_goals first | (injection h with h; exact ⟨_, _, _, h.symm⟩) | cases h
theorem leaf_corr (en : Nat) : Corr (leafS en) (leafK en) := by
  intro x hx
  unfold leafS leafK
  cases hts : x.ts with
  | nil => simp [Corr1, failS, hx, hts, posT]
  | cons t r =>
    simp only
    rw [leaf_X]
    cases he : leafE t with
    | none => simp [Corr1, failS, hx, hts, posT]
    | some e =>
      obtain ⟨op, nm, v, rfl⟩ := leafE_leaf he
      rfl
theorem Corr.ok {f : Pr} {g : List Tok → TR} (hc : Corr f g) {x : PS} (hx : x.err = 0) {t : Xt} {r : List Tok} (h : g x.ts = .ok (t, r)) : f x = putT t r x := by
  have := hc x hx
  rw [h] at this
  exact this
theorem Corr.no {f : Pr} {g : List Tok → TR} (hc : Corr f g) {x : PS} (hx : x.err = 0) {e : Er} (h : g x.ts = .error e) : e.1 ≠ 0 ∧ (f x).1.err = e.1 ∧ (f x).1.place = e.2 := by
  have := hc x hx
  rw [h] at this
  exact this
theorem putT_bin (op : List UInt8) (t b : Xt) (r r1 r2 : List Tok) (x : PS) : putS (xNode op (putT t r x).2 (putT b r2 ((putT t r x).1.go r1)).2 0) (putT b r2 ((putT t r x).1.go r1)).1 = putT (.bin op t b) r2 x := by
  have := t.pos
  have := b.pos
  simp only [putS, putT, flat, Xt.size, List.length_append, flat_len]
  refine Prod.ext ?_ ?_
  · simp only [PS.mk.injEq, true_and, and_true]
    rw [List.append_assoc, List.append_assoc, List.append_assoc]
  · simp only; omega
theorem chainL_corr {f : Pr} {g : List Tok → TR} (hc : Corr f g) (hf : Good1 f) (ops : List (List UInt8)) : ∀ (n : Nat) (x : PS) (t : Xt) (r : List Tok), x.err = 0 →
    Corr1 x (chainL f ops n (putT t r x).1 (putT t r x).2) (chainK g ops n r t)
  | 0, x, t, r, hx => rfl
  | n + 1, x, t, r, hx => by
    unfold chainL chainK
    rw [take_K (x := (putT t r x).1) hx]
    cases hk : takeK ops r with
    | none =>
      rw [show (takeK ops (putT t r x).1.ts) = none from hk]
      rfl
    | some p =>
      obtain ⟨op, r1⟩ := p
      rw [show (takeK ops (putT t r x).1.ts) = some (op, r1) from hk]
      simp only [Option.map_some]
      cases hg : g r1 with
      | error e =>
        exact Corr1.stop ((put_stays _ _).trans (chainL_step hf ops n _ _).stays) (hc.no (x := (putT t r x).1.go r1) hx hg)
      | ok q =>
        obtain ⟨b, r2⟩ := q
        rw [hc.ok (x := (putT t r x).1.go r1) hx hg, putT_bin]
        exact chainL_corr hc hf ops n x (.bin op t b) r2 hx
theorem chain_corr {f : Pr} {g : List Tok → TR} (hc : Corr f g) (hf : Good1 f) (ops : List (List UInt8)) : Corr (chainS f ops) (chainT g ops) := by
  intro x hx
  have h := hc x hx
  unfold chainS chainT
  cases hg : g x.ts with
  | error e =>
    rw [hg] at h
    exact Corr1.stop (chainL_step hf ops _ _ _).stays h
  | ok q =>
    obtain ⟨t, r⟩ := q
    rw [hg] at h
    have h : f x = putT t r x := h
    rw [h]
    exact chainL_corr hc hf ops _ x t r hx
theorem putT_go (t : Xt) (r r' : List Tok) (x : PS) : (putT t r x).1.go r' = (putT t r' x).1 := rfl
/-- A state behind a tree: as if nothing were ahead of it. -/
theorem need_ok {en : Nat} {s : List UInt8} {x : PS} (h : x.err = 0) {r : List Tok} (hk : needK en s x.ts = .ok r) : needS en s x = x.go r := by
  have := need_K en s h
  rw [hk] at this
  exact this
theorem need_no {en : Nat} {s : List UInt8} {x : PS} (h : x.err = 0) {e : Er} (hk : needK en s x.ts = .error e) : e.1 ≠ 0 ∧ (needS en s x).err = e.1 ∧ (needS en s x).place = e.2 := by
  have := need_K en s h
  rw [hk] at this
  exact this
theorem putT_pair (op : List UInt8) (t b : Xt) (r r2 r3 : List Tok) (x : PS) : putS (xNode op (putT t r x).2 (putT b r2 (putT t r x).1).2 0) ((putT b r2 (putT t r x).1).1.go r3) = putT (.bin op t b) r3 x := by
  have := t.pos
  have := b.pos
  simp only [putS, putT, flat, Xt.size, List.length_append, flat_len]
  refine Prod.ext ?_ ?_
  · simp only [PS.mk.injEq, true_and, and_true]
    rw [List.append_assoc, List.append_assoc, List.append_assoc]
  · simp only; omega
theorem putT_ite (a b c : Xt) (r r2 r3 : List Tok) (x : PS) : putS (xNode wIf (putT a r x).2 (putT b r2 (putT a r x).1).2 (putT c r3 (putT b r2 (putT a r x).1).1).2) (putT c r3 (putT b r2 (putT a r x).1).1).1 = putT (.ite a b c) r3 x := by
  have := a.pos
  have := b.pos
  have := c.pos
  simp only [putS, putT, flat, Xt.size, List.length_append, flat_len]
  refine Prod.ext ?_ ?_
  · simp only [PS.mk.injEq, true_and, and_true, List.append_assoc]
  · simp only; omega
theorem putT_neg (a : Xt) (r : List Tok) (x : PS) : putS (xNode wNeg (putT a r x).2 0 0) (putT a r x).1 = putT (.neg a) r x := by
  have := a.pos
  simp only [putS, putT, flat, Xt.size, List.length_append, flat_len]
  refine Prod.ext ?_ ?_
  · simp only [PS.mk.injEq, true_and, and_true, List.append_assoc]
  · simp only; omega
theorem bind_err {α β : Type} (e : Er) (f : α → Except Er β) : (Except.error e >>= f) = .error e := rfl
theorem bind_ok {α β : Type} (a : α) (f : α → Except Er β) : (Except.ok a >>= f) = f a := rfl
theorem pair_corr (en : Nat) {f : Pr} {g : List Tok → TR} (hc : Corr f g) (hf : Good1 f) (op : List UInt8) : Corr (pairS en f op) (pairK en g op) := by
  intro x hx
  unfold pairS pairK
  simp only
  cases h1 : needK en [40] x.ts with
  | error e =>
    rw [bind_err]
    exact Corr1.stop ((((hf _).stays.trans (need_step en _ _).stays).trans (hf _).stays).trans ((need_step en _ _).stays.trans (put_stays _ _))) (need_no hx h1)
  | ok r1 =>
    rw [bind_ok, need_ok hx h1]
    cases h2 : g r1 with
    | error e =>
      rw [bind_err]
      exact Corr1.stop (((need_step en _ _).stays.trans (hf _).stays).trans ((need_step en _ _).stays.trans (put_stays _ _))) (hc.no (x := x.go r1) hx h2)
    | ok q =>
      obtain ⟨a, r2⟩ := q
      rw [bind_ok, hc.ok (x := x.go r1) hx h2]
      simp only
      cases h3 : needK en [44] r2 with
      | error e =>
        rw [bind_err]
        exact Corr1.stop ((hf _).stays.trans ((need_step en _ _).stays.trans (put_stays _ _))) (need_no (x := (putT a r2 (x.go r1)).1) hx h3)
      | ok r3 =>
        rw [bind_ok, need_ok (x := (putT a r2 (x.go r1)).1) hx h3, putT_go]
        cases h4 : g r3 with
        | error e =>
          rw [bind_err]
          exact Corr1.stop ((need_step en _ _).stays.trans (put_stays _ _)) (hc.no (x := (putT a r3 (x.go r1)).1) hx h4)
        | ok q =>
          obtain ⟨b, r4⟩ := q
          rw [bind_ok, hc.ok (x := (putT a r3 (x.go r1)).1) hx h4]
          simp only
          cases h5 : needK en [41] r4 with
          | error e =>
            rw [bind_err]
            exact Corr1.stop (put_stays _ _) (need_no (x := (putT b r4 (putT a r3 (x.go r1)).1).1) hx h5)
          | ok r5 =>
            rw [bind_ok, need_ok (x := (putT b r4 (putT a r3 (x.go r1)).1).1) hx h5]
            exact putT_pair op a b r3 r4 r5 (x.go r1)
theorem ite_corr (en : Nat) {f : Pr} {g : List Tok → TR} (hc : Corr f g) (hf : Good1 f) : Corr (iteS en f) (iteK en g) := by
  intro x hx
  unfold iteS iteK
  simp only
  cases h1 : g x.ts with
  | error e =>
    rw [bind_err]
    exact Corr1.stop ((((need_step en _ _).stays.trans (hf _).stays).trans ((need_step en _ _).stays.trans (hf _).stays)).trans (put_stays _ _)) (hc.no hx h1)
  | ok q =>
    obtain ⟨a, r1⟩ := q
    rw [bind_ok, hc.ok hx h1]
    simp only
    cases h2 : needK en wThen r1 with
    | error e =>
      rw [bind_err]
      exact Corr1.stop (((hf _).stays.trans ((need_step en _ _).stays.trans (hf _).stays)).trans (put_stays _ _)) (need_no (x := (putT a r1 x).1) hx h2)
    | ok r2 =>
      rw [bind_ok, need_ok (x := (putT a r1 x).1) hx h2, putT_go]
      cases h3 : g r2 with
      | error e =>
        rw [bind_err]
        exact Corr1.stop (((need_step en _ _).stays.trans (hf _).stays).trans (put_stays _ _)) (hc.no (x := (putT a r2 x).1) hx h3)
      | ok q =>
        obtain ⟨b, r3⟩ := q
        rw [bind_ok, hc.ok (x := (putT a r2 x).1) hx h3]
        simp only
        cases h4 : needK en wElse r3 with
        | error e =>
          rw [bind_err]
          exact Corr1.stop ((hf _).stays.trans (put_stays _ _)) (need_no (x := (putT b r3 (putT a r2 x).1).1) hx h4)
        | ok r4 =>
          rw [bind_ok, need_ok (x := (putT b r3 (putT a r2 x).1).1) hx h4, putT_go]
          cases h5 : g r4 with
          | error e =>
            rw [bind_err]
            exact Corr1.stop (put_stays _ _) (hc.no (x := (putT b r4 (putT a r2 x).1).1) hx h5)
          | ok q =>
            obtain ⟨c, r5⟩ := q
            rw [bind_ok, hc.ok (x := (putT b r4 (putT a r2 x).1).1) hx h5]
            exact putT_ite a b c r2 r4 r5 x
theorem fac_corr (en : Nat) {f f' : Pr} {g g' : List Tok → TR} (hc : Corr f g) (hf : Good1 f) (hc' : Corr f' g') (hf' : Good1 f') : Corr (facStep en f f') (facK en g g') := by
  intro x hx
  unfold facStep facK
  rw [if_pos hx, take_K hx, take_K hx, take_K hx]
  cases h1 : takeK [[45]] x.ts with
  | some p =>
    obtain ⟨s, r⟩ := p
    simp only [Option.map_some]
    cases h2 : g r with
    | error e =>
      rw [bind_err]
      exact Corr1.stop (put_stays _ _) (hc.no (x := x.go r) hx h2)
    | ok q =>
      obtain ⟨a, r1⟩ := q
      rw [bind_ok, hc.ok (x := x.go r) hx h2]
      exact putT_neg a r1 (x.go r)
  | none =>
    simp only [Option.map_none]
    cases h2 : takeK [wMin, wMax] x.ts with
    | some p => 
      obtain ⟨s, r⟩ := p
      exact pair_corr en hc' hf' s (x.go r) hx
    | none =>
      simp only [Option.map_none]
      cases h3 : takeK [[40]] x.ts with
      | some p =>
        obtain ⟨s, r⟩ := p
        simp only [Option.map_some]
        cases h4 : g' r with
        | error e =>
          rw [bind_err]
          exact Corr1.stop (need_step en _ _).stays (hc'.no (x := x.go r) hx h4)
        | ok q =>
          obtain ⟨a, r1⟩ := q
          rw [bind_ok, hc'.ok (x := x.go r) hx h4]
          simp only
          cases h5 : needK en [41] r1 with
          | error e =>
            rw [bind_err]
            exact Corr1.stop ⟨fun _ => ⟨rfl, rfl⟩⟩ (need_no (x := (putT a r1 (x.go r)).1) hx h5)
          | ok r2 =>
            rw [bind_ok, need_ok (x := (putT a r1 (x.go r)).1) hx h5]
            rfl
      | none => exact leaf_corr en x hx
theorem cmp_corr {f : Pr} {g : List Tok → TR} (hc : Corr f g) (hf : Good1 f) : Corr (cmpS f) (cmpT g) := by
  intro x hx
  unfold cmpS cmpT
  cases h1 : g x.ts with
  | error e =>
    rw [bind_err]
    have h := hc.no hx h1
    have : takeT cmpL (f x).1 = none := by unfold takeT; rw [if_neg (by rw [h.2.1]; exact h.1)]
    rw [this]
    exact h
  | ok q =>
    obtain ⟨a, r⟩ := q
    rw [bind_ok, hc.ok hx h1, take_K (x := (putT a r x).1) hx]
    simp only
    cases h2 : takeK cmpL r with
    | none =>
      rw [show takeK cmpL (putT a r x).1.ts = none from h2]
      rfl
    | some p =>
      obtain ⟨op, r1⟩ := p
      rw [show takeK cmpL (putT a r x).1.ts = some (op, r1) from h2]
      simp only [Option.map_some]
      cases h3 : g r1 with
      | error e =>
        rw [bind_err]
        exact Corr1.stop (put_stays _ _) (hc.no (x := (putT a r x).1.go r1) hx h3)
      | ok q =>
        obtain ⟨b, r2⟩ := q
        rw [bind_ok, hc.ok (x := (putT a r x).1.go r1) hx h3]
        exact putT_bin op a b r r1 r2 x
theorem expr_corr (en : Nat) {f f' : Pr} {g g' : List Tok → TR} (hc : Corr f g) (hf : Good1 f) (hc' : Corr f' g') (hf' : Good1 f') : Corr (exprStep en f f') (exprK en g g') := by
  intro x hx
  unfold exprStep exprK
  rw [if_pos hx, take_K hx]
  cases h1 : takeK [wIf] x.ts with
  | some p =>
    obtain ⟨s, r⟩ := p
    exact ite_corr en hc' hf' (x.go r) hx
  | none => exact cmp_corr (chain_corr (chain_corr hc hf _) (prod_step hf) _) (sum_step hf) x hx
theorem long_corr (en : Nat) : Corr (longS en) (longK en) := by
  intro x hx
  show (9 : Int) ≠ 0 ∧ (failS en 9 x).err = 9 ∧ (failS en 9 x).place = posT en x.ts
  unfold failS
  rw [if_pos hx]
  exact ⟨by decide, rfl, rfl⟩
theorem prs_corr (en : Nat) : ∀ d, Corr (prs en d).1 (prK en d).1 ∧ Corr (prs en d).2 (prK en d).2
  | 0 => ⟨long_corr en, long_corr en⟩
  | d + 1 => by
    have ih := prs_corr en d
    have hs := prs_step en d
    have h1 := fac_corr en ih.1 hs.1 ih.2 hs.2
    exact ⟨h1, expr_corr en h1 (fac_step en hs.1 hs.2) ih.2 hs.2⟩
theorem exprP_corr (en d : Nat) : Corr (exprP en d) (exprT en d) := (prs_corr en d).2
structure RT where
  kind : List UInt8
  name : List UInt8
  tree : Xt
  deriving DecidableEq
/-- A rule, and what is left; n are there already. -/
def ruleK (en n : Nat) (ts : List Tok) : Except Er (RT × List Tok) := match ts with
  | [] => .error (2, en)
  | t :: r => if 60 ≤ n ∧ t.kind = 1 ∧ kindsL.contains t.text = true then .error (9, t.pos)
    else if signT t = true ∧ kindsL.contains t.text = true then match r with
      | [] => .error (2, en)
      | m :: r => if m.kind = 1 ∧ namedB m.text = true then (do
          let r ← needK en [61] r
          let (e, r) ← exprT en 20 r
          let r ← needK en [59] r
          .ok (⟨t.text, m.text, e⟩, r))
        else .error (2, m.pos)
    else .error (2, t.pos)
def progK (en : Nat) : Nat → Nat → List Tok → Except Er (List RT)
  | 0, _, _ => .ok []
  | f + 1, n, ts => if ts = [] then .ok [] else match ruleK en n ts with
    | .error e => .error e
    | .ok (q, r) => match progK en f (n + 1) r with
      | .error e => .error e
      | .ok l => .ok (q :: l)
/-- Rules, and expressions, the first one at a place. -/
def rulesOf : Nat → List RT → List Rul
  | _, [] => []
  | n, q :: l => ⟨q.kind, q.name, (n + q.tree.size - 1 : Nat)⟩ :: rulesOf (n + q.tree.size) l
def exprsOf : Nat → List RT → List Xpr
  | _, [] => []
  | n, q :: l => flat n q.tree ++ exprsOf (n + q.tree.size) l
def progOf (l : List RT) : Prog := ⟨rulesOf 0 l, exprsOf 0 l⟩
def putR (q : RT) (r : List Tok) (x : PS) : PS := ⟨r, x.rules ++ [⟨q.kind, q.name, (x.exprs.length + q.tree.size - 1 : Nat)⟩], x.exprs ++ flat x.exprs.length q.tree, x.err, x.place⟩
theorem rule_corr (en : Nat) {x : PS} (hx : x.err = 0) : match ruleK en x.rules.length x.ts with
    | .ok (q, r) => ruleS en x = putR q r x
    | .error e => e.1 ≠ 0 ∧ (ruleS en x).err = e.1 ∧ (ruleS en x).place = e.2 := by
  unfold ruleK ruleS
  cases hts : x.ts with
  | nil => simp [failS, hx, hts, posT]
  | cons t r =>
    simp only
    by_cases h1 : 60 ≤ x.rules.length ∧ t.kind = 1 ∧ kindsL.contains t.text = true
    · rw [if_pos h1, if_pos h1]
      simp [failS, hx, hts, posT]
    · rw [if_neg h1, if_neg h1, take_K hx, hts]
      unfold takeK
      simp only
      by_cases h2 : signT t = true ∧ kindsL.contains t.text = true
      · rw [if_pos h2, if_pos h2]
        simp only [Option.map_some]
        cases r with
        | nil => simp [failS, hx, posT]
        | cons m r =>
          simp only
          by_cases h3 : m.kind = 1 ∧ namedB m.text = true
          · rw [if_pos h3, if_pos h3]
            cases h4 : needK en [61] r with
            | error e =>
              rw [bind_err]
              have h := need_no (x := x.go r) hx h4
              have s := ((exprP_step en 20 (needS en [61] (x.go r))).trans (need_step en [59] _)).err (by rw [h.2.1]; exact h.1)
              exact ⟨h.1, s.1.trans h.2.1, s.2.trans h.2.2⟩
            | ok r1 =>
              rw [bind_ok, need_ok (x := x.go r) hx h4]
              cases h5 : exprT en 20 r1 with
              | error e =>
                rw [bind_err]
                have h := (exprP_corr en 20).no (x := x.go r1) hx h5
                have s := (need_step en [59] (exprP en 20 (x.go r1)).1).err (by rw [h.2.1]; exact h.1)
                exact ⟨h.1, s.1.trans h.2.1, s.2.trans h.2.2⟩
              | ok q =>
                obtain ⟨e, r2⟩ := q
                rw [bind_ok, show exprP en 20 ((x.go r).go r1) = _ from (exprP_corr en 20).ok (x := x.go r1) hx h5]
                simp only
                cases h6 : needK en [59] r2 with
                | error e2 =>
                  rw [bind_err]
                  exact need_no (x := (putT e r2 (x.go r1)).1) hx h6
                | ok r3 =>
                  rw [bind_ok, need_ok (x := (putT e r2 (x.go r1)).1) hx h6]
                  rfl
          · rw [if_neg h3, if_neg h3]
            simp [failS, hx, posT]
      · rw [if_neg h2, if_neg h2]
        simp [failS, hx, hts, posT]
theorem rule_stop (en : Nat) : ∀ (f : Nat) {x : PS}, x.err ≠ 0 → progL en f x = x
  | 0, _, _ => rfl
  | f + 1, x, h => by unfold progL; rw [if_pos (.inr h)]
theorem prog_corr (en : Nat) : ∀ (f : Nat) {x : PS}, x.err = 0 → match progK en f x.rules.length x.ts with
    | .ok l => (progL en f x).err = 0 ∧ (progL en f x).rules = x.rules ++ rulesOf x.exprs.length l ∧ (progL en f x).exprs = x.exprs ++ exprsOf x.exprs.length l
    | .error e => e.1 ≠ 0 ∧ (progL en f x).err = e.1 ∧ (progL en f x).place = e.2
  | 0, x, hx => by simp [progK, progL, hx, rulesOf, exprsOf]
  | f + 1, x, hx => by
    unfold progK progL
    by_cases h0 : x.ts = []
    · rw [if_pos h0, if_pos (.inl h0)]
      simp [hx, rulesOf, exprsOf]
    · rw [if_neg h0, if_neg (by simp [h0, hx])]
      have h := rule_corr en hx
      cases hk : ruleK en x.rules.length x.ts with
      | error e =>
        rw [hk] at h
        simp only at h ⊢
        rw [rule_stop en f (by rw [h.2.1]; exact h.1)]
        exact h
      | ok p =>
        obtain ⟨q, r⟩ := p
        rw [hk] at h
        simp only at h ⊢
        rw [h]
        have ih := prog_corr en f (x := putR q r x) hx
        rw [show (putR q r x).rules.length = x.rules.length + 1 by simp [putR], show (putR q r x).ts = r from rfl] at ih
        cases hp : progK en f (x.rules.length + 1) r with
        | error e => rw [hp] at ih; exact ih
        | ok l =>
          rw [hp] at ih
          simp only at ih ⊢
          refine ⟨ih.1, ?_, ?_⟩
          · rw [ih.2.1]; simp [putR, rulesOf, flat_len]
          · rw [ih.2.2]; simp [putR, exprsOf, flat_len]
/-- What is read of a text: rules by their trees. -/
def readT (en : Nat) (ts : List Tok) : Except Er (List RT) := progK en ts.length 0 ts
theorem parseT_eq (en : Nat) (ts : List Tok) : parseT en ts = match readT en ts with
    | .ok l => (progOf l, 0, 0)
    | .error e => (⟨[], []⟩, e.2, e.1) := by
  have h := prog_corr en ts.length (x := ps0 ts) rfl
  unfold parseT readT
  rw [show (ps0 ts).rules.length = 0 from rfl, show (ps0 ts).ts = ts from rfl] at h
  cases hk : progK en ts.length 0 ts with
  | error e =>
    rw [hk] at h
    simp only at h ⊢
    rw [if_neg (by rw [h.2.1]; exact h.1), h.2.1, h.2.2]
  | ok l =>
    rw [hk] at h
    simp only at h ⊢
    rw [if_pos h.1, h.2.1, h.2.2]
    rfl
end Pay
