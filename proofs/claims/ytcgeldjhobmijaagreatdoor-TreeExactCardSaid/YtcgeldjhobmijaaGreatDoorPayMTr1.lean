/- The theory: texts of the dev place in one; each part's head says what it holds. -/
import Derived.KernelRfl
import Derived.Test.YtcgeldjhobmijaaGreatDoorPayBc0
import Derived.Test.YtcgeldjhobmijaaGreatDoorPayC32
import Derived.Test.YtcgeldjhobmijaaGreatDoorPayC34
import Derived.Test.YtcgeldjhobmijaaGreatDoorPayC41
import Derived.Test.YtcgeldjhobmijaaGreatDoorPayC42
import Derived.Test.YtcgeldjhobmijaaGreatDoorPayC43
import Derived.Test.YtcgeldjhobmijaaGreatDoorPayC44
import Derived.Test.YtcgeldjhobmijaaGreatDoorPayC46
import Derived.Test.YtcgeldjhobmijaaGreatDoorPayC47
import Derived.Test.YtcgeldjhobmijaaGreatDoorPayC48
/- The parser of rule sets, plainly: what it makes of tokens. -/
section
set_option linter.unusedSimpArgs false
set_option linter.unusedVariables false
namespace Pay
structure Rul where
  kind : List UInt8
  name : List UInt8
  root : Int
  deriving DecidableEq
structure Xpr where
  op : List UInt8
  name : List UInt8
  val : Int
  a : Int
  b : Int
  c : Int
  deriving DecidableEq
def encX (x : Xpr) : List D := [.str x.op, .str x.name, dI x.val, dI x.a, dI x.b, dI x.c]
def encRl (r : Rul) : List D := [.str r.kind, .str r.name, dI r.root]
abbrev wEarn : List UInt8 := [101, 97, 114, 110]
abbrev wPretax : List UInt8 := [112, 114, 101, 116, 97, 120]
abbrev wPost : List UInt8 := [112, 111, 115, 116]
abbrev wLet : List UInt8 := [108, 101, 116]
abbrev wIf : List UInt8 := [105, 102]
abbrev wThen : List UInt8 := [116, 104, 101, 110]
abbrev wElse : List UInt8 := [101, 108, 115, 101]
abbrev wMin : List UInt8 := [109, 105, 110]
abbrev wMax : List UInt8 := [109, 97, 120]
abbrev wNeg : List UInt8 := [110, 101, 103]
abbrev wWhole : List UInt8 := [119, 104, 111, 108, 101]
abbrev wAmount : List UInt8 := [97, 109, 111, 117, 110, 116]
abbrev wRate : List UInt8 := [114, 97, 116, 101]
abbrev wName : List UInt8 := [110, 97, 109, 101]
abbrev kindsL : List (List UInt8) := [wEarn, wPretax, wPost, wLet]
abbrev takenL : List (List UInt8) := [wEarn, wPretax, wPost, wLet, wIf, wThen, wElse, wMin, wMax]
abbrev cmpL : List (List UInt8) := [[60], [60, 61], [61], [60, 62], [62], [62, 61]]
abbrev sumL : List (List UInt8) := [[43], [45]]
abbrev mulL : List (List UInt8) := [[42]]
def namedB (s : List UInt8) : Bool := !takenL.contains s
def valW (t : List UInt8) : Int := atoiV t
def amtV (t : List UInt8) : Int := (parseS t).1
def rateV (t : List UInt8) : Int := (rateP t).1
structure PS where
  ts : List Tok
  rules : List Rul
  exprs : List Xpr
  err : Int
  place : Int
abbrev PS.go (x : PS) (r : List Tok) : PS := ⟨r, x.rules, x.exprs, x.err, x.place⟩
def posT (en : Nat) : List Tok → Int
  | [] => en
  | t :: _ => t.pos
def failS (en : Nat) (e : Int) (x : PS) : PS := if x.err = 0 then { x with err := e, place := posT en x.ts } else x
def signT (t : Tok) : Bool := t.kind == 1 || t.kind == 5
def takeT (l : List (List UInt8)) (x : PS) : Option (List UInt8 × PS) :=
  if x.err = 0 then match x.ts with
    | [] => none
    | t :: r => if signT t = true ∧ l.contains t.text = true then some (t.text, (x.go r)) else none
  else none
def needS (en : Nat) (s : List UInt8) (x : PS) : PS := match takeT [s] x with
  | some (_, y) => y
  | none => failS en 2 x
def putS (e : Xpr) (x : PS) : PS × Nat := ({ x with exprs := x.exprs ++ [e] }, x.exprs.length)
abbrev Pr := PS → PS × Nat
def xLeaf (op nm : List UInt8) (v : Int) : Xpr := ⟨op, nm, v, 0, 0, 0⟩
def xNode (op : List UInt8) (a b c : Nat) : Xpr := ⟨op, [], 0, a, b, c⟩
def leafX (t : Tok) : Option Xpr :=
  if t.kind = 1 then (if namedB t.text = true then some (xLeaf wName t.text 0) else none)
  else if t.kind = 2 then some (xLeaf wWhole [] (valW t.text))
  else if t.kind = 3 then some (xLeaf wAmount [] (amtV t.text))
  else if t.kind = 4 then some (xLeaf wRate [] (rateV t.text))
  else none
def leafS (en : Nat) : Pr := fun x => match x.ts with
  | [] => (failS en 2 x, 0)
  | t :: r => (match leafX t with
    | some e => putS e (x.go r)
    | none => (failS en 2 x, 0))
def chainL (next : Pr) (ops : List (List UInt8)) : Nat → PS → Nat → PS × Nat
  | 0, x, a => (x, a)
  | f + 1, x, a => match takeT ops x with
    | none => (x, a)
    | some (op, y) => chainL next ops f (putS (xNode op a (next y).2 0) (next y).1).1 (putS (xNode op a (next y).2 0) (next y).1).2
def chainS (next : Pr) (ops : List (List UInt8)) : Pr := fun x => chainL next ops (next x).1.ts.length (next x).1 (next x).2
def pairS (en : Nat) (expr : Pr) (op : List UInt8) : Pr := fun x =>
  let a := expr (needS en [40] x)
  let b := expr (needS en [44] a.1)
  putS (xNode op a.2 b.2 0) (needS en [41] b.1)
def facStep (en : Nat) (fac expr : Pr) : Pr := fun x =>
  if x.err = 0 then match takeT [[45]] x with
    | some (_, y) => putS (xNode wNeg (fac y).2 0 0) (fac y).1
    | none => match takeT [wMin, wMax] x with
      | some (op, y) => pairS en expr op y
      | none => match takeT [[40]] x with
        | some (_, y) => (needS en [41] (expr y).1, (expr y).2)
        | none => leafS en x
  else (x, 0)
def prodS (fac : Pr) : Pr := chainS fac mulL
def sumS (fac : Pr) : Pr := chainS (prodS fac) sumL
def iteS (en : Nat) (expr : Pr) : Pr := fun x =>
  let a := expr x
  let b := expr (needS en wThen a.1)
  let c := expr (needS en wElse b.1)
  putS (xNode wIf a.2 b.2 c.2) c.1
def cmpS (sum : Pr) : Pr := fun x => match takeT cmpL (sum x).1 with
  | some (op, y) => putS (xNode op (sum x).2 (sum y).2 0) (sum y).1
  | none => sum x
def exprStep (en : Nat) (fac expr : Pr) : Pr := fun x =>
  if x.err = 0 then match takeT [wIf] x with
    | some (_, y) => iteS en expr y
    | none => cmpS (sumS fac) x
  else (x, 0)
def longS (en : Nat) : Pr := fun x => (failS en 9 x, 0)
def prs (en : Nat) : Nat → Pr × Pr
  | 0 => (longS en, longS en)
  | d + 1 => (facStep en (prs en d).1 (prs en d).2, exprStep en (facStep en (prs en d).1 (prs en d).2) (prs en d).2)
def facP (en d : Nat) : Pr := (prs en d).1
def exprP (en d : Nat) : Pr := (prs en d).2
def ruleS (en : Nat) (x : PS) : PS := match x.ts with
  | [] => failS en 2 x
  | t :: _ => if 60 ≤ x.rules.length ∧ t.kind = 1 ∧ kindsL.contains t.text = true then failS en 9 x
    else match takeT kindsL x with
      | none => failS en 2 x
      | some (kind, y) => match y.ts with
        | [] => failS en 2 y
        | n :: r => if n.kind = 1 ∧ namedB n.text = true then
            let e := exprP en 20 (needS en [61] (y.go r))
            let z := needS en [59] e.1
            { z with rules := z.rules ++ [⟨kind, n.text, e.2⟩] }
          else failS en 2 y
def progL (en : Nat) : Nat → PS → PS
  | 0, x => x
  | f + 1, x => if x.ts = [] ∨ x.err ≠ 0 then x else progL en f (ruleS en x)
structure Prog where
  rules : List Rul
  exprs : List Xpr
  deriving DecidableEq
def ps0 (ts : List Tok) : PS := ⟨ts, [], [], 0, 0⟩
def parseT (en : Nat) (ts : List Tok) : Prog × Int × Int :=
  let x := progL en ts.length (ps0 ts)
  if x.err = 0 then (⟨x.rules, x.exprs⟩, 0, 0) else (⟨[], []⟩, x.place, x.err)
def parseP (s : List UInt8) : Prog × Int × Int := match lexS s with
  | (ts, none) => parseT s.length ts
  | (_, some e) => (⟨[], []⟩, e, 2)
structure Step (x y : PS) : Prop where
  ts : y.ts <:+ x.ts
  rules : y.rules = x.rules
  many : y.exprs.length + y.ts.length ≤ x.exprs.length + x.ts.length
  pre : x.exprs <+: y.exprs
  err : x.err ≠ 0 → y.err = x.err ∧ y.place = x.place
theorem Step.refl (x : PS) : Step x x := ⟨List.suffix_refl _, rfl, Nat.le_refl _, List.prefix_refl _, fun _ => ⟨rfl, rfl⟩⟩
theorem Step.trans {x y z : PS} (h : Step x y) (g : Step y z) : Step x z :=
  ⟨g.ts.trans h.ts, g.rules.trans h.rules, Nat.le_trans g.many h.many, h.pre.trans g.pre, fun hx => by
    obtain ⟨h1, h2⟩ := h.err hx
    obtain ⟨g1, g2⟩ := g.err (by rw [h1]; exact hx)
    exact ⟨g1.trans h1, g2.trans h2⟩⟩
theorem fail_step (en : Nat) (e : Int) (x : PS) : Step x (failS en e x) := by
  unfold failS
  split
  · exact ⟨List.suffix_refl _, rfl, Nat.le_refl _, List.prefix_refl _, fun h => absurd (by assumption) h⟩
  · exact Step.refl x
theorem take_some {l : List (List UInt8)} {x y : PS} {s : List UInt8} (h : takeT l x = some (s, y)) :
    x.err = 0 ∧ ∃ t r, x.ts = t :: r ∧ signT t = true ∧ l.contains t.text = true ∧ s = t.text ∧ y = (x.go r) := by
  unfold takeT at h
  split at h
  · rename_i h0
    split at h
    · cases h
    · rename_i t r hts
      split at h
      · rename_i hc
        simp only [Option.some.injEq, Prod.mk.injEq] at h
        exact ⟨h0, t, r, hts, hc.1, hc.2, h.1.symm, h.2.symm⟩
      · cases h
  · cases h
structure Step1 (x y : PS) : Prop where
  step : Step x y
  many : y.exprs.length + 1 + y.ts.length ≤ x.exprs.length + x.ts.length
theorem take_step {l : List (List UInt8)} {x y : PS} {s : List UInt8} (h : takeT l x = some (s, y)) : Step1 x y := by
  obtain ⟨h0, t, r, hts, _, _, _, rfl⟩ := take_some h
  refine ⟨⟨?_, rfl, ?_, List.prefix_refl _, fun h => absurd h0 h⟩, ?_⟩
  · rw [hts]; exact List.suffix_cons t r
  · rw [hts]; simp
  · rw [hts]; simp; omega
theorem Step1.trans {x y z : PS} (h : Step1 x y) (g : Step y z) : Step1 x z := ⟨h.step.trans g, by have := h.many; have := g.many; omega⟩
theorem Step1.put {x y : PS} (h : Step1 x y) (e : Xpr) : Step x (putS e y).1 :=
  ⟨h.step.ts, h.step.rules, by have := h.many; simp [putS]; omega, h.step.pre.trans (List.prefix_append _ _), h.step.err⟩
theorem need_step (en : Nat) (s : List UInt8) (x : PS) : Step x (needS en s x) := by
  unfold needS
  split
  · rename_i h; exact (take_step h).step
  · exact fail_step en 2 x
def Good1 (f : Pr) : Prop := ∀ x, Step x (f x).1
theorem leaf_step (en : Nat) : Good1 (leafS en) := by
  intro x
  unfold leafS
  split
  · exact fail_step en 2 x
  · rename_i t r hts
    split
    · refine ⟨?_, rfl, ?_, List.prefix_append _ _, fun _ => ⟨rfl, rfl⟩⟩
      · rw [hts]; exact List.suffix_cons t r
      · rw [hts]; simp [putS]; omega
    · exact fail_step en 2 x
theorem chainL_step {f : Pr} (hf : Good1 f) (ops : List (List UInt8)) : ∀ (n : Nat) (x : PS) (a : Nat), Step x (chainL f ops n x a).1
  | 0, x, a => Step.refl x
  | n + 1, x, a => by
    unfold chainL
    split
    · exact Step.refl x
    · rename_i op y h
      exact (((take_step h).trans (hf y)).put _).trans (chainL_step hf ops n _ _)
theorem chain_step {f : Pr} (hf : Good1 f) (ops : List (List UInt8)) : Good1 (chainS f ops) := fun x => (hf x).trans (chainL_step hf ops _ _ _)
theorem pair_step (en : Nat) {f : Pr} (hf : Good1 f) (op : List UInt8) {x y : PS} (h : Step1 x y) : Step x (pairS en f op y).1 :=
  Step1.put (((((h.trans (need_step en _ _)).trans (hf _)).trans (need_step en _ _)).trans (hf _)).trans (need_step en _ _)) _
theorem fac_step (en : Nat) {f g : Pr} (hf : Good1 f) (hg : Good1 g) : Good1 (facStep en f g) := by
  intro x
  unfold facStep
  split
  · split
    · rename_i h; exact ((take_step h).trans (hf _)).put _
    · split
      · rename_i h; exact pair_step en hg _ (take_step h)
      · split
        · rename_i h; exact (((take_step h).trans (hg _)).trans (need_step en _ _)).step
        · exact leaf_step en x
  · exact Step.refl x
theorem prod_step {f : Pr} (hf : Good1 f) : Good1 (prodS f) := chain_step hf _
theorem sum_step {f : Pr} (hf : Good1 f) : Good1 (sumS f) := chain_step (prod_step hf) _
theorem ite_step (en : Nat) {f : Pr} (hf : Good1 f) {x y : PS} (h : Step1 x y) : Step x (iteS en f y).1 :=
  Step1.put (((((h.trans (hf _)).trans (need_step en _ _)).trans (hf _)).trans (need_step en _ _)).trans (hf _)) _
theorem cmp_step {f : Pr} (hf : Good1 f) : Good1 (cmpS f) := by
  intro x
  unfold cmpS
  split
  · rename_i h; exact (hf x).trans (((take_step h).trans (hf _)).put _)
  · exact hf x
theorem exprStep_step (en : Nat) {f g : Pr} (hf : Good1 f) (hg : Good1 g) : Good1 (exprStep en f g) := by
  intro x
  unfold exprStep
  split
  · split
    · rename_i h; exact ite_step en hg (take_step h)
    · exact cmp_step (sum_step hf) x
  · exact Step.refl x
theorem long_step (en : Nat) : Good1 (longS en) := fun x => fail_step en 9 x
theorem prs_step (en : Nat) : ∀ d, Good1 (prs en d).1 ∧ Good1 (prs en d).2
  | 0 => ⟨long_step en, long_step en⟩
  | d + 1 => by
    have ih := prs_step en d
    exact ⟨fac_step en ih.1 ih.2, exprStep_step en (fac_step en ih.1 ih.2) ih.2⟩
theorem facP_step (en d : Nat) : Good1 (facP en d) := (prs_step en d).1
theorem exprP_step (en d : Nat) : Good1 (exprP en d) := (prs_step en d).2
end Pay
end
/- The parser of rule sets by trees: the state's expressions are the trees', one behind the other. -/
section
set_option linter.unusedSimpArgs false
set_option linter.unusedVariables false
namespace Pay
inductive Xt where
  | leaf (op nm : List UInt8) (v : Int)
  | neg (e : Xt)
  | bin (op : List UInt8) (a b : Xt)
  | ite (a b c : Xt)
  deriving DecidableEq
def Xt.size : Xt → Nat
  | .leaf _ _ _ => 1
  | .neg e => e.size + 1
  | .bin _ a b => a.size + b.size + 1
  | .ite a b c => a.size + b.size + c.size + 1
theorem Xt.pos (t : Xt) : 1 ≤ t.size := by cases t <;> simp [Xt.size]
def flat : Nat → Xt → List Xpr
  | _, .leaf op nm v => [xLeaf op nm v]
  | n, .neg e => flat n e ++ [xNode wNeg (n + e.size - 1) 0 0]
  | n, .bin op a b => flat n a ++ flat (n + a.size) b ++ [xNode op (n + a.size - 1) (n + a.size + b.size - 1) 0]
  | n, .ite a b c => flat n a ++ flat (n + a.size) b ++ flat (n + a.size + b.size) c ++ [xNode wIf (n + a.size - 1) (n + a.size + b.size - 1) (n + a.size + b.size + c.size - 1)]
abbrev Er := Int × Int
abbrev TR := Except Er (Xt × List Tok)
def putT (t : Xt) (r : List Tok) (x : PS) : PS × Nat := ({ x with ts := r, exprs := x.exprs ++ flat x.exprs.length t }, x.exprs.length + t.size - 1)
def Corr1 (x : PS) (y : PS × Nat) : TR → Prop
  | .ok (t, r) => y = putT t r x
  | .error (e, p) => e ≠ 0 ∧ y.1.err = e ∧ y.1.place = p
def Corr (f : Pr) (g : List Tok → TR) : Prop := ∀ x, x.err = 0 → Corr1 x (f x) (g x.ts)
theorem Corr1.ok {x : PS} {y : PS × Nat} {t : Xt} {r : List Tok} (h : y = putT t r x) : Corr1 x y (.ok (t, r)) := h
theorem Corr1.no {x z : PS} {y : PS × Nat} {e p : Int} (hs : Step z y.1) (h : e ≠ 0 ∧ z.err = e ∧ z.place = p) : Corr1 x y (.error (e, p)) := by
  obtain ⟨h0, h1, h2⟩ := h
  have := hs.err (by rw [h1]; exact h0)
  exact ⟨h0, this.1.trans h1, this.2.trans h2⟩
theorem Step.put (x : PS) (e : Xpr) : x.err ≠ 0 → (putS e x).1.err = x.err ∧ (putS e x).1.place = x.place := fun _ => ⟨rfl, rfl⟩
structure Stays (x y : PS) : Prop where
  err : x.err ≠ 0 → y.err = x.err ∧ y.place = x.place
theorem Stays.trans {x y z : PS} (h : Stays x y) (g : Stays y z) : Stays x z := ⟨fun hx => by
    obtain ⟨h1, h2⟩ := h.err hx
    obtain ⟨g1, g2⟩ := g.err (by rw [h1]; exact hx)
    exact ⟨g1.trans h1, g2.trans h2⟩⟩
theorem Corr1.stop {x z : PS} {y : PS × Nat} {e : Er} (hs : Stays z y.1) (h : e.1 ≠ 0 ∧ z.err = e.1 ∧ z.place = e.2) : Corr1 x y (.error e) := by
  obtain ⟨h0, h1, h2⟩ := h
  have := hs.err (by rw [h1]; exact h0)
  exact ⟨h0, this.1.trans h1, this.2.trans h2⟩
theorem Corr.ok {f : Pr} {g : List Tok → TR} (hc : Corr f g) {x : PS} (hx : x.err = 0) {t : Xt} {r : List Tok} (h : g x.ts = .ok (t, r)) : f x = putT t r x := by
  have := hc x hx
  rw [h] at this
  exact this
theorem Corr.no {f : Pr} {g : List Tok → TR} (hc : Corr f g) {x : PS} (hx : x.err = 0) {e : Er} (h : g x.ts = .error e) : e.1 ≠ 0 ∧ (f x).1.err = e.1 ∧ (f x).1.place = e.2 := by
  have := hc x hx
  rw [h] at this
  exact this
end Pay
end
/- The parser, plainly: what it makes of tokens that are alike but for their places; of tokens behind tokens. -/
section
set_option linter.unusedSimpArgs false
set_option linter.unusedVariables false
namespace Pay
def TokR (P : Int → Int → Prop) : List Tok → List Tok → Prop
  | [], [] => True
  | t :: ts, u :: us => t.kind = u.kind ∧ t.text = u.text ∧ P t.pos u.pos ∧ TokR P ts us
  | _, _ => False
theorem TokR.length {P : Int → Int → Prop} : ∀ {ts us : List Tok}, TokR P ts us → ts.length = us.length
  | [], [], _ => rfl
  | _ :: ts, _ :: us, h => by simp [TokR.length h.2.2.2]
  | [], _ :: _, h => h.elim
  | _ :: _, [], h => h.elim
def ResR {α : Type} (P : Int → Int → Prop) (A : α → α → Prop) : Except Er α → Except Er α → Prop
  | .ok a, .ok b => A a b
  | .error e, .error f => e.1 = f.1 ∧ P e.2 f.2
  | _, _ => False
theorem ResR.bind {α β : Type} {P : Int → Int → Prop} {A : α → α → Prop} {B : β → β → Prop} {x y : Except Er α} {f g : α → Except Er β} (h : ResR P A x y) (hf : ∀ a b, A a b → ResR P B (f a) (g b)) : ResR P B (x >>= f) (y >>= g) := by
  match x, y, h with
  | .ok a, .ok b, h => exact hf a b h
  | .error e, .error e', h => exact h
section
variable {P : Int → Int → Prop} {en en' : Nat}
end
section
variable {en en' : Nat}
end
def binOps : List (List UInt8) := cmpL ++ sumL ++ mulL ++ [wMin, wMax]
end Pay
end
/- Plain laws: a token ahead of anything that is no part of it; a sum of numbers, from the left. -/
section
set_option linter.unusedSimpArgs false
set_option linter.unusedVariables false
namespace Pay
def Stop (u r : List UInt8) : Prop := ∀ d u' c r', u = d :: u' → r = c :: r' →
  (letB d = true → wordB c = false) ∧ (digB d = true → numB c = false) ∧ (u' = [] → ¬ ((d = 60 ∧ (c = 61 ∨ c = 62)) ∨ (d = 62 ∧ c = 61)))
theorem run_all {p : UInt8 → Bool} : ∀ {u : List UInt8}, runN p u = u.length → u.all p = true
  | [], _ => rfl
  | c :: u, h => by
    rw [runN, List.takeWhile_cons] at h
    cases hc : p c with
    | false => rw [hc] at h; simp at h
    | true =>
      rw [hc] at h
      simp only [if_true, List.length_cons, Nat.add_right_cancel_iff] at h
      simp only [List.all_cons, hc, Bool.true_and]
      exact run_all (u := u) h
theorem Good.stop {k : Int} {u : List UInt8} (h : Good k u) {r : List UInt8} (hs : Stop u r) : oneS (u ++ r) = (k, u.length) := by
  have e := h.self
  obtain ⟨d, u', rfl⟩ := h.cons
  have hs : ∀ c r', r = c :: r' → _ := fun c r' hr => hs d u' c r' rfl hr
  rw [List.cons_append]
  rw [oneS_cons] at e ⊢
  by_cases h1 : letB d = true
  · rw [if_pos h1] at e ⊢
    by_cases h2 : runN wordB (d :: u') > 12
    · rw [if_pos h2] at e
      exact absurd (congrArg Prod.fst e).symm h.ne
    · rw [if_neg h2] at e
      have hl : runN wordB (d :: u') = (d :: u').length := congrArg Prod.snd e
      have ha := runN_app (p := wordB) (u := d :: u') (r := r) (run_all hl) (fun c r' hr => (hs c r' hr).1 h1)
      rw [List.cons_append] at ha
      rw [ha, if_neg (by omega)]
      rw [← e, hl]
  · rw [if_neg h1] at e ⊢
    by_cases h2 : digB d = true
    · rw [if_pos h2] at e ⊢
      have hl : runN numB (d :: u') = (d :: u').length := congrArg Prod.snd e
      have ha := runN_app (p := numB) (u := d :: u') (r := r) (run_all hl) (fun c r' hr => (hs c r' hr).2.1 h2)
      rw [List.cons_append] at ha
      rw [hl, List.take_length] at e
      rw [ha, ← e, show (d :: (u' ++ r)).take (d :: u').length = d :: u' by rw [← List.cons_append]; simp]
    · rw [if_neg h2] at e ⊢
      by_cases h3 : signN (d :: u') = 0
      · rw [if_pos h3] at e
        exact absurd (congrArg Prod.fst e).symm h.ne
      · rw [if_neg h3] at e
        have hl : signN (d :: u') = (d :: u').length := congrArg Prod.snd e
        have hc : signSet.contains d = true := by
          rw [signN_eq] at h3
          cases hc : signSet.contains d with
          | true => rfl
          | false => rw [hc] at h3; exact absurd rfl h3
        have key : signN (d :: (u' ++ r)) = (d :: u').length := by
          rw [signN_eq, if_pos hc] at hl ⊢
          cases u' with
          | nil =>
            cases r with
            | nil => exact hl
            | cons c r =>
              have := (hs c r rfl).2.2 rfl
              simp only [List.nil_append, signR]
              rw [if_neg this]
              rfl
          | cons c u' => exact hl
        rw [key, if_neg (by simp), ← e, hl]
theorem lex_stop {k : Int} {u : List UInt8} (h : Good k u) {r : List UInt8} (hs : Stop u r) (p : Nat) : lexT p (u ++ r) = lexPut k u p (lexT (p + u.length) r) := by
  have e := h.stop hs
  rw [lexT_tok (by rw [e]; exact h.ne), e]
  simp
end Pay
end
/- Plain laws: each expression but the roots is a part of just one, behind it. -/
section
set_option linter.unusedSimpArgs false
set_option linter.unusedVariables false
namespace Pay
def partsX (x : Xpr) : List Int := if x.op = wNeg then [x.a] else if binOps.contains x.op = true then [x.a, x.b] else if x.op = wIf then [x.a, x.b, x.c] else []
def leafOps : List (List UInt8) := [wWhole, wAmount, wRate, wName]
def WfX (x : Xpr) : Prop := x.op ∈ leafOps ∨ x.op = wNeg ∨ x.op ∈ binOps ∨ x.op = wIf
def Ahead (n : Nat) (xs : List Xpr) : Prop := ∀ j x, xs[j]? = some x → WfX x ∧ ∀ q ∈ partsX x, 0 ≤ q ∧ q < (n + j : Nat)
theorem Ahead.app {n : Nat} {xs ys : List Xpr} (h : Ahead n xs) (g : Ahead (n + xs.length) ys) : Ahead n (xs ++ ys) := by
  intro j x hx
  rcases Nat.lt_or_ge j xs.length with hj | hj
  · rw [List.getElem?_append_left hj] at hx; exact h j x hx
  · rw [List.getElem?_append_right hj] at hx
    have := g _ x hx
    rw [show n + xs.length + (j - xs.length) = n + j by omega] at this
    exact this
theorem Ahead.one {n : Nat} {x : Xpr} (h : WfX x) (g : ∀ q ∈ partsX x, 0 ≤ q ∧ q < (n : Int)) : Ahead n [x] := by
  intro j y hy
  cases j with
  | zero =>
    simp only [List.getElem?_cons_zero, Option.some.injEq] at hy
    subst hy
    exact ⟨h, g⟩
  | succ j => simp at hy
def ind (a b m : Int) : Nat := if a ≤ m ∧ m < b then 1 else 0
end Pay
end
/- A tree's text, its tokens; the text is read to the tokens, the tokens to the tree. -/
section
set_option linter.unusedSimpArgs false
set_option linter.unusedVariables false
namespace Pay
open Go
abbrev Kt := Int × List UInt8
def IRange (v : Int) : Prop := -9223372036854775808 ≤ v ∧ v ≤ 9223372036854775807
def Rd (r : List UInt8) (l : List Kt) : Prop := ∀ p, Same2 (lexT p r) l
theorem Rd.put {k : Int} {u r : List UInt8} {l : List Kt} (h : Good k u) (hs : Stop u r) (hr : Rd r l) : Rd (u ++ r) ((k, u) :: l) := fun p => by
  rw [lex_stop h hs]
  exact Same2.put (hr _)
theorem Rd.blank {r : List UInt8} {l : List Kt} (hr : Rd r l) : Rd (32 :: r) l := fun p => by
  rw [lexT_blank (.inl rfl)]
  exact hr _
theorem Rd.line {r : List UInt8} {l : List Kt} (hr : Rd r l) : Rd (10 :: r) l := fun p => by
  rw [lexT_blank (.inr rfl)]
  exact hr _
theorem Rd.nil : Rd [] [] := fun p => ⟨rfl, rfl⟩
end Pay
end
/- What is read of tokens has a text, that needs no more depth and no more ( than was there. -/
section
set_option linter.unusedSimpArgs false
set_option linter.unusedVariables false
namespace Pay
open Go
theorem good_fig {k : Int} {u : List UInt8} (h : Good k u) (h1 : k ≠ 1) (h5 : k ≠ 5) : figS u = k ∧ ∃ c r, u = c :: r ∧ digB c = true := by
  have e := h.self
  obtain ⟨d, u', rfl⟩ := h.cons
  rw [oneS_cons] at e
  by_cases hl : letB d = true
  · rw [if_pos hl] at e
    split at e
    · exact absurd (congrArg Prod.fst e).symm h.ne
    · exact absurd (congrArg Prod.fst e).symm h1
  · rw [if_neg hl] at e
    by_cases hd : digB d = true
    · rw [if_pos hd] at e
      have e2 : runN numB (d :: u') = (d :: u').length := congrArg Prod.snd e
      rw [e2, List.take_length] at e
      exact ⟨congrArg Prod.fst e, d, u', rfl, hd⟩
    · rw [if_neg hd] at e
      split at e
      · exact absurd (congrArg Prod.fst e).symm h.ne
      · exact absurd (congrArg Prod.fst e).symm h5
theorem dg1_of {c : UInt8} (h : digB c = true) : ∃ d, d < 10 ∧ c = dg1 d := by
  obtain ⟨h1, h2⟩ := digB_iff.1 h
  refine ⟨c.toNat - 48, by omega, ?_⟩
  unfold dg1
  rw [show 48 + (c.toNat - 48) = c.toNat by omega]
  exact (UInt8.ofNat_toNat).symm
theorem canon : ∀ (k : Nat) (s : List UInt8), s.length = k + 1 → s.all digB = true → (s = [48] ∨ s.head? ≠ some 48) → ∃ n, s = Lib.decDigits n ∧ n < 10 ^ (k + 1) ∧ (s ≠ [48] → 1 ≤ n)
  | 0, s, hl, ha, hh => by
    obtain ⟨c, rfl⟩ := List.length_eq_one_iff.1 hl
    obtain ⟨d, hd, rfl⟩ := dg1_of (c := c) (by simpa using ha)
    refine ⟨d, (dec_one hd).symm, by omega, fun h => ?_⟩
    rcases Nat.eq_zero_or_pos d with rfl | h'
    · exact absurd rfl h
    · exact h'
  | k + 1, s, hl, ha, hh => by
    obtain ⟨s', c, rfl⟩ : ∃ s' c, s = s' ++ [c] := ⟨s.dropLast, s.getLast (by intro e; subst e; simp at hl), (List.dropLast_concat_getLast _).symm⟩
    have hl' : s'.length = k + 1 := by simp at hl; exact hl
    simp only [List.all_append, Bool.and_eq_true, List.all_cons, List.all_nil, Bool.and_true] at ha
    obtain ⟨d, hd, rfl⟩ := dg1_of ha.2
    have hne : s'.head? ≠ some 48 := by
      rcases hh with h | h
      · have := congrArg List.length h
        simp [hl'] at this
      · cases s' with
        | nil => simp at hl'
        | cons x xs => simpa using h
    obtain ⟨n, e1, e2, e3⟩ := canon k s' hl' ha.1 (.inr hne)
    have h1 : 1 ≤ n := e3 (fun e => by subst e; exact hne rfl)
    refine ⟨10 * n + d, ?_, ?_, fun _ => by omega⟩
    · rw [dec_step (n := 10 * n + d) (by omega), show (10 * n + d) / 10 = n by omega, show (10 * n + d) % 10 = d by omega, e1]
    · rw [Nat.pow_succ]; omega
theorem atoi_dec {n : Nat} (h : n ≤ 9223372036854775807) : Lib.atoiAll (Lib.decDigits n) = .ok n := by
  have hm : Lib.parseMag (Lib.decDigits n) = .ok n := by
    obtain ⟨c, r, e, _, _⟩ := dec_head n
    have := pu_dec n [] h
    rw [List.append_nil] at this
    rw [Lib.parseMag, if_neg (by rw [e]; simp), this, Lib.parseUint10]
  obtain ⟨c, r, e, g1, g2⟩ := dec_head n
  rw [e] at hm ⊢
  have g3 : ¬ c.toNat = 45 := by omega
  have g4 : ¬ c.toNat = 43 := by omega
  rw [Lib.atoiAll]
  simp only [g3, g4, or_false, if_false, hm, false_and, not_false_eq_true, true_and]
  rw [if_neg (by omega)]
def AllG (ts : List Tok) : Prop := ∀ x ∈ ts, Good x.kind x.text
theorem AllG.tail {t : Tok} {ts : List Tok} (h : AllG (t :: ts)) : AllG ts := fun x hx => h x (List.mem_cons_of_mem _ hx)
theorem AllG.suf {r ts : List Tok} (h : AllG ts) (hs : r <:+ ts) : AllG r := fun x hx => h x (hs.mem hx)
end Pay
end
/- Whole numbers, digit by digit. -/
section
set_option linter.unusedSimpArgs false
set_option linter.unusedVariables false
namespace Pay
open Go
def valN (s : List UInt8) : Nat := s.foldl (fun n c => 10 * n + (c.toNat - 48)) 0
theorem valN_snoc (s : List UInt8) (c : UInt8) : valN (s ++ [c]) = 10 * valN s + (c.toNat - 48) := by simp [valN]
theorem valN_dec : ∀ n : Nat, valN (Lib.decDigits n) = n := by
  intro n
  induction n using Nat.strongRecOn with
  | ind n ih =>
    by_cases h : n < 10
    · rw [dec_one h]
      simp [valN, dg1_nat h]
    · rw [dec_step h, valN_snoc, ih _ (by omega), dg1_nat (by omega)]
      omega
theorem valN_take {s : List UInt8} {i : Nat} (h : i < s.length) : valN (s.take (i + 1)) = 10 * valN (s.take i) + (s[i].toNat - 48) := by
  rw [List.take_add_one, List.getElem?_eq_getElem h]
  exact valN_snoc _ _
theorem valN_lt : ∀ (k : Nat) (s : List UInt8), s.length = k → s.all digB = true → valN s < 10 ^ k
  | 0, s, hl, _ => by
    rw [List.eq_nil_of_length_eq_zero hl]
    simp [valN]
  | k + 1, s, hl, ha => by
    obtain ⟨s', c, rfl⟩ : ∃ s' c, s = s' ++ [c] := ⟨s.dropLast, s.getLast (by intro e; subst e; simp at hl), (List.dropLast_concat_getLast _).symm⟩
    have hl' : s'.length = k := by simp at hl; exact hl
    simp only [List.all_append, Bool.and_eq_true, List.all_cons, List.all_nil, Bool.and_true] at ha
    have ih := valN_lt k s' hl' ha.1
    obtain ⟨h1, h2⟩ := digB_iff.1 ha.2
    rw [valN_snoc, Nat.pow_succ]
    omega
theorem good_whole {u : List UInt8} (h : Good 2 u) : u.all digB = true ∧ u.length ≤ 9 ∧ atoiV u = (valN u : Int) := by
  obtain ⟨hf, c, r, hu, _⟩ := good_fig h (by decide) (by decide)
  unfold figS at hf
  split at hf
  · exact absurd hf (by decide)
  · split at hf
    · exact absurd hf (by decide)
    · split at hf
      · rename_i hw
        have hw' := hw
        simp only [wholeB, Bool.and_eq_true, decide_eq_true_eq, Bool.or_eq_true, beq_iff_eq, bne_iff_ne, ne_eq] at hw
        obtain ⟨⟨h1, h2⟩, h3⟩ := hw
        obtain ⟨n, e, hlt, _⟩ := canon (u.length - 1) u (by rw [hu]; simp) h2 h3
        rw [show u.length - 1 + 1 = u.length by rw [hu]; simp] at hlt
        have : n < 10 ^ 9 := Nat.lt_of_lt_of_le hlt (Nat.pow_le_pow_right (by decide) h1)
        refine ⟨h2, h1, ?_⟩
        rw [atoiV, e, atoi_dec (by omega), valN_dec]
      · exact absurd hf (by decide)
end Pay
end
