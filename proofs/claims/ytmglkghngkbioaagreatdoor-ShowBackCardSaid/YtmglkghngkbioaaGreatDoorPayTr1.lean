/- The parser of rule sets, plainly: what it makes of tokens. -/
import Derived.Test.YtmglkghngkbioaaGreatDoorPayC32
import Derived.Test.YtmglkghngkbioaaGreatDoorPayC42
import Derived.Test.YtmglkghngkbioaaGreatDoorPayC44
import Derived.Test.YtmglkghngkbioaaGreatDoorPayC48
set_option linter.unusedSimpArgs false
set_option linter.unusedVariables false
namespace Pay
structure Rul where
  kind : List UInt8
  name : List UInt8
  root : Int
  deriving DecidableEq
structure Xpr where
  op : List UInt8
  name : List UInt8
  val : Int
  a : Int
  b : Int
  c : Int
  deriving DecidableEq
def encX (x : Xpr) : List D := [.str x.op, .str x.name, dI x.val, dI x.a, dI x.b, dI x.c]
def encRl (r : Rul) : List D := [.str r.kind, .str r.name, dI r.root]
abbrev wEarn : List UInt8 := [101, 97, 114, 110]
abbrev wPretax : List UInt8 := [112, 114, 101, 116, 97, 120]
abbrev wPost : List UInt8 := [112, 111, 115, 116]
abbrev wLet : List UInt8 := [108, 101, 116]
abbrev wIf : List UInt8 := [105, 102]
abbrev wThen : List UInt8 := [116, 104, 101, 110]
abbrev wElse : List UInt8 := [101, 108, 115, 101]
abbrev wMin : List UInt8 := [109, 105, 110]
abbrev wMax : List UInt8 := [109, 97, 120]
abbrev wNeg : List UInt8 := [110, 101, 103]
abbrev wWhole : List UInt8 := [119, 104, 111, 108, 101]
abbrev wAmount : List UInt8 := [97, 109, 111, 117, 110, 116]
abbrev wRate : List UInt8 := [114, 97, 116, 101]
abbrev wName : List UInt8 := [110, 97, 109, 101]
abbrev kindsL : List (List UInt8) := [wEarn, wPretax, wPost, wLet]
abbrev takenL : List (List UInt8) := [wEarn, wPretax, wPost, wLet, wIf, wThen, wElse, wMin, wMax]
abbrev cmpL : List (List UInt8) := [[60], [60, 61], [61], [60, 62], [62], [62, 61]]
abbrev sumL : List (List UInt8) := [[43], [45]]
abbrev mulL : List (List UInt8) := [[42]]
def namedB (s : List UInt8) : Bool := !takenL.contains s
/-- A whole number's value. -/
def valW (t : List UInt8) : Int := atoiV t
def amtV (t : List UInt8) : Int := (parseS t).1
def rateV (t : List UInt8) : Int := (rateP t).1
structure PS where
  ts : List Tok
  rules : List Rul
  exprs : List Xpr
  err : Int
  place : Int
/-- The state, with so much left. -/
abbrev PS.go (x : PS) (r : List Tok) : PS := ⟨r, x.rules, x.exprs, x.err, x.place⟩
def posT (en : Nat) : List Tok → Int
  | [] => en
  | t :: _ => t.pos
def failS (en : Nat) (e : Int) (x : PS) : PS := if x.err = 0 then { x with err := e, place := posT en x.ts } else x
def signT (t : Tok) : Bool := t.kind == 1 || t.kind == 5
def takeT (l : List (List UInt8)) (x : PS) : Option (List UInt8 × PS) :=
  if x.err = 0 then match x.ts with
    | [] => none
    | t :: r => if signT t = true ∧ l.contains t.text = true then some (t.text, (x.go r)) else none
  else none
def needS (en : Nat) (s : List UInt8) (x : PS) : PS := match takeT [s] x with
  | some (_, y) => y
  | none => failS en 2 x
def putS (e : Xpr) (x : PS) : PS × Nat := ({ x with exprs := x.exprs ++ [e] }, x.exprs.length)
abbrev Pr := PS → PS × Nat
def xLeaf (op nm : List UInt8) (v : Int) : Xpr := ⟨op, nm, v, 0, 0, 0⟩
def xNode (op : List UInt8) (a b c : Nat) : Xpr := ⟨op, [], 0, a, b, c⟩
/-- What a token is, as an expression: none, where it is no such. -/
def leafX (t : Tok) : Option Xpr :=
  if t.kind = 1 then (if namedB t.text = true then some (xLeaf wName t.text 0) else none)
  else if t.kind = 2 then some (xLeaf wWhole [] (valW t.text))
  else if t.kind = 3 then some (xLeaf wAmount [] (amtV t.text))
  else if t.kind = 4 then some (xLeaf wRate [] (rateV t.text))
  else none
def leafS (en : Nat) : Pr := fun x => match x.ts with
  | [] => (failS en 2 x, 0)
  | t :: r => (match leafX t with
    | some e => putS e (x.go r)
    | none => (failS en 2 x, 0))
def chainL (next : Pr) (ops : List (List UInt8)) : Nat → PS → Nat → PS × Nat
  | 0, x, a => (x, a)
  | f + 1, x, a => match takeT ops x with
    | none => (x, a)
    | some (op, y) => chainL next ops f (putS (xNode op a (next y).2 0) (next y).1).1 (putS (xNode op a (next y).2 0) (next y).1).2
def chainS (next : Pr) (ops : List (List UInt8)) : Pr := fun x => chainL next ops (next x).1.ts.length (next x).1 (next x).2
def pairS (en : Nat) (expr : Pr) (op : List UInt8) : Pr := fun x =>
  let a := expr (needS en [40] x)
  let b := expr (needS en [44] a.1)
  putS (xNode op a.2 b.2 0) (needS en [41] b.1)
def facStep (en : Nat) (fac expr : Pr) : Pr := fun x =>
  if x.err = 0 then match takeT [[45]] x with
    | some (_, y) => putS (xNode wNeg (fac y).2 0 0) (fac y).1
    | none => match takeT [wMin, wMax] x with
      | some (op, y) => pairS en expr op y
      | none => match takeT [[40]] x with
        | some (_, y) => (needS en [41] (expr y).1, (expr y).2)
        | none => leafS en x
  else (x, 0)
def prodS (fac : Pr) : Pr := chainS fac mulL
def sumS (fac : Pr) : Pr := chainS (prodS fac) sumL
def iteS (en : Nat) (expr : Pr) : Pr := fun x =>
  let a := expr x
  let b := expr (needS en wThen a.1)
  let c := expr (needS en wElse b.1)
  putS (xNode wIf a.2 b.2 c.2) c.1
def cmpS (sum : Pr) : Pr := fun x => match takeT cmpL (sum x).1 with
  | some (op, y) => putS (xNode op (sum x).2 (sum y).2 0) (sum y).1
  | none => sum x
def exprStep (en : Nat) (fac expr : Pr) : Pr := fun x =>
  if x.err = 0 then match takeT [wIf] x with
    | some (_, y) => iteS en expr y
    | none => cmpS (sumS fac) x
  else (x, 0)
def longS (en : Nat) : Pr := fun x => (failS en 9 x, 0)
/-- A factor, and an expression, with so many depths left. -/
def prs (en : Nat) : Nat → Pr × Pr
  | 0 => (longS en, longS en)
  | d + 1 => (facStep en (prs en d).1 (prs en d).2, exprStep en (facStep en (prs en d).1 (prs en d).2) (prs en d).2)
def facP (en d : Nat) : Pr := (prs en d).1
def exprP (en d : Nat) : Pr := (prs en d).2
def ruleS (en : Nat) (x : PS) : PS := match x.ts with
  | [] => failS en 2 x
  | t :: _ => if 60 ≤ x.rules.length ∧ t.kind = 1 ∧ kindsL.contains t.text = true then failS en 9 x
    else match takeT kindsL x with
      | none => failS en 2 x
      | some (kind, y) => match y.ts with
        | [] => failS en 2 y
        | n :: r => if n.kind = 1 ∧ namedB n.text = true then
            let e := exprP en 20 (needS en [61] (y.go r))
            let z := needS en [59] e.1
            { z with rules := z.rules ++ [⟨kind, n.text, e.2⟩] }
          else failS en 2 y
def progL (en : Nat) : Nat → PS → PS
  | 0, x => x
  | f + 1, x => if x.ts = [] ∨ x.err ≠ 0 then x else progL en f (ruleS en x)
/-- What is read of a text: rules, expressions, the place and the number of the error. -/
structure Prog where
  rules : List Rul
  exprs : List Xpr
  deriving DecidableEq
def ps0 (ts : List Tok) : PS := ⟨ts, [], [], 0, 0⟩
def parseT (en : Nat) (ts : List Tok) : Prog × Int × Int :=
  let x := progL en ts.length (ps0 ts)
  if x.err = 0 then (⟨x.rules, x.exprs⟩, 0, 0) else (⟨[], []⟩, x.place, x.err)
def parseP (s : List UInt8) : Prog × Int × Int := match lexS s with
  | (ts, none) => parseT s.length ts
  | (_, some e) => (⟨[], []⟩, e, 2)
/-- From one state to one further on: fewer tokens, no more expressions than were taken. -/
structure Step (x y : PS) : Prop where
  ts : y.ts <:+ x.ts
  rules : y.rules = x.rules
  many : y.exprs.length + y.ts.length ≤ x.exprs.length + x.ts.length
  pre : x.exprs <+: y.exprs
  err : x.err ≠ 0 → y.err = x.err ∧ y.place = x.place
theorem Step.refl (x : PS) : Step x x := ⟨List.suffix_refl _, rfl, Nat.le_refl _, List.prefix_refl _, fun _ => ⟨rfl, rfl⟩⟩
theorem Step.trans {x y z : PS} (h : Step x y) (g : Step y z) : Step x z :=
  ⟨g.ts.trans h.ts, g.rules.trans h.rules, Nat.le_trans g.many h.many, h.pre.trans g.pre, fun hx => by
    obtain ⟨h1, h2⟩ := h.err hx
    obtain ⟨g1, g2⟩ := g.err (by rw [h1]; exact hx)
    exact ⟨g1.trans h1, g2.trans h2⟩⟩
theorem fail_step (en : Nat) (e : Int) (x : PS) : Step x (failS en e x) := by
  unfold failS
  split
  · exact ⟨List.suffix_refl _, rfl, Nat.le_refl _, List.prefix_refl _, fun h => absurd (by assumption) h⟩
  · exact Step.refl x
theorem take_some {l : List (List UInt8)} {x y : PS} {s : List UInt8} (h : takeT l x = some (s, y)) :
    x.err = 0 ∧ ∃ t r, x.ts = t :: r ∧ signT t = true ∧ l.contains t.text = true ∧ s = t.text ∧ y = (x.go r) := by
  unfold takeT at h
  split at h
  · rename_i h0
    split at h
    · cases h
    · rename_i t r hts
      split at h
      · rename_i hc
        simp only [Option.some.injEq, Prod.mk.injEq] at h
        exact ⟨h0, t, r, hts, hc.1, hc.2, h.1.symm, h.2.symm⟩
      · cases h
  · cases h
/-- So it is behind what was taken: room for one more expression. -/
structure Step1 (x y : PS) : Prop where
  step : Step x y
  many : y.exprs.length + 1 + y.ts.length ≤ x.exprs.length + x.ts.length
theorem take_step {l : List (List UInt8)} {x y : PS} {s : List UInt8} (h : takeT l x = some (s, y)) : Step1 x y := by
  obtain ⟨h0, t, r, hts, _, _, _, rfl⟩ := take_some h
  refine ⟨⟨?_, rfl, ?_, List.prefix_refl _, fun h => absurd h0 h⟩, ?_⟩
  · rw [hts]; exact List.suffix_cons t r
  · rw [hts]; simp
  · rw [hts]; simp; omega
theorem Step1.trans {x y z : PS} (h : Step1 x y) (g : Step y z) : Step1 x z := ⟨h.step.trans g, by have := h.many; have := g.many; omega⟩
theorem Step1.put {x y : PS} (h : Step1 x y) (e : Xpr) : Step x (putS e y).1 :=
  ⟨h.step.ts, h.step.rules, by have := h.many; simp [putS]; omega, h.step.pre.trans (List.prefix_append _ _), h.step.err⟩
theorem need_step (en : Nat) (s : List UInt8) (x : PS) : Step x (needS en s x) := by
  unfold needS
  split
  · rename_i h; exact (take_step h).step
  · exact fail_step en 2 x
def Good1 (f : Pr) : Prop := ∀ x, Step x (f x).1
theorem leaf_step (en : Nat) : Good1 (leafS en) := by
  intro x
  unfold leafS
  split
  · exact fail_step en 2 x
  · rename_i t r hts
    split
    · refine ⟨?_, rfl, ?_, List.prefix_append _ _, fun _ => ⟨rfl, rfl⟩⟩
      · rw [hts]; exact List.suffix_cons t r
      · rw [hts]; simp [putS]; omega
    · exact fail_step en 2 x
theorem chainL_step {f : Pr} (hf : Good1 f) (ops : List (List UInt8)) : ∀ (n : Nat) (x : PS) (a : Nat), Step x (chainL f ops n x a).1
  | 0, x, a => Step.refl x
  | n + 1, x, a => by
    unfold chainL
    split
    · exact Step.refl x
    · rename_i op y h
      exact (((take_step h).trans (hf y)).put _).trans (chainL_step hf ops n _ _)
theorem chain_step {f : Pr} (hf : Good1 f) (ops : List (List UInt8)) : Good1 (chainS f ops) := fun x => (hf x).trans (chainL_step hf ops _ _ _)
theorem pair_step (en : Nat) {f : Pr} (hf : Good1 f) (op : List UInt8) {x y : PS} (h : Step1 x y) : Step x (pairS en f op y).1 :=
  Step1.put (((((h.trans (need_step en _ _)).trans (hf _)).trans (need_step en _ _)).trans (hf _)).trans (need_step en _ _)) _
theorem fac_step (en : Nat) {f g : Pr} (hf : Good1 f) (hg : Good1 g) : Good1 (facStep en f g) := by
  intro x
  unfold facStep
  split
  · split
    · rename_i h; exact ((take_step h).trans (hf _)).put _
    · split
      · rename_i h; exact pair_step en hg _ (take_step h)
      · split
        · rename_i h; exact (((take_step h).trans (hg _)).trans (need_step en _ _)).step
        · exact leaf_step en x
  · exact Step.refl x
theorem prod_step {f : Pr} (hf : Good1 f) : Good1 (prodS f) := chain_step hf _
theorem sum_step {f : Pr} (hf : Good1 f) : Good1 (sumS f) := chain_step (prod_step hf) _
theorem ite_step (en : Nat) {f : Pr} (hf : Good1 f) {x y : PS} (h : Step1 x y) : Step x (iteS en f y).1 :=
  Step1.put (((((h.trans (hf _)).trans (need_step en _ _)).trans (hf _)).trans (need_step en _ _)).trans (hf _)) _
theorem cmp_step {f : Pr} (hf : Good1 f) : Good1 (cmpS f) := by
  intro x
  unfold cmpS
  split
  · rename_i h; exact (hf x).trans (((take_step h).trans (hf _)).put _)
  · exact hf x
theorem exprStep_step (en : Nat) {f g : Pr} (hf : Good1 f) (hg : Good1 g) : Good1 (exprStep en f g) := by
  intro x
  unfold exprStep
  split
  · split
    · rename_i h; exact ite_step en hg (take_step h)
    · exact cmp_step (sum_step hf) x
  · exact Step.refl x
theorem long_step (en : Nat) : Good1 (longS en) := fun x => fail_step en 9 x
theorem prs_step (en : Nat) : ∀ d, Good1 (prs en d).1 ∧ Good1 (prs en d).2
  | 0 => ⟨long_step en, long_step en⟩
  | d + 1 => by
    have ih := prs_step en d
    exact ⟨fac_step en ih.1 ih.2, exprStep_step en (fac_step en ih.1 ih.2) ih.2⟩
theorem facP_step (en d : Nat) : Good1 (facP en d) := (prs_step en d).1
theorem exprP_step (en d : Nat) : Good1 (exprP en d) := (prs_step en d).2
end Pay
