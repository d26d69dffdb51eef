/- Kinds of expressions, plainly. -/
import Derived.Test.YtmglkghngkbioaaGreatDoorPayTr1
set_option linter.unusedSimpArgs false
set_option linter.unusedVariables false
namespace Pay
structure Bnd where
  name : List UInt8
  kind : Int
  deriving DecidableEq
def encBn (b : Bnd) : List D := [.str b.name, dI b.kind]
def isLeaf (op : List UInt8) : Bool := op == wWhole || (op == wAmount || (op == wRate || op == wName))
def partsI (x : Xpr) : List Int := if isLeaf x.op = true then [] else if x.op = wNeg then [x.a] else if x.op = wIf then [x.a, x.b, x.c] else [x.a, x.b]
def prodK (a b : Int) : Int := if a = 3 ∧ b = 3 then 3 else if (a = 1 ∧ (b = 3 ∨ b = 2)) ∨ (b = 1 ∧ (a = 3 ∨ a = 2)) then 1 else 0
def twoK (op : List UInt8) (a b : Int) : Int :=
  if op = [43] ∨ op = [45] then (if a = b ∧ (a = 1 ∨ a = 3) then a else 0)
  else if op = [42] then prodK a b
  else if op = wMin ∨ op = wMax then (if a = b ∧ a ≠ 0 ∧ a ≠ 4 then a else 0)
  else if op = [61] ∨ op = [60, 62] then (if a = b ∧ a ≠ 0 then 4 else 0)
  else if op = [60] ∨ op = [60, 61] ∨ op = [62] ∨ op = [62, 61] then (if a = b ∧ a ≠ 0 ∧ a ≠ 4 then 4 else 0)
  else 0
/-- The place of a name's first binding; -1: none. -/
def findB (s : List UInt8) : List Bnd → Nat → Int
  | [], _ => -1
  | b :: r, k => if b.name = s then k else findB s r (k + 1)
def bound (s : List UInt8) : List Bnd → Option Int
  | [] => none
  | b :: r => if b.name = s then some b.kind else bound s r
/-- A name's kind: 0: none. -/
def nameK (s : List UInt8) (l : List Bnd) : Int := match bound s l with
  | none => 0
  | some k => if 1 ≤ k ∧ k ≤ 4 then k else 0
def kindX (x : Xpr) (a b c : Int) (l : List Bnd) : Int :=
  if x.op = wWhole then 3 else if x.op = wAmount then 1 else if x.op = wRate then 2
  else if x.op = wName then nameK x.name l
  else if x.op = wNeg then (if a = 1 ∨ a = 3 then a else 0)
  else if x.op = wIf then (if a = 4 ∧ b = c then b else 0)
  else twoK x.op a b
def markP : List Int → Nat → List Bool → Option (List Bool)
  | [], _, out => some out
  | p :: ps, i, out => if 0 ≤ p ∧ p < (i : Int) then markP ps i (out.set p.toNat true) else none
def needL (es : List Xpr) : Nat → List Bool → Option (List Bool)
  | 0, out => some out
  | i + 1, out => match out[i]?, es[i]? with
    | some true, some x => (match markP (partsI x) i out with | some o => needL es i o | none => none)
    | _, _ => needL es i out
/-- Which expressions one is made of; none: a part is not there. -/
def needB (es : List Xpr) (root : Int) : Option (List Bool) :=
  if 0 ≤ root ∧ root < (es.length : Int) then needL es (root.toNat + 1) ((List.replicate (root.toNat + 1) false).set root.toNat true) else none
theorem markP_len : ∀ (ps : List Int) (i : Nat) (out o : List Bool), markP ps i out = some o → o.length = out.length
  | [], _, out, o, h => by cases h; rfl
  | p :: ps, i, out, o, h => by
    unfold markP at h
    split at h
    · rw [markP_len ps i _ o h, List.length_set]
    · cases h
theorem needL_len (es : List Xpr) : ∀ (n : Nat) (out o : List Bool), needL es n out = some o → o.length = out.length
  | 0, out, o, h => by cases h; rfl
  | n + 1, out, o, h => by
    unfold needL at h
    split at h
    · split at h
      · rename_i h2; rw [needL_len es n _ o h, markP_len _ _ _ _ h2]
      · cases h
    · exact needL_len es n _ o h
def getK (ks : List Int) (p : Int) : Int := (ks[p.toNat]?).getD 0
/-- From the i-th on: the kinds there are, or the place and the number of the error. -/
def kindsB (es : List Xpr) (l : List Bnd) : List Bool → Nat → List Int → List Int ⊕ (Int × Int)
  | [], _, ks => .inl ks
  | false :: need, i, ks => kindsB es l need (i + 1) ks
  | true :: need, i, ks => match es[i]? with
    | none => .inl ks
    | some x =>
      let k := kindX x (getK ks x.a) (getK ks x.b) (getK ks x.c) l
      if k = 0 then .inr (i, if x.op = wName ∧ bound x.name l = none then 5 else 7)
      else kindsB es l need (i + 1) (ks.set i k)
/-- The kind of an expression, or the place and the number of the error. -/
def kindP (es : List Xpr) (root : Int) (l : List Bnd) : Int × Int × Int := match needB es root with
  | none => (0, 0, 1)
  | some need => (match kindsB es l need 0 (List.replicate need.length 0) with
    | .inl ks => (getK ks root, 0, 0)
    | .inr (at_, e) => (0, at_, e))
end Pay
