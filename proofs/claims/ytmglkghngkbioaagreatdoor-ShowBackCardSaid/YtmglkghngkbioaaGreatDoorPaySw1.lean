/- The text of rules, plainly: as the program writes it. -/
import Derived.Test.YtmglkghngkbioaaGreatDoorPayC32
import Derived.Test.YtmglkghngkbioaaGreatDoorPayC42
import Derived.Test.YtmglkghngkbioaaGreatDoorPayTr1
import Derived.Test.YtmglkghngkbioaaGreatDoorPayTr3
set_option linter.unusedSimpArgs false
set_option linter.unusedVariables false
namespace Pay
open Go
def lvlS (op : List UInt8) : Int :=
  if op = wIf then 0 else if cmpL.contains op = true then 1 else if sumL.contains op = true then 2 else if op = [42] then 3 else 4
def leafW (x : Xpr) : List UInt8 :=
  if x.op = wWhole then Lib.itoa x.val else if x.op = wAmount then (textS x.val).1 else if x.op = wRate then (rateTextS x.val).1 else if x.op = wName then x.name else []
/-- What is on the stack: a text, or an expression that must bind so much. -/
inductive It where
  | s (u : List UInt8)
  | x (i least : Int)
def encIt : It → List D
  | .s u => [.str u, dI 0, dI 0]
  | .x i l => [.str [], dI i, dI l]
def partsW (x : Xpr) : List It :=
  if leafW x ≠ [] then [.s (leafW x)]
  else if x.op = wNeg then [.s [45], .x x.a 4]
  else if x.op = wMin ∨ x.op = wMax then [.s (x.op ++ [40]), .x x.a 0, .s [44, 32], .x x.b 0, .s [41]]
  else if x.op = wIf then [.s [105, 102, 32], .x x.a 0, .s [32, 116, 104, 101, 110, 32], .x x.b 0, .s [32, 101, 108, 115, 101, 32], .x x.c 0]
  else [.x x.a (max (lvlS x.op) 2), .s ([32] ++ x.op ++ [32]), .x x.b (lvlS x.op + 1)]
def openW (x : Xpr) (least : Int) : List It := if lvlS x.op < least then .s [40] :: partsW x ++ [.s [41]] else partsW x
/-- The texts in front. -/
def frontS : List It → List UInt8 × List It
  | .s u :: r => (u ++ (frontS r).1, (frontS r).2)
  | r => ([], r)
/-- What is written of a stack, with so many expressions left. -/
def wrM (es : List Xpr) : Nat → List It → List UInt8
  | 0, _ => []
  | k + 1, st => (frontS st).1 ++ (match (frontS st).2 with
    | .x i l :: r => (match es[i.toNat]? with
      | some x => wrM es k (openW x l ++ r)
      | none => [])
    | _ => [])
def writeW (es : List Xpr) (i : Int) : List UInt8 := wrM es (es.length + 1) [.x i 0]
def lineW (es : List Xpr) (r : Rul) : List UInt8 := r.kind ++ [32] ++ r.name ++ [32, 61, 32] ++ writeW es r.root ++ [59, 10]
def textW (p : Prog) : List UInt8 := p.rules.flatMap (lineW p.exprs)
def shPartOk (n : Nat) (q : Int) : Bool := decide (0 ≤ q) && decide (q < max (n : Int) 1)
def soundX (n : Nat) (x : Xpr) : Bool := shPartOk n x.a && shPartOk n x.b && shPartOk n x.c && decide (x.op.length ≤ 12) && decide (x.name.length ≤ 12)
def soundXs : Nat → List Xpr → Bool
  | _, [] => true
  | n, x :: xs => soundX n x && soundXs (n + 1) xs
def soundR (n : Nat) (r : Rul) : Bool := decide (0 ≤ r.root) && decide (r.root < (n : Int)) && decide (r.kind.length ≤ 12) && decide (r.name.length ≤ 12)
def soundP (p : Prog) : Bool := soundXs 0 p.exprs && p.rules.all (soundR p.exprs.length) && decide (p.rules.length ≤ 60)
def showW (p : Prog) : List UInt8 × Int :=
  if soundP p = true ∧ (parseP (textW p)).2.2 = 0 ∧ (parseP (textW p)).1 = p then (textW p, 0) else ([], 1)
def exprW (p : Prog) (i : Int) : List UInt8 × Int :=
  if (showW p).2 = 0 ∧ 0 ≤ i ∧ i < (p.exprs.length : Int) then (writeW p.exprs i, 0) else ([], 1)
theorem front_s (u : List UInt8) (r : List It) : frontS (.s u :: r) = (u ++ (frontS r).1, (frontS r).2) := rfl
theorem front_x (i l : Int) (r : List It) : frontS (.x i l :: r) = ([], .x i l :: r) := rfl
theorem wrM_s (es : List Xpr) (k : Nat) (u : List UInt8) (r : List It) : wrM es (k + 1) (.s u :: r) = u ++ wrM es (k + 1) r := by
  simp only [wrM, front_s, List.append_assoc]
theorem wrM_x {es : List Xpr} {i : Int} {x : Xpr} (hx : es[i.toNat]? = some x) (k : Nat) (l : Int) (r : List It) : wrM es (k + 1) (.x i l :: r) = wrM es k (openW x l ++ r) := by
  simp only [wrM, front_x, hx, List.nil_append]
theorem wrM_nil (es : List Xpr) (k : Nat) : wrM es k [] = [] := by cases k <;> rfl
end Pay
