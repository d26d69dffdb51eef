/- What the laws of kinds without the document's answer rest on. -/
import Derived.Test.YtmglkghngkbioaaGreatDoorPayBc0
import Derived.Test.YtmglkghngkbioaaGreatDoorPayC65
import Derived.Test.YtmglkghngkbioaaGreatDoorPayC81
import Derived.Test.YtmglkghngkbioaaGreatDoorPayCk1
import Derived.Test.YtmglkghngkbioaaGreatDoorPayTr1
set_option linter.unusedSimpArgs false
set_option linter.unusedVariables false
namespace Pay
open Go
theorem encBn_all (l : List Bnd) : (∀ e ∈ l.map encBn, e.length = 2) = True := eq_true (fun e he => by obtain ⟨m, _, rfl⟩ := List.mem_map.1 he; rfl)
theorem encX_all (l : List Xpr) : (∀ e ∈ l.map encX, e.length = 6) = True := eq_true (fun e he => by obtain ⟨m, _, rfl⟩ := List.mem_map.1 he; rfl)
theorem q_up {C : Ctx} {es : List (List D)} {n : Int} {l : List Bnd} {r : V} (h : SoundAt C 163 ⟨[.agg [.d (.sl []), .d (.sl es)], vI n, vBns l], looko []⟩ ⟨r, looko []⟩) : SoundAt C 163 ⟨[.agg [.cap0, .d (.sl es)], vI n, vBns l], looko []⟩ ⟨r, looko []⟩ := SoundAt.up h
abbrev pC (p : Prog) : List V := [.d (.sl (p.rules.map encRl)), .d (.sl (p.exprs.map encX))]
def okX (x : Xpr) : Bool := decide (x.name.length ≤ 30) && decide (x.op.length ≤ 30)
def okRl (x : Rul) : Bool := decide (x.name.length ≤ 30) && decide (x.kind.length ≤ 30)
def smallP (p : Prog) : Bool := decide (p.exprs.length ≤ 300) && (decide (p.rules.length ≤ 70) && (p.exprs.all okX && p.rules.all okRl))
/-- What the functions make that those laws reach. -/
structure LawK (C : Ctx) : Prop where
  kind : ∀ (p : Prog) (root : Int) (l : List Bnd), p.exprs.length < 100000 → l.length < 100000 → -9223372036854775808 ≤ root ∧ root < 9223372036854775808 → SoundAt C 163 ⟨[vProg p, vI root, vBns l], looko []⟩ ⟨.tup [vI (kindP p.exprs root l).1, vI (kindP p.exprs root l).2.1, vI (kindP p.exprs root l).2.2], looko []⟩
  ref : ∀ p : Prog, p.rules.length * 40 ≤ 140737488355328 → p.exprs.length < 100000 → SoundAt C 160 ⟨[vProg p], looko []⟩ ⟨vProg p, looko []⟩
  small : ∀ p : Prog, SoundAt C 161 ⟨[vProg p], looko []⟩ ⟨vB (smallP p), looko []⟩
  awake : SoundAt C 162 ⟨[], looko []⟩ ⟨vB true, looko []⟩
end Pay
