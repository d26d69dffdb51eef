/- The law of kinds: CheckKinds. -/
import Derived.Test.YtmglkghngkbioaaGreatDoorPayBc0
import Derived.Test.YtmglkghngkbioaaGreatDoorPayC62
import Derived.Test.YtmglkghngkbioaaGreatDoorPayC65
import Derived.Test.YtmglkghngkbioaaGreatDoorPayC81
import Derived.Test.YtmglkghngkbioaaGreatDoorPayCk1
import Derived.Test.YtmglkghngkbioaaGreatDoorPayCkC
import Derived.Test.YtmglkghngkbioaaGreatDoorPaySh1_0
import Derived.Test.YtmglkghngkbioaaGreatDoorPayTr1
set_option linter.unusedSimpArgs false
set_option linter.unusedVariables false
namespace Pay
open Go
attribute [local irreducible] wpB opsB treeB drawB
/-- What the layer's functions make. -/
structure LawC (C : Ctx) : Prop where
  kind : ∀ (p : Prog) (root : Int) (l : List Bnd), p.exprs.length < 100000 → l.length < 100000 → -9223372036854775808 ≤ root ∧ root < 9223372036854775808 → SoundAt C 163 ⟨[vProg p, vI root, vBns l], looko []⟩ ⟨.tup [vI (kindP p.exprs root l).1, vI (kindP p.exprs root l).2.1, vI (kindP p.exprs root l).2.2], looko []⟩
  rkind : ∀ (p : Prog) (root : Int) (l : List Bnd), p.exprs.length < 100000 → l.length < 100000 → -9223372036854775808 ≤ root ∧ root < 9223372036854775808 → SoundAt C 165 ⟨[vProg p, vI root, vBns l], looko []⟩ ⟨.tup [vI (kindP p.exprs root l).1, vI (kindP p.exprs root l).2.1, vI (kindP p.exprs root l).2.2], looko []⟩
  ref : ∀ p : Prog, p.rules.length * 40 ≤ 140737488355328 → p.exprs.length < 100000 → SoundAt C 160 ⟨[vProg p], looko []⟩ ⟨vProg p, looko []⟩
  refs : ∀ l : List Bnd, l.length < 100000 → SoundAt C 164 ⟨[vBns l], looko []⟩ ⟨vBns l, looko []⟩
  small : ∀ p : Prog, SoundAt C 161 ⟨[vProg p], looko []⟩ ⟨vB (smallP p), looko []⟩
  awake : SoundAt C 162 ⟨[], looko []⟩ ⟨vB true, looko []⟩
theorem lawCheckKinds {C : Ctx} (h : okFn C.P C.φ 159 g_law10_CheckKinds = true) (K : LawC C) (p : Prog) (root : Int) (l : List Bnd) (hp : p.rules.length * 40 ≤ 140737488355328) (hroot : -9223372036854775808 ≤ root ∧ root < 9223372036854775808) :
    SoundAt C 159 ⟨[vProg p, vI root, vBns l], looko []⟩ ⟨vB true, looko []⟩ := by
  have ha := K.awake
  refine SoundAt.of_run h rfl (fun Q hR hN => ?_)
  rw [entry3]
  by_cases h1 : p.exprs.length ≤ 300
  case neg =>
    have b1 : ((p.exprs.length : Int) > 300) := by omega
    repeat (first | simp only [go_sem, List.length_map, b1, decide_true] | refine Unf.h ?_)
    refine callK_plain ha (fun _ => rfl) ?_
    repeat (first | simp only [go_sem] | refine Unf.h ?_)
    refine hR _ ?_
    simp only [go_sem]
  have b1 : ¬ ((p.exprs.length : Int) > 300) := by omega
  have t1 := K.ref p hp (by omega)
  have t2 := K.small p
  have go : ∀ b, smallP p = b → b = false ∨ 60 < l.length → True := fun _ _ _ => trivial
  cases hs : smallP p with
  | false =>
    rw [hs] at t2
    repeat (first | simp only [go_sem, List.length_map, b1, decide_false] | refine Unf.h ?_)
    refine callK_plain t1 (fun _ => rfl) ?_
    repeat (first | simp only [go_sem] | refine Unf.h ?_)
    refine callK_plain t2 (fun _ => rfl) ?_
    repeat (first | simp only [go_sem] | refine Unf.h ?_)
    refine callK_plain ha (fun _ => rfl) ?_
    repeat (first | simp only [go_sem] | refine Unf.h ?_)
    refine hR _ ?_
    simp only [go_sem]
  | true =>
    rw [hs] at t2
    by_cases h2 : l.length ≤ 60
    case neg =>
      have b2 : ((l.length : Int) > 60) := by omega
      repeat (first | simp only [go_sem, List.length_map, b1, decide_false] | refine Unf.h ?_)
      refine callK_plain t1 (fun _ => rfl) ?_
      repeat (first | simp only [go_sem] | refine Unf.h ?_)
      refine callK_plain t2 (fun _ => rfl) ?_
      repeat (first | simp only [go_sem, List.length_map, b2, decide_true] | refine Unf.h ?_)
      refine callK_plain ha (fun _ => rfl) ?_
      repeat (first | simp only [go_sem] | refine Unf.h ?_)
      refine hR _ ?_
      simp only [go_sem]
    have b2 : ¬ ((l.length : Int) > 60) := by omega
    have t3 := K.kind p root l (by omega) (by omega) hroot
    have t4 := K.rkind p root l (by omega) (by omega) hroot
    have t5 := K.refs l (by omega)
    generalize kindP p.exprs root l = r at *
    repeat (first | simp only [go_sem, List.length_map, b1, decide_false] | refine Unf.h ?_)
    refine callK_plain t1 (fun _ => rfl) ?_
    repeat (first | simp only [go_sem] | refine Unf.h ?_)
    refine callK_plain t2 (fun _ => rfl) ?_
    repeat (first | simp only [go_sem, List.length_map, b2, decide_false] | refine Unf.h ?_)
    refine callK_plain t3 (fun _ => rfl) ?_
    repeat (first | simp only [go_sem] | refine Unf.h ?_)
    refine callK_plain t1 (fun _ => rfl) ?_
    repeat (first | simp only [go_sem] | refine Unf.h ?_)
    refine callK_plain t5 (fun _ => rfl) ?_
    repeat (first | simp only [go_sem] | refine Unf.h ?_)
    refine callK_plain t4 (fun _ => rfl) ?_
    repeat (first | simp only [go_sem] | refine Unf.h ?_)
    refine callK_plain ha (fun _ => rfl) ?_
    repeat (first | simp only [go_sem] | refine Unf.h ?_)
    refine hR _ ?_
    simp only [go_sem]
end Pay
