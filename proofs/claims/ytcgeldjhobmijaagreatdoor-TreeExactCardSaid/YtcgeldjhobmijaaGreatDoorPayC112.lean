/- The law of any text's program: TreeExact. -/
import Derived.Test.YtcgeldjhobmijaaGreatDoorPayBc0
import Derived.Test.YtcgeldjhobmijaaGreatDoorPayC32
import Derived.Test.YtcgeldjhobmijaaGreatDoorPayC65
import Derived.Test.YtcgeldjhobmijaaGreatDoorPayC66
import Derived.Test.YtcgeldjhobmijaaGreatDoorPayMTr1
import Derived.Test.YtcgeldjhobmijaaGreatDoorPaySh0_0
import Derived.Test.YtcgeldjhobmijaaGreatDoorPaySh0_1
import Derived.Test.YtcgeldjhobmijaaGreatDoorPaySw8
set_option linter.unusedSimpArgs false
set_option linter.unusedVariables false
namespace Pay
open Go
attribute [local irreducible] wpB opsB treeB drawB
structure X8K (C : Ctx) : Prop where
  awake : SoundAt C 143 ⟨[], looko []⟩ ⟨vB true, looko []⟩
  parse : HParse C
  parse8 : ∀ s : List UInt8, s.length < 100000 → SoundAt C 173 ⟨[vS s], looko []⟩ ⟨vParse (parseP s), looko []⟩
  same : ∀ p q : Prog, p.rules.length < 100000 → p.exprs.length < 100000 → SoundAt C 147 ⟨[vProg p, vProg q], looko []⟩ ⟨vB (decide (p = q)), looko []⟩
  ref : ∀ p : Prog, p.rules.length < 100000 → p.exprs.length < 100000 → SoundAt C 146 ⟨[vProg p], looko []⟩ ⟨vProg p, looko []⟩
theorem lawTreeExact {C : Ctx} (h : okFn C.P C.φ 228 g_law08_TreeExact = true) (K : X8K C) (s : List UInt8) : SoundAt C 228 ⟨[vS s], looko []⟩ ⟨vB true, looko []⟩ := by
  have ha := K.awake
  refine SoundAt.of_run h rfl (fun Q hR hN => ?_)
  rw [entry1]
  by_cases h1 : s.length ≤ 600
  case neg =>
    have b1 : ((s.length : Int) > 600) := by omega
    repeat (first | simp only [go_sem, b1, decide_true] | refine Unf.h ?_ | refine And.intro ?_ (noRv_of (by simp only [go_sem])) | refine callK_plain (ha) (fun _ => rfl) ?_ | refine callE_plain (ha) (fun _ => rfl) ?_ | refine ⟨_, ha, fun _ => rfl, ?_⟩)
    refine hR _ ?_
    simp only [go_sem]
  have b1 : ¬ ((s.length : Int) > 600) := by omega
  have t1 := K.parse s (by omega)
  have t2 := K.parse8 s (by omega)
  obtain ⟨q1, q2⟩ := sparse_small s (by omega)
  have t3 := K.ref (parseP s).1 (by omega) (by omega)
  have t4 := K.same (parseP s).1 (parseP s).1 (by omega) (by omega)
  rw [decide_eq_true rfl] at t4
  clear q1 q2
  unfold vParse at t1 t2
  generalize (parseP s).2.1 = a at *
  generalize (parseP s).2.2 = e at *
  generalize (parseP s).1 = p at *
  repeat (first | simp only [go_sem, b1, decide_false] | refine Unf.h ?_ | refine And.intro ?_ (noRv_of (by simp only [go_sem])) | refine callK_plain (t1) (fun _ => rfl) ?_ | refine callE_plain (t1) (fun _ => rfl) ?_ | refine ⟨_, t1, fun _ => rfl, ?_⟩ | refine callK_plain (t2) (fun _ => rfl) ?_ | refine callE_plain (t2) (fun _ => rfl) ?_ | refine ⟨_, t2, fun _ => rfl, ?_⟩ | refine callK_plain (t3) (fun _ => rfl) ?_ | refine callE_plain (t3) (fun _ => rfl) ?_ | refine ⟨_, t3, fun _ => rfl, ?_⟩ | refine callK_plain (t4) (fun _ => rfl) ?_ | refine callE_plain (t4) (fun _ => rfl) ?_ | refine ⟨_, t4, fun _ => rfl, ?_⟩ | refine callK_plain (ha) (fun _ => rfl) ?_ | refine callE_plain (ha) (fun _ => rfl) ?_ | refine ⟨_, ha, fun _ => rfl, ?_⟩)
  refine hR _ ?_
  simp only [go_sem]
end Pay
