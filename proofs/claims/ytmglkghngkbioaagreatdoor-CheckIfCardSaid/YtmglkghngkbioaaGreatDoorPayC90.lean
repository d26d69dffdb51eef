/- The fixed answer of the layer of kinds; the layer's bundle. -/
import Derived.KernelRfl
import Derived.Test.YtmglkghngkbioaaGreatDoorPayBc0
import Derived.Test.YtmglkghngkbioaaGreatDoorPayC65
import Derived.Test.YtmglkghngkbioaaGreatDoorPayC66
import Derived.Test.YtmglkghngkbioaaGreatDoorPayC81
import Derived.Test.YtmglkghngkbioaaGreatDoorPayCk1
import Derived.Test.YtmglkghngkbioaaGreatDoorPaySh0_0
import Derived.Test.YtmglkghngkbioaaGreatDoorPayTr1
set_option linter.unusedSimpArgs false
set_option linter.unusedVariables false
set_option maxRecDepth 100000
namespace Pay
open Go
attribute [local irreducible] wpB opsB treeB drawB
abbrev aw10 : List UInt8 := [108, 101, 116, 32, 97, 32, 61, 32, 49, 46, 53, 48, 32, 42, 32, 50, 59, 32, 108, 101, 116, 32, 98, 32, 61, 32, 49, 46, 53, 48, 32, 43, 32, 50, 59]
theorem aw10_p : parseP aw10 = (⟨[⟨wLet, [97], 2⟩, ⟨wLet, [98], 5⟩], [xLeaf wAmount [] 150, xLeaf wWhole [] 2, xNode [42] 0 1 0, xLeaf wAmount [] 150, xLeaf wWhole [] 2, xNode [43] 3 4 0]⟩, 0, 0) := by kernel_rfl
abbrev aw10P : Prog := ⟨[⟨wLet, [97], 2⟩, ⟨wLet, [98], 5⟩], [xLeaf wAmount [] 150, xLeaf wWhole [] 2, xNode [42] 0 1 0, xLeaf wAmount [] 150, xLeaf wWhole [] 2, xNode [43] 3 4 0]⟩
theorem aw10_2 : kindP aw10P.exprs 2 [] = (1, 0, 0) := by kernel_rfl
theorem aw10_5 : kindP aw10P.exprs 5 [] = (0, 5, 7) := by kernel_rfl
theorem lawCheckAwake {C : Ctx} (h : okFn C.P C.φ 162 g_law10_awake = true) (hP : HParse C)
    (hK : ∀ (p : Prog) (root : Int) (l : List Bnd), p.exprs.length < 100000 → l.length < 100000 → -9223372036854775808 ≤ root ∧ root < 9223372036854775808 → SoundAt C 163 ⟨[vProg p, vI root, vBns l], looko []⟩ ⟨.tup [vI (kindP p.exprs root l).1, vI (kindP p.exprs root l).2.1, vI (kindP p.exprs root l).2.2], looko []⟩) :
    SoundAt C 162 ⟨[], looko []⟩ ⟨vB true, looko []⟩ := by
  have t1 := hP aw10 (by decide)
  rw [aw10_p] at t1
  have t2 : SoundAt C 163 ⟨[vProg aw10P, vI 2, .cap0], looko []⟩ ⟨.tup [vI 1, vI 0, vI 0], looko []⟩ := SoundAt.up (by
    have := hK aw10P 2 [] (by decide) (by decide) (by decide)
    rw [aw10_2] at this
    exact this)
  have t3 : SoundAt C 163 ⟨[vProg aw10P, vI 5, .cap0], looko []⟩ ⟨.tup [vI 0, vI 5, vI 7], looko []⟩ := SoundAt.up (by
    have := hK aw10P 5 [] (by decide) (by decide) (by decide)
    rw [aw10_5] at this
    exact this)
  simp only [vParse, vProg, List.map_cons, List.map_nil, encX, encRl, xLeaf, xNode, aw10, aw10P] at t1 t2 t3
  refine SoundAt.of_run h rfl (fun Q hR hN => ?_)
  rw [entry0]
  repeat' (first | simp only [go_sem] | refine callK_plain t1 (fun _ => rfl) ?_ | refine callK_plain t2 (fun _ => rfl) ?_ | refine callK_plain t3 (fun _ => rfl) ?_ | refine Unf.h ?_ | refine hR _ ?_)
end Pay
