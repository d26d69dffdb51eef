/- Contracts: kinds of two. -/
import Derived.Test.YtmglkghngkbioaaGreatDoorPayBc0
import Derived.Test.YtmglkghngkbioaaGreatDoorPayC32
import Derived.Test.YtmglkghngkbioaaGreatDoorPayC61
import Derived.Test.YtmglkghngkbioaaGreatDoorPayCk1
import Derived.Test.YtmglkghngkbioaaGreatDoorPaySh0_0
import Derived.Test.YtmglkghngkbioaaGreatDoorPayTr1
set_option linter.unusedSimpArgs false
set_option linter.unusedVariables false
namespace Pay
open Go
attribute [local irreducible] wpB opsB treeB drawB
theorem kind5 {a : Int} (h : 0 ≤ a ∧ a ≤ 4) : a = 0 ∨ a = 1 ∨ a = 2 ∨ a = 3 ∨ a = 4 := by omega
theorem ckProduct {C : Ctx} (h : okFn C.P C.φ 213 g_check_product = true) {a b : Int} (ha : 0 ≤ a ∧ a ≤ 4) (hb : 0 ≤ b ∧ b ≤ 4) : SoundAt C 213 ⟨[vI a, vI b], looko []⟩ ⟨vI (prodK a b), looko []⟩ := by
  refine SoundAt.of_run h rfl (fun Q hR hN => ?_)
  rw [entry2]
  rcases kind5 ha with rfl | rfl | rfl | rfl | rfl <;> rcases kind5 hb with rfl | rfl | rfl | rfl | rfl
  all_goals
    repeat (first | simp only [go_sem] | refine Unf.h ?_)
    refine hR _ ?_
    simp only [go_sem]
    rfl
theorem op_two (op : List UInt8) : op = [43] ∨ op = [45] ∨ op = [42] ∨ op = wMin ∨ op = wMax ∨ op = [61] ∨ op = [60, 62] ∨ op = [60] ∨ op = [60, 61] ∨ op = [62] ∨ op = [62, 61] ∨
    ((op == [43]) = false ∧ (op == [45]) = false ∧ (op == [42]) = false ∧ (op == wMin) = false ∧ (op == wMax) = false ∧ (op == [61]) = false ∧ (op == [60, 62]) = false ∧ (op == [60]) = false ∧ (op == [60, 61]) = false ∧ (op == [62]) = false ∧ (op == [62, 61]) = false) := by
  simp only [beq_eq_false_iff_ne]
  repeat' (first | (refine Classical.or_iff_not_imp_left.2 (fun h => ?_)) | refine ⟨by assumption, ?_⟩ | assumption)
theorem two_none {op : List UInt8} (h : (op == [43]) = false ∧ (op == [45]) = false ∧ (op == [42]) = false ∧ (op == wMin) = false ∧ (op == wMax) = false ∧ (op == [61]) = false ∧ (op == [60, 62]) = false ∧ (op == [60]) = false ∧ (op == [60, 61]) = false ∧ (op == [62]) = false ∧ (op == [62, 61]) = false) (a b : Int) : twoK op a b = 0 := by
  simp only [beq_eq_false_iff_ne] at h
  obtain ⟨h1, h2, h3, h4, h5, h6, h7, h8, h9, h10, h11⟩ := h
  simp [twoK, h1, h2, h3, h4, h5, h6, h7, h8, h9, h10, h11]
theorem ckTwo {C : Ctx} (h : okFn C.P C.φ 206 g_check_two = true) (hP : ∀ {a b : Int}, 0 ≤ a ∧ a ≤ 4 → 0 ≤ b ∧ b ≤ 4 → SoundAt C 213 ⟨[vI a, vI b], looko []⟩ ⟨vI (prodK a b), looko []⟩) (op : List UInt8) {a b : Int} (ha : 0 ≤ a ∧ a ≤ 4) (hb : 0 ≤ b ∧ b ≤ 4) :
    SoundAt C 206 ⟨[vS op, vI a, vI b], looko []⟩ ⟨vI (twoK op a b), looko []⟩ := by
  have hp := hP ha hb
  refine SoundAt.of_run h rfl (fun Q hR hN => ?_)
  rw [entry3]
  by_cases hab : a = b
  · subst hab
    rcases kind5 ha with rfl | rfl | rfl | rfl | rfl <;> rcases op_two op with rfl | rfl | rfl | rfl | rfl | rfl | rfl | rfl | rfl | rfl | rfl | hn
    all_goals
      first
        | (obtain ⟨n1, n2, n3, n4, n5, n6, n7, n8, n9, n10, n11⟩ := id hn
           repeat (first | simp only [go_sem, n1, n2, n3, n4, n5, n6, n7, n8, n9, n10, n11] | refine Unf.h ?_)
           refine hR _ ?_
           simp only [go_sem, two_none hn]
           done)
        | (repeat (first | simp only [go_sem, ucons_beq, ucons_nil, unil_cons, unil_nil] | refine Unf.h ?_)
           first
             | (refine callK_plain hp (fun _ => rfl) ?_
                repeat (first | simp only [go_sem] | refine Unf.h ?_)
                refine hR _ ?_
                simp only [go_sem]
                rfl)
             | (refine hR _ ?_
                simp only [go_sem]
                rfl))
  · have hq : (a == b) = false := by simp [hab]
    rcases op_two op with rfl | rfl | rfl | rfl | rfl | rfl | rfl | rfl | rfl | rfl | rfl | hn
    all_goals
      first
        | (obtain ⟨n1, n2, n3, n4, n5, n6, n7, n8, n9, n10, n11⟩ := id hn
           repeat (first | simp only [go_sem, hq, n1, n2, n3, n4, n5, n6, n7, n8, n9, n10, n11] | refine Unf.h ?_)
           refine hR _ ?_
           simp only [go_sem, two_none hn]
           done)
        | (repeat (first | simp only [go_sem, hq, ucons_beq, ucons_nil, unil_cons, unil_nil] | refine Unf.h ?_)
           first
             | (refine callK_plain hp (fun _ => rfl) ?_
                repeat (first | simp only [go_sem] | refine Unf.h ?_)
                refine hR _ ?_
                simp only [go_sem]
                rfl)
             | (refine hR _ ?_
                simp only [go_sem]
                simp [twoK, hab]))
theorem op_parts (op : List UInt8) : op = wWhole ∨ op = wAmount ∨ op = wRate ∨ op = wName ∨ op = wNeg ∨ op = wIf ∨ ((op == wWhole) = false ∧ (op == wAmount) = false ∧ (op == wRate) = false ∧ (op == wName) = false ∧ (op == wNeg) = false ∧ (op == wIf) = false) := by
  simp only [beq_eq_false_iff_ne]
  repeat' (first | (refine Classical.or_iff_not_imp_left.2 (fun h => ?_)) | refine ⟨by assumption, ?_⟩ | assumption)
def encI1 (n : Int) : List D := [dI n]
/-- Whole numbers, as a slice. -/
def vPs (l : List Int) : V := slV encI1 l
theorem parts_two {x : Xpr} (h : (x.op == wWhole) = false ∧ (x.op == wAmount) = false ∧ (x.op == wRate) = false ∧ (x.op == wName) = false ∧ (x.op == wNeg) = false ∧ (x.op == wIf) = false) : partsI x = [x.a, x.b] := by
  obtain ⟨h1, h2, h3, h4, h5, h6⟩ := h
  unfold partsI isLeaf
  rw [beq_eq_false_iff_ne] at h5 h6
  simp [h1, h2, h3, h4, h5, h6]
theorem ckParts {C : Ctx} (h : okFn C.P C.φ 203 g_check_parts = true) (x : Xpr) : SoundAt C 203 ⟨[vX x], looko []⟩ ⟨vPs (partsI x), looko []⟩ := by
  refine SoundAt.of_run h rfl (fun Q hR hN => ?_)
  rw [entry1]
  rcases op_parts x.op with e | e | e | e | e | e | hn
  all_goals
    first
      | (obtain ⟨n1, n2, n3, n4, n5, n6⟩ := id hn
         repeat (first | simp only [go_sem, n1, n2, n3, n4, n5, n6, partsN] | refine Unf.h ?_)
         refine hR _ ?_
         simp only [go_sem, parts_two hn]
         rfl)
      | (repeat (first | simp only [go_sem, e, ucons_beq, ucons_nil, unil_cons, unil_nil, partsN] | refine Unf.h ?_)
         refine hR _ ?_
         try simp only [go_sem]
         simp [partsI, isLeaf, e, vPs, slV, encI1])
end Pay
