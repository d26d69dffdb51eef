/- The law of what is taken off 0: CheckNeg. -/
import Derived.Test.YtmglkghngkbioaaGreatDoorPayBc0
import Derived.Test.YtmglkghngkbioaaGreatDoorPayC65
import Derived.Test.YtmglkghngkbioaaGreatDoorPayC81
import Derived.Test.YtmglkghngkbioaaGreatDoorPayCk1
import Derived.Test.YtmglkghngkbioaaGreatDoorPayCk2
import Derived.Test.YtmglkghngkbioaaGreatDoorPayCk3
import Derived.Test.YtmglkghngkbioaaGreatDoorPayCkC
import Derived.Test.YtmglkghngkbioaaGreatDoorPaySh4_0
import Derived.Test.YtmglkghngkbioaaGreatDoorPayTr1
set_option linter.unusedSimpArgs false
set_option linter.unusedVariables false
namespace Pay
open Go
attribute [local irreducible] wpB opsB treeB drawB
theorem lawCheckNeg {C : Ctx} (h : okFn C.P C.φ 169 g_law10_CheckNeg = true) (K : LawK C) (p : Prog) (a : Int) (l : List Bnd) (hp : p.rules.length * 40 ≤ 140737488355328) (hroot : -9223372036854775808 ≤ a ∧ a < 9223372036854775808) :
    SoundAt C 169 ⟨[vProg p, vI a, vBns l], looko []⟩ ⟨vB true, looko []⟩ := by
  have ha := K.awake
  refine SoundAt.of_run h rfl (fun Q hR hN => ?_)
  rw [entry3]
  by_cases h1 : p.exprs.length ≤ 200
  case neg =>
    have b1 : ((p.exprs.length : Int) > 200) := by omega
    repeat' (first | simp only [go_sem, List.length_map, b1, decide_true] | refine Unf.h ?_ | refine callK_plain (ha) (fun _ => rfl) ?_ | refine hR _ ?_ | split)
  have b1 : ¬ ((p.exprs.length : Int) > 200) := by omega
  have t1 := K.ref p hp (by omega)
  have t2 := K.small p
  cases hs : smallP p with
  | false =>
    rw [hs] at t2
    repeat' (first | simp only [go_sem, List.length_map, b1, decide_false] | refine Unf.h ?_ | refine callK_plain (t1) (fun _ => rfl) ?_ | refine callK_plain (t2) (fun _ => rfl) ?_ | refine callK_plain (ha) (fun _ => rfl) ?_ | refine hR _ ?_ | split)
  | true =>
    rw [hs] at t2
    by_cases h2 : l.length ≤ 60
    case neg =>
      have b2 : ((l.length : Int) > 60) := by omega
      repeat' (first | simp only [go_sem, List.length_map, b1, b2, decide_true, decide_false] | refine Unf.h ?_ | refine callK_plain (t1) (fun _ => rfl) ?_ | refine callK_plain (t2) (fun _ => rfl) ?_ | refine callK_plain (ha) (fun _ => rfl) ?_ | refine hR _ ?_ | split)
    have b2 : ¬ ((l.length : Int) > 60) := by omega
    by_cases h3 : a < 0
    · repeat' (first | simp only [go_sem, List.length_map, b1, b2, h3, decide_true, decide_false] | refine Unf.h ?_ | refine callK_plain (t1) (fun _ => rfl) ?_ | refine callK_plain (t2) (fun _ => rfl) ?_ | refine callK_plain (ha) (fun _ => rfl) ?_ | refine hR _ ?_ | split)
    by_cases h4 : a < (p.exprs.length : Int)
    case neg =>
      have b4 : a ≥ (p.exprs.length : Int) := by omega
      repeat' (first | simp only [go_sem, List.length_map, b1, b2, h3, b4, decide_true, decide_false] | refine Unf.h ?_ | refine callK_plain (t1) (fun _ => rfl) ?_ | refine callK_plain (t2) (fun _ => rfl) ?_ | refine callK_plain (ha) (fun _ => rfl) ?_ | refine hR _ ?_ | split)
    have b4 : ¬ a ≥ (p.exprs.length : Int) := by omega
    have t3 := K.kind p a l (by omega) (by omega) hroot
    by_cases h5 : (kindP p.exprs a l).2.2 = 0
    case neg =>
      have e0 : (kindP p.exprs a l).1 = 0 := (kindP_bad (fun hc => h5 (by rw [kindP_ok hc.1 hc.2.1 hc.2.2]))).1
      generalize kindP p.exprs a l = r at *
      have q : (r.2.2 == 0) = false := by simp [h5]
      repeat (first | simp only [go_sem, List.length_map, b1, b2, h3, b4, decide_true, decide_false, bne, q, e0] | refine Unf.h ?_ | refine And.intro ?_ (noRv_of (by simp only [go_sem])) | refine callK_plain (t1) (fun _ => rfl) ?_ | refine callE_plain (t1) (fun _ => rfl) ?_ | refine ⟨_, t1, fun _ => rfl, ?_⟩ | refine callK_plain (t2) (fun _ => rfl) ?_ | refine callE_plain (t2) (fun _ => rfl) ?_ | refine ⟨_, t2, fun _ => rfl, ?_⟩ | refine callK_plain (t3) (fun _ => rfl) ?_ | refine callE_plain (t3) (fun _ => rfl) ?_ | refine ⟨_, t3, fun _ => rfl, ?_⟩ | refine callK_plain (ha) (fun _ => rfl) ?_ | refine callE_plain (ha) (fun _ => rfl) ?_ | refine ⟨_, ha, fun _ => rfl, ?_⟩)
      refine hR _ ?_
      simp only [go_sem]
    obtain ⟨k0, k1, k2, k3⟩ := kindP_inv h5
    rw [k3] at t3
    obtain ⟨ext, hext⟩ : ∃ ext, [xOp wNeg a 0 0, xOp wMin a a 0, xOp [61] a a 0] = ext := ⟨_, rfl⟩
    have t4 := K.kind ⟨[], p.exprs ++ ext⟩ ((p.exprs.length + 0 : Nat) : Int) l (by subst hext; simp; omega) (by omega) (by omega)
    have t5 := K.kind ⟨[], p.exprs ++ ext⟩ ((p.exprs.length + 1 : Nat) : Int) l (by subst hext; simp; omega) (by omega) (by omega)
    have t6 := K.kind ⟨[], p.exprs ++ ext⟩ ((p.exprs.length + 2 : Nat) : Int) l (by subst hext; simp; omega) (by omega) (by omega)
    rw [neg_kind ⟨k0, k1, k2⟩ (by subst hext; rfl)] at t4
    rw [two_kind (op := wMin) (by simp) ⟨k0, k1, k2⟩ ⟨k0, k1, k2⟩ (by subst hext; rfl)] at t5
    rw [two_kind (op := [61]) (by simp) ⟨k0, k1, k2⟩ ⟨k0, k1, k2⟩ (by subst hext; rfl)] at t6
    subst hext
    have hw1 : IntKind.i64.wrap ((p.exprs.length : Int) + 1) = ((p.exprs.length + 1 : Nat) : Int) := by rw [wrapI (by omega) (by omega)]; omega
    have hw2 : IntKind.i64.wrap ((p.exprs.length : Int) + 2) = ((p.exprs.length + 2 : Nat) : Int) := by rw [wrapI (by omega) (by omega)]; omega
    have hm := encX_all p.exprs
    have l1 : p.exprs.length * 64 ≤ 140737488355328 := by omega
    have l2 : p.exprs.length ≤ 140737488355328 := by omega
    have l3 : (p.exprs.length + 3) * 64 ≤ 140737488355328 := by omega
    have l4 : p.exprs.length ≤ 140737488355325 := by omega
    rw [vProg, List.map_append] at t4 t5 t6
    simp only [List.map_nil, List.map_cons, xOp, encX] at t4 t5 t6
    have t4 := q_up t4
    have t5 := q_up t5
    have t6 := q_up t6
    have hk := kvO_kinds k2
    generalize kvO p.exprs l a = k at *
    rcases hk with rfl | rfl | rfl | rfl
    all_goals
      repeat (first | simp only [go_sem, List.length_map, b1, b2, h3, b4, decide_true, decide_false, bne, hm, l1, l2, l3, l4, partsN, ↓scrub_updF, ↓thaw_scrub_updF, ↓scrub_updoF, ↓thaw_scrub_updoF, ↓scrub_lookF, ↓scrub_lookoF, ↓thaw_updF, ↓thaw_scrubF, ↓thaw_lookF, ↓thaw_updoF, ↓thaw_scruboF, ↓thaw_lookoF, hw1, hw2, Nat.add_zero, or_true, true_or, or_self, tkMin11, tkMin22, tkMin33, tkMin44, tkEq11, tkEq22, tkEq33, tkEq44] | refine Unf.h ?_ | refine And.intro ?_ (noRv_of (by simp only [go_sem])) | refine callK_plain (t1) (fun _ => rfl) ?_ | refine callE_plain (t1) (fun _ => rfl) ?_ | refine ⟨_, t1, fun _ => rfl, ?_⟩ | refine callK_plain (t2) (fun _ => rfl) ?_ | refine callE_plain (t2) (fun _ => rfl) ?_ | refine ⟨_, t2, fun _ => rfl, ?_⟩ | refine callK_plain (t3) (fun _ => rfl) ?_ | refine callE_plain (t3) (fun _ => rfl) ?_ | refine ⟨_, t3, fun _ => rfl, ?_⟩ | refine callK_plain (t4) (fun _ => rfl) ?_ | refine callE_plain (t4) (fun _ => rfl) ?_ | refine ⟨_, t4, fun _ => rfl, ?_⟩ | refine callK_plain (t5) (fun _ => rfl) ?_ | refine callE_plain (t5) (fun _ => rfl) ?_ | refine ⟨_, t5, fun _ => rfl, ?_⟩ | refine callK_plain (t6) (fun _ => rfl) ?_ | refine callE_plain (t6) (fun _ => rfl) ?_ | refine ⟨_, t6, fun _ => rfl, ?_⟩ | refine callK_plain (ha) (fun _ => rfl) ?_ | refine callE_plain (ha) (fun _ => rfl) ?_ | refine ⟨_, ha, fun _ => rfl, ?_⟩)
      refine hR _ ?_
      simp only [go_sem]
end Pay
