/- The law of choices: CheckIf. -/
import Derived.Test.YtmglkghngkbioaaGreatDoorPayBc0
import Derived.Test.YtmglkghngkbioaaGreatDoorPayC65
import Derived.Test.YtmglkghngkbioaaGreatDoorPayC81
import Derived.Test.YtmglkghngkbioaaGreatDoorPayCk1
import Derived.Test.YtmglkghngkbioaaGreatDoorPayCk2
import Derived.Test.YtmglkghngkbioaaGreatDoorPayCk3
import Derived.Test.YtmglkghngkbioaaGreatDoorPayCkC
import Derived.Test.YtmglkghngkbioaaGreatDoorPaySh5_0
import Derived.Test.YtmglkghngkbioaaGreatDoorPayTr1
set_option linter.unusedSimpArgs false
set_option linter.unusedVariables false
namespace Pay
open Go
attribute [local irreducible] wpB opsB treeB drawB
theorem kindP_in {es : List Xpr} {l : List Bnd} {a : Int} (h0 : 0 ≤ a) (h1 : a < (es.length : Int)) : (kindP es a l).2.2 ≠ 0 → kvO es l a = 0 := by
  intro h
  by_cases hk : kvO es l a = 0
  · exact hk
  · exact absurd (by rw [kindP_ok h0 h1 hk]) h
set_option maxHeartbeats 4000000 in
theorem lawCheckIf {C : Ctx} (h : okFn C.P C.φ 170 g_law10_CheckIf = true) (K : LawK C) (p : Prog) (a b c : Int) (l : List Bnd) (hp : p.rules.length * 40 ≤ 140737488355328) (hra : -9223372036854775808 ≤ a ∧ a < 9223372036854775808) (hrb : -9223372036854775808 ≤ b ∧ b < 9223372036854775808) (hrc : -9223372036854775808 ≤ c ∧ c < 9223372036854775808) :
    SoundAt C 170 ⟨[vProg p, vI a, vI b, vI c, vBns l], looko []⟩ ⟨vB true, looko []⟩ := by
  have ha := K.awake
  refine SoundAt.of_run h rfl (fun Q hR hN => ?_)
  rw [entry5]
  by_cases h1 : p.exprs.length ≤ 200
  case neg =>
    have b1 : ((p.exprs.length : Int) > 200) := by omega
    repeat' (first | simp only [go_sem, List.length_map, b1, decide_true] | refine Unf.h ?_ | refine callK_plain (ha) (fun _ => rfl) ?_ | refine hR _ ?_ | split)
  have b1 : ¬ ((p.exprs.length : Int) > 200) := by omega
  have t1 := K.ref p hp (by omega)
  have t2 := K.small p
  cases hs : smallP p with
  | false =>
    rw [hs] at t2
    repeat' (first | simp only [go_sem, List.length_map, b1, decide_false] | refine Unf.h ?_ | refine callK_plain (t1) (fun _ => rfl) ?_ | refine callK_plain (t2) (fun _ => rfl) ?_ | refine callK_plain (ha) (fun _ => rfl) ?_ | refine hR _ ?_ | split)
  | true =>
    rw [hs] at t2
    by_cases h2 : l.length ≤ 60
    case neg =>
      have b2 : ((l.length : Int) > 60) := by omega
      repeat' (first | simp only [go_sem, List.length_map, b1, b2, decide_true, decide_false] | refine Unf.h ?_ | refine callK_plain (t1) (fun _ => rfl) ?_ | refine callK_plain (t2) (fun _ => rfl) ?_ | refine callK_plain (ha) (fun _ => rfl) ?_ | refine hR _ ?_ | split)
    have b2 : ¬ ((l.length : Int) > 60) := by omega
    have w1 : IntKind.i64.wrap (0 + 1) = 1 := rfl
    have w2 : IntKind.i64.wrap (1 + 1) = 2 := rfl
    have w3 : IntKind.i64.wrap (2 + 1) = 3 := rfl
    by_cases h3 : 0 ≤ a ∧ a < (p.exprs.length : Int)
    case neg =>
      by_cases h3' : a < 0
      · repeat (first | simp only [go_sem, List.length_map, b1, b2, h3', decide_true, decide_false, partsN, ↓scrub_updF, ↓thaw_scrub_updF, ↓scrub_updoF, ↓thaw_scrub_updoF, ↓scrub_lookF, ↓scrub_lookoF, ↓thaw_updF, ↓thaw_scrubF, ↓thaw_lookF, ↓thaw_updoF, ↓thaw_scruboF, ↓thaw_lookoF, w1, w2, w3] | refine Unf.h ?_ | refine And.intro ?_ (noRv_of (by simp only [go_sem])) | refine callK_plain (t1) (fun _ => rfl) ?_ | refine callE_plain (t1) (fun _ => rfl) ?_ | refine ⟨_, t1, fun _ => rfl, ?_⟩ | refine callK_plain (t2) (fun _ => rfl) ?_ | refine callE_plain (t2) (fun _ => rfl) ?_ | refine ⟨_, t2, fun _ => rfl, ?_⟩ | refine callK_plain (ha) (fun _ => rfl) ?_ | refine callE_plain (ha) (fun _ => rfl) ?_ | refine ⟨_, ha, fun _ => rfl, ?_⟩ | refine g_law10_CheckIf_l0_sh rfl ?_)
        refine hR _ ?_
        simp only [go_sem]
      · have h3'' : a ≥ (p.exprs.length : Int) := by omega
        repeat (first | simp only [go_sem, List.length_map, b1, b2, h3', h3'', decide_true, decide_false, partsN, ↓scrub_updF, ↓thaw_scrub_updF, ↓scrub_updoF, ↓thaw_scrub_updoF, ↓scrub_lookF, ↓scrub_lookoF, ↓thaw_updF, ↓thaw_scrubF, ↓thaw_lookF, ↓thaw_updoF, ↓thaw_scruboF, ↓thaw_lookoF, w1, w2, w3] | refine Unf.h ?_ | refine And.intro ?_ (noRv_of (by simp only [go_sem])) | refine callK_plain (t1) (fun _ => rfl) ?_ | refine callE_plain (t1) (fun _ => rfl) ?_ | refine ⟨_, t1, fun _ => rfl, ?_⟩ | refine callK_plain (t2) (fun _ => rfl) ?_ | refine callE_plain (t2) (fun _ => rfl) ?_ | refine ⟨_, t2, fun _ => rfl, ?_⟩ | refine callK_plain (ha) (fun _ => rfl) ?_ | refine callE_plain (ha) (fun _ => rfl) ?_ | refine ⟨_, ha, fun _ => rfl, ?_⟩ | refine g_law10_CheckIf_l0_sh rfl ?_)
        refine hR _ ?_
        simp only [go_sem]
    have a1 : ¬ a < 0 := by omega
    have a2 : ¬ a ≥ (p.exprs.length : Int) := by omega
    by_cases h4 : 0 ≤ b ∧ b < (p.exprs.length : Int)
    case neg =>
      by_cases h3' : b < 0
      · repeat (first | simp only [go_sem, List.length_map, b1, b2, a1, a2, h3', decide_true, decide_false, partsN, ↓scrub_updF, ↓thaw_scrub_updF, ↓scrub_updoF, ↓thaw_scrub_updoF, ↓scrub_lookF, ↓scrub_lookoF, ↓thaw_updF, ↓thaw_scrubF, ↓thaw_lookF, ↓thaw_updoF, ↓thaw_scruboF, ↓thaw_lookoF, w1, w2, w3] | refine Unf.h ?_ | refine And.intro ?_ (noRv_of (by simp only [go_sem])) | refine callK_plain (t1) (fun _ => rfl) ?_ | refine callE_plain (t1) (fun _ => rfl) ?_ | refine ⟨_, t1, fun _ => rfl, ?_⟩ | refine callK_plain (t2) (fun _ => rfl) ?_ | refine callE_plain (t2) (fun _ => rfl) ?_ | refine ⟨_, t2, fun _ => rfl, ?_⟩ | refine callK_plain (ha) (fun _ => rfl) ?_ | refine callE_plain (ha) (fun _ => rfl) ?_ | refine ⟨_, ha, fun _ => rfl, ?_⟩ | refine g_law10_CheckIf_l0_sh rfl ?_)
        refine hR _ ?_
        simp only [go_sem]
      · have h3'' : b ≥ (p.exprs.length : Int) := by omega
        repeat (first | simp only [go_sem, List.length_map, b1, b2, a1, a2, h3', h3'', decide_true, decide_false, partsN, ↓scrub_updF, ↓thaw_scrub_updF, ↓scrub_updoF, ↓thaw_scrub_updoF, ↓scrub_lookF, ↓scrub_lookoF, ↓thaw_updF, ↓thaw_scrubF, ↓thaw_lookF, ↓thaw_updoF, ↓thaw_scruboF, ↓thaw_lookoF, w1, w2, w3] | refine Unf.h ?_ | refine And.intro ?_ (noRv_of (by simp only [go_sem])) | refine callK_plain (t1) (fun _ => rfl) ?_ | refine callE_plain (t1) (fun _ => rfl) ?_ | refine ⟨_, t1, fun _ => rfl, ?_⟩ | refine callK_plain (t2) (fun _ => rfl) ?_ | refine callE_plain (t2) (fun _ => rfl) ?_ | refine ⟨_, t2, fun _ => rfl, ?_⟩ | refine callK_plain (ha) (fun _ => rfl) ?_ | refine callE_plain (ha) (fun _ => rfl) ?_ | refine ⟨_, ha, fun _ => rfl, ?_⟩ | refine g_law10_CheckIf_l0_sh rfl ?_)
        refine hR _ ?_
        simp only [go_sem]
    have a3 : ¬ b < 0 := by omega
    have a4 : ¬ b ≥ (p.exprs.length : Int) := by omega
    by_cases h5 : 0 ≤ c ∧ c < (p.exprs.length : Int)
    case neg =>
      by_cases h3' : c < 0
      · repeat (first | simp only [go_sem, List.length_map, b1, b2, a1, a2, a3, a4, h3', decide_true, decide_false, partsN, ↓scrub_updF, ↓thaw_scrub_updF, ↓scrub_updoF, ↓thaw_scrub_updoF, ↓scrub_lookF, ↓scrub_lookoF, ↓thaw_updF, ↓thaw_scrubF, ↓thaw_lookF, ↓thaw_updoF, ↓thaw_scruboF, ↓thaw_lookoF, w1, w2, w3] | refine Unf.h ?_ | refine And.intro ?_ (noRv_of (by simp only [go_sem])) | refine callK_plain (t1) (fun _ => rfl) ?_ | refine callE_plain (t1) (fun _ => rfl) ?_ | refine ⟨_, t1, fun _ => rfl, ?_⟩ | refine callK_plain (t2) (fun _ => rfl) ?_ | refine callE_plain (t2) (fun _ => rfl) ?_ | refine ⟨_, t2, fun _ => rfl, ?_⟩ | refine callK_plain (ha) (fun _ => rfl) ?_ | refine callE_plain (ha) (fun _ => rfl) ?_ | refine ⟨_, ha, fun _ => rfl, ?_⟩ | refine g_law10_CheckIf_l0_sh rfl ?_)
        refine hR _ ?_
        simp only [go_sem]
      · have h3'' : c ≥ (p.exprs.length : Int) := by omega
        repeat (first | simp only [go_sem, List.length_map, b1, b2, a1, a2, a3, a4, h3', h3'', decide_true, decide_false, partsN, ↓scrub_updF, ↓thaw_scrub_updF, ↓scrub_updoF, ↓thaw_scrub_updoF, ↓scrub_lookF, ↓scrub_lookoF, ↓thaw_updF, ↓thaw_scrubF, ↓thaw_lookF, ↓thaw_updoF, ↓thaw_scruboF, ↓thaw_lookoF, w1, w2, w3] | refine Unf.h ?_ | refine And.intro ?_ (noRv_of (by simp only [go_sem])) | refine callK_plain (t1) (fun _ => rfl) ?_ | refine callE_plain (t1) (fun _ => rfl) ?_ | refine ⟨_, t1, fun _ => rfl, ?_⟩ | refine callK_plain (t2) (fun _ => rfl) ?_ | refine callE_plain (t2) (fun _ => rfl) ?_ | refine ⟨_, t2, fun _ => rfl, ?_⟩ | refine callK_plain (ha) (fun _ => rfl) ?_ | refine callE_plain (ha) (fun _ => rfl) ?_ | refine ⟨_, ha, fun _ => rfl, ?_⟩ | refine g_law10_CheckIf_l0_sh rfl ?_)
        refine hR _ ?_
        simp only [go_sem]
    have a5 : ¬ c < 0 := by omega
    have a6 : ¬ c ≥ (p.exprs.length : Int) := by omega
    have t3 := K.kind p a l (by omega) (by omega) hra
    have t4 := K.kind p b l (by omega) (by omega) hrb
    have t5 := K.kind p c l (by omega) (by omega) hrc
    obtain ⟨ext, hext⟩ : ∃ ext, [xOp wIf a b c] = ext := ⟨_, rfl⟩
    have t6 := K.kind ⟨[], p.exprs ++ ext⟩ ((p.exprs.length + 0 : Nat) : Int) l (by subst hext; simp; omega) (by omega) (by omega)
    have hx : (p.exprs ++ ext)[p.exprs.length + 0]? = some (xOp wIf a b c) := by rw [app_at]; subst hext; rfl
    have ea := kvO_app (ext := ext) (l := l) h3.1 h3.2
    have eb := kvO_app (ext := ext) (l := l) h4.1 h4.2
    have ec := kvO_app (ext := ext) (l := l) h5.1 h5.2
    have hbad := fun h => if_bad (l := l) hx h
    have hgood := fun h => if_kind (l := l) hx h
    rw [ea, eb, ec] at hbad
    rw [ea, eb, ec] at hgood
    have hgood := fun (ha : kvO p.exprs l a ≠ 0) (hb : kvO p.exprs l b ≠ 0) (hc : kvO p.exprs l c ≠ 0) => hgood (fun q hq => by
      simp only [List.mem_cons, List.not_mem_nil, or_false] at hq
      rcases hq with rfl | rfl | rfl
      · exact ⟨h3.1, by omega, by rw [ea]; exact ha⟩
      · exact ⟨h4.1, by omega, by rw [eb]; exact hb⟩
      · exact ⟨h5.1, by omega, by rw [ec]; exact hc⟩)
    have hm := encX_all p.exprs
    have l1 : p.exprs.length * 64 ≤ 140737488355328 := by omega
    have l2 : p.exprs.length ≤ 140737488355328 := by omega
    have l3 : (p.exprs.length + 1) * 64 ≤ 140737488355328 := by omega
    have l4 : p.exprs.length ≤ 140737488355327 := by omega
    rw [vProg, List.map_append] at t6
    have z : (p.exprs.length + 0) = p.exprs.length := rfl
    by_cases e1 : (kindP p.exprs a l).2.2 = 0
    case neg =>
      have hb := hbad (.inl (kindP_in h3.1 h3.2 e1))
      generalize kindP (p.exprs ++ ext) ((p.exprs.length + 0 : Nat) : Int) l = r6 at *
      subst hext
      simp only [List.map_nil, List.map_cons, xOp, encX] at t6
      have t6 := q_up t6
      generalize kindP p.exprs a l = r3 at *
      generalize kindP p.exprs b l = r4 at *
      generalize kindP p.exprs c l = r5 at *
      obtain ⟨hb1, hb2⟩ := hb
      have q1 : (r3.2.2 == 0) = false := by simp [e1]
      have q2 : (r6.2.2 == 0) = false := by simp [hb2]
      repeat (first | simp only [go_sem, List.length_map, b1, b2, a1, a2, a3, a4, a5, a6, decide_true, decide_false, bne, hm, l1, l2, l3, l4, partsN, ↓scrub_updF, ↓thaw_scrub_updF, ↓scrub_updoF, ↓thaw_scrub_updoF, ↓scrub_lookF, ↓scrub_lookoF, ↓thaw_updF, ↓thaw_scrubF, ↓thaw_lookF, ↓thaw_updoF, ↓thaw_scruboF, ↓thaw_lookoF, w1, w2, w3, z, q1, q2, hb1] | refine Unf.h ?_ | refine And.intro ?_ (noRv_of (by simp only [go_sem])) | refine callK_plain (t1) (fun _ => rfl) ?_ | refine callE_plain (t1) (fun _ => rfl) ?_ | refine ⟨_, t1, fun _ => rfl, ?_⟩ | refine callK_plain (t2) (fun _ => rfl) ?_ | refine callE_plain (t2) (fun _ => rfl) ?_ | refine ⟨_, t2, fun _ => rfl, ?_⟩ | refine callK_plain (t3) (fun _ => rfl) ?_ | refine callE_plain (t3) (fun _ => rfl) ?_ | refine ⟨_, t3, fun _ => rfl, ?_⟩ | refine callK_plain (t4) (fun _ => rfl) ?_ | refine callE_plain (t4) (fun _ => rfl) ?_ | refine ⟨_, t4, fun _ => rfl, ?_⟩ | refine callK_plain (t5) (fun _ => rfl) ?_ | refine callE_plain (t5) (fun _ => rfl) ?_ | refine ⟨_, t5, fun _ => rfl, ?_⟩ | refine callK_plain (t6) (fun _ => rfl) ?_ | refine callE_plain (t6) (fun _ => rfl) ?_ | refine ⟨_, t6, fun _ => rfl, ?_⟩ | refine callK_plain (ha) (fun _ => rfl) ?_ | refine callE_plain (ha) (fun _ => rfl) ?_ | refine ⟨_, ha, fun _ => rfl, ?_⟩ | refine g_law10_CheckIf_l0_sh rfl ?_)
      refine hR _ ?_
      simp only [go_sem]
    by_cases e2 : (kindP p.exprs b l).2.2 = 0
    case neg =>
      have hb := hbad (.inr (.inl (kindP_in h4.1 h4.2 e2)))
      generalize kindP (p.exprs ++ ext) ((p.exprs.length + 0 : Nat) : Int) l = r6 at *
      subst hext
      simp only [List.map_nil, List.map_cons, xOp, encX] at t6
      have t6 := q_up t6
      generalize kindP p.exprs a l = r3 at *
      generalize kindP p.exprs b l = r4 at *
      generalize kindP p.exprs c l = r5 at *
      obtain ⟨hb1, hb2⟩ := hb
      have q1 : (r4.2.2 == 0) = false := by simp [e2]
      have q2 : (r6.2.2 == 0) = false := by simp [hb2]
      repeat (first | simp only [go_sem, List.length_map, b1, b2, a1, a2, a3, a4, a5, a6, decide_true, decide_false, bne, hm, l1, l2, l3, l4, partsN, ↓scrub_updF, ↓thaw_scrub_updF, ↓scrub_updoF, ↓thaw_scrub_updoF, ↓scrub_lookF, ↓scrub_lookoF, ↓thaw_updF, ↓thaw_scrubF, ↓thaw_lookF, ↓thaw_updoF, ↓thaw_scruboF, ↓thaw_lookoF, w1, w2, w3, z, e1, q1, q2, hb1] | refine Unf.h ?_ | refine And.intro ?_ (noRv_of (by simp only [go_sem])) | refine callK_plain (t1) (fun _ => rfl) ?_ | refine callE_plain (t1) (fun _ => rfl) ?_ | refine ⟨_, t1, fun _ => rfl, ?_⟩ | refine callK_plain (t2) (fun _ => rfl) ?_ | refine callE_plain (t2) (fun _ => rfl) ?_ | refine ⟨_, t2, fun _ => rfl, ?_⟩ | refine callK_plain (t3) (fun _ => rfl) ?_ | refine callE_plain (t3) (fun _ => rfl) ?_ | refine ⟨_, t3, fun _ => rfl, ?_⟩ | refine callK_plain (t4) (fun _ => rfl) ?_ | refine callE_plain (t4) (fun _ => rfl) ?_ | refine ⟨_, t4, fun _ => rfl, ?_⟩ | refine callK_plain (t5) (fun _ => rfl) ?_ | refine callE_plain (t5) (fun _ => rfl) ?_ | refine ⟨_, t5, fun _ => rfl, ?_⟩ | refine callK_plain (t6) (fun _ => rfl) ?_ | refine callE_plain (t6) (fun _ => rfl) ?_ | refine ⟨_, t6, fun _ => rfl, ?_⟩ | refine callK_plain (ha) (fun _ => rfl) ?_ | refine callE_plain (ha) (fun _ => rfl) ?_ | refine ⟨_, ha, fun _ => rfl, ?_⟩ | refine g_law10_CheckIf_l0_sh rfl ?_)
      refine hR _ ?_
      simp only [go_sem]
    by_cases e3 : (kindP p.exprs c l).2.2 = 0
    case neg =>
      have hb := hbad (.inr (.inr (kindP_in h5.1 h5.2 e3)))
      generalize kindP (p.exprs ++ ext) ((p.exprs.length + 0 : Nat) : Int) l = r6 at *
      subst hext
      simp only [List.map_nil, List.map_cons, xOp, encX] at t6
      have t6 := q_up t6
      generalize kindP p.exprs a l = r3 at *
      generalize kindP p.exprs b l = r4 at *
      generalize kindP p.exprs c l = r5 at *
      obtain ⟨hb1, hb2⟩ := hb
      have q1 : (r5.2.2 == 0) = false := by simp [e3]
      have q2 : (r6.2.2 == 0) = false := by simp [hb2]
      repeat (first | simp only [go_sem, List.length_map, b1, b2, a1, a2, a3, a4, a5, a6, decide_true, decide_false, bne, hm, l1, l2, l3, l4, partsN, ↓scrub_updF, ↓thaw_scrub_updF, ↓scrub_updoF, ↓thaw_scrub_updoF, ↓scrub_lookF, ↓scrub_lookoF, ↓thaw_updF, ↓thaw_scrubF, ↓thaw_lookF, ↓thaw_updoF, ↓thaw_scruboF, ↓thaw_lookoF, w1, w2, w3, z, e1, e2, q1, q2, hb1] | refine Unf.h ?_ | refine And.intro ?_ (noRv_of (by simp only [go_sem])) | refine callK_plain (t1) (fun _ => rfl) ?_ | refine callE_plain (t1) (fun _ => rfl) ?_ | refine ⟨_, t1, fun _ => rfl, ?_⟩ | refine callK_plain (t2) (fun _ => rfl) ?_ | refine callE_plain (t2) (fun _ => rfl) ?_ | refine ⟨_, t2, fun _ => rfl, ?_⟩ | refine callK_plain (t3) (fun _ => rfl) ?_ | refine callE_plain (t3) (fun _ => rfl) ?_ | refine ⟨_, t3, fun _ => rfl, ?_⟩ | refine callK_plain (t4) (fun _ => rfl) ?_ | refine callE_plain (t4) (fun _ => rfl) ?_ | refine ⟨_, t4, fun _ => rfl, ?_⟩ | refine callK_plain (t5) (fun _ => rfl) ?_ | refine callE_plain (t5) (fun _ => rfl) ?_ | refine ⟨_, t5, fun _ => rfl, ?_⟩ | refine callK_plain (t6) (fun _ => rfl) ?_ | refine callE_plain (t6) (fun _ => rfl) ?_ | refine ⟨_, t6, fun _ => rfl, ?_⟩ | refine callK_plain (ha) (fun _ => rfl) ?_ | refine callE_plain (ha) (fun _ => rfl) ?_ | refine ⟨_, ha, fun _ => rfl, ?_⟩ | refine g_law10_CheckIf_l0_sh rfl ?_)
      refine hR _ ?_
      simp only [go_sem]
    obtain ⟨_, _, k1, k2⟩ := kindP_inv e1
    obtain ⟨_, _, m1, m2⟩ := kindP_inv e2
    obtain ⟨_, _, n1, n2⟩ := kindP_inv e3
    rw [hgood k1 m1 n1] at t6
    rw [k2] at t3
    rw [m2] at t4
    rw [n2] at t5
    subst hext
    simp only [List.map_nil, List.map_cons, xOp, encX] at t6
    have t6 := q_up t6
    generalize kvO p.exprs l a = x at *
    generalize kvO p.exprs l b = y at *
    generalize kvO p.exprs l c = w at *
    by_cases hx4 : x = 4
    · subst hx4
      by_cases hyw : y = w
      · subst hyw
        repeat (first | simp only [go_sem, List.length_map, b1, b2, a1, a2, a3, a4, a5, a6, decide_true, decide_false, bne, hm, l1, l2, l3, l4, partsN, ↓scrub_updF, ↓thaw_scrub_updF, ↓scrub_updoF, ↓thaw_scrub_updoF, ↓scrub_lookF, ↓scrub_lookoF, ↓thaw_updF, ↓thaw_scrubF, ↓thaw_lookF, ↓thaw_updoF, ↓thaw_scruboF, ↓thaw_lookoF, w1, w2, w3, z, and_self] | refine Unf.h ?_ | refine And.intro ?_ (noRv_of (by simp only [go_sem])) | refine callK_plain (t1) (fun _ => rfl) ?_ | refine callE_plain (t1) (fun _ => rfl) ?_ | refine ⟨_, t1, fun _ => rfl, ?_⟩ | refine callK_plain (t2) (fun _ => rfl) ?_ | refine callE_plain (t2) (fun _ => rfl) ?_ | refine ⟨_, t2, fun _ => rfl, ?_⟩ | refine callK_plain (t3) (fun _ => rfl) ?_ | refine callE_plain (t3) (fun _ => rfl) ?_ | refine ⟨_, t3, fun _ => rfl, ?_⟩ | refine callK_plain (t4) (fun _ => rfl) ?_ | refine callE_plain (t4) (fun _ => rfl) ?_ | refine ⟨_, t4, fun _ => rfl, ?_⟩ | refine callK_plain (t5) (fun _ => rfl) ?_ | refine callE_plain (t5) (fun _ => rfl) ?_ | refine ⟨_, t5, fun _ => rfl, ?_⟩ | refine callK_plain (t6) (fun _ => rfl) ?_ | refine callE_plain (t6) (fun _ => rfl) ?_ | refine ⟨_, t6, fun _ => rfl, ?_⟩ | refine callK_plain (ha) (fun _ => rfl) ?_ | refine callE_plain (ha) (fun _ => rfl) ?_ | refine ⟨_, ha, fun _ => rfl, ?_⟩ | refine g_law10_CheckIf_l0_sh rfl ?_)
        refine hR _ ?_
        simp only [go_sem]
      · have q : (y == w) = false := by simp [hyw]
        repeat (first | simp only [go_sem, List.length_map, b1, b2, a1, a2, a3, a4, a5, a6, decide_true, decide_false, bne, hm, l1, l2, l3, l4, partsN, ↓scrub_updF, ↓thaw_scrub_updF, ↓scrub_updoF, ↓thaw_scrub_updoF, ↓scrub_lookF, ↓scrub_lookoF, ↓thaw_updF, ↓thaw_scrubF, ↓thaw_lookF, ↓thaw_updoF, ↓thaw_scruboF, ↓thaw_lookoF, w1, w2, w3, z, hyw, q, and_false] | refine Unf.h ?_ | refine And.intro ?_ (noRv_of (by simp only [go_sem])) | refine callK_plain (t1) (fun _ => rfl) ?_ | refine callE_plain (t1) (fun _ => rfl) ?_ | refine ⟨_, t1, fun _ => rfl, ?_⟩ | refine callK_plain (t2) (fun _ => rfl) ?_ | refine callE_plain (t2) (fun _ => rfl) ?_ | refine ⟨_, t2, fun _ => rfl, ?_⟩ | refine callK_plain (t3) (fun _ => rfl) ?_ | refine callE_plain (t3) (fun _ => rfl) ?_ | refine ⟨_, t3, fun _ => rfl, ?_⟩ | refine callK_plain (t4) (fun _ => rfl) ?_ | refine callE_plain (t4) (fun _ => rfl) ?_ | refine ⟨_, t4, fun _ => rfl, ?_⟩ | refine callK_plain (t5) (fun _ => rfl) ?_ | refine callE_plain (t5) (fun _ => rfl) ?_ | refine ⟨_, t5, fun _ => rfl, ?_⟩ | refine callK_plain (t6) (fun _ => rfl) ?_ | refine callE_plain (t6) (fun _ => rfl) ?_ | refine ⟨_, t6, fun _ => rfl, ?_⟩ | refine callK_plain (ha) (fun _ => rfl) ?_ | refine callE_plain (ha) (fun _ => rfl) ?_ | refine ⟨_, ha, fun _ => rfl, ?_⟩ | refine g_law10_CheckIf_l0_sh rfl ?_)
        refine hR _ ?_
        simp only [go_sem]
    · have q : (x == 4) = false := by simp [hx4]
      repeat (first | simp only [go_sem, List.length_map, b1, b2, a1, a2, a3, a4, a5, a6, decide_true, decide_false, bne, hm, l1, l2, l3, l4, partsN, ↓scrub_updF, ↓thaw_scrub_updF, ↓scrub_updoF, ↓thaw_scrub_updoF, ↓scrub_lookF, ↓scrub_lookoF, ↓thaw_updF, ↓thaw_scrubF, ↓thaw_lookF, ↓thaw_updoF, ↓thaw_scruboF, ↓thaw_lookoF, w1, w2, w3, z, hx4, q, false_and] | refine Unf.h ?_ | refine And.intro ?_ (noRv_of (by simp only [go_sem])) | refine callK_plain (t1) (fun _ => rfl) ?_ | refine callE_plain (t1) (fun _ => rfl) ?_ | refine ⟨_, t1, fun _ => rfl, ?_⟩ | refine callK_plain (t2) (fun _ => rfl) ?_ | refine callE_plain (t2) (fun _ => rfl) ?_ | refine ⟨_, t2, fun _ => rfl, ?_⟩ | refine callK_plain (t3) (fun _ => rfl) ?_ | refine callE_plain (t3) (fun _ => rfl) ?_ | refine ⟨_, t3, fun _ => rfl, ?_⟩ | refine callK_plain (t4) (fun _ => rfl) ?_ | refine callE_plain (t4) (fun _ => rfl) ?_ | refine ⟨_, t4, fun _ => rfl, ?_⟩ | refine callK_plain (t5) (fun _ => rfl) ?_ | refine callE_plain (t5) (fun _ => rfl) ?_ | refine ⟨_, t5, fun _ => rfl, ?_⟩ | refine callK_plain (t6) (fun _ => rfl) ?_ | refine callE_plain (t6) (fun _ => rfl) ?_ | refine ⟨_, t6, fun _ => rfl, ?_⟩ | refine callK_plain (ha) (fun _ => rfl) ?_ | refine callE_plain (ha) (fun _ => rfl) ?_ | refine ⟨_, ha, fun _ => rfl, ?_⟩ | refine g_law10_CheckIf_l0_sh rfl ?_)
      refine hR _ ?_
      simp only [go_sem]
end Pay
