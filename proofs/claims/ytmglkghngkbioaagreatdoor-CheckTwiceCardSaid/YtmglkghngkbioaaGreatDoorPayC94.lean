/- The law of two: CheckTwice. -/
import Derived.Test.YtmglkghngkbioaaGreatDoorPayBc0
import Derived.Test.YtmglkghngkbioaaGreatDoorPayC65
import Derived.Test.YtmglkghngkbioaaGreatDoorPayC81
import Derived.Test.YtmglkghngkbioaaGreatDoorPayCk1
import Derived.Test.YtmglkghngkbioaaGreatDoorPayCk2
import Derived.Test.YtmglkghngkbioaaGreatDoorPayCk3
import Derived.Test.YtmglkghngkbioaaGreatDoorPayCkC
import Derived.Test.YtmglkghngkbioaaGreatDoorPaySh3_0
import Derived.Test.YtmglkghngkbioaaGreatDoorPayTr1
set_option linter.unusedSimpArgs false
set_option linter.unusedVariables false
namespace Pay
open Go
attribute [local irreducible] wpB opsB treeB drawB
theorem whole_kv {es ext : List Xpr} {l : List Bnd} {j : Nat} (hx : ext[j]? = some (xOp wWhole 0 0 0)) : kvO (es ++ ext) l ((es.length + j : Nat) : Int) = 3 := by
  rw [kvO_eq (x := xOp wWhole 0 0 0) (by rw [app_at]; exact hx) (fun p hp => by simp [partsI, xOp, isLeaf] at hp)]
  rfl
theorem lt_kv {es : List Xpr} {l : List Bnd} {r : Nat} {q : Int} (hx : es[r]? = some (xOp [60] q q 0)) (hq : 0 ≤ q ∧ q < (r : Int)) (h : kvO es l q = 3) : kvO es l r = 4 := by
  rw [kvO_eq (x := xOp [60] q q 0) hx (fun p hp => by
    have : p = q := by simpa [partsI, xOp, isLeaf] using hp
    subst this
    exact ⟨hq.1, hq.2, by rw [h]; decide⟩)]
  show twoK [60] (kvO es l q) (kvO es l q) = 4
  rw [h]
  rfl
set_option maxHeartbeats 4000000 in
theorem lawCheckTwice {C : Ctx} (h : okFn C.P C.φ 167 g_law10_CheckTwice = true) (K : LawK C) (p : Prog) (a b : Int) (l : List Bnd) (hp : p.rules.length * 40 ≤ 140737488355328) (hra : -9223372036854775808 ≤ a ∧ a < 9223372036854775808) (hrb : -9223372036854775808 ≤ b ∧ b < 9223372036854775808) :
    SoundAt C 167 ⟨[vProg p, vI a, vI b, vBns l], looko []⟩ ⟨vB true, looko []⟩ := by
  have ha := K.awake
  refine SoundAt.of_run h rfl (fun Q hR hN => ?_)
  rw [entry4]
  by_cases h1 : p.exprs.length ≤ 200
  case neg =>
    have b1 : ((p.exprs.length : Int) > 200) := by omega
    repeat' (first | simp only [go_sem, List.length_map, b1, decide_true] | refine Unf.h ?_ | refine callK_plain (ha) (fun _ => rfl) ?_ | refine hR _ ?_ | split)
  have b1 : ¬ ((p.exprs.length : Int) > 200) := by omega
  have t1 := K.ref p hp (by omega)
  have t2 := K.small p
  cases hs : smallP p with
  | false =>
    rw [hs] at t2
    repeat' (first | simp only [go_sem, List.length_map, b1, decide_false] | refine Unf.h ?_ | refine callK_plain (t1) (fun _ => rfl) ?_ | refine callK_plain (t2) (fun _ => rfl) ?_ | refine callK_plain (ha) (fun _ => rfl) ?_ | refine hR _ ?_ | split)
  | true =>
    rw [hs] at t2
    by_cases h2 : l.length ≤ 60
    case neg =>
      have b2 : ((l.length : Int) > 60) := by omega
      repeat' (first | simp only [go_sem, List.length_map, b1, b2, decide_true, decide_false] | refine Unf.h ?_ | refine callK_plain (t1) (fun _ => rfl) ?_ | refine callK_plain (t2) (fun _ => rfl) ?_ | refine callK_plain (ha) (fun _ => rfl) ?_ | refine hR _ ?_ | split)
    have b2 : ¬ ((l.length : Int) > 60) := by omega
    have t3 := K.kind p a l (by omega) (by omega) hra
    have t4 := K.kind p b l (by omega) (by omega) hrb
    by_cases h5 : (kindP p.exprs a l).2.2 = 0
    case neg =>
      generalize kindP p.exprs a l = r at *
      generalize kindP p.exprs b l = r' at *
      have q : (r.2.2 == 0) = false := by simp [h5]
      repeat (first | simp only [go_sem, List.length_map, b1, b2, decide_true, decide_false, bne, q] | refine Unf.h ?_ | refine And.intro ?_ (noRv_of (by simp only [go_sem])) | refine callK_plain (t1) (fun _ => rfl) ?_ | refine callE_plain (t1) (fun _ => rfl) ?_ | refine ⟨_, t1, fun _ => rfl, ?_⟩ | refine callK_plain (t2) (fun _ => rfl) ?_ | refine callE_plain (t2) (fun _ => rfl) ?_ | refine ⟨_, t2, fun _ => rfl, ?_⟩ | refine callK_plain (t3) (fun _ => rfl) ?_ | refine callE_plain (t3) (fun _ => rfl) ?_ | refine ⟨_, t3, fun _ => rfl, ?_⟩ | refine callK_plain (t4) (fun _ => rfl) ?_ | refine callE_plain (t4) (fun _ => rfl) ?_ | refine ⟨_, t4, fun _ => rfl, ?_⟩ | refine callK_plain (ha) (fun _ => rfl) ?_ | refine callE_plain (ha) (fun _ => rfl) ?_ | refine ⟨_, ha, fun _ => rfl, ?_⟩)
      refine hR _ ?_
      simp only [go_sem]
    obtain ⟨k0, k1, k2, k3⟩ := kindP_inv h5
    rw [k3] at t3
    by_cases h6 : (kindP p.exprs b l).2.2 = 0
    case neg =>
      generalize kindP p.exprs b l = r' at *
      have q : (r'.2.2 == 0) = false := by simp [h6]
      repeat (first | simp only [go_sem, List.length_map, b1, b2, decide_true, decide_false, bne, q] | refine Unf.h ?_ | refine And.intro ?_ (noRv_of (by simp only [go_sem])) | refine callK_plain (t1) (fun _ => rfl) ?_ | refine callE_plain (t1) (fun _ => rfl) ?_ | refine ⟨_, t1, fun _ => rfl, ?_⟩ | refine callK_plain (t2) (fun _ => rfl) ?_ | refine callE_plain (t2) (fun _ => rfl) ?_ | refine ⟨_, t2, fun _ => rfl, ?_⟩ | refine callK_plain (t3) (fun _ => rfl) ?_ | refine callE_plain (t3) (fun _ => rfl) ?_ | refine ⟨_, t3, fun _ => rfl, ?_⟩ | refine callK_plain (t4) (fun _ => rfl) ?_ | refine callE_plain (t4) (fun _ => rfl) ?_ | refine ⟨_, t4, fun _ => rfl, ?_⟩ | refine callK_plain (ha) (fun _ => rfl) ?_ | refine callE_plain (ha) (fun _ => rfl) ?_ | refine ⟨_, ha, fun _ => rfl, ?_⟩)
      refine hR _ ?_
      simp only [go_sem]
    obtain ⟨m0, m1, m2, m3⟩ := kindP_inv h6
    rw [m3] at t4
    obtain ⟨n, hn⟩ : ∃ n, p.exprs.length = n := ⟨_, rfl⟩
    obtain ⟨ext, hext⟩ : ∃ ext, [xOp [43] a b 0, xOp [60] a b 0, xOp wWhole 0 0 0, xOp [60] ((n + 2 : Nat) : Int) ((n + 2 : Nat) : Int) 0, xOp wIf ((n + 3 : Nat) : Int) a b] = ext := ⟨_, rfl⟩
    have t5 := K.kind ⟨[], p.exprs ++ ext⟩ ((p.exprs.length + 0 : Nat) : Int) l (by subst hext; simp; omega) (by omega) (by omega)
    have t6 := K.kind ⟨[], p.exprs ++ ext⟩ ((p.exprs.length + 1 : Nat) : Int) l (by subst hext; simp; omega) (by omega) (by omega)
    have t7 := K.kind ⟨[], p.exprs ++ ext⟩ ((p.exprs.length + 4 : Nat) : Int) l (by subst hext; simp; omega) (by omega) (by omega)
    rw [two_kind (op := [43]) (by simp) ⟨k0, k1, k2⟩ ⟨m0, m1, m2⟩ (by subst hext; rfl)] at t5
    rw [two_kind (op := [60]) (by simp) ⟨k0, k1, k2⟩ ⟨m0, m1, m2⟩ (by subst hext; rfl)] at t6
    have w2 : kvO (p.exprs ++ ext) l ((p.exprs.length + 2 : Nat) : Int) = 3 := whole_kv (by subst hext; rfl)
    have w3 : kvO (p.exprs ++ ext) l ((p.exprs.length + 3 : Nat) : Int) = 4 := lt_kv (q := ((n + 2 : Nat) : Int)) (by rw [app_at]; subst hext; rfl) (by omega) (by rw [← hn]; exact w2)
    have ea := kvO_app (ext := ext) (l := l) k0 k1
    have eb := kvO_app (ext := ext) (l := l) m0 m1
    rw [if_kind (a := ((n + 3 : Nat) : Int)) (b := a) (c := b) (by rw [app_at]; subst hext; rfl) (fun q hq => by
      simp only [List.mem_cons, List.not_mem_nil, or_false] at hq
      rcases hq with rfl | rfl | rfl
      · exact ⟨by omega, by omega, by rw [← hn, w3]; decide⟩
      · exact ⟨k0, by omega, by rw [ea]; exact k2⟩
      · exact ⟨m0, by omega, by rw [eb]; exact m2⟩), ← hn, w3, ea, eb] at t7
    subst hext
    subst hn
    have hw1 : IntKind.i64.wrap ((p.exprs.length : Int) + 1) = ((p.exprs.length + 1 : Nat) : Int) := by rw [wrapI (by omega) (by omega)]; omega
    have hw2 : IntKind.i64.wrap ((p.exprs.length : Int) + 2) = ((p.exprs.length + 2 : Nat) : Int) := by rw [wrapI (by omega) (by omega)]; omega
    have hw3 : IntKind.i64.wrap ((p.exprs.length : Int) + 3) = ((p.exprs.length + 3 : Nat) : Int) := by rw [wrapI (by omega) (by omega)]; omega
    have hw4 : IntKind.i64.wrap ((p.exprs.length : Int) + 4) = ((p.exprs.length + 4 : Nat) : Int) := by rw [wrapI (by omega) (by omega)]; omega
    have c1 : ¬ a < 0 := by omega
    have c2 : ¬ b < 0 := by omega
    have c3 : ¬ a ≥ (p.exprs.length : Int) := by omega
    have c4 : ¬ b ≥ (p.exprs.length : Int) := by omega
    have hm := encX_all p.exprs
    have l1 : p.exprs.length * 64 ≤ 140737488355328 := by omega
    have l2 : p.exprs.length ≤ 140737488355328 := by omega
    have l3 : (p.exprs.length + 5) * 64 ≤ 140737488355328 := by omega
    have l4 : p.exprs.length ≤ 140737488355323 := by omega
    rw [vProg, List.map_append] at t5 t6 t7
    simp only [List.map_nil, List.map_cons, xOp, encX] at t5 t6 t7
    have t5 := q_up t5
    have t6 := q_up t6
    have t7 := q_up t7
    have hk := kvO_kinds k2
    have hk' := kvO_kinds m2
    generalize kvO p.exprs l a = k at *
    generalize kvO p.exprs l b = k' at *
    rcases hk with rfl | rfl | rfl | rfl <;> rcases hk' with rfl | rfl | rfl | rfl
    all_goals
      repeat (first | simp only [go_sem, List.length_map, b1, b2, c1, c2, c3, c4, decide_true, decide_false, bne, hm, l1, l2, l3, l4, partsN, ↓scrub_updF, ↓thaw_scrub_updF, ↓scrub_updoF, ↓thaw_scrub_updoF, ↓scrub_lookF, ↓scrub_lookoF, ↓thaw_updF, ↓thaw_scrubF, ↓thaw_lookF, ↓thaw_updoF, ↓thaw_scruboF, ↓thaw_lookoF, hw1, hw2, hw3, hw4, Nat.add_zero, or_true, true_or, or_self, tkAdd11, tkAdd12, tkAdd13, tkAdd14, tkAdd21, tkAdd22, tkAdd23, tkAdd24, tkAdd31, tkAdd32, tkAdd33, tkAdd34, tkAdd41, tkAdd42, tkAdd43, tkAdd44, tkLt11, tkLt12, tkLt13, tkLt14, tkLt21, tkLt22, tkLt23, tkLt24, tkLt31, tkLt32, tkLt33, tkLt34, tkLt41, tkLt42, tkLt43, tkLt44] | refine Unf.h ?_ | refine And.intro ?_ (noRv_of (by simp only [go_sem])) | refine callK_plain (t1) (fun _ => rfl) ?_ | refine callE_plain (t1) (fun _ => rfl) ?_ | refine ⟨_, t1, fun _ => rfl, ?_⟩ | refine callK_plain (t2) (fun _ => rfl) ?_ | refine callE_plain (t2) (fun _ => rfl) ?_ | refine ⟨_, t2, fun _ => rfl, ?_⟩ | refine callK_plain (t3) (fun _ => rfl) ?_ | refine callE_plain (t3) (fun _ => rfl) ?_ | refine ⟨_, t3, fun _ => rfl, ?_⟩ | refine callK_plain (t4) (fun _ => rfl) ?_ | refine callE_plain (t4) (fun _ => rfl) ?_ | refine ⟨_, t4, fun _ => rfl, ?_⟩ | refine callK_plain (t5) (fun _ => rfl) ?_ | refine callE_plain (t5) (fun _ => rfl) ?_ | refine ⟨_, t5, fun _ => rfl, ?_⟩ | refine callK_plain (t6) (fun _ => rfl) ?_ | refine callE_plain (t6) (fun _ => rfl) ?_ | refine ⟨_, t6, fun _ => rfl, ?_⟩ | refine callK_plain (t7) (fun _ => rfl) ?_ | refine callE_plain (t7) (fun _ => rfl) ?_ | refine ⟨_, t7, fun _ => rfl, ?_⟩ | refine callK_plain (ha) (fun _ => rfl) ?_ | refine callE_plain (ha) (fun _ => rfl) ?_ | refine ⟨_, ha, fun _ => rfl, ?_⟩)
      refine hR _ ?_
      simp only [go_sem]
end Pay
