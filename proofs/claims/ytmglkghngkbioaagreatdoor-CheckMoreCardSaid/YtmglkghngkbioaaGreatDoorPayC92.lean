/- The law of more bindings: CheckMore. -/
import Derived.Test.YtmglkghngkbioaaGreatDoorPayC63
import Derived.Test.YtmglkghngkbioaaGreatDoorPayC65
import Derived.Test.YtmglkghngkbioaaGreatDoorPayC81
import Derived.Test.YtmglkghngkbioaaGreatDoorPayCk1
import Derived.Test.YtmglkghngkbioaaGreatDoorPayCk2
import Derived.Test.YtmglkghngkbioaaGreatDoorPayCkC
import Derived.Test.YtmglkghngkbioaaGreatDoorPaySh2_0
import Derived.Test.YtmglkghngkbioaaGreatDoorPayTr1
set_option linter.unusedSimpArgs false
set_option linter.unusedVariables false
namespace Pay
open Go
attribute [local irreducible] wpB opsB treeB drawB
abbrev wNobody : List UInt8 := [78, 111, 98, 111, 100, 121]
theorem bound_nobody {s : List UInt8} (h : s ≠ wNobody) (l : List Bnd) : bound s l = bound s (⟨wNobody, 1⟩ :: l) := by
  simp only [bound]
  rw [if_neg (fun e => h e.symm)]
theorem more_loop {C : Ctx} {I : Nat → Prop} (hI : ∀ n, ¬ I n) {Q : Ex → St → Prop} {p : Prog} {k e n f m g : Int} (ha : SoundAt C 162 ⟨[], looko []⟩ ⟨vB true, looko []⟩) (hl : p.exprs.length < 100000)
    (hT : ∀ t, (∀ x ∈ p.exprs, x.name ≠ wNobody) → t 9 = vI k → t 11 = vI e → t 12 = vI n → t 14 = vI f → t 15 = vI m → t 17 = vI g → Q (.exit 0) (St.mk t (looko [])))
    (hF : ∀ t, t 8 = vB true → Q .ret (St.mk t (looko []))) :
    ∀ (j i : Nat), i + j = p.exprs.length → (∀ x ∈ p.exprs.take i, x.name ≠ wNobody) →
      wpB C I g_law10_CheckMore.l0 (St.mk (look [(9, vI k), (11, vI e), (12, vI n), (14, vI f), (15, vI m), (17, vI g), (73, .d (.sl (p.exprs.map encX))), (74, vI p.exprs.length), (75, vI i)]) (looko [])) Q := by
  intro j
  induction j with
  | zero =>
    intro i hi hb
    have hi' : i = p.exprs.length := by omega
    subst hi'
    rw [List.take_length] at hb
    refine g_law10_CheckMore_l0_sh rfl ?_
    repeat (first | simp only [go_sem, Int.lt_irrefl, decide_false] | refine Unf.h ?_)
    exact hT _ hb rfl rfl rfl rfl rfl rfl
  | succ j ih =>
    intro i hi hb
    have hlt : i < p.exprs.length := by omega
    have hlt' : ((i : Int) < (p.exprs.length : Int)) := by omega
    have hg := List.getElem?_eq_getElem hlt
    have hw := wrapI (x := (i : Int) + 1) (by omega) (by omega)
    have ih' := ih (i + 1) (by omega)
    have hts : p.exprs.take (i + 1) = p.exprs.take i ++ [p.exprs[i]] := by rw [List.take_add_one, hg]; rfl
    rw [hts] at ih'
    generalize p.exprs[i] = b at *
    refine g_law10_CheckMore_l0_sh rfl ?_
    by_cases hs : b.name = wNobody
    · have q : (b.name == [78, 111, 98, 111, 100, 121]) = true := by simp [hs]
      have q2 : (b.name = [78, 111, 98, 111, 100, 121]) = True := eq_true hs
      repeat (first | simp only [go_sem, hI, hlt', decide_true, Int.natCast_nonneg, Int.toNat_natCast, getMap encX hg, encX, q, q2] | refine Unf.h ?_)
      refine callK_plain ha (fun _ => rfl) ?_
      repeat (first | simp only [go_sem] | refine Unf.h ?_)
      exact hF _ rfl
    · have q : (b.name == [78, 111, 98, 111, 100, 121]) = false := by simp [hs]
      have q2 : (b.name = [78, 111, 98, 111, 100, 121]) = False := eq_false hs
      repeat (first | simp only [go_sem, hI, hlt', decide_true, Int.natCast_nonneg, Int.toNat_natCast, getMap encX hg, encX, q, q2, hw] | refine Unf.h ?_)
      exact ih' (fun x hx => by
        rcases List.mem_append.1 hx with h | h
        · exact hb x h
        · simp only [List.mem_singleton] at h
          subst h; exact hs)
theorem lawCheckMore {C : Ctx} (h : okFn C.P C.φ 166 g_law10_CheckMore = true) (K : LawK C) (p : Prog) (root : Int) (l more : List Bnd) (hp : p.rules.length * 40 ≤ 140737488355328) (hroot : -9223372036854775808 ≤ root ∧ root < 9223372036854775808) :
    SoundAt C 166 ⟨[vProg p, vI root, vBns l, vBns more], looko []⟩ ⟨vB true, looko []⟩ := by
  have ha := K.awake
  refine SoundAt.of_run h rfl (fun Q hR hN => ?_)
  rw [entry4]
  by_cases h1 : p.exprs.length ≤ 300
  case neg =>
    have b1 : ((p.exprs.length : Int) > 300) := by omega
    repeat' (first | simp only [go_sem, List.length_map, b1, decide_true] | refine Unf.h ?_ | refine callK_plain (ha) (fun _ => rfl) ?_ | refine hR _ ?_ | split)
  have b1 : ¬ ((p.exprs.length : Int) > 300) := by omega
  have t1 := K.ref p hp (by omega)
  have t2 := K.small p
  cases hs : smallP p with
  | false =>
    rw [hs] at t2
    repeat' (first | simp only [go_sem, List.length_map, b1, decide_false] | refine Unf.h ?_ | refine callK_plain (t1) (fun _ => rfl) ?_ | refine callK_plain (t2) (fun _ => rfl) ?_ | refine callK_plain (ha) (fun _ => rfl) ?_ | refine hR _ ?_ | split)
  | true =>
    rw [hs] at t2
    by_cases h2 : l.length ≤ 60
    case neg =>
      have b2 : ((l.length : Int) > 60) := by omega
      repeat' (first | simp only [go_sem, List.length_map, b1, b2, decide_true, decide_false] | refine Unf.h ?_ | refine callK_plain (t1) (fun _ => rfl) ?_ | refine callK_plain (t2) (fun _ => rfl) ?_ | refine callK_plain (ha) (fun _ => rfl) ?_ | refine hR _ ?_ | split)
    have b2 : ¬ ((l.length : Int) > 60) := by omega
    by_cases h3 : more.length ≤ 60
    case neg =>
      have b3 : ((more.length : Int) > 60) := by omega
      repeat' (first | simp only [go_sem, List.length_map, b1, b2, b3, decide_true, decide_false] | refine Unf.h ?_ | refine callK_plain (t1) (fun _ => rfl) ?_ | refine callK_plain (t2) (fun _ => rfl) ?_ | refine callK_plain (ha) (fun _ => rfl) ?_ | refine hR _ ?_ | split)
    have b3 : ¬ ((more.length : Int) > 60) := by omega
    have t3 := K.kind p root l (by omega) (by omega) hroot
    have t4 := K.kind p root (l ++ more) (by omega) (by simp; omega) hroot
    have t5 := K.kind p root (⟨wNobody, 1⟩ :: l) (by omega) (by simp; omega) hroot
    have e4 : (kindP p.exprs root l).2.2 = 0 → kindP p.exprs root (l ++ more) = kindP p.exprs root l := kindP_app more
    have e5 : (∀ x ∈ p.exprs, x.name ≠ wNobody) → kindP p.exprs root (⟨wNobody, 1⟩ :: l) = kindP p.exprs root l := fun h => (kindP_congr (fun x hx => bound_nobody (h x hx) l)).symm
    rw [vBns, List.map_append] at t4
    rw [vBns, List.map_cons] at t5
    simp only [encBn] at t5
    generalize kindP p.exprs root l = r at *
    generalize kindP p.exprs root (l ++ more) = r4 at *
    generalize kindP p.exprs root (⟨wNobody, 1⟩ :: l) = r5 at *
    have hm := encBn_all l
    have hm2 := encBn_all more
    have l1 : l.length * 24 ≤ 140737488355328 := by omega
    have l2 : l.length ≤ 140737488355328 := by omega
    have l3 : (l.length + more.length) * 24 ≤ 140737488355328 := by omega
    have l4 : l.length + more.length ≤ 140737488355328 := by omega
    have l5 : (1 + l.length) * 24 ≤ 140737488355328 := by omega
    have l6 : 1 + l.length ≤ 140737488355328 := by omega
    suffices key : wpB C (fun n => False) g_law10_CheckMore.c7 (St.mk (look [(1, vI root), (2, vBns l), (4, .ptr 4 0), (9, vI r.1), (11, vI r.2.2), (12, vI r4.1), (14, vI r4.2.2)]) (looko [(4, some (.box (pC p)))])) Q by
      repeat' (first | exact key | simp only [go_sem, List.length_map, b1, b2, b3, decide_false, hm, hm2, l1, l2, l3, l4, l5, l6, partsN, ↓scrub_updF, ↓thaw_scrub_updF, ↓scrub_updoF, ↓thaw_scrub_updoF, ↓scrub_lookF, ↓scrub_lookoF, ↓thaw_updF, ↓thaw_scrubF, ↓thaw_lookF, ↓thaw_updoF, ↓thaw_scruboF, ↓thaw_lookoF] | refine Unf.h ?_ | refine And.intro ?_ (noRv_of (by simp only [go_sem])) | refine callK_plain (t1) (fun _ => rfl) ?_ | refine callE_plain (t1) (fun _ => rfl) ?_ | refine ⟨_, t1, fun _ => rfl, ?_⟩ | refine callK_plain (t2) (fun _ => rfl) ?_ | refine callE_plain (t2) (fun _ => rfl) ?_ | refine ⟨_, t2, fun _ => rfl, ?_⟩ | refine callK_plain (t3) (fun _ => rfl) ?_ | refine callE_plain (t3) (fun _ => rfl) ?_ | refine ⟨_, t3, fun _ => rfl, ?_⟩ | refine callK_plain (t4) (fun _ => rfl) ?_ | refine callE_plain (t4) (fun _ => rfl) ?_ | refine ⟨_, t4, fun _ => rfl, ?_⟩ | refine And.intro ?_ ?_)
    suffices key : wpB C (fun n => False) g_law10_CheckMore.c6 (St.mk (look [(4, .ptr 4 0), (9, vI r.1), (11, vI r.2.2), (12, vI r4.1), (14, vI r4.2.2), (15, vI r5.1), (17, vI r5.2.2)]) (looko [(4, some (.box (pC p)))])) Q by
      repeat' (first | exact key | simp only [go_sem, List.length_map, hm, hm2, l1, l2, l3, l4, l5, l6, partsN, ↓scrub_updF, ↓thaw_scrub_updF, ↓scrub_updoF, ↓thaw_scrub_updoF, ↓scrub_lookF, ↓scrub_lookoF, ↓thaw_updF, ↓thaw_scrubF, ↓thaw_lookF, ↓thaw_updoF, ↓thaw_scruboF, ↓thaw_lookoF] | refine Unf.h ?_ | refine And.intro ?_ (noRv_of (by simp only [go_sem])) | refine callK_plain (t5) (fun _ => rfl) ?_ | refine callE_plain (t5) (fun _ => rfl) ?_ | refine ⟨_, t5, fun _ => rfl, ?_⟩ | refine And.intro ?_ ?_)
    repeat (first | simp only [go_sem, List.length_map] | refine Unf.h ?_ | refine And.intro ?_ (noRv_of (by simp only [go_sem])) | refine callK_plain (t5) (fun _ => rfl) ?_ | refine callE_plain (t5) (fun _ => rfl) ?_ | refine ⟨_, t5, fun _ => rfl, ?_⟩)
    refine more_loop (p := p) (fun _ h => h) ha (by omega) (fun t hb h9 h11 h12 h14 h15 h17 => ?_) (fun t h8 => ?_) p.exprs.length 0 (by omega) (by simp)
    · have e5 := (e5 hb).symm
      subst e5
      by_cases e0 : r.2.2 = 0
      · have e4 := (e4 e0).symm
        subst e4
        repeat (first | simp only [go_sem, h9, h11, h12, h14, h15, h17, bne, e0] | refine Unf.h ?_ | refine And.intro ?_ (noRv_of (by simp only [go_sem])) | refine callK_plain (ha) (fun _ => rfl) ?_ | refine callE_plain (ha) (fun _ => rfl) ?_ | refine ⟨_, ha, fun _ => rfl, ?_⟩)
        refine hR _ ?_
        simp only [go_sem]
      · have q : (r.2.2 == 0) = false := by simp [e0]
        repeat (first | simp only [go_sem, h9, h11, h12, h14, h15, h17, bne, q] | refine Unf.h ?_ | refine And.intro ?_ (noRv_of (by simp only [go_sem])) | refine callK_plain (ha) (fun _ => rfl) ?_ | refine callE_plain (ha) (fun _ => rfl) ?_ | refine ⟨_, ha, fun _ => rfl, ?_⟩)
        refine hR _ ?_
        simp only [go_sem]
    · repeat (first | simp only [go_sem] | refine Unf.h ?_ | refine And.intro ?_ (noRv_of (by simp only [go_sem])))
      refine hR _ ?_
      simp only [go_sem, h8]
end Pay
