/- Contracts: the copies of a program, and of bindings; small programs. -/
import Derived.Test.YtmglkghngkbioaaGreatDoorPayC48
import Derived.Test.YtmglkghngkbioaaGreatDoorPayC61
import Derived.Test.YtmglkghngkbioaaGreatDoorPayC63
import Derived.Test.YtmglkghngkbioaaGreatDoorPayC65
import Derived.Test.YtmglkghngkbioaaGreatDoorPayCkC
import Derived.Test.YtmglkghngkbioaaGreatDoorPaySh0_0
import Derived.Test.YtmglkghngkbioaaGreatDoorPayTr1
set_option linter.unusedSimpArgs false
set_option linter.unusedVariables false
namespace Pay
open Go
attribute [local irreducible] wpB opsB treeB drawB
theorem ref10_loop0 {C : Ctx} {I : Nat → Prop} (hI : ∀ n, ¬ I n) {Q : Ex → St → Prop} {p : Prog} {b2 : Ob} (hb2 : b2 = .box [.cap0, .cap0]) (hp : p.rules.length * 40 ≤ 140737488355328)
    (hT : ∀ s, s 1 = .ptr 1 0 → s 2 = .ptr 2 0 → s 3 = .ptr 3 0 → Q (.exit 0) (St.mk s (looko [(1, some (.box [.d (.sl (p.rules.map encRl)), .d (.sl (p.exprs.map encX))])), (2, some b2), (3, some (.box [ownV 19 p.rules, .cap0])), (19, ownO 3 encRl p.rules), (33, none)]))) :
    ∀ (m k : Nat), k + m = p.rules.length →
      wpB C I g_law10_ref.l0 (St.mk (look [(1, .ptr 1 0), (2, .ptr 2 0), (3, .ptr 3 0), (9, .d (.sl (p.rules.map encRl))), (10, vI p.rules.length), (11, vI k)]) (looko [(1, some (.box [.d (.sl (p.rules.map encRl)), .d (.sl (p.exprs.map encX))])), (2, some b2), (3, some (.box [ownV 19 (p.rules.take k), .cap0])), (19, ownO 3 encRl (p.rules.take k)), (33, none)])) Q := by
  subst hb2
  intro m
  induction m with
  | zero =>
    intro k hk
    refine g_law10_ref_l0_sh rfl ?_
    have hk' : k = p.rules.length := by omega
    subst hk'
    rw [List.take_length]
    repeat (first | simp only [go_sem, Int.lt_irrefl, decide_false] | refine Unf.h ?_)
    refine hT _ ?_ ?_ ?_ <;> rfl
  | succ m ih =>
    intro k hk
    refine g_law10_ref_l0_sh rfl ?_
    have hlt : k < p.rules.length := by omega
    have hlt' : ((k : Int) < (p.rules.length : Int)) := by omega
    have e1 := List.getElem?_eq_getElem hlt
    have hw : IntKind.i64.wrap ((k : Int) + 1) = ((k + 1 : Nat) : Int) := by rw [wrapI (by omega) (by omega)]; omega
    have next := ih (k + 1) (by omega)
    have hts : p.rules.take (k + 1) = p.rules.take k ++ [p.rules[k]] := by rw [List.take_add_one, e1]; rfl
    have hln : (p.rules.take k).length = k := by rw [List.length_take]; omega
    rw [hts] at next
    obtain ⟨acc, hacc⟩ : ∃ acc, p.rules.take k = acc := ⟨_, rfl⟩
    obtain ⟨a, ha⟩ : ∃ a, p.rules[k] = a := ⟨_, rfl⟩
    rw [hacc] at next hln ⊢
    rw [ha] at next e1
    rw [ownV_snoc, ownO_snoc] at next
    cases acc with
    | nil =>
      repeat (first | simp only [go_sem, hI, ownV, ownO, partsN, hlt', decide_true, Int.natCast_nonneg, Int.toNat_natCast, getMap encRl e1, encRl, hw] | refine Unf.h ?_)
      exact next
    | cons c l =>
      simp only [List.length_cons] at hln
      have h1 : l.length ≤ 140737488355326 := by omega
      have h2 : (l.length + 1 + 1) * 40 ≤ 140737488355328 := by omega
      repeat (first | simp only [go_sem, hI, ownV, ownO, partsN, hlt', decide_true, Int.natCast_nonneg, Int.toNat_natCast, getMap encRl e1, encRl, hw, List.length_map, h1, h2] | refine Unf.h ?_)
      exact next
theorem ref10_loop1 {C : Ctx} {I : Nat → Prop} (hI : ∀ n, ¬ I n) {Q : Ex → St → Prop} {p : Prog} {b2 : Ob} (hb2 : b2 = .box [.cap0, .cap0]) (hp : p.exprs.length < 100000) {rs : List Rul} {c0 : V} {o19 : Option Ob} (hc : c0 = ownV 19 rs) (ho : o19 = ownO 3 encRl rs)
    (hT : ∀ s, s 2 = .ptr 2 0 → s 3 = .ptr 3 0 → Q (.exit 2) (St.mk s (looko [(2, some b2), (3, some (.box [c0, ownV 33 p.exprs])), (19, o19), (33, ownO 6 encX p.exprs)]))) :
    ∀ (m k : Nat), k + m = p.exprs.length →
      wpB C I g_law10_ref.l1 (St.mk (look [(2, .ptr 2 0), (3, .ptr 3 0), (23, .d (.sl (p.exprs.map encX))), (24, vI p.exprs.length), (25, vI k)]) (looko [(2, some b2), (3, some (.box [c0, ownV 33 (p.exprs.take k)])), (19, o19), (33, ownO 6 encX (p.exprs.take k))])) Q := by
  subst hb2 hc ho
  intro m
  induction m with
  | zero =>
    intro k hk
    refine g_law10_ref_l1_sh rfl ?_
    have hk' : k = p.exprs.length := by omega
    subst hk'
    rw [List.take_length]
    repeat (first | simp only [go_sem, Int.lt_irrefl, decide_false] | refine Unf.h ?_)
    refine hT _ ?_ ?_ <;> rfl
  | succ m ih =>
    intro k hk
    refine g_law10_ref_l1_sh rfl ?_
    have hlt : k < p.exprs.length := by omega
    have hlt' : ((k : Int) < (p.exprs.length : Int)) := by omega
    have e1 := List.getElem?_eq_getElem hlt
    have hw : IntKind.i64.wrap ((k : Int) + 1) = ((k + 1 : Nat) : Int) := by rw [wrapI (by omega) (by omega)]; omega
    have next := ih (k + 1) (by omega)
    have hts : p.exprs.take (k + 1) = p.exprs.take k ++ [p.exprs[k]] := by rw [List.take_add_one, e1]; rfl
    have hln : (p.exprs.take k).length = k := by rw [List.length_take]; omega
    rw [hts] at next
    obtain ⟨acc, hacc⟩ : ∃ acc, p.exprs.take k = acc := ⟨_, rfl⟩
    obtain ⟨a, ha⟩ : ∃ a, p.exprs[k] = a := ⟨_, rfl⟩
    rw [hacc] at next hln ⊢
    rw [ha] at next e1
    rw [ownV_snoc, ownO_snoc] at next
    cases acc with
    | nil =>
      cases rs <;> simp only [ownV, ownO] at next ⊢
      all_goals
       repeat (first | simp only [go_sem, hI, ownV, ownO, partsN, hlt', decide_true, Int.natCast_nonneg, Int.toNat_natCast, getMap encX e1, encX, hw] | refine Unf.h ?_)
       exact next
    | cons c l =>
      simp only [List.length_cons] at hln
      have h1 : l.length ≤ 140737488355326 := by omega
      have h2 : (l.length + 1 + 1) * 64 ≤ 140737488355328 := by omega
      cases rs <;> simp only [ownV, ownO] at next ⊢
      all_goals
       repeat (first | simp only [go_sem, hI, ownV, ownO, partsN, hlt', decide_true, Int.natCast_nonneg, Int.toNat_natCast, getMap encX e1, encX, hw, List.length_map, h1, h2] | refine Unf.h ?_)
       exact next
theorem r10Ref {C : Ctx} (h : okFn C.P C.φ 160 g_law10_ref = true) (p : Prog) (h1 : p.rules.length * 40 ≤ 140737488355328) (h2 : p.exprs.length < 100000) :
    SoundAt C 160 ⟨[vProg p], looko []⟩ ⟨vProg p, looko []⟩ := by
  have key : SoundAt C 160 ⟨[vProg p], looko []⟩ ⟨.agg [slV encRl p.rules, slV encX p.exprs], looko []⟩ := by
    refine SoundAt.of_run h rfl (fun Q hR hN => ?_)
    rw [entry1]
    repeat (first | simp only [go_sem, List.length_map] | refine Unf.h ?_)
    refine ref10_loop0 (fun n h => h) rfl h1 (fun s s1 s2 s3 => ?_) p.rules.length 0 (by omega)
    repeat (first | simp only [go_sem, s1, s2, s3, List.length_map] | refine Unf.h ?_)
    refine ref10_loop1 (fun n h => h) rfl h2 (rs := p.rules) rfl rfl (fun s s2 s3 => ?_) p.exprs.length 0 (by omega)
    cases hr : p.rules with
    | nil =>
      cases hx : p.exprs with
      | nil =>
        rw [hr, hx] at hR
        repeat (first | simp only [go_sem, s2, s3, ownV, ownO] | refine Unf.h ?_)
        refine hR _ ?_
        rw [ends_frz]
        simp only [go_sem, slV]
      | cons b m =>
        rw [hr, hx] at hR
        repeat (first | simp only [go_sem, s2, s3, ownV, ownO] | refine Unf.h ?_)
        refine hR _ ?_
        rw [ends_frz]
        simp only [go_sem, slV]
    | cons a l =>
      cases hx : p.exprs with
      | nil =>
        rw [hr, hx] at hR
        repeat (first | simp only [go_sem, s2, s3, ownV, ownO] | refine Unf.h ?_)
        refine hR _ ?_
        rw [ends_frz]
        simp only [go_sem, slV]
      | cons b m =>
        rw [hr, hx] at hR
        repeat (first | simp only [go_sem, s2, s3, ownV, ownO] | refine Unf.h ?_)
        refine hR _ ?_
        rw [ends_frz]
        simp only [go_sem, slV]
  have := SoundAt.res_up key
  simpa [V.up, V.ups, slV_up] using this
theorem small_l0 {C : Ctx} {I : Nat → Prop} {Q : Ex → St → Prop} {p : Prog} {b : Bool} (hE : p.exprs.length ≤ 300)
    (hT : ∀ t, b = true → t 1 = .ptr 1 0 → Q (.exit 0) (St.mk t (looko [(1, some (.box (pC p)))]))) (hF : ∀ t, b = false → t 2 = vB false → Q .ret (St.mk t (looko []))) :
    ∀ (m k : Nat), k + m = p.exprs.length → (p.exprs.drop k).all okX = b → wpB C I g_ref10_Small.l0 (St.mk (look [(1, .ptr 1 0), (3, vI k)]) (looko [(1, some (.box (pC p)))])) Q := by
  intro m
  induction m with
  | zero =>
    intro k hk hr
    have hk' : k = p.exprs.length := by omega
    subst hk'
    refine g_ref10_Small_l0_sh rfl ?_
    repeat (first | simp only [go_sem, List.length_map, Int.lt_irrefl, decide_false] | refine Unf.h ?_)
    exact hT _ (by rw [← hr]; simp) rfl
  | succ m ih =>
    intro k hk hr
    have hlt : k < p.exprs.length := by omega
    have he := List.getElem?_eq_getElem hlt
    have hlt' : ((k : Int) < (p.exprs.length : Int)) := by omega
    have hw := wrapI (x := (k : Int) + 1) (by omega) (by omega)
    have ih' := ih (k + 1) (by omega)
    rw [List.drop_eq_getElem_cons hlt, List.all_cons] at hr
    generalize p.exprs[k] = x at *
    refine g_ref10_Small_l0_sh rfl ?_
    by_cases h1 : x.name.length ≤ 30
    · have b1 : ¬ ((x.name.length : Int) > 30) := by omega
      by_cases h2 : x.op.length ≤ 30
      · have b2 : ¬ ((x.op.length : Int) > 30) := by omega
        rw [show okX x = true by simp [okX, h1, h2], Bool.true_and] at hr
        repeat (first | simp only [go_sem, List.length_map, hlt', decide_true, decide_false, Int.natCast_nonneg, Int.toNat_natCast, getMap encX he, encX, b1, b2, hw] | refine Unf.h ?_)
        exact ih' hr
      · have b2 : ((x.op.length : Int) > 30) := by omega
        rw [show okX x = false by simp [okX, h2], Bool.false_and] at hr
        repeat (first | simp only [go_sem, List.length_map, hlt', decide_true, decide_false, Int.natCast_nonneg, Int.toNat_natCast, getMap encX he, encX, b1, b2] | refine Unf.h ?_)
        exact hF _ hr.symm rfl
    · have b1 : ((x.name.length : Int) > 30) := by omega
      rw [show okX x = false by simp [okX, h1], Bool.false_and] at hr
      repeat (first | simp only [go_sem, List.length_map, hlt', decide_true, decide_false, Int.natCast_nonneg, Int.toNat_natCast, getMap encX he, encX, b1] | refine Unf.h ?_)
      exact hF _ hr.symm rfl
theorem small_l1 {C : Ctx} {I : Nat → Prop} {Q : Ex → St → Prop} {p : Prog} {b : Bool} (hE : p.rules.length ≤ 70)
    (hT : ∀ t (o : Option Ob), b = true → Q (.exit 2) (St.mk t (looko [(1, o)]))) (hF : ∀ t, b = false → t 2 = vB false → Q .ret (St.mk t (looko []))) :
    ∀ (m k : Nat), k + m = p.rules.length → (p.rules.drop k).all okRl = b → wpB C I g_ref10_Small.l1 (St.mk (look [(1, .ptr 1 0), (4, vI k)]) (looko [(1, some (.box (pC p)))])) Q := by
  intro m
  induction m with
  | zero =>
    intro k hk hr
    have hk' : k = p.rules.length := by omega
    subst hk'
    refine g_ref10_Small_l1_sh rfl ?_
    repeat (first | simp only [go_sem, List.length_map, Int.lt_irrefl, decide_false] | refine Unf.h ?_)
    exact hT _ _ (by rw [← hr]; simp)
  | succ m ih =>
    intro k hk hr
    have hlt : k < p.rules.length := by omega
    have he := List.getElem?_eq_getElem hlt
    have hlt' : ((k : Int) < (p.rules.length : Int)) := by omega
    have hw := wrapI (x := (k : Int) + 1) (by omega) (by omega)
    have ih' := ih (k + 1) (by omega)
    rw [List.drop_eq_getElem_cons hlt, List.all_cons] at hr
    generalize p.rules[k] = x at *
    refine g_ref10_Small_l1_sh rfl ?_
    by_cases h1 : x.name.length ≤ 30
    · have b1 : ¬ ((x.name.length : Int) > 30) := by omega
      by_cases h2 : x.kind.length ≤ 30
      · have b2 : ¬ ((x.kind.length : Int) > 30) := by omega
        rw [show okRl x = true by simp [okRl, h1, h2], Bool.true_and] at hr
        repeat (first | simp only [go_sem, List.length_map, hlt', decide_true, decide_false, Int.natCast_nonneg, Int.toNat_natCast, getMap encRl he, encRl, b1, b2, hw] | refine Unf.h ?_)
        exact ih' hr
      · have b2 : ((x.kind.length : Int) > 30) := by omega
        rw [show okRl x = false by simp [okRl, h2], Bool.false_and] at hr
        repeat (first | simp only [go_sem, List.length_map, hlt', decide_true, decide_false, Int.natCast_nonneg, Int.toNat_natCast, getMap encRl he, encRl, b1, b2] | refine Unf.h ?_)
        exact hF _ hr.symm rfl
    · have b1 : ((x.name.length : Int) > 30) := by omega
      rw [show okRl x = false by simp [okRl, h1], Bool.false_and] at hr
      repeat (first | simp only [go_sem, List.length_map, hlt', decide_true, decide_false, Int.natCast_nonneg, Int.toNat_natCast, getMap encRl he, encRl, b1] | refine Unf.h ?_)
      exact hF _ hr.symm rfl
theorem r10Small {C : Ctx} (h : okFn C.P C.φ 161 g_ref10_Small = true) (p : Prog) : SoundAt C 161 ⟨[vProg p], looko []⟩ ⟨vB (smallP p), looko []⟩ := by
  refine SoundAt.of_run h rfl (fun Q hR hN => ?_)
  rw [entry1]
  by_cases h1 : p.exprs.length ≤ 300
  case neg =>
    have b1 : ((p.exprs.length : Int) > 300) := by omega
    have e : smallP p = false := by simp [smallP, h1]
    rw [e] at hR
    repeat (first | simp only [go_sem, List.length_map, b1, decide_true] | refine Unf.h ?_)
    refine hR _ ?_
    simp only [go_sem]
  have b1 : ¬ ((p.exprs.length : Int) > 300) := by omega
  by_cases h2 : p.rules.length ≤ 70
  case neg =>
    have b2 : ((p.rules.length : Int) > 70) := by omega
    have e : smallP p = false := by simp [smallP, h2]
    rw [e] at hR
    repeat (first | simp only [go_sem, List.length_map, b1, b2, decide_true, decide_false] | refine Unf.h ?_)
    refine hR _ ?_
    simp only [go_sem]
  have b2 : ¬ ((p.rules.length : Int) > 70) := by omega
  have e : smallP p = (p.exprs.all okX && p.rules.all okRl) := by simp [smallP, h1, h2]
  rw [e] at hR
  repeat (first | simp only [go_sem, List.length_map, b1, b2, decide_true, decide_false] | refine Unf.h ?_)
  refine small_l0 (p := p) (b := p.exprs.all okX) h1 (fun t hb t1 => ?_) (fun t hb t2 => ?_) p.exprs.length 0 (by omega) (by rw [List.drop_zero])
  · rw [hb, Bool.true_and] at hR
    repeat (first | simp only [go_sem, t1] | refine Unf.h ?_)
    refine small_l1 (p := p) (b := p.rules.all okRl) h2 (fun t o hb => ?_) (fun t hb t2 => ?_) p.rules.length 0 (by omega) (by rw [List.drop_zero])
    · rw [hb] at hR
      repeat (first | simp only [go_sem] | refine Unf.h ?_)
      refine hR _ ?_
      simp only [go_sem]
    · rw [hb] at hR
      repeat (first | simp only [go_sem] | refine Unf.h ?_)
      refine hR _ ?_
      simp only [go_sem, t2]
  · rw [hb, Bool.false_and] at hR
    repeat (first | simp only [go_sem] | refine Unf.h ?_)
    refine hR _ ?_
    simp only [go_sem, t2]
end Pay
