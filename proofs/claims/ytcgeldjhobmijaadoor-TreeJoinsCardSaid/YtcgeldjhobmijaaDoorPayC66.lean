/- Contracts: programs compared, and as the document's; the fixed answer. -/
import Derived.KernelRfl
import Derived.Test.YtcgeldjhobmijaaDoorPayC32
import Derived.Test.YtcgeldjhobmijaaDoorPayC48
import Derived.Test.YtcgeldjhobmijaaDoorPayC61
import Derived.Test.YtcgeldjhobmijaaDoorPayC63
import Derived.Test.YtcgeldjhobmijaaDoorPayC65
import Derived.Test.YtcgeldjhobmijaaDoorPaySh0_0
import Derived.Test.YtcgeldjhobmijaaDoorPayTr1
set_option linter.unusedSimpArgs false
set_option linter.unusedVariables false
namespace Pay
open Go
attribute [local irreducible] wpB opsB treeB drawB
theorem rul_eq (a b : Rul) : (!(a.kind == b.kind && (a.name == b.name && a.root == b.root))) = !decide (a = b) := by
  congr 1
  obtain ⟨a1, a2, a3⟩ := a
  obtain ⟨b1, b2, b3⟩ := b
  rw [Bool.eq_iff_iff]
  simp
theorem xpr_eq (a b : Xpr) : (!(a.op == b.op && (a.name == b.name && (a.val == b.val && (a.a == b.a && (a.b == b.b && a.c == b.c)))))) = !decide (a = b) := by
  congr 1
  obtain ⟨a1, a2, a3, a4, a5, a6⟩ := a
  obtain ⟨b1, b2, b3, b4, b5, b6⟩ := b
  rw [Bool.eq_iff_iff]
  simp
theorem same_loop0 {C : Ctx} {I : Nat → Prop} {Q : Ex → St → Prop} {p q : Prog} (hl : p.rules.length = q.rules.length) (hp : p.rules.length < 100000)
    (hT : p.rules = q.rules → ∀ s, s 2 = .ptr 2 0 → s 3 = .ptr 3 0 → Q (.exit 0) (St.mk s (looko [(2, some (.box [.d (.sl (p.rules.map encRl)), .d (.sl (p.exprs.map encX))])), (3, some (.box [.d (.sl (q.rules.map encRl)), .d (.sl (q.exprs.map encX))]))])))
    (hF : p.rules ≠ q.rules → ∀ s o, s 4 = vB false → Q .ret (St.mk s o)) :
    ∀ (m k : Nat), k + m = p.rules.length → p.rules.take k = q.rules.take k →
      wpB C I g_ref08_Same.l0 (St.mk (look [(2, .ptr 2 0), (3, .ptr 3 0), (5, vI k)]) (looko [(2, some (.box [.d (.sl (p.rules.map encRl)), .d (.sl (p.exprs.map encX))])), (3, some (.box [.d (.sl (q.rules.map encRl)), .d (.sl (q.exprs.map encX))]))])) Q := by
  intro m
  induction m with
  | zero =>
    intro k hk he
    refine g_ref08_Same_l0_sh rfl ?_
    have hk' : k = p.rules.length := by omega
    subst hk'
    rw [List.take_length, hl, List.take_length] at he
    repeat (first | simp only [go_sem, List.length_map, Int.lt_irrefl, decide_false] | refine Unf.h ?_)
    exact hT he _ rfl rfl
  | succ m ih =>
    intro k hk he
    refine g_ref08_Same_l0_sh rfl ?_
    have hlt : k < p.rules.length := by omega
    have hlt2 : k < q.rules.length := by omega
    have hlt' : ((k : Int) < (p.rules.length : Int)) := by omega
    have e1 := List.getElem?_eq_getElem hlt
    have e2 := List.getElem?_eq_getElem hlt2
    have hw : IntKind.i64.wrap ((k : Int) + 1) = ((k + 1 : Nat) : Int) := by rw [wrapI (by omega) (by omega)]; omega
    obtain ⟨a, ha⟩ : ∃ a, p.rules[k] = a := ⟨_, rfl⟩
    obtain ⟨b, hb⟩ : ∃ b, q.rules[k] = b := ⟨_, rfl⟩
    rw [ha] at e1
    rw [hb] at e2
    have hn := rul_eq a b
    by_cases h : a = b
    · rw [decide_eq_true h] at hn
      repeat (first | simp only [go_sem, List.length_map, hlt', decide_true, Int.natCast_nonneg, Int.toNat_natCast, getMap encRl e1, getMap encRl e2, encRl, hn, hw] | refine Unf.h ?_)
      refine ih (k + 1) (by omega) ?_
      rw [List.take_add_one, List.take_add_one, he, e1, e2, h]
    · rw [decide_eq_false h] at hn
      repeat (first | simp only [go_sem, List.length_map, hlt', decide_true, Int.natCast_nonneg, Int.toNat_natCast, getMap encRl e1, getMap encRl e2, encRl, hn, hw] | refine Unf.h ?_)
      refine hF (fun e => h ?_) _ _ rfl
      rw [e, e2] at e1
      exact (Option.some.inj e1).symm
theorem same_loop1 {C : Ctx} {I : Nat → Prop} {Q : Ex → St → Prop} {p q : Prog} (hl : p.exprs.length = q.exprs.length) (hp : p.exprs.length < 100000)
    (hT : p.exprs = q.exprs → ∀ s o, Q (.exit 2) (St.mk s o))
    (hF : p.exprs ≠ q.exprs → ∀ s o, s 4 = vB false → Q .ret (St.mk s o)) :
    ∀ (m k : Nat), k + m = p.exprs.length → p.exprs.take k = q.exprs.take k →
      wpB C I g_ref08_Same.l1 (St.mk (look [(2, .ptr 2 0), (3, .ptr 3 0), (6, vI k)]) (looko [(2, some (.box [.d (.sl (p.rules.map encRl)), .d (.sl (p.exprs.map encX))])), (3, some (.box [.d (.sl (q.rules.map encRl)), .d (.sl (q.exprs.map encX))]))])) Q := by
  intro m
  induction m with
  | zero =>
    intro k hk he
    refine g_ref08_Same_l1_sh rfl ?_
    have hk' : k = p.exprs.length := by omega
    subst hk'
    rw [List.take_length, hl, List.take_length] at he
    repeat (first | simp only [go_sem, List.length_map, Int.lt_irrefl, decide_false] | refine Unf.h ?_)
    exact hT he _ _
  | succ m ih =>
    intro k hk he
    refine g_ref08_Same_l1_sh rfl ?_
    have hlt : k < p.exprs.length := by omega
    have hlt2 : k < q.exprs.length := by omega
    have hlt' : ((k : Int) < (p.exprs.length : Int)) := by omega
    have e1 := List.getElem?_eq_getElem hlt
    have e2 := List.getElem?_eq_getElem hlt2
    have hw : IntKind.i64.wrap ((k : Int) + 1) = ((k + 1 : Nat) : Int) := by rw [wrapI (by omega) (by omega)]; omega
    obtain ⟨a, ha⟩ : ∃ a, p.exprs[k] = a := ⟨_, rfl⟩
    obtain ⟨b, hb⟩ : ∃ b, q.exprs[k] = b := ⟨_, rfl⟩
    rw [ha] at e1
    rw [hb] at e2
    have hn := xpr_eq a b
    by_cases h : a = b
    · rw [decide_eq_true h] at hn
      repeat (first | simp only [go_sem, List.length_map, hlt', decide_true, Int.natCast_nonneg, Int.toNat_natCast, getMap encX e1, getMap encX e2, encX, hn, hw] | refine Unf.h ?_)
      refine ih (k + 1) (by omega) ?_
      rw [List.take_add_one, List.take_add_one, he, e1, e2, h]
    · rw [decide_eq_false h] at hn
      repeat (first | simp only [go_sem, List.length_map, hlt', decide_true, Int.natCast_nonneg, Int.toNat_natCast, getMap encX e1, getMap encX e2, encX, hn, hw] | refine Unf.h ?_)
      refine hF (fun e => h ?_) _ _ rfl
      rw [e, e2] at e1
      exact (Option.some.inj e1).symm
theorem prog_eq (p q : Prog) : p = q ↔ p.rules = q.rules ∧ p.exprs = q.exprs := by
  obtain ⟨a, b⟩ := p
  obtain ⟨c, d⟩ := q
  simp
theorem treeSame {C : Ctx} (h : okFn C.P C.φ 147 g_ref08_Same = true) (p q : Prog) (h1 : p.rules.length < 100000) (h2 : p.exprs.length < 100000) :
    SoundAt C 147 ⟨[vProg p, vProg q], looko []⟩ ⟨vB (decide (p = q)), looko []⟩ := by
  refine SoundAt.of_run h rfl (fun Q hR hN => ?_)
  rw [entry2]
  by_cases hr : p.rules.length = q.rules.length
  case neg =>
    have hb : ((p.rules.length : Int) != (q.rules.length : Int)) = true := by simp; omega
    rw [decide_eq_false (fun e => hr (by rw [e]))] at hR
    repeat (first | simp only [go_sem, List.length_map, hb] | refine Unf.h ?_)
    refine hR _ ?_
    simp only [go_sem]
  have hb : ((p.rules.length : Int) != (q.rules.length : Int)) = false := by simp; omega
  by_cases hx : p.exprs.length = q.exprs.length
  case neg =>
    have hb2 : ((p.exprs.length : Int) != (q.exprs.length : Int)) = true := by simp; omega
    rw [decide_eq_false (fun e => hx (by rw [e]))] at hR
    repeat (first | simp only [go_sem, List.length_map, hb, hb2] | refine Unf.h ?_)
    refine hR _ ?_
    simp only [go_sem]
  have hb2 : ((p.exprs.length : Int) != (q.exprs.length : Int)) = false := by simp; omega
  repeat (first | simp only [go_sem, List.length_map, hb, hb2] | refine Unf.h ?_)
  refine same_loop0 hr h1 (fun er s s2 s3 => ?_) (fun ne s o s4 => ?_) p.rules.length 0 (by omega) rfl
  · repeat (first | simp only [go_sem, s2, s3] | refine Unf.h ?_)
    refine same_loop1 hx h2 (fun ex s o => ?_) (fun ne s o s4 => ?_) p.exprs.length 0 (by omega) rfl
    · rw [decide_eq_true ((prog_eq p q).2 ⟨er, ex⟩)] at hR
      repeat (first | simp only [go_sem] | refine Unf.h ?_)
      refine hR _ ?_
      simp only [go_sem]
    · rw [decide_eq_false (fun e => ne (by rw [e]))] at hR
      refine hR _ ?_
      simp only [go_sem, s4]
  · rw [decide_eq_false (fun e => ne (by rw [e]))] at hR
    refine hR _ ?_
    simp only [go_sem, s4]
theorem one_loop {C : Ctx} {I : Nat → Prop} {Q : Ex → St → Prop} {l : List (List UInt8)} {s : List UInt8} (hl : l.length < 100000)
    (hT : l.contains s = false → ∀ t, Q (.exit 0) (St.mk t (looko []))) (hF : l.contains s = true → ∀ t, t 4 = vB true → Q .ret (St.mk t (looko []))) :
    ∀ (m k : Nat), k + m = l.length → (l.take k).contains s = false → wpB C I g_ref08_one.l0 (St.mk (look [(0, vS s), (1, vStrs l), (5, vI k)]) (looko [])) Q := by
  intro m
  induction m with
  | zero =>
    intro k hk hr
    refine g_ref08_one_l0_sh rfl ?_
    have : k = l.length := by omega
    subst this
    rw [List.take_length] at hr
    repeat (first | simp only [go_sem, List.length_map, Int.lt_irrefl, decide_false] | refine Unf.h ?_)
    exact hT hr _
  | succ m ih =>
    intro k hk hr
    refine g_ref08_one_l0_sh rfl ?_
    have hlt : k < l.length := by omega
    have hlt' : ((k : Int) < (l.length : Int)) := by omega
    have he := List.getElem?_eq_getElem hlt
    have hw : IntKind.i64.wrap ((k : Int) + 1) = ((k + 1 : Nat) : Int) := by rw [wrapI (by omega) (by omega)]; omega
    by_cases h : l[k] = s
    · have hb : (l[k] == s) = true := by simp [h]
      repeat (first | simp only [go_sem, List.length_map, hlt', decide_true, Int.natCast_nonneg, Int.toNat_natCast, getMap encS1 he, encS1, hb] | refine Unf.h ?_)
      refine hF ?_ _ rfl
      simp only [List.contains_iff_mem]
      rw [← h]; exact List.getElem_mem hlt
    · have hb : (l[k] == s) = false := by simpa using h
      repeat (first | simp only [go_sem, List.length_map, hlt', decide_true, Int.natCast_nonneg, Int.toNat_natCast, getMap encS1 he, encS1, hb, hw] | refine Unf.h ?_)
      refine ih (k + 1) (by omega) ?_
      rw [List.take_add_one, he]
      simp only [Option.toList_some, List.contains_eq_mem, List.mem_append, List.mem_singleton, decide_eq_false_iff_not, not_or] at hr ⊢
      exact ⟨hr, fun e => h e.symm⟩
theorem refOne {C : Ctx} (h : okFn C.P C.φ 154 g_ref08_one = true) (s : List UInt8) (l : List (List UInt8)) (hl : l.length < 100000) : SoundAt C 154 ⟨[vS s, vStrs l], looko []⟩ ⟨vB (l.contains s), looko []⟩ := by
  refine SoundAt.of_run h rfl (fun Q hR hN => ?_)
  rw [entry2]
  repeat (first | simp only [go_sem] | refine Unf.h ?_)
  refine one_loop hl (fun hc t => ?_) (fun hc t h4 => ?_) l.length 0 (by omega) rfl
  · rw [hc] at hR
    repeat (first | simp only [go_sem] | refine Unf.h ?_)
    refine hR _ ?_
    simp only [go_sem]
  · rw [hc] at hR
    refine hR _ ?_
    simp only [go_sem, h4]
theorem refTaken {C : Ctx} (h : okFn C.P C.φ 152 g_ref08_Taken = true) (hOne : ∀ (s : List UInt8) (l : List (List UInt8)), l.length < 100000 → SoundAt C 154 ⟨[vS s, vStrs l], looko []⟩ ⟨vB (l.contains s), looko []⟩) (s : List UInt8) :
    SoundAt C 152 ⟨[vS s], looko []⟩ ⟨vB (!namedB s), looko []⟩ := by
  have t1 := hOne s takenL (by decide)
  refine SoundAt.of_run h rfl (fun Q hR hN => ?_)
  rw [entry1]
  repeat (first | simp only [go_sem, partsN] | refine Unf.h ?_)
  refine callK_plain t1 (fun _ => rfl) ?_
  repeat (first | simp only [go_sem] | refine Unf.h ?_)
  refine hR _ ?_
  simp only [go_sem, namedB, Bool.not_not]
theorem ref_loop0 {C : Ctx} {I : Nat → Prop} (hI : ∀ n, ¬ I n) {Q : Ex → St → Prop} {p : Prog} {b2 : Ob} (hb2 : b2 = .box [.cap0, .cap0]) (hp : p.rules.length < 100000)
    (hT : ∀ s, s 1 = .ptr 1 0 → s 2 = .ptr 2 0 → s 3 = .ptr 3 0 → Q (.exit 0) (St.mk s (looko [(1, some (.box [.d (.sl (p.rules.map encRl)), .d (.sl (p.exprs.map encX))])), (2, some b2), (3, some (.box [ownV 19 p.rules, .cap0])), (19, ownO 3 encRl p.rules), (33, none)]))) :
    ∀ (m k : Nat), k + m = p.rules.length →
      wpB C I g_law08_ref.l0 (St.mk (look [(1, .ptr 1 0), (2, .ptr 2 0), (3, .ptr 3 0), (9, .d (.sl (p.rules.map encRl))), (10, vI p.rules.length), (11, vI k)]) (looko [(1, some (.box [.d (.sl (p.rules.map encRl)), .d (.sl (p.exprs.map encX))])), (2, some b2), (3, some (.box [ownV 19 (p.rules.take k), .cap0])), (19, ownO 3 encRl (p.rules.take k)), (33, none)])) Q := by
  subst hb2
  intro m
  induction m with
  | zero =>
    intro k hk
    refine g_law08_ref_l0_sh rfl ?_
    have hk' : k = p.rules.length := by omega
    subst hk'
    rw [List.take_length]
    repeat (first | simp only [go_sem, Int.lt_irrefl, decide_false] | refine Unf.h ?_)
    refine hT _ ?_ ?_ ?_ <;> rfl
  | succ m ih =>
    intro k hk
    refine g_law08_ref_l0_sh rfl ?_
    have hlt : k < p.rules.length := by omega
    have hlt' : ((k : Int) < (p.rules.length : Int)) := by omega
    have e1 := List.getElem?_eq_getElem hlt
    have hw : IntKind.i64.wrap ((k : Int) + 1) = ((k + 1 : Nat) : Int) := by rw [wrapI (by omega) (by omega)]; omega
    have next := ih (k + 1) (by omega)
    have hts : p.rules.take (k + 1) = p.rules.take k ++ [p.rules[k]] := by rw [List.take_add_one, e1]; rfl
    have hln : (p.rules.take k).length = k := by rw [List.length_take]; omega
    rw [hts] at next
    obtain ⟨acc, hacc⟩ : ∃ acc, p.rules.take k = acc := ⟨_, rfl⟩
    obtain ⟨a, ha⟩ : ∃ a, p.rules[k] = a := ⟨_, rfl⟩
    rw [hacc] at next hln ⊢
    rw [ha] at next e1
    rw [ownV_snoc, ownO_snoc] at next
    cases acc with
    | nil =>
      repeat (first | simp only [go_sem, hI, ownV, ownO, partsN, hlt', decide_true, Int.natCast_nonneg, Int.toNat_natCast, getMap encRl e1, encRl, hw] | refine Unf.h ?_)
      exact next
    | cons c l =>
      simp only [List.length_cons] at hln
      have h1 : l.length ≤ 140737488355326 := by omega
      have h2 : (l.length + 1 + 1) * 40 ≤ 140737488355328 := by omega
      repeat (first | simp only [go_sem, hI, ownV, ownO, partsN, hlt', decide_true, Int.natCast_nonneg, Int.toNat_natCast, getMap encRl e1, encRl, hw, List.length_map, h1, h2] | refine Unf.h ?_)
      exact next
theorem ref_loop1 {C : Ctx} {I : Nat → Prop} (hI : ∀ n, ¬ I n) {Q : Ex → St → Prop} {p : Prog} {b2 : Ob} (hb2 : b2 = .box [.cap0, .cap0]) (hp : p.exprs.length < 100000) {rs : List Rul} {c0 : V} {o19 : Option Ob} (hc : c0 = ownV 19 rs) (ho : o19 = ownO 3 encRl rs)
    (hT : ∀ s, s 2 = .ptr 2 0 → s 3 = .ptr 3 0 → Q (.exit 2) (St.mk s (looko [(2, some b2), (3, some (.box [c0, ownV 33 p.exprs])), (19, o19), (33, ownO 6 encX p.exprs)]))) :
    ∀ (m k : Nat), k + m = p.exprs.length →
      wpB C I g_law08_ref.l1 (St.mk (look [(2, .ptr 2 0), (3, .ptr 3 0), (23, .d (.sl (p.exprs.map encX))), (24, vI p.exprs.length), (25, vI k)]) (looko [(2, some b2), (3, some (.box [c0, ownV 33 (p.exprs.take k)])), (19, o19), (33, ownO 6 encX (p.exprs.take k))])) Q := by
  subst hb2 hc ho
  intro m
  induction m with
  | zero =>
    intro k hk
    refine g_law08_ref_l1_sh rfl ?_
    have hk' : k = p.exprs.length := by omega
    subst hk'
    rw [List.take_length]
    repeat (first | simp only [go_sem, Int.lt_irrefl, decide_false] | refine Unf.h ?_)
    refine hT _ ?_ ?_ <;> rfl
  | succ m ih =>
    intro k hk
    refine g_law08_ref_l1_sh rfl ?_
    have hlt : k < p.exprs.length := by omega
    have hlt' : ((k : Int) < (p.exprs.length : Int)) := by omega
    have e1 := List.getElem?_eq_getElem hlt
    have hw : IntKind.i64.wrap ((k : Int) + 1) = ((k + 1 : Nat) : Int) := by rw [wrapI (by omega) (by omega)]; omega
    have next := ih (k + 1) (by omega)
    have hts : p.exprs.take (k + 1) = p.exprs.take k ++ [p.exprs[k]] := by rw [List.take_add_one, e1]; rfl
    have hln : (p.exprs.take k).length = k := by rw [List.length_take]; omega
    rw [hts] at next
    obtain ⟨acc, hacc⟩ : ∃ acc, p.exprs.take k = acc := ⟨_, rfl⟩
    obtain ⟨a, ha⟩ : ∃ a, p.exprs[k] = a := ⟨_, rfl⟩
    rw [hacc] at next hln ⊢
    rw [ha] at next e1
    rw [ownV_snoc, ownO_snoc] at next
    cases acc with
    | nil =>
      cases rs <;> simp only [ownV, ownO] at next ⊢
      all_goals
       repeat (first | simp only [go_sem, hI, ownV, ownO, partsN, hlt', decide_true, Int.natCast_nonneg, Int.toNat_natCast, getMap encX e1, encX, hw] | refine Unf.h ?_)
       exact next
    | cons c l =>
      simp only [List.length_cons] at hln
      have h1 : l.length ≤ 140737488355326 := by omega
      have h2 : (l.length + 1 + 1) * 64 ≤ 140737488355328 := by omega
      cases rs <;> simp only [ownV, ownO] at next ⊢
      all_goals
       repeat (first | simp only [go_sem, hI, ownV, ownO, partsN, hlt', decide_true, Int.natCast_nonneg, Int.toNat_natCast, getMap encX e1, encX, hw, List.length_map, h1, h2] | refine Unf.h ?_)
       exact next
theorem treeRef {C : Ctx} (h : okFn C.P C.φ 146 g_law08_ref = true) (p : Prog) (h1 : p.rules.length < 100000) (h2 : p.exprs.length < 100000) :
    SoundAt C 146 ⟨[vProg p], looko []⟩ ⟨vProg p, looko []⟩ := by
  have key : SoundAt C 146 ⟨[vProg p], looko []⟩ ⟨.agg [slV encRl p.rules, slV encX p.exprs], looko []⟩ := by
    refine SoundAt.of_run h rfl (fun Q hR hN => ?_)
    rw [entry1]
    repeat (first | simp only [go_sem, List.length_map] | refine Unf.h ?_)
    refine ref_loop0 (fun n h => h) rfl h1 (fun s s1 s2 s3 => ?_) p.rules.length 0 (by omega)
    repeat (first | simp only [go_sem, s1, s2, s3, List.length_map] | refine Unf.h ?_)
    refine ref_loop1 (fun n h => h) rfl h2 (rs := p.rules) rfl rfl (fun s s2 s3 => ?_) p.exprs.length 0 (by omega)
    cases hr : p.rules with
    | nil =>
      cases hx : p.exprs with
      | nil =>
        rw [hr, hx] at hR
        repeat (first | simp only [go_sem, s2, s3, ownV, ownO] | refine Unf.h ?_)
        refine hR _ ?_
        rw [ends_frz]
        simp only [go_sem, slV]
      | cons b m =>
        rw [hr, hx] at hR
        repeat (first | simp only [go_sem, s2, s3, ownV, ownO] | refine Unf.h ?_)
        refine hR _ ?_
        rw [ends_frz]
        simp only [go_sem, slV]
    | cons a l =>
      cases hx : p.exprs with
      | nil =>
        rw [hr, hx] at hR
        repeat (first | simp only [go_sem, s2, s3, ownV, ownO] | refine Unf.h ?_)
        refine hR _ ?_
        rw [ends_frz]
        simp only [go_sem, slV]
      | cons b m =>
        rw [hr, hx] at hR
        repeat (first | simp only [go_sem, s2, s3, ownV, ownO] | refine Unf.h ?_)
        refine hR _ ?_
        rw [ends_frz]
        simp only [go_sem, slV]
  have := SoundAt.res_up key
  simpa [V.up, V.ups, slV_up] using this
def aw8a : List UInt8 := [108, 101, 116, 32, 97, 32, 61, 32, 49, 32, 43, 32, 50, 32, 42, 32, 98, 59]
def aw8b : List UInt8 := [108, 101, 116, 32, 97, 32, 61, 32, 59]
theorem aw8_a : parseP aw8a = (⟨[⟨wLet, [97], 4⟩], [xLeaf wWhole [] 1, xLeaf wWhole [] 2, xLeaf wName [98] 0, xNode [42] 1 2 0, xNode [43] 0 3 0]⟩, 0, 0) := by kernel_rfl
theorem aw8_b : parseP aw8b = (⟨[], []⟩, 8, 2) := by kernel_rfl
def HParse (C : Ctx) : Prop := ∀ s : List UInt8, s.length < 100000 → SoundAt C 144 ⟨[vS s], looko []⟩ ⟨vParse (parseP s), looko []⟩
theorem lawTreeAwake {C : Ctx} (h : okFn C.P C.φ 143 g_law08_awake = true) (hP : HParse C) : SoundAt C 143 ⟨[], looko []⟩ ⟨vB true, looko []⟩ := by
  have t1 := hP aw8a (by decide)
  have t2 := hP aw8b (by decide)
  rw [aw8_a] at t1
  rw [aw8_b] at t2
  simp only [vParse, vProg, List.map_cons, List.map_nil, encX, encRl, xLeaf, xNode, aw8a, aw8b] at t1 t2
  refine SoundAt.of_run h rfl (fun Q hR hN => ?_)
  rw [entry0]
  repeat' (first | simp only [go_sem] | refine callK_plain t1 (fun _ => rfl) ?_ | refine callK_plain t2 (fun _ => rfl) ?_ | refine Unf.h ?_ | refine hR _ ?_)
end Pay
