/- The law of names' kinds: CheckNames. -/
import Derived.Test.YtmglkghngkbioaaGreatDoorPayBc0
import Derived.Test.YtmglkghngkbioaaGreatDoorPayC32
import Derived.Test.YtmglkghngkbioaaGreatDoorPayC61
import Derived.Test.YtmglkghngkbioaaGreatDoorPayC65
import Derived.Test.YtmglkghngkbioaaGreatDoorPayC81
import Derived.Test.YtmglkghngkbioaaGreatDoorPayCk1
import Derived.Test.YtmglkghngkbioaaGreatDoorPaySh0_0
import Derived.Test.YtmglkghngkbioaaGreatDoorPaySh0_1
import Derived.Test.YtmglkghngkbioaaGreatDoorPayTr1
set_option linter.unusedSimpArgs false
set_option linter.unusedVariables false
namespace Pay
open Go
attribute [local irreducible] wpB opsB treeB drawB
theorem kindP_name (s : List UInt8) (l : List Bnd) : kindP [xLeaf wName s 0] 0 l = match bound s l with
    | none => (0, 0, 5)
    | some k => if 1 ≤ k ∧ k ≤ 4 then (k, 0, 0) else (0, 0, 7) := by
  have hn : needB [xLeaf wName s 0] 0 = some [true] := rfl
  have hx : kindX (xLeaf wName s 0) (getK [0] 0) (getK [0] 0) (getK [0] 0) l = nameK s l := rfl
  have hk : kindsB [xLeaf wName s 0] l [true] 0 [0] = if nameK s l = 0 then .inr (0, if bound s l = none then 5 else 7) else .inl [nameK s l] := by
    unfold kindsB
    simp only [List.getElem?_cons_zero]
    rw [show kindX (xLeaf wName s 0) (getK [0] (xLeaf wName s 0).a) (getK [0] (xLeaf wName s 0).b) (getK [0] (xLeaf wName s 0).c) l = nameK s l from rfl]
    by_cases h : nameK s l = 0
    · rw [if_pos h, if_pos h]
      simp [xLeaf]
    · rw [if_neg h, if_neg h]
      rfl
  unfold kindP
  rw [hn]
  simp only [List.length_cons, List.length_nil, Nat.zero_add, List.replicate_one]
  rw [hk]
  unfold nameK
  cases hb : bound s l with
  | none => simp
  | some k =>
    by_cases h : 1 ≤ k ∧ k ≤ 4
    · simp only [if_pos h]
      rw [if_neg (by omega)]
      rfl
    · simp only [if_neg h]
      simp
theorem names_loop {C : Ctx} {I : Nat → Prop} (hI : ∀ n, ¬ I n) {Q : Ex → St → Prop} {s : List UInt8} {l : List Bnd} {k at_ e : Int} (ha : SoundAt C 162 ⟨[], looko []⟩ ⟨vB true, looko []⟩) (hl : l.length < 100000)
    (he : (match bound s l with | none => ((0 : Int), (0 : Int), (5 : Int)) | some k => if 1 ≤ k ∧ k ≤ 4 then (k, 0, 0) else (0, 0, 7)) = (k, at_, e))
    (hT : ∀ t, bound s l = none → t 5 = vI k → t 6 = vI at_ → t 7 = vI e → Q (.exit 0) (St.mk t (looko [])))
    (hF : ∀ t, t 4 = vB true → Q .ret (St.mk t (looko []))) :
    ∀ (m i : Nat), i + m = l.length → bound s (l.drop i) = bound s l → wpB C I g_law10_CheckNames.l0 (St.mk (look [(0, vS s), (5, vI k), (6, vI at_), (7, vI e), (29, vBns l), (30, vI l.length), (31, vI i)]) (looko [])) Q := by
  intro m
  induction m with
  | zero =>
    intro i hi hb
    have hi' : i = l.length := by omega
    subst hi'
    rw [List.drop_length] at hb
    refine g_law10_CheckNames_l0_sh rfl ?_
    repeat (first | simp only [go_sem, Int.lt_irrefl, decide_false] | refine Unf.h ?_)
    exact hT _ hb.symm rfl rfl rfl
  | succ m ih =>
    intro i hi hb
    have hlt : i < l.length := by omega
    have hlt' : ((i : Int) < (l.length : Int)) := by omega
    have hg := List.getElem?_eq_getElem hlt
    have hw := wrapI (x := (i : Int) + 1) (by omega) (by omega)
    have ih' := ih (i + 1) (by omega)
    rw [List.drop_eq_getElem_cons hlt, bound] at hb
    generalize l[i] = b at *
    refine g_law10_CheckNames_l0_sh rfl ?_
    by_cases hs : b.name = s
    · rw [if_pos hs] at hb
      rw [← hb] at he
      simp only at he
      have q : (b.name == s) = true := by simp [hs]
      by_cases k1 : b.kind < 1
      · rw [if_neg (by omega)] at he
        injection he with he1 he2
        injection he2 with he2 he3
        subst he1 he2 he3
        repeat (first | simp only [go_sem, hI, hlt', decide_true, Int.natCast_nonneg, Int.toNat_natCast, getMap encBn hg, encBn, bne, q, k1] | refine Unf.h ?_)
        refine callK_plain ha (fun _ => rfl) ?_
        repeat (first | simp only [go_sem] | refine Unf.h ?_)
        exact hF _ rfl
      by_cases k4 : 4 < b.kind
      · rw [if_neg (by omega)] at he
        injection he with he1 he2
        injection he2 with he2 he3
        subst he1 he2 he3
        repeat (first | simp only [go_sem, hI, hlt', decide_true, decide_false, Int.natCast_nonneg, Int.toNat_natCast, getMap encBn hg, encBn, bne, q, k1, gt_iff_lt, k4] | refine Unf.h ?_)
        refine callK_plain ha (fun _ => rfl) ?_
        repeat (first | simp only [go_sem] | refine Unf.h ?_)
        exact hF _ rfl
      · rw [if_pos (by omega)] at he
        injection he with he1 he2
        injection he2 with he2 he3
        subst he1 he2 he3
        repeat (first | simp only [go_sem, hI, hlt', decide_true, decide_false, Int.natCast_nonneg, Int.toNat_natCast, getMap encBn hg, encBn, bne, q, k1, gt_iff_lt, k4] | refine Unf.h ?_)
        refine callK_plain ha (fun _ => rfl) ?_
        repeat (first | simp only [go_sem] | refine Unf.h ?_)
        exact hF _ rfl
    · rw [if_neg hs] at hb
      have q : (b.name == s) = false := by simp [hs]
      repeat (first | simp only [go_sem, hI, hlt', decide_true, Int.natCast_nonneg, Int.toNat_natCast, getMap encBn hg, encBn, bne, q, hw] | refine Unf.h ?_)
      exact ih' hb
theorem lawCheckNames {C : Ctx} (h : okFn C.P C.φ 168 g_law10_CheckNames = true) (ha : SoundAt C 162 ⟨[], looko []⟩ ⟨vB true, looko []⟩) (hK : ∀ (p : Prog) (root : Int) (l : List Bnd), p.exprs.length < 100000 → l.length < 100000 → -9223372036854775808 ≤ root ∧ root < 9223372036854775808 → SoundAt C 163 ⟨[vProg p, vI root, vBns l], looko []⟩ ⟨.tup [vI (kindP p.exprs root l).1, vI (kindP p.exprs root l).2.1, vI (kindP p.exprs root l).2.2], looko []⟩) (s : List UInt8) (l : List Bnd) : SoundAt C 168 ⟨[vS s, vBns l], looko []⟩ ⟨vB true, looko []⟩ := by
  refine SoundAt.of_run h rfl (fun Q hR hN => ?_)
  rw [entry2]
  by_cases h1 : l.length ≤ 60
  case neg =>
    have b1 : ((l.length : Int) > 60) := by omega
    repeat (first | simp only [go_sem, List.length_map, b1, decide_true] | refine Unf.h ?_)
    refine callK_plain ha (fun _ => rfl) ?_
    repeat (first | simp only [go_sem] | refine Unf.h ?_)
    refine hR _ ?_
    simp only [go_sem]
  have b1 : ¬ ((l.length : Int) > 60) := by omega
  by_cases h2 : s.length ≤ 30
  case neg =>
    have b2 : ((s.length : Int) > 30) := by omega
    repeat (first | simp only [go_sem, List.length_map, b1, b2, decide_true, decide_false] | refine Unf.h ?_)
    refine callK_plain ha (fun _ => rfl) ?_
    repeat (first | simp only [go_sem] | refine Unf.h ?_)
    refine hR _ ?_
    simp only [go_sem]
  have b2 : ¬ ((s.length : Int) > 30) := by omega
  have t0 := hK ⟨[], [xLeaf wName s 0]⟩ 0 l (by simp) (by omega) (by decide)
  obtain ⟨⟨k, at_, e⟩, hk⟩ : ∃ r, kindP [xLeaf wName s 0] 0 l = r := ⟨_, rfl⟩
  rw [hk] at t0
  rw [kindP_name] at hk
  have t1 : SoundAt C 163 ⟨[.agg [.cap0, .d (.sl [[.str wName, .str s, dI 0, dI 0, dI 0, dI 0]])], vI 0, vBns l], looko []⟩ ⟨.tup [vI k, vI at_, vI e], looko []⟩ := SoundAt.up t0
  repeat (first | simp only [go_sem, List.length_map, b1, b2, decide_false, partsN] | refine Unf.h ?_)
  refine callK_plain t1 (fun _ => rfl) ?_
  repeat (first | simp only [go_sem, List.length_map] | refine Unf.h ?_)
  refine names_loop (fun _ h => h) ha (by omega) hk (fun t hb t5 t6 t7 => ?_) (fun t t4 => ?_) l.length 0 (by omega) rfl
  · rw [hb] at hk
    injection hk with he1 he2
    injection he2 with he2 he3
    subst he1 he2 he3
    repeat (first | simp only [go_sem, t5, t6, t7] | refine Unf.h ?_)
    refine callK_plain ha (fun _ => rfl) ?_
    repeat (first | simp only [go_sem] | refine Unf.h ?_)
    refine hR _ ?_
    simp only [go_sem]
  · repeat (first | simp only [go_sem] | refine Unf.h ?_)
    refine hR _ ?_
    simp only [go_sem, t4]
end Pay
