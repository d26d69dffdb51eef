/- Contracts: the document's table of kinds; the kind of one. -/
import Derived.Test.YtmglkghngkbioaaGreatDoorPayBc0
import Derived.Test.YtmglkghngkbioaaGreatDoorPayC32
import Derived.Test.YtmglkghngkbioaaGreatDoorPayC61
import Derived.Test.YtmglkghngkbioaaGreatDoorPayC80
import Derived.Test.YtmglkghngkbioaaGreatDoorPayC81
import Derived.Test.YtmglkghngkbioaaGreatDoorPayC82
import Derived.Test.YtmglkghngkbioaaGreatDoorPayCk1
import Derived.Test.YtmglkghngkbioaaGreatDoorPaySh1_0
import Derived.Test.YtmglkghngkbioaaGreatDoorPayTr1
set_option linter.unusedSimpArgs false
set_option linter.unusedVariables false
namespace Pay
open Go
attribute [local irreducible] wpB opsB treeB drawB
abbrev Row3 := Int × Int × Int
def tabK (op : List UInt8) : List Row3 :=
  if op = [43] ∨ op = [45] then [(1, 1, 1), (3, 3, 3)]
  else if op = [42] then [(3, 3, 3), (1, 3, 1), (3, 1, 1), (1, 2, 1), (2, 1, 1)]
  else if op = wMin ∨ op = wMax then [(1, 1, 1), (2, 2, 2), (3, 3, 3)]
  else if op = [61] ∨ op = [60, 62] then [(1, 1, 4), (2, 2, 4), (3, 3, 4), (4, 4, 4)]
  else if op = [60] ∨ op = [60, 61] ∨ op = [62] ∨ op = [62, 61] then [(1, 1, 4), (2, 2, 4), (3, 3, 4)]
  else []
def rowK3 (a b : Int) : List Row3 → Int
  | [] => 0
  | r :: t => if r.1 = a ∧ r.2.1 = b then r.2.2 else rowK3 a b t
theorem tab_none {op : List UInt8} (h : (op == [43]) = false ∧ (op == [45]) = false ∧ (op == [42]) = false ∧ (op == wMin) = false ∧ (op == wMax) = false ∧ (op == [61]) = false ∧ (op == [60, 62]) = false ∧ (op == [60]) = false ∧ (op == [60, 61]) = false ∧ (op == [62]) = false ∧ (op == [62, 61]) = false) : tabK op = [] := by
  simp only [beq_eq_false_iff_ne] at h
  obtain ⟨h1, h2, h3, h4, h5, h6, h7, h8, h9, h10, h11⟩ := h
  simp [tabK, h1, h2, h3, h4, h5, h6, h7, h8, h9, h10, h11]
theorem tab_two (op : List UInt8) {a b : Int} (ha : 0 ≤ a ∧ a ≤ 4) (hb : 0 ≤ b ∧ b ≤ 4) : rowK3 a b (tabK op) = twoK op a b := by
  rcases op_two op with rfl | rfl | rfl | rfl | rfl | rfl | rfl | rfl | rfl | rfl | rfl | hn
  all_goals first | (rw [tab_none hn, two_none hn]; rfl) | skip
  all_goals
    rcases kind5 ha with rfl | rfl | rfl | rfl | rfl <;> rcases kind5 hb with rfl | rfl | rfl | rfl | rfl <;> decide
def encR3 (r : Row3) : List D := [.sl [[dI r.1], [dI r.2.1], [dI r.2.2]]]
abbrev vTab (op : List UInt8) : V := slV encR3 (tabK op)
theorem r10Table {C : Ctx} (h : okFn C.P C.φ 207 g_ref10_table = true) (op : List UInt8) : SoundAt C 207 ⟨[vS op], looko []⟩ ⟨vTab op, looko []⟩ := by
  refine SoundAt.of_run h rfl (fun Q hR hN => ?_)
  rw [entry1]
  rcases op_two op with rfl | rfl | rfl | rfl | rfl | rfl | rfl | rfl | rfl | rfl | rfl | hn
  all_goals
    first
      | (repeat (first | simp only [go_sem, ucons_beq, ucons_nil, unil_cons, unil_nil, partsN] | refine Unf.h ?_)
         refine hR _ ?_
         simp only [go_sem]
         rfl)
      | (obtain ⟨n1, n2, n3, n4, n5, n6, n7, n8, n9, n10, n11⟩ := id hn
         repeat (first | simp only [go_sem, n1, n2, n3, n4, n5, n6, n7, n8, n9, n10, n11, partsN] | refine Unf.h ?_)
         refine hR _ ?_
         simp only [go_sem]
         show slV encR3 (tabK op) = .cap0
         rw [tab_none hn]; rfl)
theorem row_loop {C : Ctx} {I : Nat → Prop} {Q : Ex → St → Prop} {a b : Int} {rows : List Row3} {r : Int} (hl : rows.length < 100000)
    (hT : ∀ t, r = 0 → Q (.exit 1) (St.mk t (looko []))) (hF : ∀ t, t 10 = vI r → Q .ret (St.mk t (looko []))) :
    ∀ (m k : Nat), k + m = rows.length → rowK3 a b (rows.drop k) = r → wpB C I g_ref10_of.l0 (St.mk (look [(1, vI a), (2, vI b), (72, .d (.sl (rows.map encR3))), (73, vI rows.length), (74, vI k)]) (looko [])) Q := by
  intro m
  induction m with
  | zero =>
    intro k hk hr
    have hk' : k = rows.length := by omega
    subst hk'
    refine g_ref10_of_l0_sh rfl ?_
    repeat (first | simp only [go_sem, Int.lt_irrefl, decide_false] | refine Unf.h ?_)
    exact hT _ (by rw [← hr]; simp [rowK3])
  | succ m ih =>
    intro k hk hr
    have hlt : k < rows.length := by omega
    have he := List.getElem?_eq_getElem hlt
    have hlt' : ((k : Int) < (rows.length : Int)) := by omega
    have hw := wrapI (x := (k : Int) + 1) (by omega) (by omega)
    have ih' := ih (k + 1) (by omega)
    rw [List.drop_eq_getElem_cons hlt, rowK3] at hr
    generalize rows[k] = q at *
    refine g_ref10_of_l0_sh rfl ?_
    by_cases h1 : q.1 = a
    · have b1 : (q.1 == a) = true := by simp [h1]
      by_cases h2 : q.2.1 = b
      · have b2 : (q.2.1 == b) = true := by simp [h2]
        rw [if_pos ⟨h1, h2⟩] at hr
        repeat (first | simp only [go_sem, hlt', decide_true, Int.natCast_nonneg, Int.toNat_natCast, getMap encR3 he, encR3, b1, b2] | refine Unf.h ?_)
        exact hF _ (by rw [← hr]; rfl)
      · have b2 : (q.2.1 == b) = false := by simp [h2]
        rw [if_neg (by simp [h2])] at hr
        repeat (first | simp only [go_sem, hlt', decide_true, Int.natCast_nonneg, Int.toNat_natCast, getMap encR3 he, encR3, b1, b2, hw] | refine Unf.h ?_)
        exact ih' hr
    · have b1 : (q.1 == a) = false := by simp [h1]
      rw [if_neg (by simp [h1])] at hr
      repeat (first | simp only [go_sem, hlt', decide_true, Int.natCast_nonneg, Int.toNat_natCast, getMap encR3 he, encR3, b1, hw] | refine Unf.h ?_)
      exact ih' hr
theorem tab_refs (op : List UInt8) (n : Nat) : V.refs n (vTab op) = false := by
  show V.refs n (slV encR3 (tabK op)) = false
  cases tabK op <;> rfl
theorem tab_len (op : List UInt8) : (tabK op).length < 100000 := by
  unfold tabK
  repeat' split
  all_goals simp
theorem r10Of {C : Ctx} (h : okFn C.P C.φ 191 g_ref10_of = true) (hF : ∀ (l : List Bnd) (s : List UInt8), l.length < 100000 → SoundAt C 192 ⟨[vBns l, vS s], looko []⟩ ⟨vI (findB s l 0), looko []⟩)
    (hT : ∀ op : List UInt8, SoundAt C 207 ⟨[vS op], looko []⟩ ⟨vTab op, looko []⟩) (x : Xpr) {ka kb kc : Int} (ha : 0 ≤ ka ∧ ka ≤ 4) (hb : 0 ≤ kb ∧ kb ≤ 4) (l : List Bnd) (hl : l.length < 100000) :
    SoundAt C 191 ⟨[vX x, vI ka, vI kb, vI kc, vBns l], looko []⟩ ⟨vI (kindX x ka kb kc l), looko []⟩ := by
  refine SoundAt.of_run h rfl (fun Q hR hN => ?_)
  rw [entry5]
  rcases op_parts x.op with e | e | e | e | e | e | hn
  · have er : kindX x ka kb kc l = 3 := by simp [kindX, e]
    rw [er] at hR
    repeat (first | simp only [go_sem, e, ucons_beq, ucons_nil, unil_cons, unil_nil] | refine Unf.h ?_)
    refine hR _ ?_
    simp only [go_sem]
  · have er : kindX x ka kb kc l = 1 := by simp [kindX, e]
    rw [er] at hR
    repeat (first | simp only [go_sem, e, ucons_beq, ucons_nil, unil_cons, unil_nil] | refine Unf.h ?_)
    refine hR _ ?_
    simp only [go_sem]
  · have er : kindX x ka kb kc l = 2 := by simp [kindX, e]
    rw [er] at hR
    repeat (first | simp only [go_sem, e, ucons_beq, ucons_nil, unil_cons, unil_nil] | refine Unf.h ?_)
    refine hR _ ?_
    simp only [go_sem]
  · have er : kindX x ka kb kc l = nameK x.name l := by simp [kindX, e]
    have hc := hF l x.name hl
    rw [er] at hR
    repeat (first | simp only [go_sem, e, ucons_beq, ucons_nil, unil_cons, unil_nil] | refine Unf.h ?_)
    refine callK_plain hc (fun _ => rfl) ?_
    rcases findB_cases x.name l 0 with ⟨f1, f2⟩ | ⟨j, b, f1, f2, f3⟩
    · have en : nameK x.name l = 0 := by simp [nameK, f1]
      rw [en] at hR
      rw [f2]
      repeat (first | simp only [go_sem, Int.reduceNegSucc, decide_true] | refine Unf.h ?_)
      refine hR _ ?_
      simp only [go_sem]
    · have hj : j < l.length := (List.getElem?_eq_some_iff.1 f1).1
      have hj' : ((j : Int) < (l.length : Int)) := by omega
      have hj0 : ¬ ((j : Int) < 0) := by omega
      rw [Nat.zero_add] at f2
      rw [f2]
      by_cases k1 : b.kind < 1
      · have en : nameK x.name l = 0 := by simp [nameK, f3]; omega
        rw [en] at hR
        repeat (first | simp only [go_sem, List.length_map, hj', hj0, Int.natCast_nonneg, decide_true, decide_false, Int.toNat_natCast, getMap encBn f1, encBn, k1] | refine Unf.h ?_)
        refine hR _ ?_
        simp only [go_sem]
      by_cases k4 : 4 < b.kind
      · have en : nameK x.name l = 0 := by simp [nameK, f3]; omega
        rw [en] at hR
        repeat (first | simp only [go_sem, List.length_map, hj', hj0, Int.natCast_nonneg, decide_true, decide_false, Int.toNat_natCast, getMap encBn f1, encBn, k1, gt_iff_lt, k4] | refine Unf.h ?_)
        refine hR _ ?_
        simp only [go_sem]
      · have en : nameK x.name l = b.kind := by simp [nameK, f3]; omega
        rw [en] at hR
        repeat (first | simp only [go_sem, List.length_map, hj', hj0, Int.natCast_nonneg, decide_true, decide_false, Int.toNat_natCast, getMap encBn f1, encBn, k1, gt_iff_lt, k4] | refine Unf.h ?_)
        refine hR _ ?_
        simp only [go_sem]
  · have er : kindX x ka kb kc l = (if ka = 1 ∨ ka = 3 then ka else 0) := by simp [kindX, e]
    rw [er] at hR
    rcases kind5 ha with rfl | rfl | rfl | rfl | rfl
    all_goals
      repeat (first | simp only [go_sem, e, ucons_beq, ucons_nil, unil_cons, unil_nil] | refine Unf.h ?_)
      refine hR _ ?_
      simp only [go_sem]
      try rfl
  · have er : kindX x ka kb kc l = (if ka = 4 ∧ kb = kc then kb else 0) := by simp [kindX, e]
    rw [er] at hR
    by_cases h4 : ka = 4
    · have q4 : (ka == 4) = true := by simp [h4]
      by_cases hbc : kb = kc
      · have qbc : (kb == kc) = true := by simp [hbc]
        rw [if_pos ⟨h4, hbc⟩] at hR
        repeat (first | simp only [go_sem, e, ucons_beq, ucons_nil, unil_cons, unil_nil, q4, qbc] | refine Unf.h ?_)
        refine hR _ ?_
        simp only [go_sem]
      · have qbc : (kb == kc) = false := by simp [hbc]
        rw [if_neg (by simp [hbc])] at hR
        repeat (first | simp only [go_sem, e, ucons_beq, ucons_nil, unil_cons, unil_nil, q4, qbc] | refine Unf.h ?_)
        refine hR _ ?_
        simp only [go_sem]
    · have q4 : (ka == 4) = false := by simp [h4]
      rw [if_neg (by simp [h4])] at hR
      repeat (first | simp only [go_sem, e, ucons_beq, ucons_nil, unil_cons, unil_nil, q4] | refine Unf.h ?_)
      refine hR _ ?_
      simp only [go_sem]
  · obtain ⟨n1, n2, n3, n4, n5, n6⟩ := id hn
    have er := kind_two hn ka kb kc l
    have ht := hT x.op
    have htl := tab_len x.op
    rw [er, ← tab_two x.op ha hb] at hR
    repeat (first | simp only [go_sem, n1, n2, n3, n4, n5, n6] | refine Unf.h ?_)
    refine callK_plain ht (tab_refs _) ?_
    by_cases hp : tabK x.op = []
    · have hv : vTab x.op = .cap0 := by show slV encR3 (tabK x.op) = _; rw [hp]; rfl
      rw [hp] at hR
      repeat (first | simp only [go_sem, hv] | refine Unf.h ?_)
      refine g_ref10_of_l0_sh rfl ?_
      repeat (first | simp only [go_sem] | refine Unf.h ?_)
      refine hR _ ?_
      simp only [go_sem]
      rfl
    · have hv : vTab x.op = .d (.sl ((tabK x.op).map encR3)) := by
        show slV encR3 (tabK x.op) = _
        obtain ⟨q, qs, hq⟩ := List.exists_cons_of_ne_nil hp
        rw [hq]; rfl
      repeat (first | simp only [go_sem, hv, List.length_map] | refine Unf.h ?_)
      refine row_loop (a := ka) (b := kb) (rows := tabK x.op) htl (fun t h => ?_) (fun t h => ?_) (tabK x.op).length 0 (by omega) rfl
      · rw [List.drop_zero] at h
        rw [h] at hR
        repeat (first | simp only [go_sem] | refine Unf.h ?_)
        refine hR _ ?_
        simp only [go_sem]
      · rw [List.drop_zero] at h
        repeat (first | simp only [go_sem] | refine Unf.h ?_)
        refine hR _ ?_
        simp only [go_sem, h]
end Pay
