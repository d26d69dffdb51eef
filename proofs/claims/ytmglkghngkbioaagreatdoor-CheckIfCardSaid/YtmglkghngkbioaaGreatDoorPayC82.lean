/- Contracts: the kind of one. -/
import Derived.Test.YtmglkghngkbioaaGreatDoorPayBc0
import Derived.Test.YtmglkghngkbioaaGreatDoorPayC32
import Derived.Test.YtmglkghngkbioaaGreatDoorPayC61
import Derived.Test.YtmglkghngkbioaaGreatDoorPayC80
import Derived.Test.YtmglkghngkbioaaGreatDoorPayC81
import Derived.Test.YtmglkghngkbioaaGreatDoorPayCk1
import Derived.Test.YtmglkghngkbioaaGreatDoorPaySh0_0
import Derived.Test.YtmglkghngkbioaaGreatDoorPayTr1
set_option linter.unusedSimpArgs false
set_option linter.unusedVariables false
namespace Pay
open Go
attribute [local irreducible] wpB opsB treeB drawB
theorem findB_cases (s : List UInt8) : ∀ (l : List Bnd) (k : Nat), (bound s l = none ∧ findB s l k = -1) ∨ ∃ j b, l[j]? = some b ∧ findB s l k = ((k + j : Nat) : Int) ∧ bound s l = some b.kind
  | [], k => .inl ⟨rfl, rfl⟩
  | b :: r, k => by
    by_cases h : b.name = s
    · exact .inr ⟨0, b, rfl, by simp [findB, h], by simp [bound, h]⟩
    · rcases findB_cases s r (k + 1) with ⟨h1, h2⟩ | ⟨j, c, h1, h2, h3⟩
      · exact .inl ⟨by simp [bound, h, h1], by simp [findB, h, h2]⟩
      · exact .inr ⟨j + 1, c, by simpa using h1, by rw [findB, if_neg h, h2]; congr 1; omega, by rw [bound, if_neg h, h3]⟩
theorem getK_some {ks : List Int} {p : Int} (h : 0 ≤ p ∧ p < (ks.length : Int)) : ks[p.toNat]? = some (getK ks p) := by
  have : p.toNat < ks.length := by omega
  rw [getK, List.getElem?_eq_getElem this]; rfl
/-- The parts of an expression lie ahead of so many. -/
def partsOk (x : Xpr) (n : Int) : Prop := ∀ p ∈ partsI x, 0 ≤ p ∧ p < n
theorem kind_two {x : Xpr} (h : (x.op == wWhole) = false ∧ (x.op == wAmount) = false ∧ (x.op == wRate) = false ∧ (x.op == wName) = false ∧ (x.op == wNeg) = false ∧ (x.op == wIf) = false) (a b c : Int) (l : List Bnd) : kindX x a b c l = twoK x.op a b := by
  simp only [beq_eq_false_iff_ne] at h
  obtain ⟨h1, h2, h3, h4, h5, h6⟩ := h
  simp [kindX, h1, h2, h3, h4, h5, h6]
theorem ckKind {C : Ctx} (h : okFn C.P C.φ 185 g_check_kind = true) (h205 : okFn C.P C.φ 205 g_slices_IndexFunc_Bind = true) (h204 : okFn C.P C.φ 204 g_check_kind_1 = true)
    (hT : ∀ (op : List UInt8) {a b : Int}, 0 ≤ a ∧ a ≤ 4 → 0 ≤ b ∧ b ≤ 4 → SoundAt C 206 ⟨[vS op, vI a, vI b], looko []⟩ ⟨vI (twoK op a b), looko []⟩)
    (x : Xpr) (ks : List Int) (l : List Bnd) (hl : l.length < 100000) (hx : partsOk x ks.length) (hk : ∀ k ∈ ks, 0 ≤ k ∧ k ≤ 4) :
    SoundAt C 185 ⟨[vX x, .d (.sl (ks.map encI1)), vBns l], looko []⟩ ⟨vI (kindX x (getK ks x.a) (getK ks x.b) (getK ks x.c) l), looko []⟩ := by
  have hg : ∀ p : Int, 0 ≤ p ∧ p < (ks.length : Int) → 0 ≤ getK ks p ∧ getK ks p ≤ 4 := fun p hp => hk _ (List.mem_of_getElem? (getK_some hp))
  refine SoundAt.of_codeB h rfl ?_
  rw [entry3]
  rcases op_parts x.op with e | e | e | e | e | e | hn
  · have er : kindX x (getK ks x.a) (getK ks x.b) (getK ks x.c) l = 3 := by simp [kindX, e]
    repeat (first | simp only [go_sem, e, er, ucons_beq, ucons_nil, unil_cons, unil_nil, true_or] | refine Unf.h ?_)
  · have er : kindX x (getK ks x.a) (getK ks x.b) (getK ks x.c) l = 1 := by simp [kindX, e]
    repeat (first | simp only [go_sem, e, er, ucons_beq, ucons_nil, unil_cons, unil_nil, true_or] | refine Unf.h ?_)
  · have er : kindX x (getK ks x.a) (getK ks x.b) (getK ks x.c) l = 2 := by simp [kindX, e]
    repeat (first | simp only [go_sem, e, er, ucons_beq, ucons_nil, unil_cons, unil_nil, true_or] | refine Unf.h ?_)
  · have er : kindX x (getK ks x.a) (getK ks x.b) (getK ks x.c) l = nameK x.name l := by simp [kindX, e]
    have hc := bnFind (m := 3) (cs := xC x) h205 (.inl rfl) (fun _ => rfl) (caps := [.ptr 3 0]) (s := x.name) (l := l) (fun b _ => ckKind1 h204 x b) hl
    rw [show xC x = [vS wName, vS x.name, vI x.val, vI x.a, vI x.b, vI x.c] by rw [← e]] at hc
    repeat (first | simp only [go_sem, e, er, ucons_beq, ucons_nil, unil_cons, unil_nil, true_or] | refine Unf.h ?_)
    refine callK_box rfl (fun _ => rfl) hc (fun _ => rfl) ?_
    rcases findB_cases x.name l 0 with ⟨f1, f2⟩ | ⟨j, b, f1, f2, f3⟩
    · have en : nameK x.name l = 0 := by simp [nameK, f1]
      rw [f2, en]
      repeat (first | simp only [go_sem, Int.reduceNegSucc, true_or] | refine Unf.h ?_)
    · have hj : j < l.length := (List.getElem?_eq_some_iff.1 f1).1
      have hj' : ((j : Int) < (l.length : Int)) := by omega
      rw [Nat.zero_add] at f2
      rw [f2]
      by_cases k1 : 1 ≤ b.kind
      · by_cases k4 : b.kind ≤ 4
        · have en : nameK x.name l = b.kind := by simp [nameK, f3, k1, k4]
          rw [en]
          repeat (first | simp only [go_sem, List.length_map, hj', Int.natCast_nonneg, decide_true, Int.toNat_natCast, getMap encBn f1, encBn, ge_iff_le, k1, k4, true_or] | refine Unf.h ?_)
        · have en : nameK x.name l = 0 := by simp [nameK, f3, k4]
          rw [en]
          repeat (first | simp only [go_sem, List.length_map, hj', Int.natCast_nonneg, decide_true, decide_false, Int.toNat_natCast, getMap encBn f1, encBn, ge_iff_le, k1, k4, true_or] | refine Unf.h ?_)
      · have en : nameK x.name l = 0 := by simp [nameK, f3, k1]
        rw [en]
        repeat (first | simp only [go_sem, List.length_map, hj', Int.natCast_nonneg, decide_true, decide_false, Int.toNat_natCast, getMap encBn f1, encBn, ge_iff_le, k1, true_or] | refine Unf.h ?_)
  · have hp : 0 ≤ x.a ∧ x.a < (ks.length : Int) := hx _ (by simp [partsI, isLeaf, e])
    have er : kindX x (getK ks x.a) (getK ks x.b) (getK ks x.c) l = (if getK ks x.a = 1 ∨ getK ks x.a = 3 then getK ks x.a else 0) := by simp [kindX, e]
    have ha := getK_some hp
    have hga := hg _ hp
    rw [er]
    generalize getK ks x.a = ka at *
    rcases kind5 hga with rfl | rfl | rfl | rfl | rfl
    all_goals
      repeat (first | simp only [go_sem, e, ucons_beq, ucons_nil, unil_cons, unil_nil, true_or, List.length_map, hp.1, hp.2, decide_true, getMap encI1 ha, encI1] | refine Unf.h ?_)
      try simp
  · have hp : 0 ≤ x.a ∧ x.a < (ks.length : Int) := hx _ (by simp [partsI, isLeaf, e])
    have hp2 : 0 ≤ x.b ∧ x.b < (ks.length : Int) := hx _ (by simp [partsI, isLeaf, e])
    have hp3 : 0 ≤ x.c ∧ x.c < (ks.length : Int) := hx _ (by simp [partsI, isLeaf, e])
    have er : kindX x (getK ks x.a) (getK ks x.b) (getK ks x.c) l = (if getK ks x.a = 4 ∧ getK ks x.b = getK ks x.c then getK ks x.b else 0) := by simp [kindX, e]
    have ha := getK_some hp
    have hb := getK_some hp2
    have hc := getK_some hp3
    rw [er]
    generalize getK ks x.a = ka at *
    generalize getK ks x.b = kb at *
    generalize getK ks x.c = kc at *
    by_cases h4 : ka = 4
    · by_cases hbc : kb = kc
      · have q4 : (ka == 4) = true := by simp [h4]
        have qbc : (kb == kc) = true := by simp [hbc]
        have eq : (if ka = 4 ∧ kb = kc then kb else 0) = kb := by simp [h4, hbc]
        rw [eq]
        repeat' (first | simp only [go_sem, e, ucons_beq, ucons_nil, unil_cons, unil_nil, true_or, List.length_map, hp.1, hp.2, hp2.1, hp2.2, hp3.1, hp3.2, decide_true, getMap encI1 ha, getMap encI1 hb, getMap encI1 hc, encI1, q4, qbc] | refine Unf.h ?_ | refine And.intro ?_ ?_)
      · have q4 : (ka == 4) = true := by simp [h4]
        have qbc : (kb == kc) = false := by simp [hbc]
        have eq : (if ka = 4 ∧ kb = kc then kb else 0) = 0 := by simp [hbc]
        rw [eq]
        repeat' (first | simp only [go_sem, e, ucons_beq, ucons_nil, unil_cons, unil_nil, true_or, List.length_map, hp.1, hp.2, hp2.1, hp2.2, hp3.1, hp3.2, decide_true, getMap encI1 ha, getMap encI1 hb, getMap encI1 hc, encI1, q4, qbc] | refine Unf.h ?_ | refine And.intro ?_ ?_)
    · have q4 : (ka == 4) = false := by simp [h4]
      have eq : (if ka = 4 ∧ kb = kc then kb else 0) = 0 := by simp [h4]
      rw [eq]
      repeat' (first | simp only [go_sem, e, ucons_beq, ucons_nil, unil_cons, unil_nil, true_or, List.length_map, hp.1, hp.2, decide_true, getMap encI1 ha, encI1, q4] | refine Unf.h ?_ | refine And.intro ?_ ?_)
  · obtain ⟨n1, n2, n3, n4, n5, n6⟩ := id hn
    have hpt := parts_two hn
    have hp : 0 ≤ x.a ∧ x.a < (ks.length : Int) := hx _ (by rw [hpt]; simp)
    have hp2 : 0 ≤ x.b ∧ x.b < (ks.length : Int) := hx _ (by rw [hpt]; simp)
    have er := kind_two hn (getK ks x.a) (getK ks x.b) (getK ks x.c) l
    have ha := getK_some hp
    have hb := getK_some hp2
    have ht := hT x.op (hg _ hp) (hg _ hp2)
    rw [er]
    generalize getK ks x.a = ka at *
    generalize getK ks x.b = kb at *
    repeat' (first | simp only [go_sem, n1, n2, n3, n4, n5, n6, true_or, List.length_map, hp.1, hp.2, hp2.1, hp2.2, decide_true, getMap encI1 ha, getMap encI1 hb, encI1] | refine Unf.h ?_ | refine And.intro ?_ ?_)
    exact ⟨_, ht, fun _ => rfl, rfl⟩
theorem ckKindOwn {C : Ctx} {x : Xpr} {ks : List Int} {l : List Bnd} {k : Int} (h : SoundAt C 185 ⟨[vX x, .d (.sl (ks.map encI1)), vBns l], looko []⟩ ⟨vI k, looko []⟩) :
    SoundAt C 185 ⟨[vX x, .own 25, vBns l], looko [(25, some (.row 1 (ks.map encI1)))]⟩ ⟨vI k, looko [(25, some (.row 1 (ks.map encI1)))]⟩ := SoundAt.borrow (flat_int C k) h
end Pay
