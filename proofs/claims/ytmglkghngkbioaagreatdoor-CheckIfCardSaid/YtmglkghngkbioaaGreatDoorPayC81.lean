/- Contracts: a name among bindings; the kind of one. -/
import Derived.Test.YtmglkghngkbioaaGreatDoorPayBc0
import Derived.Test.YtmglkghngkbioaaGreatDoorPayC32
import Derived.Test.YtmglkghngkbioaaGreatDoorPayC61
import Derived.Test.YtmglkghngkbioaaGreatDoorPayCk1
import Derived.Test.YtmglkghngkbioaaGreatDoorPaySh0_0
import Derived.Test.YtmglkghngkbioaaGreatDoorPayTr1
set_option linter.unusedSimpArgs false
set_option linter.unusedVariables false
namespace Pay
open Go
attribute [local irreducible] wpB opsB treeB drawB
abbrev vBn (b : Bnd) : V := .agg [vS b.name, vI b.kind]
abbrev vBns (l : List Bnd) : V := .d (.sl (l.map encBn))
abbrev xC (x : Xpr) : List V := [vS x.op, vS x.name, vI x.val, vI x.a, vI x.b, vI x.c]
theorem ckKind1 {C : Ctx} (h : okFn C.P C.φ 204 g_check_kind_1 = true) (x : Xpr) (b : Bnd) : SoundAt C 204 ⟨[vBn b, .ptr 3 0], looko [(3, some (.box (xC x)))]⟩ ⟨vB (b.name == x.name), looko [(3, some (.box (xC x)))]⟩ := by
  refine SoundAt.of_codeB h rfl ?_
  rw [entry2]
  repeat (first | simp only [go_sem, true_or] | refine Unf.h ?_)
theorem ckKind1' {C : Ctx} (h : okFn C.P C.φ 186 g_check_Kind_1 = true) (x : Xpr) (b : Bnd) : SoundAt C 186 ⟨[vBn b, .ptr 14 0], looko [(14, some (.box (xC x)))]⟩ ⟨vB (b.name == x.name), looko [(14, some (.box (xC x)))]⟩ := by
  refine SoundAt.of_codeB h rfl ?_
  rw [entry2]
  repeat (first | simp only [go_sem, true_or] | refine Unf.h ?_)
theorem findB_ge (s : List UInt8) : ∀ (l : List Bnd) (k : Nat), decide (findB s l k ≥ 0) = (bound s l).isSome
  | [], k => by simp [findB, bound]
  | b :: r, k => by
    simp only [findB, bound]
    by_cases h : b.name = s
    · simp [h]
    · simp only [if_neg h]; exact findB_ge s r (k + 1)
theorem bnFind_loop {C : Ctx} {I : Nat → Prop} {Q : Ex → St → Prop} {f m : Nat} (hm : m = 3 ∨ m = 14) {cs : List V} (hcs : ∀ n, V.refsL n cs = false) {caps : List V} {s : List UInt8} {l : List Bnd}
    (hp : ∀ b ∈ l, SoundAt C f ⟨vBn b :: caps, looko [(m, some (.box cs))]⟩ ⟨vB (b.name == s), looko [(m, some (.box cs))]⟩) (hl : l.length < 100000)
    (hT : ∀ t, findB s l 0 = -1 → Q (.exit 0) (St.mk t (looko [(m, some (.box cs))])))
    (hF : Q .ret (St.mk (look [(4, vI (findB s l 0))]) (looko [(m, some (.box cs))]))) :
    ∀ (n k : Nat), k + n = l.length → findB s l 0 = findB s (l.drop k) k → wpB C I g_slices_IndexFunc_Bind.l0 (St.mk (look [(0, vBns l), (1, .fn f caps), (7, vI l.length), (8, vI k)]) (looko [(m, some (.box cs))])) Q := by
  intro n
  induction n with
  | zero =>
    intro k hk hi
    have hk' : k = l.length := by omega
    subst hk'
    have ht := hT
    rcases hm with rfl | rfl
    all_goals
      refine g_slices_IndexFunc_Bind_l0_sh rfl ?_
      repeat (first | simp only [go_sem, Int.lt_irrefl, decide_false] | refine Unf.h ?_)
      exact ht _ (by rw [hi]; simp [findB])
  | succ n ih =>
    intro k hk hi
    have hlt : k < l.length := by omega
    have he := List.getElem?_eq_getElem hlt
    have hlt' : ((k : Int) < (l.length : Int)) := by omega
    have hw := wrapI (x := (k : Int) + 1) (by omega) (by omega)
    have hq := hp _ (List.getElem_mem hlt)
    have ih' := ih (k + 1) (by omega)
    rw [List.drop_eq_getElem_cons hlt] at hi
    by_cases hpe : l[k].name = s
    · have hi' : findB s l 0 = k := by rw [hi]; simp [findB, hpe]
      have hb : (l[k].name == s) = true := by simp [hpe]
      rw [hi'] at hF
      rw [hb] at hq
      rcases hm with rfl | rfl
      all_goals
        refine g_slices_IndexFunc_Bind_l0_sh rfl ?_
        repeat (first | simp only [go_sem, hlt', decide_true, Int.natCast_nonneg, Int.toNat_natCast, getMap encBn he, encBn] | refine Unf.h ?_)
        refine callK_box rfl hcs hq (fun _ => rfl) ?_
        repeat (first | simp only [go_sem] | refine Unf.h ?_)
        exact hF
    · have hi' : findB s l 0 = findB s (l.drop (k + 1)) (k + 1) := by rw [hi]; simp [findB, hpe]
      have hb : (l[k].name == s) = false := by simp [hpe]
      rw [hb] at hq
      rcases hm with rfl | rfl
      all_goals
        refine g_slices_IndexFunc_Bind_l0_sh rfl ?_
        repeat (first | simp only [go_sem, hlt', decide_true, Int.natCast_nonneg, Int.toNat_natCast, getMap encBn he, encBn] | refine Unf.h ?_)
        refine callK_box rfl hcs hq (fun _ => rfl) ?_
        repeat (first | simp only [go_sem, hw] | refine Unf.h ?_)
        exact ih' hi'
theorem bnFind {C : Ctx} (hC : okFn C.P C.φ 205 g_slices_IndexFunc_Bind = true) {f m : Nat} (hm : m = 3 ∨ m = 14) {cs : List V} (hcs : ∀ n, V.refsL n cs = false) {caps : List V} {s : List UInt8} {l : List Bnd}
    (hp : ∀ b ∈ l, SoundAt C f ⟨vBn b :: caps, looko [(m, some (.box cs))]⟩ ⟨vB (b.name == s), looko [(m, some (.box cs))]⟩) (hl : l.length < 100000) :
    SoundAt C 205 ⟨[vBns l, .fn f caps], looko [(m, some (.box cs))]⟩ ⟨vI (findB s l 0), looko [(m, some (.box cs))]⟩ := by
  have hlp := @bnFind_loop C
  refine SoundAt.of_codeB hC rfl ?_
  rw [entry2]
  have hm' := hm
  rcases hm' with rfl | rfl
  all_goals
    repeat (first | simp only [go_sem, List.length_map] | refine Unf.h ?_)
    refine bnFind_loop (by decide) hcs hp hl (fun t h => ?_) ?_ l.length 0 (by omega) rfl
    · repeat (first | simp only [go_sem, h, true_or] | refine Unf.h ?_)
    · repeat (first | simp only [go_sem, true_or] | refine Unf.h ?_)
theorem bnHas {C : Ctx} (hC : okFn C.P C.φ 187 g_slices_ContainsFunc_Bind = true) (hC2 : okFn C.P C.φ 205 g_slices_IndexFunc_Bind = true) {f m : Nat} (hm : m = 3 ∨ m = 14) {cs : List V} (hcs : ∀ n, V.refsL n cs = false) {caps : List V} {s : List UInt8} {l : List Bnd}
    (hp : ∀ b ∈ l, SoundAt C f ⟨vBn b :: caps, looko [(m, some (.box cs))]⟩ ⟨vB (b.name == s), looko [(m, some (.box cs))]⟩) (hl : l.length < 100000) :
    SoundAt C 187 ⟨[vBns l, .fn f caps], looko [(m, some (.box cs))]⟩ ⟨vB (bound s l).isSome, looko [(m, some (.box cs))]⟩ := by
  have hq := bnFind hC2 hm hcs hp hl
  have hg := findB_ge s l 0
  refine SoundAt.of_codeB hC rfl ?_
  rw [entry2]
  rcases hm with rfl | rfl
  all_goals
    repeat (first | simp only [go_sem] | refine Unf.h ?_)
    refine callK_box rfl hcs hq (fun _ => rfl) ?_
    repeat (first | simp only [go_sem, hg, true_or] | refine Unf.h ?_)
end Pay
