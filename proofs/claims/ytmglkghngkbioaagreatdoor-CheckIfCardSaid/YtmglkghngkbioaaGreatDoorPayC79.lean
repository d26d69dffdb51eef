/- Contracts: the copy of bindings. -/
import Derived.Test.YtmglkghngkbioaaGreatDoorPayBc0
import Derived.Test.YtmglkghngkbioaaGreatDoorPayC48
import Derived.Test.YtmglkghngkbioaaGreatDoorPayC61
import Derived.Test.YtmglkghngkbioaaGreatDoorPayC63
import Derived.Test.YtmglkghngkbioaaGreatDoorPayC81
import Derived.Test.YtmglkghngkbioaaGreatDoorPayCk1
import Derived.Test.YtmglkghngkbioaaGreatDoorPaySh1_0
set_option linter.unusedSimpArgs false
set_option linter.unusedVariables false
namespace Pay
open Go
attribute [local irreducible] wpB opsB treeB drawB
theorem refs_loop {C : Ctx} {I : Nat → Prop} (hI : ∀ n, ¬ I n) {Q : Ex → St → Prop} {l : List Bnd} (hp : l.length < 100000)
    (hT : ∀ s, s 3 = ownV 15 l → Q (.exit 0) (St.mk s (looko [(15, ownO 2 encBn l)]))) :
    ∀ (m k : Nat), k + m = l.length →
      wpB C I g_law10_refs.l0 (St.mk (look [(3, ownV 15 (l.take k)), (6, vBns l), (7, vI l.length), (8, vI k)]) (looko [(15, ownO 2 encBn (l.take k))])) Q := by
  intro m
  induction m with
  | zero =>
    intro k hk
    refine g_law10_refs_l0_sh rfl ?_
    have hk' : k = l.length := by omega
    subst hk'
    rw [List.take_length]
    repeat (first | simp only [go_sem, Int.lt_irrefl, decide_false] | refine Unf.h ?_)
    exact hT _ rfl
  | succ m ih =>
    intro k hk
    refine g_law10_refs_l0_sh rfl ?_
    have hlt : k < l.length := by omega
    have hlt' : ((k : Int) < (l.length : Int)) := by omega
    have e1 := List.getElem?_eq_getElem hlt
    have hw : IntKind.i64.wrap ((k : Int) + 1) = ((k + 1 : Nat) : Int) := by rw [wrapI (by omega) (by omega)]; omega
    have next := ih (k + 1) (by omega)
    have hts : l.take (k + 1) = l.take k ++ [l[k]] := by rw [List.take_add_one, e1]; rfl
    have hln : (l.take k).length = k := by rw [List.length_take]; omega
    rw [hts] at next
    obtain ⟨acc, hacc⟩ : ∃ acc, l.take k = acc := ⟨_, rfl⟩
    obtain ⟨a, ha⟩ : ∃ a, l[k] = a := ⟨_, rfl⟩
    rw [hacc] at next hln ⊢
    rw [ha] at next e1
    rw [ownV_snoc, ownO_snoc] at next
    cases acc with
    | nil =>
      repeat (first | simp only [go_sem, hI, ownV, ownO, partsN, hlt', decide_true, Int.natCast_nonneg, Int.toNat_natCast, getMap encBn e1, encBn, hw] | refine Unf.h ?_)
      exact next
    | cons c r =>
      simp only [List.length_cons] at hln
      have h1 : r.length ≤ 140737488355326 := by omega
      have h2 : (r.length + 1 + 1) * 24 ≤ 140737488355328 := by omega
      repeat (first | simp only [go_sem, hI, ownV, ownO, partsN, hlt', decide_true, Int.natCast_nonneg, Int.toNat_natCast, getMap encBn e1, encBn, hw, List.length_map, h1, h2] | refine Unf.h ?_)
      exact next
theorem r10Refs {C : Ctx} (h : okFn C.P C.φ 164 g_law10_refs = true) (l : List Bnd) (hl : l.length < 100000) : SoundAt C 164 ⟨[vBns l], looko []⟩ ⟨vBns l, looko []⟩ := by
  have key : SoundAt C 164 ⟨[vBns l], looko []⟩ ⟨slV encBn l, looko []⟩ := by
    refine SoundAt.of_run h rfl (fun Q hR hN => ?_)
    rw [entry1]
    repeat (first | simp only [go_sem, List.length_map] | refine Unf.h ?_)
    refine refs_loop (fun n h => h) hl (fun s s3 => ?_) l.length 0 (by omega)
    cases hr : l with
    | nil =>
      rw [hr] at hR s3
      repeat (first | simp only [go_sem, s3, ownV, ownO] | refine Unf.h ?_)
      refine hR _ ?_
      rw [ends_frz]
      simp only [go_sem, slV]
    | cons a r =>
      rw [hr] at hR s3
      repeat (first | simp only [go_sem, s3, ownV, ownO] | refine Unf.h ?_)
      refine hR _ ?_
      rw [ends_frz]
      simp only [go_sem, slV]
  have := SoundAt.res_up key
  simpa [V.up, V.ups, slV_up] using this
end Pay
