/- Contracts: the copy of a program; the fixed answer. -/
import Derived.KernelRfl
import Derived.Test.YtcgeldjhobmijaaGreatDoorPayC48
import Derived.Test.YtcgeldjhobmijaaGreatDoorPayC61
import Derived.Test.YtcgeldjhobmijaaGreatDoorPayC63
import Derived.Test.YtcgeldjhobmijaaGreatDoorPayC65
import Derived.Test.YtcgeldjhobmijaaGreatDoorPayC66
import Derived.Test.YtcgeldjhobmijaaGreatDoorPayMTr1
import Derived.Test.YtcgeldjhobmijaaGreatDoorPaySh0_0
import Derived.Test.YtcgeldjhobmijaaGreatDoorPaySh0_1
set_option linter.unusedSimpArgs false
set_option linter.unusedVariables false
namespace Pay
open Go
attribute [local irreducible] wpB opsB treeB drawB
theorem ref_loop0 {C : Ctx} {I : Nat → Prop} (hI : ∀ n, ¬ I n) {Q : Ex → St → Prop} {p : Prog} {b2 : Ob} (hb2 : b2 = .box [.cap0, .cap0]) (hp : p.rules.length < 100000)
    (hT : ∀ s, s 1 = .ptr 1 0 → s 2 = .ptr 2 0 → s 3 = .ptr 3 0 → Q (.exit 0) (St.mk s (looko [(1, some (.box [.d (.sl (p.rules.map encRl)), .d (.sl (p.exprs.map encX))])), (2, some b2), (3, some (.box [ownV 19 p.rules, .cap0])), (19, ownO 3 encRl p.rules), (33, none)]))) :
    ∀ (m k : Nat), k + m = p.rules.length →
      wpB C I g_law08_ref.l0 (St.mk (look [(1, .ptr 1 0), (2, .ptr 2 0), (3, .ptr 3 0), (9, .d (.sl (p.rules.map encRl))), (10, vI p.rules.length), (11, vI k)]) (looko [(1, some (.box [.d (.sl (p.rules.map encRl)), .d (.sl (p.exprs.map encX))])), (2, some b2), (3, some (.box [ownV 19 (p.rules.take k), .cap0])), (19, ownO 3 encRl (p.rules.take k)), (33, none)])) Q := by
  subst hb2
  intro m
  induction m with
  | zero =>
    intro k hk
    refine g_law08_ref_l0_sh rfl ?_
    have hk' : k = p.rules.length := by omega
    subst hk'
    rw [List.take_length]
    repeat (first | simp only [go_sem, Int.lt_irrefl, decide_false] | refine Unf.h ?_)
    refine hT _ ?_ ?_ ?_ <;> rfl
  | succ m ih =>
    intro k hk
    refine g_law08_ref_l0_sh rfl ?_
    have hlt : k < p.rules.length := by omega
    have hlt' : ((k : Int) < (p.rules.length : Int)) := by omega
    have e1 := List.getElem?_eq_getElem hlt
    have hw : IntKind.i64.wrap ((k : Int) + 1) = ((k + 1 : Nat) : Int) := by rw [wrapI (by omega) (by omega)]; omega
    have next := ih (k + 1) (by omega)
    have hts : p.rules.take (k + 1) = p.rules.take k ++ [p.rules[k]] := by rw [List.take_add_one, e1]; rfl
    have hln : (p.rules.take k).length = k := by rw [List.length_take]; omega
    rw [hts] at next
    obtain ⟨acc, hacc⟩ : ∃ acc, p.rules.take k = acc := ⟨_, rfl⟩
    obtain ⟨a, ha⟩ : ∃ a, p.rules[k] = a := ⟨_, rfl⟩
    rw [hacc] at next hln ⊢
    rw [ha] at next e1
    rw [ownV_snoc, ownO_snoc] at next
    cases acc with
    | nil =>
      repeat (first | simp only [go_sem, hI, ownV, ownO, partsN, hlt', decide_true, Int.natCast_nonneg, Int.toNat_natCast, getMap encRl e1, encRl, hw] | refine Unf.h ?_)
      exact next
    | cons c l =>
      simp only [List.length_cons] at hln
      have h1 : l.length ≤ 140737488355326 := by omega
      have h2 : (l.length + 1 + 1) * 40 ≤ 140737488355328 := by omega
      repeat (first | simp only [go_sem, hI, ownV, ownO, partsN, hlt', decide_true, Int.natCast_nonneg, Int.toNat_natCast, getMap encRl e1, encRl, hw, List.length_map, h1, h2] | refine Unf.h ?_)
      exact next
theorem ref_loop1 {C : Ctx} {I : Nat → Prop} (hI : ∀ n, ¬ I n) {Q : Ex → St → Prop} {p : Prog} {b2 : Ob} (hb2 : b2 = .box [.cap0, .cap0]) (hp : p.exprs.length < 100000) {rs : List Rul} {c0 : V} {o19 : Option Ob} (hc : c0 = ownV 19 rs) (ho : o19 = ownO 3 encRl rs)
    (hT : ∀ s, s 2 = .ptr 2 0 → s 3 = .ptr 3 0 → Q (.exit 2) (St.mk s (looko [(2, some b2), (3, some (.box [c0, ownV 33 p.exprs])), (19, o19), (33, ownO 6 encX p.exprs)]))) :
    ∀ (m k : Nat), k + m = p.exprs.length →
      wpB C I g_law08_ref.l1 (St.mk (look [(2, .ptr 2 0), (3, .ptr 3 0), (23, .d (.sl (p.exprs.map encX))), (24, vI p.exprs.length), (25, vI k)]) (looko [(2, some b2), (3, some (.box [c0, ownV 33 (p.exprs.take k)])), (19, o19), (33, ownO 6 encX (p.exprs.take k))])) Q := by
  subst hb2 hc ho
  intro m
  induction m with
  | zero =>
    intro k hk
    refine g_law08_ref_l1_sh rfl ?_
    have hk' : k = p.exprs.length := by omega
    subst hk'
    rw [List.take_length]
    repeat (first | simp only [go_sem, Int.lt_irrefl, decide_false] | refine Unf.h ?_)
    refine hT _ ?_ ?_ <;> rfl
  | succ m ih =>
    intro k hk
    refine g_law08_ref_l1_sh rfl ?_
    have hlt : k < p.exprs.length := by omega
    have hlt' : ((k : Int) < (p.exprs.length : Int)) := by omega
    have e1 := List.getElem?_eq_getElem hlt
    have hw : IntKind.i64.wrap ((k : Int) + 1) = ((k + 1 : Nat) : Int) := by rw [wrapI (by omega) (by omega)]; omega
    have next := ih (k + 1) (by omega)
    have hts : p.exprs.take (k + 1) = p.exprs.take k ++ [p.exprs[k]] := by rw [List.take_add_one, e1]; rfl
    have hln : (p.exprs.take k).length = k := by rw [List.length_take]; omega
    rw [hts] at next
    obtain ⟨acc, hacc⟩ : ∃ acc, p.exprs.take k = acc := ⟨_, rfl⟩
    obtain ⟨a, ha⟩ : ∃ a, p.exprs[k] = a := ⟨_, rfl⟩
    rw [hacc] at next hln ⊢
    rw [ha] at next e1
    rw [ownV_snoc, ownO_snoc] at next
    cases acc with
    | nil =>
      cases rs <;> simp only [ownV, ownO] at next ⊢
      all_goals
       repeat (first | simp only [go_sem, hI, ownV, ownO, partsN, hlt', decide_true, Int.natCast_nonneg, Int.toNat_natCast, getMap encX e1, encX, hw] | refine Unf.h ?_)
       exact next
    | cons c l =>
      simp only [List.length_cons] at hln
      have h1 : l.length ≤ 140737488355326 := by omega
      have h2 : (l.length + 1 + 1) * 64 ≤ 140737488355328 := by omega
      cases rs <;> simp only [ownV, ownO] at next ⊢
      all_goals
       repeat (first | simp only [go_sem, hI, ownV, ownO, partsN, hlt', decide_true, Int.natCast_nonneg, Int.toNat_natCast, getMap encX e1, encX, hw, List.length_map, h1, h2] | refine Unf.h ?_)
       exact next
theorem treeRef {C : Ctx} (h : okFn C.P C.φ 146 g_law08_ref = true) (p : Prog) (h1 : p.rules.length < 100000) (h2 : p.exprs.length < 100000) :
    SoundAt C 146 ⟨[vProg p], looko []⟩ ⟨vProg p, looko []⟩ := by
  have key : SoundAt C 146 ⟨[vProg p], looko []⟩ ⟨.agg [slV encRl p.rules, slV encX p.exprs], looko []⟩ := by
    refine SoundAt.of_run h rfl (fun Q hR hN => ?_)
    rw [entry1]
    repeat (first | simp only [go_sem, List.length_map] | refine Unf.h ?_)
    refine ref_loop0 (fun n h => h) rfl h1 (fun s s1 s2 s3 => ?_) p.rules.length 0 (by omega)
    repeat (first | simp only [go_sem, s1, s2, s3, List.length_map] | refine Unf.h ?_)
    refine ref_loop1 (fun n h => h) rfl h2 (rs := p.rules) rfl rfl (fun s s2 s3 => ?_) p.exprs.length 0 (by omega)
    cases hr : p.rules with
    | nil =>
      cases hx : p.exprs with
      | nil =>
        rw [hr, hx] at hR
        repeat (first | simp only [go_sem, s2, s3, ownV, ownO] | refine Unf.h ?_)
        refine hR _ ?_
        rw [ends_frz]
        simp only [go_sem, slV]
      | cons b m =>
        rw [hr, hx] at hR
        repeat (first | simp only [go_sem, s2, s3, ownV, ownO] | refine Unf.h ?_)
        refine hR _ ?_
        rw [ends_frz]
        simp only [go_sem, slV]
    | cons a l =>
      cases hx : p.exprs with
      | nil =>
        rw [hr, hx] at hR
        repeat (first | simp only [go_sem, s2, s3, ownV, ownO] | refine Unf.h ?_)
        refine hR _ ?_
        rw [ends_frz]
        simp only [go_sem, slV]
      | cons b m =>
        rw [hr, hx] at hR
        repeat (first | simp only [go_sem, s2, s3, ownV, ownO] | refine Unf.h ?_)
        refine hR _ ?_
        rw [ends_frz]
        simp only [go_sem, slV]
  have := SoundAt.res_up key
  simpa [V.up, V.ups, slV_up] using this
def aw8a : List UInt8 := [108, 101, 116, 32, 97, 32, 61, 32, 49, 32, 43, 32, 50, 32, 42, 32, 98, 59]
def aw8b : List UInt8 := [108, 101, 116, 32, 97, 32, 61, 32, 59]
theorem aw8_a : parseP aw8a = (⟨[⟨wLet, [97], 4⟩], [xLeaf wWhole [] 1, xLeaf wWhole [] 2, xLeaf wName [98] 0, xNode [42] 1 2 0, xNode [43] 0 3 0]⟩, 0, 0) := by kernel_rfl
theorem aw8_b : parseP aw8b = (⟨[], []⟩, 8, 2) := by kernel_rfl
theorem lawTreeAwake {C : Ctx} (h : okFn C.P C.φ 143 g_law08_awake = true) (hP : HParse C) : SoundAt C 143 ⟨[], looko []⟩ ⟨vB true, looko []⟩ := by
  have t1 := hP aw8a (by decide)
  have t2 := hP aw8b (by decide)
  rw [aw8_a] at t1
  rw [aw8_b] at t2
  simp only [vParse, vProg, List.map_cons, List.map_nil, encX, encRl, xLeaf, xNode, aw8a, aw8b] at t1 t2
  refine SoundAt.of_run h rfl (fun Q hR hN => ?_)
  rw [entry0]
  repeat' (first | simp only [go_sem] | refine callK_plain t1 (fun _ => rfl) ?_ | refine callK_plain t2 (fun _ => rfl) ?_ | refine Unf.h ?_ | refine hR _ ?_)
end Pay
