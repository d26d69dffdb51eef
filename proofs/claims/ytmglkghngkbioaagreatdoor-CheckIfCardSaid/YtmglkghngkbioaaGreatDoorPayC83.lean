/- Contracts: what an expression is made of. -/
import Derived.Test.YtmglkghngkbioaaGreatDoorPayBc0
import Derived.Test.YtmglkghngkbioaaGreatDoorPayC61
import Derived.Test.YtmglkghngkbioaaGreatDoorPayC65
import Derived.Test.YtmglkghngkbioaaGreatDoorPayC80
import Derived.Test.YtmglkghngkbioaaGreatDoorPayCk1
import Derived.Test.YtmglkghngkbioaaGreatDoorPaySh0_0
import Derived.Test.YtmglkghngkbioaaGreatDoorPayTr1
set_option linter.unusedSimpArgs false
set_option linter.unusedVariables false
namespace Pay
open Go
attribute [local irreducible] wpB opsB treeB drawB
theorem vPs_refs (l : List Int) (n : Nat) : V.refs n (vPs l) = false := by cases l <;> rfl
theorem parts_len (x : Xpr) : (partsI x).length < 100000 := by
  unfold partsI
  repeat' split
  all_goals simp
def encB1 (b : Bool) : List D := [.bool b]
theorem mark_loop {C : Ctx} {I : Nat → Prop} (hI : ¬ I 21) {Q : Ex → St → Prop} {B : List V} {ps : List Int} {i : Nat} {r : Option (List Bool)} (hl : ps.length < 100000)
    (hT : ∀ t out, r = some out → t 2 = .ptr 2 0 → t 6 = .own 21 → t 7 = vI i → Q (.exit 2) (St.mk t (looko [(2, some (.box B)), (21, some (.row 1 (out.map encB1)))])))
    (hF : ∀ t (row : Option Ob), r = none → t 4 = .cap0 → t 5 = vB false → Q .ret (St.mk t (looko [(21, row)]))) :
    ∀ (m k : Nat) (out : List Bool), k + m = ps.length → i ≤ out.length → markP (ps.drop k) i out = r →
      wpB C I g_check_needed.l1 (St.mk (look [(2, .ptr 2 0), (6, .own 21), (7, vI i), (40, .d (.sl (ps.map encI1))), (41, vI ps.length), (42, vI k)]) (looko [(2, some (.box B)), (21, some (.row 1 (out.map encB1)))])) Q := by
  intro m
  induction m with
  | zero =>
    intro k out hk ho hr
    have hk' : k = ps.length := by omega
    subst hk'
    refine g_check_needed_l1_sh rfl ?_
    repeat (first | simp only [go_sem, Int.lt_irrefl, decide_false] | refine Unf.h ?_)
    exact hT _ out (by rw [← hr]; simp [markP]) rfl rfl rfl
  | succ m ih =>
    intro k out hk ho hr
    have hlt : k < ps.length := by omega
    have he := List.getElem?_eq_getElem hlt
    have hlt' : ((k : Int) < (ps.length : Int)) := by omega
    have hw := wrapI (x := (k : Int) + 1) (by omega) (by omega)
    have ih' := ih (k + 1)
    rw [List.drop_eq_getElem_cons hlt, markP] at hr
    refine g_check_needed_l1_sh rfl ?_
    by_cases h0 : ps[k] < 0
    · rw [if_neg (by omega)] at hr
      repeat (first | simp only [go_sem, hlt', decide_true, Int.natCast_nonneg, Int.toNat_natCast, getMap encI1 he, encI1, h0] | refine Unf.h ?_)
      exact hF _ _ hr.symm rfl rfl
    by_cases h1 : ps[k] < (i : Int)
    · rw [if_pos (by omega)] at hr
      have h0' : 0 ≤ ps[k] := by omega
      have h1' : ps[k] < (out.length : Int) := by omega
      have hq := List.getElem?_eq_getElem (show ps[k].toNat < out.length by omega)
      have hs : (out.map encB1).set ps[k].toNat [D.bool true] = (out.set ps[k].toNat true).map encB1 := by rw [List.map_set]; rfl
      repeat (first | simp only [go_sem, hlt', decide_true, decide_false, Int.natCast_nonneg, Int.toNat_natCast, getMap encI1 he, encI1, h0, ge_iff_le, Int.not_le.2 h1, List.length_map, h0', h1', getMap encB1 hq, encB1, Nat.le_refl, hs, hw] | refine Unf.h ?_)
      exact ih' _ (by omega) (by rw [List.length_set]; exact ho) hr
    · rw [if_neg (by omega)] at hr
      repeat (first | simp only [go_sem, hlt', decide_true, decide_false, Int.natCast_nonneg, Int.toNat_natCast, getMap encI1 he, encI1, h0, ge_iff_le, Int.not_lt.1 h1] | refine Unf.h ?_)
      exact hF _ _ hr.symm rfl rfl
theorem need_loop {C : Ctx} {I : Nat → Prop} (hI : ¬ I 21) {Q : Ex → St → Prop} {p : Prog} {r : Option (List Bool)} (hE : p.exprs.length < 100000)
    (hP : ∀ x : Xpr, SoundAt C 203 ⟨[vX x], looko []⟩ ⟨vPs (partsI x), looko []⟩)
    (hT : ∀ t out (b : Option Ob), r = some out → t 6 = .own 21 → Q (.exit 0) (St.mk t (looko [(2, b), (21, some (.row 1 (out.map encB1)))])))
    (hF : ∀ t (row : Option Ob), r = none → t 4 = .cap0 → t 5 = vB false → Q .ret (St.mk t (looko [(21, row)]))) :
    ∀ (n : Nat) (out : List Bool), n ≤ out.length → out.length ≤ p.exprs.length → needL p.exprs n out = r →
      wpB C I g_check_needed.l0 (St.mk (look [(2, .ptr 2 0), (6, .own 21), (7, vI ((n : Int) - 1))]) (looko [(2, some (.box [.d (.sl (p.rules.map encRl)), .d (.sl (p.exprs.map encX))])), (21, some (.row 1 (out.map encB1)))])) Q := by
  intro n
  induction n with
  | zero =>
    intro out hn ho hr
    refine g_check_needed_l0_sh rfl ?_
    repeat (first | simp only [go_sem, decide_false] | refine Unf.h ?_)
    exact hT _ out _ (by rw [← hr]; rfl) rfl
  | succ n ih =>
    intro out hn ho hr
    have hlt : n < out.length := by omega
    have hlt' : ((n : Int) < (out.length : Int)) := by omega
    have he := List.getElem?_eq_getElem hlt
    have hx := List.getElem?_eq_getElem (show n < p.exprs.length by omega)
    have hx' : ((n : Int) < (p.exprs.length : Int)) := by omega
    have e1 : (((n + 1 : Nat) : Int) - 1) = (n : Int) := by omega
    have hw := wrapI (x := (n : Int) - 1) (by omega) (by omega)
    have hq := hP p.exprs[n]
    unfold needL at hr
    rw [he, hx] at hr
    rw [e1]
    refine g_check_needed_l0_sh rfl ?_
    cases hb : out[n] with
    | false =>
      rw [hb] at hr he
      simp only at hr
      repeat (first | simp only [go_sem, ge_iff_le, Int.natCast_nonneg, decide_true, Int.toNat_natCast, List.length_map, hlt', getMap encB1 he, encB1, hw] | refine Unf.h ?_)
      exact ih out (by omega) ho hr
    | true =>
      rw [hb] at hr he
      simp only at hr
      have fin : ∀ ps, partsI p.exprs[n] = ps → ∀ m, markP ps n out = m → (match m with | some o => needL p.exprs n o | none => none) = r := by
        intro ps h1 m h2; subst h1; subst h2; rw [← hr]; cases markP (partsI p.exprs[n]) n out <;> rfl
      repeat (first | simp only [go_sem, ge_iff_le, Int.natCast_nonneg, decide_true, Int.toNat_natCast, List.length_map, hlt', getMap encB1 he, encB1, hw, getMap encX hx, hx', encX] | refine Unf.h ?_)
      refine callK_plain hq (vPs_refs _) ?_
      have hps : (partsI p.exprs[n]).length < 100000 := parts_len _
      by_cases hpp : partsI p.exprs[n] = []
      · rw [hpp]
        have hm : needL p.exprs n out = r := fin [] hpp _ rfl
        repeat (first | simp only [go_sem, vPs, slV] | refine Unf.h ?_)
        refine g_check_needed_l1_sh rfl ?_
        repeat (first | simp only [go_sem, hw] | refine Unf.h ?_)
        exact ih out (by omega) ho hm
      · have hv : vPs (partsI p.exprs[n]) = .d (.sl ((partsI p.exprs[n]).map encI1)) := by
          obtain ⟨q, qs, hq⟩ := List.exists_cons_of_ne_nil hpp
          rw [hq]; rfl
        repeat (first | simp only [go_sem, hv, List.length_map] | refine Unf.h ?_)
        refine mark_loop (B := [.d (.sl (p.rules.map encRl)), .d (.sl (p.exprs.map encX))]) (ps := partsI p.exprs[n]) (i := n) hI hps (fun t out' h1 h2 h6 h7 => ?_) (fun t row h1 h4 h5 => ?_) (partsI p.exprs[n]).length 0 out (by simp) (by omega) rfl
        · have hm := fin _ rfl _ h1
          have hlen := markP_len _ _ _ _ h1
          repeat (first | simp only [go_sem, h2, h6, h7, hw] | refine Unf.h ?_)
          exact ih out' (by omega) (by omega) hm
        · have hm := fin _ rfl _ h1
          repeat (first | simp only [go_sem] | refine Unf.h ?_)
          exact hF t row hm.symm h4 h5
def vNeed (r : Option (List Bool)) : V := match r with
  | some out => .tup [.d (.sl (out.map encB1)), vB true]
  | none => .tup [.cap0, vB false]
theorem replicate_enc (n : Nat) : List.replicate n [D.bool false] = (List.replicate n false).map encB1 := by rw [List.map_replicate]; rfl
theorem ckNeeded {C : Ctx} (h : okFn C.P C.φ 184 g_check_needed = true) (hP : ∀ x : Xpr, SoundAt C 203 ⟨[vX x], looko []⟩ ⟨vPs (partsI x), looko []⟩) (p : Prog) (hE : p.exprs.length < 100000) (root : Int) (hroot : -9223372036854775808 ≤ root ∧ root < 9223372036854775808) :
    SoundAt C 184 ⟨[vProg p, vI root], looko []⟩ ⟨vNeed (needB p.exprs root), looko []⟩ := by
  refine SoundAt.of_run h rfl (fun Q hR hN => ?_)
  rw [entry2]
  by_cases h0 : root < 0
  · have e : needB p.exprs root = none := by unfold needB; rw [if_neg (by omega)]
    rw [e] at hR
    repeat (first | simp only [go_sem, h0, decide_true] | refine Unf.h ?_)
    refine hR _ ?_
    simp only [go_sem, vNeed]
  by_cases h1 : root < (p.exprs.length : Int)
  · have e : needB p.exprs root = needL p.exprs (root.toNat + 1) ((List.replicate (root.toNat + 1) false).set root.toNat true) := by unfold needB; rw [if_pos (by omega)]
    rw [e] at hR
    have hw := wrapI (x := root + 1) (by omega) (by omega)
    obtain ⟨k, rfl⟩ : ∃ k : Nat, root = (k : Int) := ⟨root.toNat, by omega⟩
    repeat (first | simp only [go_sem, h0, decide_false, ge_iff_le, Int.not_le.2 h1, List.length_map, hw] | refine Unf.h ?_)
    have hk1 : ((k : Int) + 1).toNat = k + 1 := by omega
    have hk2 : (k : Int).toNat = k := by omega
    refine ⟨by omega, by omega, by omega, ?_⟩
    rw [hk1, replicate_enc]
    rw [hk2] at hR
    have hq : (List.replicate (k + 1) false)[k]? = some false := by simp
    have hs : ((List.replicate (k + 1) false).map encB1).set k [D.bool true] = ((List.replicate (k + 1) false).set k true).map encB1 := by rw [List.map_set]; rfl
    have hlen : ((k : Int) < (((List.replicate (k + 1) false).length : Nat) : Int)) := by simp; omega
    obtain ⟨out, hout⟩ : ∃ out, (List.replicate (k + 1) false).set k true = out := ⟨_, rfl⟩
    have ho : out.length = k + 1 := by rw [← hout]; simp
    rw [hout] at hs hR
    generalize List.replicate (k + 1) false = o0 at *
    have hl := @need_loop C (fun _ => False) (fun h => h)
    repeat (first | simp only [go_sem, List.length_map, hlen, Int.natCast_nonneg, Int.toNat_natCast, getMap encB1 hq, encB1, Nat.le_refl, hs] | refine Unf.h ?_)
    have key := fun Q r => @need_loop C (fun _ => False) (fun h => h) Q p r hE hP
    have e1 : (((k + 1 : Nat) : Int) - 1) = (k : Int) := by omega
    rw [← e1]
    refine key _ (needL p.exprs (k + 1) out) (fun t o b h1 h6 => ?_) (fun t row h1 h4 h5 => ?_) (k + 1) out (by omega) (by omega) rfl
    · rw [h1] at hR
      repeat (first | simp only [go_sem, h6] | refine Unf.h ?_)
      refine hR _ ?_
      simp only [go_sem, vNeed]
    · rw [h1] at hR
      repeat (first | simp only [go_sem] | refine Unf.h ?_)
      refine hR _ ?_
      simp only [go_sem, vNeed, h4, h5]
  · have e : needB p.exprs root = none := by unfold needB; rw [if_neg (by omega)]
    rw [e] at hR
    repeat (first | simp only [go_sem, h0, decide_false, ge_iff_le, Int.not_lt.1 h1, decide_true, List.length_map] | refine Unf.h ?_)
    refine hR _ ?_
    simp only [go_sem, vNeed]
end Pay
