/- Contracts: lists added, number by number. -/
import Derived.Test.YtbhjjheefdilbaaPayW
import Derived.Test.YtbhjjheefdilbaaPaySh0
import Derived.Test.YtbhjjheefdilbaaPaySh1
set_option linter.unusedSimpArgs false
set_option linter.unusedVariables false
namespace Pay
open Go
attribute [local irreducible] wpB opsB treeB drawB

def addF (bs : List Int) (i : Nat) (a : Int) : Int := match bs[i]? with | some b => IntKind.i64.wrap (a + b) | none => a
def addS (as bs : List Int) : List Int := as.mapIdx (addF bs)
def addK (as bs : List Int) (k : Nat) : List Int := as.mapIdx (fun i a => if i < k then addF bs i a else a)
theorem addK_len (as bs : List Int) (k : Nat) : (addK as bs k).length = as.length := by simp [addK]
theorem addK_0 (as bs : List Int) : addK as bs 0 = as := by
  apply List.ext_getElem
  · simp [addK]
  · intro i h1 h2; simp [addK]
theorem addK_end (as bs : List Int) : addK as bs as.length = addS as bs := by
  apply List.ext_getElem
  · simp [addK, addS]
  · intro i h1 h2
    have : i < as.length := by simpa [addS] using h2
    simp [addK, addS, this]
theorem addK_get {as bs : List Int} {k : Nat} (h : k < as.length) : (addK as bs k)[k]? = some as[k] := by
  simp [addK, h]
theorem addK_set {as bs : List Int} {k : Nat} {b : Int} (h : k < as.length) (hb : bs[k]? = some b) : (addK as bs k).set k (IntKind.i64.wrap (as[k] + b)) = addK as bs (k + 1) := by
  apply List.ext_getElem
  · simp [addK]
  · intro i h1 h2
    by_cases e : i = k
    · subst e; simp [addK, addF, hb]
    · have e' : ¬ k = i := fun x => e x.symm
      simp only [addK, List.getElem_set, e', if_false, List.getElem_mapIdx]
      by_cases hi : i < k
      · simp [hi, show i < k + 1 by omega]
      · simp [hi, show ¬ i < k + 1 by omega]
theorem addK_skip {as bs : List Int} {k : Nat} (hb : bs[k]? = none) : addK as bs (k + 1) = addK as bs k := by
  apply List.ext_getElem
  · simp [addK]
  · intro i h1 h2
    simp only [addK, List.getElem_mapIdx]
    by_cases e : i = k
    · subst e; simp [addF, hb]
    · by_cases hi : i < k
      · simp [hi, show i < k + 1 by omega]
      · simp [hi, show ¬ i < k + 1 by omega]

theorem add_loop {C : Ctx} {I : Nat → Prop} {Q : Ex → St → Prop} {m : Nat} {as bs : List Int} (hl : as.length < 100000)
    (hT : ∀ s, Q (.exit 0) (St.mk s (looko [(m, some (.row 1 ((addS as bs).map encI)))]))) :
    ∀ (n k : Nat) (cur : List Int), k + n = as.length → cur = addK as bs k → wpB C I g_book_add.l0 (St.mk (look [(0, .own m), (1, .d (.sl (bs.map encI))), (6, vI as.length), (7, vI k)]) (looko [(m, some (.row 1 (cur.map encI)))])) Q := by
  intro n
  induction n with
  | zero =>
    intro k cur hk hcur
    subst hcur
    refine g_book_add_l0_sh rfl ?_
    have hk' : k = as.length := by omega
    subst hk'
    simp only [go_sem, ↓reduceIte, Nat.reduceEqDiff, Nat.reduceAdd, Nat.reduceSub, Nat.reduceMul, Nat.reduceLeDiff, Nat.reduceBEq, reduceCtorEq, Nat.reduceEqDiff, Int.reduceEq, Int.reduceLT, Int.reduceLE, Int.reduceNeg, Int.reduceBEq, Int.reduceBNe, Int.reduceToNat, Int.reducePow, Int.lt_irrefl, decide_false, addK_end]
    exact hT _
  | succ n ih =>
    intro k cur hk hcur
    subst hcur
    refine g_book_add_l0_sh rfl ?_
    have hlt : k < as.length := by omega
    have hlt' : ((k : Int) < (as.length : Int)) := by omega
    have hw : IntKind.i64.wrap ((k : Int) + 1) = (k : Int) + 1 := wrapI (by omega) (by omega)
    have next := ih (k + 1) _ (by omega) rfl
    cases hb : bs[k]? with
    | none =>
      have hb' : ¬ (k : Int) < (bs.length : Int) := by have := List.getElem?_eq_none_iff.1 hb; omega
      rw [addK_skip hb] at next
      repeat (first | simp only [go_sem, ↓reduceIte, Nat.reduceEqDiff, Nat.reduceAdd, Nat.reduceSub, Nat.reduceMul, Nat.reduceLeDiff, Nat.reduceBEq, reduceCtorEq, Nat.reduceEqDiff, Int.reduceEq, Int.reduceLT, Int.reduceLE, Int.reduceNeg, Int.reduceBEq, Int.reduceBNe, Int.reduceToNat, Int.reducePow, hlt', hb', hw, List.length_map, decide_true, decide_false] | refine g_book_add_c0_sh.mpr ?_ | refine g_book_add_code_sh.mpr ?_)
      exact next
    | some b =>
      have hb' : (k : Int) < (bs.length : Int) := by have := (List.getElem?_eq_some_iff.1 hb).1; omega
      rw [← addK_set hlt hb] at next
      repeat (first | simp only [go_sem, ↓reduceIte, Nat.reduceEqDiff, Nat.reduceAdd, Nat.reduceSub, Nat.reduceMul, Nat.reduceLeDiff, Nat.reduceBEq, reduceCtorEq, Nat.reduceEqDiff, Int.reduceEq, Int.reduceLT, Int.reduceLE, Int.reduceNeg, Int.reduceBEq, Int.reduceBNe, Int.reduceToNat, Int.reducePow, hlt', hb', hw, List.length_map, decide_true, decide_false, Int.natCast_nonneg, Int.toNat_natCast, getMap encI hb, getMap encI (addK_get hlt), encI, addK_len] | refine g_book_add_c0_sh.mpr ?_ | refine g_book_add_code_sh.mpr ?_)
      simp only [List.map_set, encI] at next
      exact next

theorem bookadd {C : Ctx} (h19 : okFn C.P C.φ 19 g_book_add = true) (m : Nat) (as bs : List Int) (hl : as.length < 100000) :
    SoundAt C 19 ⟨[.own m, .d (.sl (bs.map encI))], looko [(m, some (.row 1 (as.map encI)))]⟩ ⟨.tup [], looko [(m, some (.row 1 ((addS as bs).map encI)))]⟩ := by
  refine SoundAt.of_codeB h19 rfl ?_
  rw [entry2]
  repeat (first | simp only [go_sem, ↓reduceIte, Nat.reduceEqDiff, Nat.reduceAdd, Nat.reduceSub, Nat.reduceMul, Nat.reduceLeDiff, Nat.reduceBEq, reduceCtorEq, Nat.reduceEqDiff, Int.reduceEq, Int.reduceLT, Int.reduceLE, Int.reduceNeg, Int.reduceBEq, Int.reduceBNe, Int.reduceToNat, Int.reducePow, List.length_map] | refine g_book_add_c0_sh.mpr ?_ | refine g_book_add_code_sh.mpr ?_)
  refine add_loop hl (fun s => ?_) as.length 0 as (by omega) (addK_0 as bs).symm
  simp only [go_sem, ↓reduceIte, Nat.reduceEqDiff, Nat.reduceAdd, Nat.reduceSub, Nat.reduceMul, Nat.reduceLeDiff, Nat.reduceBEq, reduceCtorEq, Nat.reduceEqDiff, Int.reduceEq, Int.reduceLT, Int.reduceLE, Int.reduceNeg, Int.reduceBEq, Int.reduceBNe, Int.reduceToNat, Int.reducePow, or_true]
end Pay
