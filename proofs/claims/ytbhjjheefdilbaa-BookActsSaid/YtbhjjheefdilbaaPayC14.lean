/- Contracts: the place of an entry, by the document; a book and its own entries are the same. -/
import Derived.Test.YtbhjjheefdilbaaPayC1
import Derived.Test.YtbhjjheefdilbaaPayC3
import Derived.Test.YtbhjjheefdilbaaPayC12
import Derived.Test.YtbhjjheefdilbaaPayC13
import Derived.Test.YtbhjjheefdilbaaPaySh0
import Derived.Test.YtbhjjheefdilbaaPaySh1
set_option linter.unusedSimpArgs false
set_option linter.unusedVariables false
namespace Pay
open Go
attribute [local irreducible] wpB opsB treeB drawB

theorem refFind_loop {C : Ctx} (hLive : ∀ (l : List Ent) (at_ : Int), l.length < 1000 → SoundAt C 10 ⟨[vEnts l, vI at_], looko []⟩ ⟨vB (liveS l at_), looko []⟩) {I : Nat → Prop} (hI : ∀ n, ¬ I n) {Q : Ex → St → Prop} {l : List Ent} {id per : Int} (hl : l.length < 1000)
    (hT : ∀ s, findS l id per = -1 → Q (.exit 0) (St.mk s (looko [])))
    (hF : ∀ o, Q .ret (St.mk (look [(6, vI (findS l id per))]) o)) :
    ∀ (n k : Nat), k + n = l.length → findS l id per = findFrom (findP l id per) k (l.drop k) →
      wpB C I g_ref17_Find.l0 (St.mk (look [(0, vEnts l), (1, vI id), (2, vI per), (7, vI k)]) (looko [])) Q := by
  intro n
  induction n with
  | zero =>
    intro k hk hi
    refine g_ref17_Find_l0_sh rfl ?_
    have hk' : k = l.length := by omega
    subst hk'
    repeat (first | simp only [go_sem, ↓reduceIte, Nat.reduceEqDiff, Nat.reduceAdd, Nat.reduceSub, Nat.reduceMul, Nat.reduceLeDiff, Nat.reduceBEq, reduceCtorEq, Nat.reduceEqDiff, Int.reduceEq, Int.reduceLT, Int.reduceLE, Int.reduceNeg, Int.reduceBEq, Int.reduceBNe, Int.reduceToNat, Int.reducePow, List.length_map, Int.lt_irrefl, decide_false] | refine g_ref17_Find_o3_sh.mpr ?_ | refine g_ref17_Find_o2_sh.mpr ?_ | refine g_ref17_Find_o1_sh.mpr ?_ | refine g_ref17_Find_o0_sh.mpr ?_ | refine g_ref17_Find_c0_sh.mpr ?_ | refine g_ref17_Find_c1_sh.mpr ?_ | refine g_ref17_Find_c2_sh.mpr ?_ | refine g_ref17_Find_c3_sh.mpr ?_ | refine g_ref17_Find_code_sh.mpr ?_)
    exact hT _ (by rw [hi]; simp [findFrom])
  | succ n ih =>
    intro k hk hi
    refine g_ref17_Find_l0_sh rfl ?_
    have hlt : k < l.length := by omega
    have he := List.getElem?_eq_getElem hlt
    have hlt' : ((k : Int) < (l.length : Int)) := by omega
    have hw : IntKind.i64.wrap ((k : Int) + 1) = (k : Int) + 1 := wrapI (by omega) (by omega)
    rw [List.drop_eq_getElem_cons hlt] at hi
    have next : findP l id per k l[k] = false → wpB C I g_ref17_Find.l0 (St.mk (look [(0, vEnts l), (1, vI id), (2, vI per), (7, vI (k + 1 : Nat))]) (looko [])) Q := fun h =>
      ih (k + 1) (by omega) (by rw [hi]; simp [findFrom, h])
    by_cases h1 : l[k].id = id
    case neg =>
      have h1' : (l[k].id == id) = false := by simp [h1]
      repeat (first | simp only [go_sem, ↓reduceIte, Nat.reduceEqDiff, Nat.reduceAdd, Nat.reduceSub, Nat.reduceMul, Nat.reduceLeDiff, Nat.reduceBEq, reduceCtorEq, Nat.reduceEqDiff, Int.reduceEq, Int.reduceLT, Int.reduceLE, Int.reduceNeg, Int.reduceBEq, Int.reduceBNe, Int.reduceToNat, Int.reducePow, hI, List.length_map, hlt', Int.natCast_nonneg, Int.toNat_natCast, getMap enc he, enc_d2, h1', hw] | refine g_ref17_Find_o3_sh.mpr ?_ | refine g_ref17_Find_o2_sh.mpr ?_ | refine g_ref17_Find_o1_sh.mpr ?_ | refine g_ref17_Find_o0_sh.mpr ?_ | refine g_ref17_Find_c0_sh.mpr ?_ | refine g_ref17_Find_c1_sh.mpr ?_ | refine g_ref17_Find_c2_sh.mpr ?_ | refine g_ref17_Find_c3_sh.mpr ?_ | refine g_ref17_Find_code_sh.mpr ?_)
      exact next (by simp [findP, h1])
    by_cases h2 : l[k].per = per
    case neg =>
      have h1' : (l[k].id == id) = true := by simp [h1]
      have h2' : (l[k].per == per) = false := by simp [h2]
      repeat (first | simp only [go_sem, ↓reduceIte, Nat.reduceEqDiff, Nat.reduceAdd, Nat.reduceSub, Nat.reduceMul, Nat.reduceLeDiff, Nat.reduceBEq, reduceCtorEq, Nat.reduceEqDiff, Int.reduceEq, Int.reduceLT, Int.reduceLE, Int.reduceNeg, Int.reduceBEq, Int.reduceBNe, Int.reduceToNat, Int.reducePow, hI, List.length_map, hlt', Int.natCast_nonneg, Int.toNat_natCast, getMap enc he, enc_d2, enc_d1, h1', h2', hw] | refine g_ref17_Find_o3_sh.mpr ?_ | refine g_ref17_Find_o2_sh.mpr ?_ | refine g_ref17_Find_o1_sh.mpr ?_ | refine g_ref17_Find_o0_sh.mpr ?_ | refine g_ref17_Find_c0_sh.mpr ?_ | refine g_ref17_Find_c1_sh.mpr ?_ | refine g_ref17_Find_c2_sh.mpr ?_ | refine g_ref17_Find_c3_sh.mpr ?_ | refine g_ref17_Find_code_sh.mpr ?_)
      exact next (by simp [findP, h2])
    have h1' : (l[k].id == id) = true := by simp [h1]
    have h2' : (l[k].per == per) = true := by simp [h2]
    repeat (first | simp only [go_sem, ↓reduceIte, Nat.reduceEqDiff, Nat.reduceAdd, Nat.reduceSub, Nat.reduceMul, Nat.reduceLeDiff, Nat.reduceBEq, reduceCtorEq, Nat.reduceEqDiff, Int.reduceEq, Int.reduceLT, Int.reduceLE, Int.reduceNeg, Int.reduceBEq, Int.reduceBNe, Int.reduceToNat, Int.reducePow, hI, List.length_map, hlt', Int.natCast_nonneg, Int.toNat_natCast, getMap enc he, enc_d2, enc_d1, h1', h2', hw] | refine g_ref17_Find_o3_sh.mpr ?_ | refine g_ref17_Find_o2_sh.mpr ?_ | refine g_ref17_Find_o1_sh.mpr ?_ | refine g_ref17_Find_o0_sh.mpr ?_ | refine g_ref17_Find_c0_sh.mpr ?_ | refine g_ref17_Find_c1_sh.mpr ?_ | refine g_ref17_Find_c2_sh.mpr ?_ | refine g_ref17_Find_c3_sh.mpr ?_ | refine g_ref17_Find_code_sh.mpr ?_)
    refine callK_plain (hLive l k hl) (fun _ => rfl) ?_
    by_cases h3 : liveS l k = true
    · have hi' : findS l id per = k := by rw [hi]; simp [findFrom, findP, h1, h2, h3]
      repeat (first | simp only [go_sem, ↓reduceIte, Nat.reduceEqDiff, Nat.reduceAdd, Nat.reduceSub, Nat.reduceMul, Nat.reduceLeDiff, Nat.reduceBEq, reduceCtorEq, Nat.reduceEqDiff, Int.reduceEq, Int.reduceLT, Int.reduceLE, Int.reduceNeg, Int.reduceBEq, Int.reduceBNe, Int.reduceToNat, Int.reducePow, h3] | refine g_ref17_Find_o3_sh.mpr ?_ | refine g_ref17_Find_o2_sh.mpr ?_ | refine g_ref17_Find_o1_sh.mpr ?_ | refine g_ref17_Find_o0_sh.mpr ?_ | refine g_ref17_Find_c0_sh.mpr ?_ | refine g_ref17_Find_c1_sh.mpr ?_ | refine g_ref17_Find_c2_sh.mpr ?_ | refine g_ref17_Find_c3_sh.mpr ?_ | refine g_ref17_Find_code_sh.mpr ?_)
      rw [hi'] at hF
      exact hF _
    · have h3' : liveS l k = false := by simpa using h3
      repeat (first | simp only [go_sem, ↓reduceIte, Nat.reduceEqDiff, Nat.reduceAdd, Nat.reduceSub, Nat.reduceMul, Nat.reduceLeDiff, Nat.reduceBEq, reduceCtorEq, Nat.reduceEqDiff, Int.reduceEq, Int.reduceLT, Int.reduceLE, Int.reduceNeg, Int.reduceBEq, Int.reduceBNe, Int.reduceToNat, Int.reducePow, h3', hw] | refine g_ref17_Find_o3_sh.mpr ?_ | refine g_ref17_Find_o2_sh.mpr ?_ | refine g_ref17_Find_o1_sh.mpr ?_ | refine g_ref17_Find_o0_sh.mpr ?_ | refine g_ref17_Find_c0_sh.mpr ?_ | refine g_ref17_Find_c1_sh.mpr ?_ | refine g_ref17_Find_c2_sh.mpr ?_ | refine g_ref17_Find_c3_sh.mpr ?_ | refine g_ref17_Find_code_sh.mpr ?_)
      exact next (by simp [findP, h3'])

theorem refFind {C : Ctx} (h11 : okFn C.P C.φ 11 g_ref17_Find = true) (hLive : ∀ (l : List Ent) (at_ : Int), l.length < 1000 → SoundAt C 10 ⟨[vEnts l, vI at_], looko []⟩ ⟨vB (liveS l at_), looko []⟩)
    (l : List Ent) (id per : Int) (hl : l.length < 1000) :
    SoundAt C 11 ⟨[vEnts l, vI id, vI per], looko []⟩ ⟨vI (findS l id per), looko []⟩ := by
  refine SoundAt.of_run h11 rfl (fun Q hR _ => ?_)
  rw [entry3]
  repeat (first | simp only [go_sem, ↓reduceIte, Nat.reduceEqDiff, Nat.reduceAdd, Nat.reduceSub, Nat.reduceMul, Nat.reduceLeDiff, Nat.reduceBEq, reduceCtorEq, Nat.reduceEqDiff, Int.reduceEq, Int.reduceLT, Int.reduceLE, Int.reduceNeg, Int.reduceBEq, Int.reduceBNe, Int.reduceToNat, Int.reducePow] | refine g_ref17_Find_o3_sh.mpr ?_ | refine g_ref17_Find_o2_sh.mpr ?_ | refine g_ref17_Find_o1_sh.mpr ?_ | refine g_ref17_Find_o0_sh.mpr ?_ | refine g_ref17_Find_c0_sh.mpr ?_ | refine g_ref17_Find_c1_sh.mpr ?_ | refine g_ref17_Find_c2_sh.mpr ?_ | refine g_ref17_Find_c3_sh.mpr ?_ | refine g_ref17_Find_code_sh.mpr ?_)
  refine refFind_loop hLive (fun _ h => h) hl (fun s h => ?_) (fun o => ?_) l.length 0 (by omega) rfl
  · repeat (first | simp only [go_sem, ↓reduceIte, Nat.reduceEqDiff, Nat.reduceAdd, Nat.reduceSub, Nat.reduceMul, Nat.reduceLeDiff, Nat.reduceBEq, reduceCtorEq, Nat.reduceEqDiff, Int.reduceEq, Int.reduceLT, Int.reduceLE, Int.reduceNeg, Int.reduceBEq, Int.reduceBNe, Int.reduceToNat, Int.reducePow, h] | refine g_ref17_Find_o3_sh.mpr ?_ | refine g_ref17_Find_o2_sh.mpr ?_ | refine g_ref17_Find_o1_sh.mpr ?_ | refine g_ref17_Find_o0_sh.mpr ?_ | refine g_ref17_Find_c0_sh.mpr ?_ | refine g_ref17_Find_c1_sh.mpr ?_ | refine g_ref17_Find_c2_sh.mpr ?_ | refine g_ref17_Find_c3_sh.mpr ?_ | refine g_ref17_Find_code_sh.mpr ?_)
    refine hR _ ?_
    simp only [go_sem, ↓reduceIte, Nat.reduceEqDiff, Nat.reduceAdd, Nat.reduceSub, Nat.reduceMul, Nat.reduceLeDiff, Nat.reduceBEq, reduceCtorEq, Nat.reduceEqDiff, Int.reduceEq, Int.reduceLT, Int.reduceLE, Int.reduceNeg, Int.reduceBEq, Int.reduceBNe, Int.reduceToNat, Int.reducePow, h]
  · repeat (first | simp only [go_sem, ↓reduceIte, Nat.reduceEqDiff, Nat.reduceAdd, Nat.reduceSub, Nat.reduceMul, Nat.reduceLeDiff, Nat.reduceBEq, reduceCtorEq, Nat.reduceEqDiff, Int.reduceEq, Int.reduceLT, Int.reduceLE, Int.reduceNeg, Int.reduceBEq, Int.reduceBNe, Int.reduceToNat, Int.reducePow] | refine g_ref17_Find_o3_sh.mpr ?_ | refine g_ref17_Find_o2_sh.mpr ?_ | refine g_ref17_Find_o1_sh.mpr ?_ | refine g_ref17_Find_o0_sh.mpr ?_ | refine g_ref17_Find_c0_sh.mpr ?_ | refine g_ref17_Find_c1_sh.mpr ?_ | refine g_ref17_Find_c2_sh.mpr ?_ | refine g_ref17_Find_c3_sh.mpr ?_ | refine g_ref17_Find_code_sh.mpr ?_)
    refine hR _ ?_
    simp only [go_sem, ↓reduceIte, Nat.reduceEqDiff, Nat.reduceAdd, Nat.reduceSub, Nat.reduceMul, Nat.reduceLeDiff, Nat.reduceBEq, reduceCtorEq, Nat.reduceEqDiff, Int.reduceEq, Int.reduceLT, Int.reduceLE, Int.reduceNeg, Int.reduceBEq, Int.reduceBNe, Int.reduceToNat, Int.reducePow]

def okE (e : Ent) : Prop := e.lines.length < 1000 ∧ e.paid.length < 1000 ∧ e.owed.length < 1000 ∧ e.garn.length < 1000 ∧ e.fixes.length < 1000
structure SameK (C : Ctx) : Prop where
  ref : ∀ e : Ent, okE e → SoundAt C 12 ⟨[vEnt e], looko []⟩ ⟨vEnt e, looko []⟩
  same : ∀ e : Ent, okE e → SoundAt C 17 ⟨[vEnt e, vEnt e], looko []⟩ ⟨vB true, looko []⟩

theorem same_loop {C : Ctx} (K : SameK C) {I : Nat → Prop} (hI : ∀ n, ¬ I n) {Q : Ex → St → Prop} {l : List Ent} (hl : l.length < 1000) (hok : ∀ e ∈ l, okE e) (hT : ∀ st, Q (.exit 0) st) :
    ∀ (n k : Nat), k + n = l.length →
      wpB C I g_law17_same.l0 (St.mk (look [(1, vEnts l), (2, .ptr 2 0), (13, vI l.length), (14, vI k)]) (looko [(2, some (.box [vEnts l]))])) Q := by
  intro n
  induction n with
  | zero =>
    intro k hk
    refine g_law17_same_l0_sh rfl ?_
    have hk' : k = l.length := by omega
    subst hk'
    repeat (first | simp only [go_sem, ↓reduceIte, Nat.reduceEqDiff, Nat.reduceAdd, Nat.reduceSub, Nat.reduceMul, Nat.reduceLeDiff, Nat.reduceBEq, reduceCtorEq, Nat.reduceEqDiff, Int.reduceEq, Int.reduceLT, Int.reduceLE, Int.reduceNeg, Int.reduceBEq, Int.reduceBNe, Int.reduceToNat, Int.reducePow, List.length_map, Int.lt_irrefl, decide_false] | refine g_law17_same_c0_sh.mpr ?_ | refine g_law17_same_c1_sh.mpr ?_ | refine g_law17_same_c2_sh.mpr ?_ | refine g_law17_same_code_sh.mpr ?_)
    exact hT _
  | succ n ih =>
    intro k hk
    refine g_law17_same_l0_sh rfl ?_
    have hlt : k < l.length := by omega
    have he := List.getElem?_eq_getElem hlt
    have hlt' : ((k : Int) < (l.length : Int)) := by omega
    have hw : IntKind.i64.wrap ((k : Int) + 1) = (k : Int) + 1 := wrapI (by omega) (by omega)
    have hk1 := hok _ (List.getElem_mem hlt)
    repeat (first | simp only [go_sem, ↓reduceIte, Nat.reduceEqDiff, Nat.reduceAdd, Nat.reduceSub, Nat.reduceMul, Nat.reduceLeDiff, Nat.reduceBEq, reduceCtorEq, Nat.reduceEqDiff, Int.reduceEq, Int.reduceLT, Int.reduceLE, Int.reduceNeg, Int.reduceBEq, Int.reduceBNe, Int.reduceToNat, Int.reducePow, List.length_map, hlt', Int.natCast_nonneg, Int.toNat_natCast, getMap enc he] | refine g_law17_same_c0_sh.mpr ?_ | refine g_law17_same_c1_sh.mpr ?_ | refine g_law17_same_c2_sh.mpr ?_ | refine g_law17_same_code_sh.mpr ?_)
    refine ⟨_, K.ref l[k] hk1, fun n => by simp only [go_sem, ↓reduceIte, Nat.reduceEqDiff, Nat.reduceAdd, Nat.reduceSub, Nat.reduceMul, Nat.reduceLeDiff, Nat.reduceBEq, reduceCtorEq, Nat.reduceEqDiff, Int.reduceEq, Int.reduceLT, Int.reduceLE, Int.reduceNeg, Int.reduceBEq, Int.reduceBNe, Int.reduceToNat, Int.reducePow], ?_⟩
    repeat (first | simp only [go_sem, ↓reduceIte, Nat.reduceEqDiff, Nat.reduceAdd, Nat.reduceSub, Nat.reduceMul, Nat.reduceLeDiff, Nat.reduceBEq, reduceCtorEq, Nat.reduceEqDiff, Int.reduceEq, Int.reduceLT, Int.reduceLE, Int.reduceNeg, Int.reduceBEq, Int.reduceBNe, Int.reduceToNat, Int.reducePow, List.length_map, hlt', Int.natCast_nonneg, Int.toNat_natCast, getMap enc he] | refine g_law17_same_c0_sh.mpr ?_ | refine g_law17_same_c1_sh.mpr ?_ | refine g_law17_same_c2_sh.mpr ?_ | refine g_law17_same_code_sh.mpr ?_)
    refine ⟨_, K.same l[k] hk1, fun _ => rfl, ?_⟩
    repeat (first | simp only [go_sem, ↓reduceIte, Nat.reduceEqDiff, Nat.reduceAdd, Nat.reduceSub, Nat.reduceMul, Nat.reduceLeDiff, Nat.reduceBEq, reduceCtorEq, Nat.reduceEqDiff, Int.reduceEq, Int.reduceLT, Int.reduceLE, Int.reduceNeg, Int.reduceBEq, Int.reduceBNe, Int.reduceToNat, Int.reducePow, hw] | refine g_law17_same_c0_sh.mpr ?_ | refine g_law17_same_c1_sh.mpr ?_ | refine g_law17_same_c2_sh.mpr ?_ | refine g_law17_same_code_sh.mpr ?_)
    exact ih (k + 1) (by omega)

theorem sameBook {C : Ctx} (h13 : okFn C.P C.φ 13 g_law17_same = true) (K : SameK C) (l : List Ent) (hl : l.length < 1000) (hok : ∀ e ∈ l, okE e) :
    SoundAt C 13 ⟨[vBook l, vEnts l], looko []⟩ ⟨vB true, looko []⟩ := by
  refine SoundAt.of_run h13 rfl (fun Q hR _ => ?_)
  rw [entry2]
  repeat (first | simp only [go_sem, ↓reduceIte, Nat.reduceEqDiff, Nat.reduceAdd, Nat.reduceSub, Nat.reduceMul, Nat.reduceLeDiff, Nat.reduceBEq, reduceCtorEq, Nat.reduceEqDiff, Int.reduceEq, Int.reduceLT, Int.reduceLE, Int.reduceNeg, Int.reduceBEq, Int.reduceBNe, Int.reduceToNat, Int.reducePow, List.length_map, bne_self_eq_false] | refine g_law17_same_c0_sh.mpr ?_ | refine g_law17_same_c1_sh.mpr ?_ | refine g_law17_same_c2_sh.mpr ?_ | refine g_law17_same_code_sh.mpr ?_)
  refine same_loop K (fun _ h => h) hl hok (fun st => ?_) l.length 0 (by omega)
  repeat (first | simp only [go_sem, ↓reduceIte, Nat.reduceEqDiff, Nat.reduceAdd, Nat.reduceSub, Nat.reduceMul, Nat.reduceLeDiff, Nat.reduceBEq, reduceCtorEq, Nat.reduceEqDiff, Int.reduceEq, Int.reduceLT, Int.reduceLE, Int.reduceNeg, Int.reduceBEq, Int.reduceBNe, Int.reduceToNat, Int.reducePow] | refine g_law17_same_c0_sh.mpr ?_ | refine g_law17_same_c1_sh.mpr ?_ | refine g_law17_same_c2_sh.mpr ?_ | refine g_law17_same_code_sh.mpr ?_)
  refine hR _ ?_
  simp only [go_sem, ↓reduceIte, Nat.reduceEqDiff, Nat.reduceAdd, Nat.reduceSub, Nat.reduceMul, Nat.reduceLeDiff, Nat.reduceBEq, reduceCtorEq, Nat.reduceEqDiff, Int.reduceEq, Int.reduceLT, Int.reduceLE, Int.reduceNeg, Int.reduceBEq, Int.reduceBNe, Int.reduceToNat, Int.reducePow]
end Pay
