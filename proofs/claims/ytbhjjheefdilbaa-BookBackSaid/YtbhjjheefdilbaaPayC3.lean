/- Contracts: the place of the first live entry. -/
import Derived.Test.YtbhjjheefdilbaaPayC2
import Derived.Test.YtbhjjheefdilbaaPaySh0
import Derived.Test.YtbhjjheefdilbaaPaySh1
set_option linter.unusedSimpArgs false
set_option linter.unusedVariables false
namespace Pay
open Go
attribute [local irreducible] wpB opsB treeB drawB

def findFrom (p : Nat → Ent → Bool) : Nat → List Ent → Int
  | _, [] => -1
  | k, e :: l => if p k e = true then (k : Int) else findFrom p (k + 1) l
def findP (l : List Ent) (id per : Int) (i : Nat) (e : Ent) : Bool := e.id == id && (e.per == per && liveS l i)
def findS (l : List Ent) (id per : Int) : Int := findFrom (findP l id per) 0 l

theorem bookFind_loop {C : Ctx} (hLive : ∀ (l : List Ent) (at_ : Int), l.length < 1000 → SoundAt C 9 ⟨[vBook l, vI at_], looko []⟩ ⟨vB (liveS l at_), looko []⟩) {I : Nat → Prop} (hI : ∀ n, ¬ I n) {Q : Ex → St → Prop} {l : List Ent} {id per : Int} (hl : l.length < 1000)
    (hT : ∀ s, findS l id per = -1 → Q (.exit 0) (St.mk s (looko [(3, some (.box [.d (.sl (l.map enc))]))])))
    (hF : ∀ o, Q .ret (St.mk (look [(6, vI (findS l id per))]) o)) :
    ∀ (n k : Nat), k + n = l.length → findS l id per = findFrom (findP l id per) k (l.drop k) →
      wpB C I g_book_Find.l0 (St.mk (look [(1, vI id), (2, vI per), (3, .ptr 3 0), (10, vEnts l), (11, vI l.length), (12, vI k)]) (looko [(3, some (.box [.d (.sl (l.map enc))]))])) Q := by
  intro n
  induction n with
  | zero =>
    intro k hk hi
    refine g_book_Find_l0_sh rfl ?_
    have hk' : k = l.length := by omega
    subst hk'
    simp only [go_sem, ↓reduceIte, Nat.reduceEqDiff, Nat.reduceAdd, Nat.reduceSub, Nat.reduceMul, Nat.reduceLeDiff, Nat.reduceBEq, reduceCtorEq, Nat.reduceEqDiff, Int.reduceEq, Int.reduceLT, Int.reduceLE, Int.reduceNeg, Int.reduceBEq, Int.reduceBNe, Int.reduceToNat, Int.reducePow, Int.lt_irrefl, decide_false]
    exact hT _ (by rw [hi]; simp [findFrom])
  | succ n ih =>
    intro k hk hi
    refine g_book_Find_l0_sh rfl ?_
    have hlt : k < l.length := by omega
    have he := List.getElem?_eq_getElem hlt
    have hlt' : ((k : Int) < (l.length : Int)) := by omega
    rw [List.drop_eq_getElem_cons hlt] at hi
    have next : findP l id per k l[k] = false → wpB C I g_book_Find.l0 (St.mk (look [(1, vI id), (2, vI per), (3, .ptr 3 0), (10, vEnts l), (11, vI l.length), (12, vI (k + 1 : Nat))]) (looko [(3, some (.box [.d (.sl (l.map enc))]))])) Q := fun h =>
      ih (k + 1) (by omega) (by rw [hi]; simp [findFrom, h])
    by_cases h1 : l[k].id = id
    case neg =>
      have h1' : (l[k].id == id) = false := by simp [h1]
      repeat (first | simp only [go_sem, ↓reduceIte, Nat.reduceEqDiff, Nat.reduceAdd, Nat.reduceSub, Nat.reduceMul, Nat.reduceLeDiff, Nat.reduceBEq, reduceCtorEq, Nat.reduceEqDiff, Int.reduceEq, Int.reduceLT, Int.reduceLE, Int.reduceNeg, Int.reduceBEq, Int.reduceBNe, Int.reduceToNat, Int.reducePow, hI, hlt', Int.natCast_nonneg, Int.toNat_natCast, getMap enc he, List.getElem?_map, enc_g2, h1', wrapI (x := (k : Int) + 1) (by omega) (by omega)] | refine g_book_Find_o3_sh.mpr ?_ | refine g_book_Find_o2_sh.mpr ?_ | refine g_book_Find_o1_sh.mpr ?_ | refine g_book_Find_o0_sh.mpr ?_ | refine g_book_Find_c0_sh.mpr ?_ | refine g_book_Find_c1_sh.mpr ?_ | refine g_book_Find_c2_sh.mpr ?_ | refine g_book_Find_c3_sh.mpr ?_ | refine g_book_Find_c4_sh.mpr ?_ | refine g_book_Find_code_sh.mpr ?_)
      exact next (by simp [findP, h1])
    by_cases h2 : l[k].per = per
    case neg =>
      have h1' : (l[k].id == id) = true := by simp [h1]
      have h2' : (l[k].per == per) = false := by simp [h2]
      repeat (first | simp only [go_sem, ↓reduceIte, Nat.reduceEqDiff, Nat.reduceAdd, Nat.reduceSub, Nat.reduceMul, Nat.reduceLeDiff, Nat.reduceBEq, reduceCtorEq, Nat.reduceEqDiff, Int.reduceEq, Int.reduceLT, Int.reduceLE, Int.reduceNeg, Int.reduceBEq, Int.reduceBNe, Int.reduceToNat, Int.reducePow, hI, hlt', Int.natCast_nonneg, Int.toNat_natCast, getMap enc he, List.getElem?_map, enc_g2, enc_g1, h1', h2', wrapI (x := (k : Int) + 1) (by omega) (by omega)] | refine g_book_Find_o3_sh.mpr ?_ | refine g_book_Find_o2_sh.mpr ?_ | refine g_book_Find_o1_sh.mpr ?_ | refine g_book_Find_o0_sh.mpr ?_ | refine g_book_Find_c0_sh.mpr ?_ | refine g_book_Find_c1_sh.mpr ?_ | refine g_book_Find_c2_sh.mpr ?_ | refine g_book_Find_c3_sh.mpr ?_ | refine g_book_Find_c4_sh.mpr ?_ | refine g_book_Find_code_sh.mpr ?_)
      exact next (by simp [findP, h2])
    have h1' : (l[k].id == id) = true := by simp [h1]
    have h2' : (l[k].per == per) = true := by simp [h2]
    repeat (first | simp only [go_sem, ↓reduceIte, Nat.reduceEqDiff, Nat.reduceAdd, Nat.reduceSub, Nat.reduceMul, Nat.reduceLeDiff, Nat.reduceBEq, reduceCtorEq, Nat.reduceEqDiff, Int.reduceEq, Int.reduceLT, Int.reduceLE, Int.reduceNeg, Int.reduceBEq, Int.reduceBNe, Int.reduceToNat, Int.reducePow, hI, hlt', Int.natCast_nonneg, Int.toNat_natCast, getMap enc he, List.getElem?_map, enc_g2, enc_g1, h1', h2', wrapI (x := (k : Int) + 1) (by omega) (by omega)] | refine g_book_Find_o3_sh.mpr ?_ | refine g_book_Find_o2_sh.mpr ?_ | refine g_book_Find_o1_sh.mpr ?_ | refine g_book_Find_o0_sh.mpr ?_ | refine g_book_Find_c0_sh.mpr ?_ | refine g_book_Find_c1_sh.mpr ?_ | refine g_book_Find_c2_sh.mpr ?_ | refine g_book_Find_c3_sh.mpr ?_ | refine g_book_Find_c4_sh.mpr ?_ | refine g_book_Find_code_sh.mpr ?_)
    refine callK_plain (hLive l k hl) (fun _ => rfl) ?_
    by_cases h3 : liveS l k = true
    · have hi' : findS l id per = k := by rw [hi]; simp [findFrom, findP, h1, h2, h3]
      repeat (first | simp only [go_sem, ↓reduceIte, Nat.reduceEqDiff, Nat.reduceAdd, Nat.reduceSub, Nat.reduceMul, Nat.reduceLeDiff, Nat.reduceBEq, reduceCtorEq, Nat.reduceEqDiff, Int.reduceEq, Int.reduceLT, Int.reduceLE, Int.reduceNeg, Int.reduceBEq, Int.reduceBNe, Int.reduceToNat, Int.reducePow, h3] | refine g_book_Find_o3_sh.mpr ?_ | refine g_book_Find_o2_sh.mpr ?_ | refine g_book_Find_o1_sh.mpr ?_ | refine g_book_Find_o0_sh.mpr ?_ | refine g_book_Find_c0_sh.mpr ?_ | refine g_book_Find_c1_sh.mpr ?_ | refine g_book_Find_c2_sh.mpr ?_ | refine g_book_Find_c3_sh.mpr ?_ | refine g_book_Find_c4_sh.mpr ?_ | refine g_book_Find_code_sh.mpr ?_)
      rw [hi'] at hF
      exact hF _
    · have h3' : liveS l k = false := by simpa using h3
      repeat (first | simp only [go_sem, ↓reduceIte, Nat.reduceEqDiff, Nat.reduceAdd, Nat.reduceSub, Nat.reduceMul, Nat.reduceLeDiff, Nat.reduceBEq, reduceCtorEq, Nat.reduceEqDiff, Int.reduceEq, Int.reduceLT, Int.reduceLE, Int.reduceNeg, Int.reduceBEq, Int.reduceBNe, Int.reduceToNat, Int.reducePow, h3', wrapI (x := (k : Int) + 1) (by omega) (by omega)] | refine g_book_Find_o3_sh.mpr ?_ | refine g_book_Find_o2_sh.mpr ?_ | refine g_book_Find_o1_sh.mpr ?_ | refine g_book_Find_o0_sh.mpr ?_ | refine g_book_Find_c0_sh.mpr ?_ | refine g_book_Find_c1_sh.mpr ?_ | refine g_book_Find_c2_sh.mpr ?_ | refine g_book_Find_c3_sh.mpr ?_ | refine g_book_Find_c4_sh.mpr ?_ | refine g_book_Find_code_sh.mpr ?_)
      exact next (by simp [findP, h3'])

theorem bookFind {C : Ctx} (h8 : okFn C.P C.φ 8 g_book_Find = true) (hLive : ∀ (l : List Ent) (at_ : Int), l.length < 1000 → SoundAt C 9 ⟨[vBook l, vI at_], looko []⟩ ⟨vB (liveS l at_), looko []⟩)
    (l : List Ent) (id per : Int) (hl : l.length < 1000) :
    SoundAt C 8 ⟨[vBook l, vI id, vI per], looko []⟩ ⟨vI (findS l id per), looko []⟩ := by
  refine SoundAt.of_codeB h8 rfl ?_
  rw [entry3]
  repeat (first | simp only [go_sem, ↓reduceIte, Nat.reduceEqDiff, Nat.reduceAdd, Nat.reduceSub, Nat.reduceMul, Nat.reduceLeDiff, Nat.reduceBEq, reduceCtorEq, Nat.reduceEqDiff, Int.reduceEq, Int.reduceLT, Int.reduceLE, Int.reduceNeg, Int.reduceBEq, Int.reduceBNe, Int.reduceToNat, Int.reducePow, List.length_map] | refine g_book_Find_o3_sh.mpr ?_ | refine g_book_Find_o2_sh.mpr ?_ | refine g_book_Find_o1_sh.mpr ?_ | refine g_book_Find_o0_sh.mpr ?_ | refine g_book_Find_c0_sh.mpr ?_ | refine g_book_Find_c1_sh.mpr ?_ | refine g_book_Find_c2_sh.mpr ?_ | refine g_book_Find_c3_sh.mpr ?_ | refine g_book_Find_c4_sh.mpr ?_ | refine g_book_Find_code_sh.mpr ?_)
  refine bookFind_loop hLive (fun n => by simp [looko]) hl (fun s h => ?_) (fun o => ?_) l.length 0 (by omega) rfl
  · repeat (first | simp only [go_sem, ↓reduceIte, Nat.reduceEqDiff, Nat.reduceAdd, Nat.reduceSub, Nat.reduceMul, Nat.reduceLeDiff, Nat.reduceBEq, reduceCtorEq, Nat.reduceEqDiff, Int.reduceEq, Int.reduceLT, Int.reduceLE, Int.reduceNeg, Int.reduceBEq, Int.reduceBNe, Int.reduceToNat, Int.reducePow, h, true_or] | refine g_book_Find_o3_sh.mpr ?_ | refine g_book_Find_o2_sh.mpr ?_ | refine g_book_Find_o1_sh.mpr ?_ | refine g_book_Find_o0_sh.mpr ?_ | refine g_book_Find_c0_sh.mpr ?_ | refine g_book_Find_c1_sh.mpr ?_ | refine g_book_Find_c2_sh.mpr ?_ | refine g_book_Find_c3_sh.mpr ?_ | refine g_book_Find_c4_sh.mpr ?_ | refine g_book_Find_code_sh.mpr ?_)
  · repeat (first | simp only [go_sem, ↓reduceIte, Nat.reduceEqDiff, Nat.reduceAdd, Nat.reduceSub, Nat.reduceMul, Nat.reduceLeDiff, Nat.reduceBEq, reduceCtorEq, Nat.reduceEqDiff, Int.reduceEq, Int.reduceLT, Int.reduceLE, Int.reduceNeg, Int.reduceBEq, Int.reduceBNe, Int.reduceToNat, Int.reducePow, true_or] | refine g_book_Find_o3_sh.mpr ?_ | refine g_book_Find_o2_sh.mpr ?_ | refine g_book_Find_o1_sh.mpr ?_ | refine g_book_Find_o0_sh.mpr ?_ | refine g_book_Find_c0_sh.mpr ?_ | refine g_book_Find_c1_sh.mpr ?_ | refine g_book_Find_c2_sh.mpr ?_ | refine g_book_Find_c3_sh.mpr ?_ | refine g_book_Find_c4_sh.mpr ?_ | refine g_book_Find_code_sh.mpr ?_)
end Pay
