/- Contracts: a predicate over entries, looked for in a list. -/
import Derived.Test.YtbhjjheefdilbaaPayW
import Derived.Test.YtbhjjheefdilbaaPaySh0
import Derived.Test.YtbhjjheefdilbaaPaySh1
set_option linter.unusedSimpArgs false
set_option linter.unusedVariables false
namespace Pay
open Go
attribute [local irreducible] wpB opsB treeB drawB

theorem live1 {C : Ctx} (hC : okFn C.P C.φ 30 g_book_Live_1 = true) (e : Ent) (at_ : Int) (h0 : -1000 ≤ at_) (h1 : at_ < 1000) :
    SoundAt C 30 ⟨[vEnt e, .ptr 3 0], looko [(3, some (.box [vI at_]))]⟩ ⟨vB (e.back == at_ + 1), looko [(3, some (.box [vI at_]))]⟩ := by
  refine SoundAt.of_codeB hC rfl ?_
  rw [entry2]
  repeat (first | simp only [go_sem, ↓reduceIte, Nat.reduceEqDiff, Nat.reduceAdd, Nat.reduceSub, Nat.reduceMul, Nat.reduceLeDiff, Nat.reduceBEq, reduceCtorEq, Nat.reduceEqDiff, Int.reduceEq, Int.reduceLT, Int.reduceLE, Int.reduceNeg, Int.reduceBEq, Int.reduceBNe, Int.reduceToNat, Int.reducePow, wrapI (x := at_ + 1) (by omega) (by omega), List.getElem?_map, enc_g4, true_or] | refine g_book_Live_1_code_sh.mpr ?_)

/-- The place of the first one that fits, counted from k; -1: there is none. -/
def idxFrom (p : Ent → Bool) : Nat → List Ent → Int
  | _, [] => -1
  | k, e :: l => if p e = true then (k : Int) else idxFrom p (k + 1) l
theorem idxFrom_any (p : Ent → Bool) : ∀ (l : List Ent) (k : Nat), decide (idxFrom p k l ≥ 0) = l.any p
  | [], k => by simp [idxFrom]
  | e :: l, k => by
    simp only [idxFrom, List.any_cons]
    by_cases h : p e = true
    · simp [h]
    · have := idxFrom_any p l (k + 1); simp only [if_neg h]; simpa [h] using this

theorem indexFunc_loop {C : Ctx} {I : Nat → Prop} {Q : Ex → St → Prop} {f : Nat} {cs : List V} (hcs : ∀ n, V.refsL n cs = false) {caps : List V} {p : Ent → Bool} {l : List Ent}
    (hp : ∀ e ∈ l, SoundAt C f ⟨vEnt e :: caps, looko [(3, some (.box cs))]⟩ ⟨vB (p e), looko [(3, some (.box cs))]⟩) (hl : l.length < 100000)
    (hT : ∀ s, idxFrom p 0 l = -1 → Q (.exit 0) (St.mk s (looko [(3, some (.box cs))])))
    (hF : Q .ret (St.mk (look [(4, vI (idxFrom p 0 l))]) (looko [(3, some (.box cs))]))) :
    ∀ (n k : Nat), k + n = l.length → idxFrom p 0 l = idxFrom p k (l.drop k) → wpB C I g_slices_IndexFunc_Entry.l0 (St.mk (look [(0, vEnts l), (1, .fn f caps), (7, vI l.length), (8, vI k)]) (looko [(3, some (.box cs))])) Q := by
  intro n
  induction n with
  | zero =>
    intro k hk hi
    refine g_slices_IndexFunc_Entry_l0_sh rfl ?_
    have hk' : k = l.length := by omega
    subst hk'
    simp only [go_sem, ↓reduceIte, Nat.reduceEqDiff, Nat.reduceAdd, Nat.reduceSub, Nat.reduceMul, Nat.reduceLeDiff, Nat.reduceBEq, reduceCtorEq, Nat.reduceEqDiff, Int.reduceEq, Int.reduceLT, Int.reduceLE, Int.reduceNeg, Int.reduceBEq, Int.reduceBNe, Int.reduceToNat, Int.reducePow, Int.lt_irrefl, decide_false]
    exact hT _ (by rw [hi]; simp [idxFrom])
  | succ n ih =>
    intro k hk hi
    refine g_slices_IndexFunc_Entry_l0_sh rfl ?_
    have hlt : k < l.length := by omega
    have he := List.getElem?_eq_getElem hlt
    have hlt' : ((k : Int) < (l.length : Int)) := by omega
    simp only [go_sem, ↓reduceIte, Nat.reduceEqDiff, Nat.reduceAdd, Nat.reduceSub, Nat.reduceMul, Nat.reduceLeDiff, Nat.reduceBEq, reduceCtorEq, Nat.reduceEqDiff, Int.reduceEq, Int.reduceLT, Int.reduceLE, Int.reduceNeg, Int.reduceBEq, Int.reduceBNe, Int.reduceToNat, Int.reducePow, hlt', decide_true, Int.natCast_nonneg, Int.toNat_natCast, getMap enc he]
    refine callK_box rfl hcs (hp _ (List.getElem_mem hlt)) (fun _ => rfl) ?_
    rw [List.drop_eq_getElem_cons hlt] at hi
    by_cases hpe : p l[k] = true
    · have hi' : idxFrom p 0 l = k := by rw [hi]; simp [idxFrom, hpe]
      rw [hi'] at hF
      simp only [go_sem, ↓reduceIte, Nat.reduceEqDiff, Nat.reduceAdd, Nat.reduceSub, Nat.reduceMul, Nat.reduceLeDiff, Nat.reduceBEq, reduceCtorEq, Nat.reduceEqDiff, Int.reduceEq, Int.reduceLT, Int.reduceLE, Int.reduceNeg, Int.reduceBEq, Int.reduceBNe, Int.reduceToNat, Int.reducePow, hpe]
      exact hF
    · have hi' : idxFrom p 0 l = idxFrom p (k + 1) (l.drop (k + 1)) := by rw [hi]; simp [idxFrom, hpe]
      simp only [go_sem, ↓reduceIte, Nat.reduceEqDiff, Nat.reduceAdd, Nat.reduceSub, Nat.reduceMul, Nat.reduceLeDiff, Nat.reduceBEq, reduceCtorEq, Nat.reduceEqDiff, Int.reduceEq, Int.reduceLT, Int.reduceLE, Int.reduceNeg, Int.reduceBEq, Int.reduceBNe, Int.reduceToNat, Int.reducePow, hpe]
      refine g_slices_IndexFunc_Entry_c0_sh.mpr ?_
      simp only [go_sem, ↓reduceIte, Nat.reduceEqDiff, Nat.reduceAdd, Nat.reduceSub, Nat.reduceMul, Nat.reduceLeDiff, Nat.reduceBEq, reduceCtorEq, Nat.reduceEqDiff, Int.reduceEq, Int.reduceLT, Int.reduceLE, Int.reduceNeg, Int.reduceBEq, Int.reduceBNe, Int.reduceToNat, Int.reducePow, wrapI (x := (k : Int) + 1) (by omega) (by omega)]
      exact ih (k + 1) (by omega) hi'

theorem indexFunc {C : Ctx} (hC : okFn C.P C.φ 16 g_slices_IndexFunc_Entry = true) {f : Nat} {cs : List V} (hcs : ∀ n, V.refsL n cs = false) {caps : List V} {p : Ent → Bool} {l : List Ent}
    (hp : ∀ e ∈ l, SoundAt C f ⟨vEnt e :: caps, looko [(3, some (.box cs))]⟩ ⟨vB (p e), looko [(3, some (.box cs))]⟩) (hl : l.length < 100000) :
    SoundAt C 16 ⟨[vEnts l, .fn f caps], looko [(3, some (.box cs))]⟩ ⟨vI (idxFrom p 0 l), looko [(3, some (.box cs))]⟩ := by
  refine SoundAt.of_codeB hC rfl ?_
  rw [entry2]
  repeat (first | simp only [go_sem, ↓reduceIte, Nat.reduceEqDiff, Nat.reduceAdd, Nat.reduceSub, Nat.reduceMul, Nat.reduceLeDiff, Nat.reduceBEq, reduceCtorEq, Nat.reduceEqDiff, Int.reduceEq, Int.reduceLT, Int.reduceLE, Int.reduceNeg, Int.reduceBEq, Int.reduceBNe, Int.reduceToNat, Int.reducePow, List.length_map] | refine g_slices_IndexFunc_Entry_c0_sh.mpr ?_ | refine g_slices_IndexFunc_Entry_c1_sh.mpr ?_ | refine g_slices_IndexFunc_Entry_code_sh.mpr ?_)
  refine indexFunc_loop hcs hp hl (fun s h => ?_) ?_ l.length 0 (by omega) rfl
  · repeat (first | simp only [go_sem, ↓reduceIte, Nat.reduceEqDiff, Nat.reduceAdd, Nat.reduceSub, Nat.reduceMul, Nat.reduceLeDiff, Nat.reduceBEq, reduceCtorEq, Nat.reduceEqDiff, Int.reduceEq, Int.reduceLT, Int.reduceLE, Int.reduceNeg, Int.reduceBEq, Int.reduceBNe, Int.reduceToNat, Int.reducePow, h, true_or] | refine g_slices_IndexFunc_Entry_c0_sh.mpr ?_ | refine g_slices_IndexFunc_Entry_c1_sh.mpr ?_ | refine g_slices_IndexFunc_Entry_code_sh.mpr ?_)
  · repeat (first | simp only [go_sem, ↓reduceIte, Nat.reduceEqDiff, Nat.reduceAdd, Nat.reduceSub, Nat.reduceMul, Nat.reduceLeDiff, Nat.reduceBEq, reduceCtorEq, Nat.reduceEqDiff, Int.reduceEq, Int.reduceLT, Int.reduceLE, Int.reduceNeg, Int.reduceBEq, Int.reduceBNe, Int.reduceToNat, Int.reducePow, true_or] | refine g_slices_IndexFunc_Entry_c0_sh.mpr ?_ | refine g_slices_IndexFunc_Entry_c1_sh.mpr ?_ | refine g_slices_IndexFunc_Entry_code_sh.mpr ?_)

theorem containsFunc {C : Ctx} (hC : okFn C.P C.φ 15 g_slices_ContainsFunc_Entry = true) (hC16 : okFn C.P C.φ 16 g_slices_IndexFunc_Entry = true) {f : Nat} {cs : List V} (hcs : ∀ n, V.refsL n cs = false) {caps : List V} {p : Ent → Bool} {l : List Ent}
    (hp : ∀ e ∈ l, SoundAt C f ⟨vEnt e :: caps, looko [(3, some (.box cs))]⟩ ⟨vB (p e), looko [(3, some (.box cs))]⟩) (hl : l.length < 100000) :
    SoundAt C 15 ⟨[vEnts l, .fn f caps], looko [(3, some (.box cs))]⟩ ⟨vB (l.any p), looko [(3, some (.box cs))]⟩ := by
  refine SoundAt.of_codeB hC rfl ?_
  rw [entry2]
  repeat (first | simp only [go_sem, ↓reduceIte, Nat.reduceEqDiff, Nat.reduceAdd, Nat.reduceSub, Nat.reduceMul, Nat.reduceLeDiff, Nat.reduceBEq, reduceCtorEq, Nat.reduceEqDiff, Int.reduceEq, Int.reduceLT, Int.reduceLE, Int.reduceNeg, Int.reduceBEq, Int.reduceBNe, Int.reduceToNat, Int.reducePow] | refine g_slices_ContainsFunc_Entry_code_sh.mpr ?_)
  refine callK_box rfl hcs (indexFunc hC16 hcs hp hl) (fun _ => rfl) ?_
  repeat (first | simp only [go_sem, ↓reduceIte, Nat.reduceEqDiff, Nat.reduceAdd, Nat.reduceSub, Nat.reduceMul, Nat.reduceLeDiff, Nat.reduceBEq, reduceCtorEq, Nat.reduceEqDiff, Int.reduceEq, Int.reduceLT, Int.reduceLE, Int.reduceNeg, Int.reduceBEq, Int.reduceBNe, Int.reduceToNat, Int.reducePow, idxFrom_any, true_or] | refine g_slices_ContainsFunc_Entry_code_sh.mpr ?_)

theorem bookLive {C : Ctx} (h9 : okFn C.P C.φ 9 g_book_Live = true) (h15 : okFn C.P C.φ 15 g_slices_ContainsFunc_Entry = true) (h16 : okFn C.P C.φ 16 g_slices_IndexFunc_Entry = true) (h30 : okFn C.P C.φ 30 g_book_Live_1 = true)
    (l : List Ent) (at_ : Int) (hl : l.length < 1000) :
    SoundAt C 9 ⟨[vBook l, vI at_], looko []⟩ ⟨vB (liveS l at_), looko []⟩ := by
  refine SoundAt.of_codeB h9 rfl ?_
  rw [entry2]
  by_cases h1 : at_ ≥ 0
  case neg =>
    have hr : liveS l at_ = false := by simp [liveS]; omega
    repeat (first | simp only [go_sem, ↓reduceIte, Nat.reduceEqDiff, Nat.reduceAdd, Nat.reduceSub, Nat.reduceMul, Nat.reduceLeDiff, Nat.reduceBEq, reduceCtorEq, Nat.reduceEqDiff, Int.reduceEq, Int.reduceLT, Int.reduceLE, Int.reduceNeg, Int.reduceBEq, Int.reduceBNe, Int.reduceToNat, Int.reducePow, h1, decide_false, hr, true_or] | refine g_book_Live_o5_sh.mpr ?_ | refine g_book_Live_o4_sh.mpr ?_ | refine g_book_Live_o3_sh.mpr ?_ | refine g_book_Live_o2_sh.mpr ?_ | refine g_book_Live_o1_sh.mpr ?_ | refine g_book_Live_o0_sh.mpr ?_ | refine g_book_Live_c0_sh.mpr ?_ | refine g_book_Live_code_sh.mpr ?_)
  by_cases h2 : at_ < (l.length : Int)
  case neg =>
    have hr : liveS l at_ = false := by simp [liveS]; omega
    repeat (first | simp only [go_sem, ↓reduceIte, Nat.reduceEqDiff, Nat.reduceAdd, Nat.reduceSub, Nat.reduceMul, Nat.reduceLeDiff, Nat.reduceBEq, reduceCtorEq, Nat.reduceEqDiff, Int.reduceEq, Int.reduceLT, Int.reduceLE, Int.reduceNeg, Int.reduceBEq, Int.reduceBNe, Int.reduceToNat, Int.reducePow, h1, h2, List.length_map, decide_true, decide_false, hr, true_or] | refine g_book_Live_o5_sh.mpr ?_ | refine g_book_Live_o4_sh.mpr ?_ | refine g_book_Live_o3_sh.mpr ?_ | refine g_book_Live_o2_sh.mpr ?_ | refine g_book_Live_o1_sh.mpr ?_ | refine g_book_Live_o0_sh.mpr ?_ | refine g_book_Live_c0_sh.mpr ?_ | refine g_book_Live_code_sh.mpr ?_)
  obtain ⟨k, rfl⟩ : ∃ k : Nat, at_ = (k : Int) := ⟨at_.toNat, by omega⟩
  have hlt : k < l.length := by omega
  have he := List.getElem?_eq_getElem hlt
  by_cases h3 : l[k].back = 0
  · repeat (first | simp only [go_sem, ↓reduceIte, Nat.reduceEqDiff, Nat.reduceAdd, Nat.reduceSub, Nat.reduceMul, Nat.reduceLeDiff, Nat.reduceBEq, reduceCtorEq, Nat.reduceEqDiff, Int.reduceEq, Int.reduceLT, Int.reduceLE, Int.reduceNeg, Int.reduceBEq, Int.reduceBNe, Int.reduceToNat, Int.reducePow, h1, h2, h3, List.length_map, decide_true, decide_false, true_or, Int.natCast_nonneg, Int.toNat_natCast, getMap enc he, enc_d4] | refine g_book_Live_o5_sh.mpr ?_ | refine g_book_Live_o4_sh.mpr ?_ | refine g_book_Live_o3_sh.mpr ?_ | refine g_book_Live_o2_sh.mpr ?_ | refine g_book_Live_o1_sh.mpr ?_ | refine g_book_Live_o0_sh.mpr ?_ | refine g_book_Live_c0_sh.mpr ?_ | refine g_book_Live_code_sh.mpr ?_)
    refine callK_box rfl (fun _ => rfl) (containsFunc (l := l) h15 h16 (fun _ => rfl) (fun e _ => live1 h30 e k (by omega) (by omega)) (by omega)) (fun _ => rfl) ?_
    have hs : liveS l (k : Int) = !l.any (fun e => e.back == (k : Int) + 1) := by simp [liveS, he, h3]; omega
    repeat (first | simp only [go_sem, ↓reduceIte, Nat.reduceEqDiff, Nat.reduceAdd, Nat.reduceSub, Nat.reduceMul, Nat.reduceLeDiff, Nat.reduceBEq, reduceCtorEq, Nat.reduceEqDiff, Int.reduceEq, Int.reduceLT, Int.reduceLE, Int.reduceNeg, Int.reduceBEq, Int.reduceBNe, Int.reduceToNat, Int.reducePow, hs, true_or] | refine g_book_Live_o5_sh.mpr ?_ | refine g_book_Live_o4_sh.mpr ?_ | refine g_book_Live_o3_sh.mpr ?_ | refine g_book_Live_o2_sh.mpr ?_ | refine g_book_Live_o1_sh.mpr ?_ | refine g_book_Live_o0_sh.mpr ?_ | refine g_book_Live_c0_sh.mpr ?_ | refine g_book_Live_code_sh.mpr ?_)
  · have hr : liveS l (k : Int) = false := by simp [liveS, he, h3]
    have h3' : (l[k].back == 0) = false := by simp [h3]
    repeat (first | simp only [go_sem, ↓reduceIte, Nat.reduceEqDiff, Nat.reduceAdd, Nat.reduceSub, Nat.reduceMul, Nat.reduceLeDiff, Nat.reduceBEq, reduceCtorEq, Nat.reduceEqDiff, Int.reduceEq, Int.reduceLT, Int.reduceLE, Int.reduceNeg, Int.reduceBEq, Int.reduceBNe, Int.reduceToNat, Int.reducePow, h1, h2, h3', hr, List.length_map, decide_true, decide_false, true_or, Int.natCast_nonneg, Int.toNat_natCast, getMap enc he, enc_d4] | refine g_book_Live_o5_sh.mpr ?_ | refine g_book_Live_o4_sh.mpr ?_ | refine g_book_Live_o3_sh.mpr ?_ | refine g_book_Live_o2_sh.mpr ?_ | refine g_book_Live_o1_sh.mpr ?_ | refine g_book_Live_o0_sh.mpr ?_ | refine g_book_Live_c0_sh.mpr ?_ | refine g_book_Live_code_sh.mpr ?_)
end Pay
