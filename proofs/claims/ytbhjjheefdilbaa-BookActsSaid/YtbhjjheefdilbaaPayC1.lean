/- Contracts: the reference's Live. -/
import Derived.Test.YtbhjjheefdilbaaPayW
import Derived.Test.YtbhjjheefdilbaaPaySh0
import Derived.Test.YtbhjjheefdilbaaPaySh1
set_option linter.unusedSimpArgs false
set_option linter.unusedVariables false
namespace Pay
open Go
attribute [local irreducible] wpB opsB treeB drawB

theorem refLive_loop {C : Ctx} {I : Nat → Prop} {Q : Ex → St → Prop} (l : List Ent) (at_ : Int) (hl : l.length < 1000) (h0 : 0 ≤ at_) (h1 : at_ < l.length)
    (hT : l.any (fun e => e.back == at_ + 1) = false → ∀ st, Q (.exit 0) st)
    (hF : l.any (fun e => e.back == at_ + 1) = true → Q .ret (St.mk (look [(4, .d (.bool false))]) (looko []))) :
    ∀ (n k : Nat), k + n = l.length → (l.take k).any (fun e => e.back == at_ + 1) = false → wpB C I g_ref17_Live.l0 (St.mk (look [(0, .d (.sl (l.map enc))), (1, vI at_), (5, vI k)]) (looko [])) Q := by
  intro n
  induction n with
  | zero =>
    intro k hk hno
    refine g_ref17_Live_l0_sh rfl ?_
    have hk' : k = l.length := by omega
    subst hk'
    rw [List.take_length] at hno
    simp only [go_sem, ↓reduceIte, Nat.reduceEqDiff, Nat.reduceAdd, Nat.reduceSub, Nat.reduceMul, Nat.reduceLeDiff, Nat.reduceBEq, reduceCtorEq, Nat.reduceEqDiff, Int.reduceEq, Int.reduceLT, Int.reduceLE, Int.reduceNeg, Int.reduceBEq, Int.reduceBNe, Int.reduceToNat, Int.reducePow, List.length_map, Int.lt_irrefl, decide_false]
    exact hT hno _
  | succ n ih =>
    intro k hk hno
    refine g_ref17_Live_l0_sh rfl ?_
    have hlt : k < l.length := by omega
    have he := List.getElem?_eq_getElem hlt
    have hlt' : ((k : Int) < (l.length : Int)) := by omega
    simp only [go_sem, ↓reduceIte, Nat.reduceEqDiff, Nat.reduceAdd, Nat.reduceSub, Nat.reduceMul, Nat.reduceLeDiff, Nat.reduceBEq, reduceCtorEq, Nat.reduceEqDiff, Int.reduceEq, Int.reduceLT, Int.reduceLE, Int.reduceNeg, Int.reduceBEq, Int.reduceBNe, Int.reduceToNat, Int.reducePow, List.length_map, hlt', decide_true]
    refine g_ref17_Live_c2_sh.mpr ?_
    simp only [go_sem, ↓reduceIte, Nat.reduceEqDiff, Nat.reduceAdd, Nat.reduceSub, Nat.reduceMul, Nat.reduceLeDiff, Nat.reduceBEq, reduceCtorEq, Nat.reduceEqDiff, Int.reduceEq, Int.reduceLT, Int.reduceLE, Int.reduceNeg, Int.reduceBEq, Int.reduceBNe, Int.reduceToNat, Int.reducePow, Int.natCast_nonneg, Int.toNat_natCast, getMap enc he, enc_len, enc_d4, wrapI (x := at_ + 1) (by omega) (by omega)]
    have htk : (l.take (k + 1)).any (fun e => e.back == at_ + 1) = (l[k].back == at_ + 1) := by
      rw [List.take_add_one, he, List.any_append, hno]
      simp
    split
    · rename_i h
      refine hF ?_
      rw [← List.take_append_drop (k + 1) l, List.any_append, htk]
      simp [h]
    · rename_i h
      refine g_ref17_Live_c1_sh.mpr ?_
      simp only [go_sem, ↓reduceIte, Nat.reduceEqDiff, Nat.reduceAdd, Nat.reduceSub, Nat.reduceMul, Nat.reduceLeDiff, Nat.reduceBEq, reduceCtorEq, Nat.reduceEqDiff, Int.reduceEq, Int.reduceLT, Int.reduceLE, Int.reduceNeg, Int.reduceBEq, Int.reduceBNe, Int.reduceToNat, Int.reducePow, wrapI (x := (k : Int) + 1) (by omega) (by omega)]
      exact ih (k + 1) (by omega) (by rw [htk]; simpa using h)

theorem refLive {C : Ctx} (hC : okFn C.P C.φ 10 g_ref17_Live = true) (l : List Ent) (at_ : Int) (hl : l.length < 1000) :
    SoundAt C 10 ⟨[vEnts l, vI at_], looko []⟩ ⟨vB (liveS l at_), looko []⟩ := by
  refine SoundAt.of_codeB hC rfl ?_
  rw [entry2]
  by_cases h1 : at_ < 0
  · have hr : liveS l at_ = false := by simp [liveS]; omega
    repeat (first | simp only [go_sem, ↓reduceIte, Nat.reduceEqDiff, Nat.reduceAdd, Nat.reduceSub, Nat.reduceMul, Nat.reduceLeDiff, Nat.reduceBEq, reduceCtorEq, Nat.reduceEqDiff, Int.reduceEq, Int.reduceLT, Int.reduceLE, Int.reduceNeg, Int.reduceBEq, Int.reduceBNe, Int.reduceToNat, Int.reducePow, h1, decide_true, hr, true_or] | refine g_ref17_Live_o3_sh.mpr ?_ | refine g_ref17_Live_o2_sh.mpr ?_ | refine g_ref17_Live_o1_sh.mpr ?_ | refine g_ref17_Live_o0_sh.mpr ?_ | refine g_ref17_Live_c0_sh.mpr ?_ | refine g_ref17_Live_c1_sh.mpr ?_ | refine g_ref17_Live_c2_sh.mpr ?_ | refine g_ref17_Live_c3_sh.mpr ?_ | refine g_ref17_Live_c4_sh.mpr ?_ | refine g_ref17_Live_code_sh.mpr ?_)
  by_cases h2 : at_ ≥ (l.length : Int)
  · have hr : liveS l at_ = false := by simp [liveS]; omega
    repeat (first | simp only [go_sem, ↓reduceIte, Nat.reduceEqDiff, Nat.reduceAdd, Nat.reduceSub, Nat.reduceMul, Nat.reduceLeDiff, Nat.reduceBEq, reduceCtorEq, Nat.reduceEqDiff, Int.reduceEq, Int.reduceLT, Int.reduceLE, Int.reduceNeg, Int.reduceBEq, Int.reduceBNe, Int.reduceToNat, Int.reducePow, h1, h2, List.length_map, decide_true, decide_false, hr, true_or] | refine g_ref17_Live_o3_sh.mpr ?_ | refine g_ref17_Live_o2_sh.mpr ?_ | refine g_ref17_Live_o1_sh.mpr ?_ | refine g_ref17_Live_o0_sh.mpr ?_ | refine g_ref17_Live_c0_sh.mpr ?_ | refine g_ref17_Live_c1_sh.mpr ?_ | refine g_ref17_Live_c2_sh.mpr ?_ | refine g_ref17_Live_c3_sh.mpr ?_ | refine g_ref17_Live_c4_sh.mpr ?_ | refine g_ref17_Live_code_sh.mpr ?_)
  obtain ⟨k, rfl⟩ : ∃ k : Nat, at_ = (k : Int) := ⟨at_.toNat, by omega⟩
  have hlt : k < l.length := by omega
  have he := List.getElem?_eq_getElem hlt
  by_cases h3 : l[k].back = 0
  · repeat (first | simp only [go_sem, ↓reduceIte, Nat.reduceEqDiff, Nat.reduceAdd, Nat.reduceSub, Nat.reduceMul, Nat.reduceLeDiff, Nat.reduceBEq, reduceCtorEq, Nat.reduceEqDiff, Int.reduceEq, Int.reduceLT, Int.reduceLE, Int.reduceNeg, Int.reduceBEq, Int.reduceBNe, Int.reduceToNat, Int.reducePow, h1, h2, h3, List.length_map, decide_true, decide_false, true_or, Int.natCast_nonneg, Int.toNat_natCast, getMap enc he, enc_len, enc_d4, bne_self_eq_false] | refine g_ref17_Live_o3_sh.mpr ?_ | refine g_ref17_Live_o2_sh.mpr ?_ | refine g_ref17_Live_o1_sh.mpr ?_ | refine g_ref17_Live_o0_sh.mpr ?_ | refine g_ref17_Live_c0_sh.mpr ?_ | refine g_ref17_Live_c1_sh.mpr ?_ | refine g_ref17_Live_c2_sh.mpr ?_ | refine g_ref17_Live_c3_sh.mpr ?_ | refine g_ref17_Live_c4_sh.mpr ?_ | refine g_ref17_Live_code_sh.mpr ?_)
    have hs : liveS l (k : Int) = !l.any (fun e => e.back == (k : Int) + 1) := by simp [liveS, he, h3]; omega
    refine refLive_loop l k hl (by omega) (by omega) (fun h st => ?_) (fun h => ?_) l.length 0 (by omega) rfl
    · repeat (first | simp only [go_sem, ↓reduceIte, Nat.reduceEqDiff, Nat.reduceAdd, Nat.reduceSub, Nat.reduceMul, Nat.reduceLeDiff, Nat.reduceBEq, reduceCtorEq, Nat.reduceEqDiff, Int.reduceEq, Int.reduceLT, Int.reduceLE, Int.reduceNeg, Int.reduceBEq, Int.reduceBNe, Int.reduceToNat, Int.reducePow, hs, h, true_or] | refine g_ref17_Live_o3_sh.mpr ?_ | refine g_ref17_Live_o2_sh.mpr ?_ | refine g_ref17_Live_o1_sh.mpr ?_ | refine g_ref17_Live_o0_sh.mpr ?_ | refine g_ref17_Live_c0_sh.mpr ?_ | refine g_ref17_Live_c1_sh.mpr ?_ | refine g_ref17_Live_c2_sh.mpr ?_ | refine g_ref17_Live_c3_sh.mpr ?_ | refine g_ref17_Live_c4_sh.mpr ?_ | refine g_ref17_Live_code_sh.mpr ?_)
    · simp only [go_sem, ↓reduceIte, Nat.reduceEqDiff, Nat.reduceAdd, Nat.reduceSub, Nat.reduceMul, Nat.reduceLeDiff, Nat.reduceBEq, reduceCtorEq, Nat.reduceEqDiff, Int.reduceEq, Int.reduceLT, Int.reduceLE, Int.reduceNeg, Int.reduceBEq, Int.reduceBNe, Int.reduceToNat, Int.reducePow, hs, h, true_or]
  · have hr : liveS l (k : Int) = false := by simp [liveS, he, h3]
    have h3' : (l[k].back != 0) = true := by simp [h3]
    repeat (first | simp only [go_sem, ↓reduceIte, Nat.reduceEqDiff, Nat.reduceAdd, Nat.reduceSub, Nat.reduceMul, Nat.reduceLeDiff, Nat.reduceBEq, reduceCtorEq, Nat.reduceEqDiff, Int.reduceEq, Int.reduceLT, Int.reduceLE, Int.reduceNeg, Int.reduceBEq, Int.reduceBNe, Int.reduceToNat, Int.reducePow, h1, h2, h3', hr, List.length_map, decide_true, decide_false, true_or, Int.natCast_nonneg, Int.toNat_natCast, getMap enc he, enc_len, enc_d4] | refine g_ref17_Live_o3_sh.mpr ?_ | refine g_ref17_Live_o2_sh.mpr ?_ | refine g_ref17_Live_o1_sh.mpr ?_ | refine g_ref17_Live_o0_sh.mpr ?_ | refine g_ref17_Live_c0_sh.mpr ?_ | refine g_ref17_Live_c1_sh.mpr ?_ | refine g_ref17_Live_c2_sh.mpr ?_ | refine g_ref17_Live_c3_sh.mpr ?_ | refine g_ref17_Live_c4_sh.mpr ?_ | refine g_ref17_Live_code_sh.mpr ?_)
end Pay
