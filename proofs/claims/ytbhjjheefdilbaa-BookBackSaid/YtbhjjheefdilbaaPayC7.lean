/- Contracts: a list, copied; an entry, added; an entry, taken back. -/
import Derived.Test.YtbhjjheefdilbaaPayC3
import Derived.Test.YtbhjjheefdilbaaPaySh0
import Derived.Test.YtbhjjheefdilbaaPaySh1
set_option linter.unusedSimpArgs false
set_option linter.unusedVariables false
namespace Pay
open Go
attribute [local irreducible] wpB opsB treeB drawB

theorem clone {C : Ctx} (h14 : okFn C.P C.φ 14 g_slices_Clone_Entry = true) (l : List Ent) (hl : l.length < 1000) :
    SoundAt C 14 ⟨[vEnts l], looko []⟩ ⟨.own 7, looko [(7, some (.row 22 (l.map enc)))]⟩ := by
  refine SoundAt.of_run h14 rfl (fun Q hR _ => ?_)
  rw [entry1]
  cases l with
  | nil =>
    repeat (first | simp only [go_sem, ↓reduceIte, Nat.reduceEqDiff, Nat.reduceAdd, Nat.reduceSub, Nat.reduceMul, Nat.reduceLeDiff, Nat.reduceBEq, reduceCtorEq, Nat.reduceEqDiff, Int.reduceEq, Int.reduceLT, Int.reduceLE, Int.reduceNeg, Int.reduceBEq, Int.reduceBNe, Int.reduceToNat, Int.reducePow] | refine g_slices_Clone_Entry_code_sh.mpr ?_)
    intro c
    cases c with
    | true =>
      repeat (first | simp only [go_sem, ↓reduceIte, Nat.reduceEqDiff, Nat.reduceAdd, Nat.reduceSub, Nat.reduceMul, Nat.reduceLeDiff, Nat.reduceBEq, reduceCtorEq, Nat.reduceEqDiff, Int.reduceEq, Int.reduceLT, Int.reduceLE, Int.reduceNeg, Int.reduceBEq, Int.reduceBNe, Int.reduceToNat, Int.reducePow] | refine g_slices_Clone_Entry_code_sh.mpr ?_)
      refine hR _ ?_
      rw [ends_own_cap rfl]
      simp only [go_sem, ↓reduceIte, Nat.reduceEqDiff, Nat.reduceAdd, Nat.reduceSub, Nat.reduceMul, Nat.reduceLeDiff, Nat.reduceBEq, reduceCtorEq, Nat.reduceEqDiff, Int.reduceEq, Int.reduceLT, Int.reduceLE, Int.reduceNeg, Int.reduceBEq, Int.reduceBNe, Int.reduceToNat, Int.reducePow]
    | false =>
      repeat (first | simp only [go_sem, ↓reduceIte, Nat.reduceEqDiff, Nat.reduceAdd, Nat.reduceSub, Nat.reduceMul, Nat.reduceLeDiff, Nat.reduceBEq, reduceCtorEq, Nat.reduceEqDiff, Int.reduceEq, Int.reduceLT, Int.reduceLE, Int.reduceNeg, Int.reduceBEq, Int.reduceBNe, Int.reduceToNat, Int.reducePow] | refine g_slices_Clone_Entry_code_sh.mpr ?_)
      refine hR _ ?_
      rw [ends_own_own rfl]
      simp only [go_sem, ↓reduceIte, Nat.reduceEqDiff, Nat.reduceAdd, Nat.reduceSub, Nat.reduceMul, Nat.reduceLeDiff, Nat.reduceBEq, reduceCtorEq, Nat.reduceEqDiff, Int.reduceEq, Int.reduceLT, Int.reduceLE, Int.reduceNeg, Int.reduceBEq, Int.reduceBNe, Int.reduceToNat, Int.reducePow]
  | cons a r =>
    have h1 : ((List.map enc r).length + 1) * 256 ≤ 140737488355328 := by simp at hl ⊢; omega
    have h2 : (List.map enc r).length ≤ 140737488355327 := by simp at hl ⊢; omega
    repeat (first | simp only [go_sem, ↓reduceIte, Nat.reduceEqDiff, Nat.reduceAdd, Nat.reduceSub, Nat.reduceMul, Nat.reduceLeDiff, Nat.reduceBEq, reduceCtorEq, Nat.reduceEqDiff, Int.reduceEq, Int.reduceLT, Int.reduceLE, Int.reduceNeg, Int.reduceBEq, Int.reduceBNe, Int.reduceToNat, Int.reducePow, vEnts, h1, h2] | refine g_slices_Clone_Entry_code_sh.mpr ?_)
    refine hR _ ?_
    rw [ends_own_own rfl]
    simp only [go_sem, ↓reduceIte, Nat.reduceEqDiff, Nat.reduceAdd, Nat.reduceSub, Nat.reduceMul, Nat.reduceLeDiff, Nat.reduceBEq, reduceCtorEq, Nat.reduceEqDiff, Int.reduceEq, Int.reduceLT, Int.reduceLE, Int.reduceNeg, Int.reduceBEq, Int.reduceBNe, Int.reduceToNat, Int.reducePow]

def addErr (l : List Ent) (e : Ent) : Int := if e.back = 0 then (if findS l e.id e.per ≥ 0 then 6 else 0) else 1
def addTo (l : List Ent) (e : Ent) : List Ent := if e.back = 0 then (if findS l e.id e.per ≥ 0 then l else l ++ [e]) else l

theorem bookAdd {C : Ctx} (h5 : okFn C.P C.φ 5 g_book_Add = true) (hFind : ∀ (l : List Ent) (id per : Int), l.length < 1000 → SoundAt C 8 ⟨[vBook l, vI id, vI per], looko []⟩ ⟨vI (findS l id per), looko []⟩)
    (hClone : ∀ l : List Ent, l.length < 1000 → SoundAt C 14 ⟨[vEnts l], looko []⟩ ⟨.own 7, looko [(7, some (.row 22 (l.map enc)))]⟩)
    (l : List Ent) (e : Ent) (hl : l.length < 1000) :
    SoundAt C 5 ⟨[vBook l, vEnt e], looko []⟩ ⟨.tup [vBook (addTo l e), vI (addErr l e)], looko []⟩ := by
  refine SoundAt.of_run h5 rfl (fun Q hR _ => ?_)
  rw [entry2]
  by_cases h1 : e.back = 0
  case neg =>
    have h1' : (e.back != 0) = true := by simp [h1]
    repeat (first | simp only [go_sem, ↓reduceIte, Nat.reduceEqDiff, Nat.reduceAdd, Nat.reduceSub, Nat.reduceMul, Nat.reduceLeDiff, Nat.reduceBEq, reduceCtorEq, Nat.reduceEqDiff, Int.reduceEq, Int.reduceLT, Int.reduceLE, Int.reduceNeg, Int.reduceBEq, Int.reduceBNe, Int.reduceToNat, Int.reducePow, List.getElem?_map, enc_g4, h1'] | refine g_book_Add_c0_sh.mpr ?_ | refine g_book_Add_c1_sh.mpr ?_ | refine g_book_Add_code_sh.mpr ?_)
    refine hR _ ?_
    simp only [go_sem, ↓reduceIte, Nat.reduceEqDiff, Nat.reduceAdd, Nat.reduceSub, Nat.reduceMul, Nat.reduceLeDiff, Nat.reduceBEq, reduceCtorEq, Nat.reduceEqDiff, Int.reduceEq, Int.reduceLT, Int.reduceLE, Int.reduceNeg, Int.reduceBEq, Int.reduceBNe, Int.reduceToNat, Int.reducePow, addErr, addTo, h1]
  have h1' : (e.back != 0) = false := by simp [h1]
  repeat (first | simp only [go_sem, ↓reduceIte, Nat.reduceEqDiff, Nat.reduceAdd, Nat.reduceSub, Nat.reduceMul, Nat.reduceLeDiff, Nat.reduceBEq, reduceCtorEq, Nat.reduceEqDiff, Int.reduceEq, Int.reduceLT, Int.reduceLE, Int.reduceNeg, Int.reduceBEq, Int.reduceBNe, Int.reduceToNat, Int.reducePow, List.getElem?_map, enc_g4, enc_g2, enc_g1, h1'] | refine g_book_Add_c0_sh.mpr ?_ | refine g_book_Add_c1_sh.mpr ?_ | refine g_book_Add_code_sh.mpr ?_)
  refine callK_plain (hFind l e.id e.per hl) (fun _ => rfl) ?_
  by_cases h2 : findS l e.id e.per ≥ 0
  · repeat (first | simp only [go_sem, ↓reduceIte, Nat.reduceEqDiff, Nat.reduceAdd, Nat.reduceSub, Nat.reduceMul, Nat.reduceLeDiff, Nat.reduceBEq, reduceCtorEq, Nat.reduceEqDiff, Int.reduceEq, Int.reduceLT, Int.reduceLE, Int.reduceNeg, Int.reduceBEq, Int.reduceBNe, Int.reduceToNat, Int.reducePow, h2] | refine g_book_Add_c0_sh.mpr ?_ | refine g_book_Add_c1_sh.mpr ?_ | refine g_book_Add_code_sh.mpr ?_)
    refine hR _ ?_
    simp only [go_sem, ↓reduceIte, Nat.reduceEqDiff, Nat.reduceAdd, Nat.reduceSub, Nat.reduceMul, Nat.reduceLeDiff, Nat.reduceBEq, reduceCtorEq, Nat.reduceEqDiff, Int.reduceEq, Int.reduceLT, Int.reduceLE, Int.reduceNeg, Int.reduceBEq, Int.reduceBNe, Int.reduceToNat, Int.reducePow, addErr, addTo, h1, h2]
  · repeat (first | simp only [go_sem, ↓reduceIte, Nat.reduceEqDiff, Nat.reduceAdd, Nat.reduceSub, Nat.reduceMul, Nat.reduceLeDiff, Nat.reduceBEq, reduceCtorEq, Nat.reduceEqDiff, Int.reduceEq, Int.reduceLT, Int.reduceLE, Int.reduceNeg, Int.reduceBEq, Int.reduceBNe, Int.reduceToNat, Int.reducePow, h2] | refine g_book_Add_c0_sh.mpr ?_ | refine g_book_Add_c1_sh.mpr ?_ | refine g_book_Add_code_sh.mpr ?_)
    have hr : addTo l e = l ++ [e] ∧ addErr l e = 0 := by simp [addErr, addTo, h1]; omega
    refine callE_own (hClone l hl) (fun h => h) (by simp only [go_sem, ↓reduceIte, Nat.reduceEqDiff, Nat.reduceAdd, Nat.reduceSub, Nat.reduceMul, Nat.reduceLeDiff, Nat.reduceBEq, reduceCtorEq, Nat.reduceEqDiff, Int.reduceEq, Int.reduceLT, Int.reduceLE, Int.reduceNeg, Int.reduceBEq, Int.reduceBNe, Int.reduceToNat, Int.reducePow]) ?_
    have h3 : ((List.map enc l).length + 1) * 256 ≤ 140737488355328 := by simp; omega
    have h4 : (List.map enc l).length ≤ 140737488355327 := by simp; omega
    repeat (first | simp only [go_sem, ↓reduceIte, Nat.reduceEqDiff, Nat.reduceAdd, Nat.reduceSub, Nat.reduceMul, Nat.reduceLeDiff, Nat.reduceBEq, reduceCtorEq, Nat.reduceEqDiff, Int.reduceEq, Int.reduceLT, Int.reduceLE, Int.reduceNeg, Int.reduceBEq, Int.reduceBNe, Int.reduceToNat, Int.reducePow, h3, h4] | refine g_book_Add_c0_sh.mpr ?_ | refine g_book_Add_c1_sh.mpr ?_ | refine g_book_Add_code_sh.mpr ?_)
    refine And.intro ?_ ?_
    · refine hR _ ?_
      simp only [go_sem, ↓reduceIte, Nat.reduceEqDiff, Nat.reduceAdd, Nat.reduceSub, Nat.reduceMul, Nat.reduceLeDiff, Nat.reduceBEq, reduceCtorEq, Nat.reduceEqDiff, Int.reduceEq, Int.reduceLT, Int.reduceLE, Int.reduceNeg, Int.reduceBEq, Int.reduceBNe, Int.reduceToNat, Int.reducePow, hr.1, hr.2, vBook, List.map_append]
    · intro m hm n cs hn
      injection hm with hm
      subst hm
      repeat' (split at hn)
      all_goals first | (cases hn; done) | (injection hn with hn; injection hn with hn; subst hn; simp only [go_sem, ↓reduceIte, Nat.reduceEqDiff, Nat.reduceAdd, Nat.reduceSub, Nat.reduceMul, Nat.reduceLeDiff, Nat.reduceBEq, reduceCtorEq, Nat.reduceEqDiff, Int.reduceEq, Int.reduceLT, Int.reduceLE, Int.reduceNeg, Int.reduceBEq, Int.reduceBNe, Int.reduceToNat, Int.reducePow])

def revErr (l : List Ent) (at_ : Int) : Int := if at_ < 0 ∨ at_ ≥ l.length then 5 else match l[at_.toNat]? with
  | some e => if e.back = 0 then (if liveS l at_ = true then 0 else 6) else 1
  | none => 5
def revTo (l : List Ent) (at_ : Int) : List Ent := if at_ < 0 ∨ at_ ≥ l.length then l else match l[at_.toNat]? with
  | some e => if liveS l at_ = true then l ++ [setBack e (at_ + 1)] else l
  | none => l

theorem bookReverse {C : Ctx} (h7 : okFn C.P C.φ 7 g_book_Reverse = true) (hLive : ∀ (l : List Ent) (at_ : Int), l.length < 1000 → SoundAt C 9 ⟨[vBook l, vI at_], looko []⟩ ⟨vB (liveS l at_), looko []⟩)
    (hClone : ∀ l : List Ent, l.length < 1000 → SoundAt C 14 ⟨[vEnts l], looko []⟩ ⟨.own 7, looko [(7, some (.row 22 (l.map enc)))]⟩)
    (l : List Ent) (at_ : Int) (hl : l.length < 1000) :
    SoundAt C 7 ⟨[vBook l, vI at_], looko []⟩ ⟨.tup [vBook (revTo l at_), vI (revErr l at_)], looko []⟩ := by
  refine SoundAt.of_run h7 rfl (fun Q hR _ => ?_)
  rw [entry2]
  by_cases h1 : at_ < 0
  · repeat (first | simp only [go_sem, ↓reduceIte, Nat.reduceEqDiff, Nat.reduceAdd, Nat.reduceSub, Nat.reduceMul, Nat.reduceLeDiff, Nat.reduceBEq, reduceCtorEq, Nat.reduceEqDiff, Int.reduceEq, Int.reduceLT, Int.reduceLE, Int.reduceNeg, Int.reduceBEq, Int.reduceBNe, Int.reduceToNat, Int.reducePow, h1] | refine g_book_Reverse_o1_sh.mpr ?_ | refine g_book_Reverse_o0_sh.mpr ?_ | refine g_book_Reverse_c0_sh.mpr ?_ | refine g_book_Reverse_c1_sh.mpr ?_ | refine g_book_Reverse_c2_sh.mpr ?_ | refine g_book_Reverse_c3_sh.mpr ?_ | refine g_book_Reverse_code_sh.mpr ?_)
    refine hR _ ?_
    simp only [go_sem, ↓reduceIte, Nat.reduceEqDiff, Nat.reduceAdd, Nat.reduceSub, Nat.reduceMul, Nat.reduceLeDiff, Nat.reduceBEq, reduceCtorEq, Nat.reduceEqDiff, Int.reduceEq, Int.reduceLT, Int.reduceLE, Int.reduceNeg, Int.reduceBEq, Int.reduceBNe, Int.reduceToNat, Int.reducePow, revErr, revTo, h1, true_or]
  by_cases h2 : at_ ≥ (l.length : Int)
  · repeat (first | simp only [go_sem, ↓reduceIte, Nat.reduceEqDiff, Nat.reduceAdd, Nat.reduceSub, Nat.reduceMul, Nat.reduceLeDiff, Nat.reduceBEq, reduceCtorEq, Nat.reduceEqDiff, Int.reduceEq, Int.reduceLT, Int.reduceLE, Int.reduceNeg, Int.reduceBEq, Int.reduceBNe, Int.reduceToNat, Int.reducePow, h1, h2, List.length_map] | refine g_book_Reverse_o1_sh.mpr ?_ | refine g_book_Reverse_o0_sh.mpr ?_ | refine g_book_Reverse_c0_sh.mpr ?_ | refine g_book_Reverse_c1_sh.mpr ?_ | refine g_book_Reverse_c2_sh.mpr ?_ | refine g_book_Reverse_c3_sh.mpr ?_ | refine g_book_Reverse_code_sh.mpr ?_)
    refine hR _ ?_
    simp only [go_sem, ↓reduceIte, Nat.reduceEqDiff, Nat.reduceAdd, Nat.reduceSub, Nat.reduceMul, Nat.reduceLeDiff, Nat.reduceBEq, reduceCtorEq, Nat.reduceEqDiff, Int.reduceEq, Int.reduceLT, Int.reduceLE, Int.reduceNeg, Int.reduceBEq, Int.reduceBNe, Int.reduceToNat, Int.reducePow, revErr, revTo, h1, h2, or_true]
  obtain ⟨k, rfl⟩ : ∃ k : Nat, at_ = (k : Int) := ⟨at_.toNat, by omega⟩
  have hlt : k < l.length := by omega
  have he := List.getElem?_eq_getElem hlt
  by_cases h3 : l[k].back = 0
  case neg =>
    have h3' : (l[k].back != 0) = true := by simp [h3]
    have hr1 : revErr l k = 1 := by simp [revErr, h1, h2, he, h3]
    have hr2 : revTo l k = l := by simp [revTo, h1, h2, he, liveS, h3]
    repeat (first | simp only [go_sem, ↓reduceIte, Nat.reduceEqDiff, Nat.reduceAdd, Nat.reduceSub, Nat.reduceMul, Nat.reduceLeDiff, Nat.reduceBEq, reduceCtorEq, Nat.reduceEqDiff, Int.reduceEq, Int.reduceLT, Int.reduceLE, Int.reduceNeg, Int.reduceBEq, Int.reduceBNe, Int.reduceToNat, Int.reducePow, h1, h2, List.length_map, Int.natCast_nonneg, Int.toNat_natCast, getMap enc he, enc_d4, h3'] | refine g_book_Reverse_o1_sh.mpr ?_ | refine g_book_Reverse_o0_sh.mpr ?_ | refine g_book_Reverse_c0_sh.mpr ?_ | refine g_book_Reverse_c1_sh.mpr ?_ | refine g_book_Reverse_c2_sh.mpr ?_ | refine g_book_Reverse_c3_sh.mpr ?_ | refine g_book_Reverse_code_sh.mpr ?_)
    refine hR _ ?_
    simp only [go_sem, ↓reduceIte, Nat.reduceEqDiff, Nat.reduceAdd, Nat.reduceSub, Nat.reduceMul, Nat.reduceLeDiff, Nat.reduceBEq, reduceCtorEq, Nat.reduceEqDiff, Int.reduceEq, Int.reduceLT, Int.reduceLE, Int.reduceNeg, Int.reduceBEq, Int.reduceBNe, Int.reduceToNat, Int.reducePow, hr1, hr2]
  have h3' : (l[k].back != 0) = false := by simp [h3]
  repeat (first | simp only [go_sem, ↓reduceIte, Nat.reduceEqDiff, Nat.reduceAdd, Nat.reduceSub, Nat.reduceMul, Nat.reduceLeDiff, Nat.reduceBEq, reduceCtorEq, Nat.reduceEqDiff, Int.reduceEq, Int.reduceLT, Int.reduceLE, Int.reduceNeg, Int.reduceBEq, Int.reduceBNe, Int.reduceToNat, Int.reducePow, h1, h2, List.length_map, Int.natCast_nonneg, Int.toNat_natCast, getMap enc he, enc_d4, h3'] | refine g_book_Reverse_o1_sh.mpr ?_ | refine g_book_Reverse_o0_sh.mpr ?_ | refine g_book_Reverse_c0_sh.mpr ?_ | refine g_book_Reverse_c1_sh.mpr ?_ | refine g_book_Reverse_c2_sh.mpr ?_ | refine g_book_Reverse_c3_sh.mpr ?_ | refine g_book_Reverse_code_sh.mpr ?_)
  refine callK_plain (hLive l k hl) (fun _ => rfl) ?_
  cases h4 : liveS l k with
  | false =>
    have hr1 : revErr l k = 6 := by simp [revErr, h1, h2, he, h3, h4]
    have hr2 : revTo l k = l := by simp [revTo, h1, h2, he, h4]
    repeat (first | simp only [go_sem, ↓reduceIte, Nat.reduceEqDiff, Nat.reduceAdd, Nat.reduceSub, Nat.reduceMul, Nat.reduceLeDiff, Nat.reduceBEq, reduceCtorEq, Nat.reduceEqDiff, Int.reduceEq, Int.reduceLT, Int.reduceLE, Int.reduceNeg, Int.reduceBEq, Int.reduceBNe, Int.reduceToNat, Int.reducePow] | refine g_book_Reverse_o1_sh.mpr ?_ | refine g_book_Reverse_o0_sh.mpr ?_ | refine g_book_Reverse_c0_sh.mpr ?_ | refine g_book_Reverse_c1_sh.mpr ?_ | refine g_book_Reverse_c2_sh.mpr ?_ | refine g_book_Reverse_c3_sh.mpr ?_ | refine g_book_Reverse_code_sh.mpr ?_)
    refine hR _ ?_
    simp only [go_sem, ↓reduceIte, Nat.reduceEqDiff, Nat.reduceAdd, Nat.reduceSub, Nat.reduceMul, Nat.reduceLeDiff, Nat.reduceBEq, reduceCtorEq, Nat.reduceEqDiff, Int.reduceEq, Int.reduceLT, Int.reduceLE, Int.reduceNeg, Int.reduceBEq, Int.reduceBNe, Int.reduceToNat, Int.reducePow, hr1, hr2]
  | true =>
    have hr1 : revErr l k = 0 := by simp [revErr, h1, h2, he, h3, h4]
    have hr2 : revTo l k = l ++ [setBack l[k] ((k : Int) + 1)] := by simp [revTo, h1, h2, he, h4]
    have hw : IntKind.i64.wrap ((k : Int) + 1) = (k : Int) + 1 := wrapI (by omega) (by omega)
    repeat (first | simp only [go_sem, ↓reduceIte, Nat.reduceEqDiff, Nat.reduceAdd, Nat.reduceSub, Nat.reduceMul, Nat.reduceLeDiff, Nat.reduceBEq, reduceCtorEq, Nat.reduceEqDiff, Int.reduceEq, Int.reduceLT, Int.reduceLE, Int.reduceNeg, Int.reduceBEq, Int.reduceBNe, Int.reduceToNat, Int.reducePow, Int.natCast_nonneg, Int.toNat_natCast, getMap enc he, hw, enc_back] | refine g_book_Reverse_o1_sh.mpr ?_ | refine g_book_Reverse_o0_sh.mpr ?_ | refine g_book_Reverse_c0_sh.mpr ?_ | refine g_book_Reverse_c1_sh.mpr ?_ | refine g_book_Reverse_c2_sh.mpr ?_ | refine g_book_Reverse_c3_sh.mpr ?_ | refine g_book_Reverse_code_sh.mpr ?_)
    refine callE_own (hClone l hl) (fun h => h) (by simp only [go_sem, ↓reduceIte, Nat.reduceEqDiff, Nat.reduceAdd, Nat.reduceSub, Nat.reduceMul, Nat.reduceLeDiff, Nat.reduceBEq, reduceCtorEq, Nat.reduceEqDiff, Int.reduceEq, Int.reduceLT, Int.reduceLE, Int.reduceNeg, Int.reduceBEq, Int.reduceBNe, Int.reduceToNat, Int.reducePow]) ?_
    have h5 : ((List.map enc l).length + 1) * 256 ≤ 140737488355328 := by simp; omega
    have h6 : (List.map enc l).length ≤ 140737488355327 := by simp; omega
    repeat (first | simp only [go_sem, ↓reduceIte, Nat.reduceEqDiff, Nat.reduceAdd, Nat.reduceSub, Nat.reduceMul, Nat.reduceLeDiff, Nat.reduceBEq, reduceCtorEq, Nat.reduceEqDiff, Int.reduceEq, Int.reduceLT, Int.reduceLE, Int.reduceNeg, Int.reduceBEq, Int.reduceBNe, Int.reduceToNat, Int.reducePow, h5, h6] | refine g_book_Reverse_o1_sh.mpr ?_ | refine g_book_Reverse_o0_sh.mpr ?_ | refine g_book_Reverse_c0_sh.mpr ?_ | refine g_book_Reverse_c1_sh.mpr ?_ | refine g_book_Reverse_c2_sh.mpr ?_ | refine g_book_Reverse_c3_sh.mpr ?_ | refine g_book_Reverse_code_sh.mpr ?_)
    refine And.intro ?_ ?_
    · refine hR _ ?_
      simp only [go_sem, ↓reduceIte, Nat.reduceEqDiff, Nat.reduceAdd, Nat.reduceSub, Nat.reduceMul, Nat.reduceLeDiff, Nat.reduceBEq, reduceCtorEq, Nat.reduceEqDiff, Int.reduceEq, Int.reduceLT, Int.reduceLE, Int.reduceNeg, Int.reduceBEq, Int.reduceBNe, Int.reduceToNat, Int.reducePow, hr1, hr2, vBook, List.map_append]
    · intro m hm n cs hn
      injection hm with hm
      subst hm
      repeat' (split at hn)
      all_goals first | (cases hn; done) | (injection hn with hn; injection hn with hn; subst hn; simp only [go_sem, ↓reduceIte, Nat.reduceEqDiff, Nat.reduceAdd, Nat.reduceSub, Nat.reduceMul, Nat.reduceLeDiff, Nat.reduceBEq, reduceCtorEq, Nat.reduceEqDiff, Int.reduceEq, Int.reduceLT, Int.reduceLE, Int.reduceNeg, Int.reduceBEq, Int.reduceBNe, Int.reduceToNat, Int.reducePow])
end Pay
