/- The laws of amounts: lists. -/
import Derived.Test.YtbhjjheefdilbaaDoorPayC37
import Derived.Test.YtbhjjheefdilbaaDoorPaySh0
import Derived.Test.YtbhjjheefdilbaaDoorPaySh1
set_option linter.unusedSimpArgs false
set_option linter.unusedVariables false
namespace Pay
open Go
attribute [local irreducible] wpB opsB treeB drawB

def sml (n : Int) : Int := n.tmod 9007199254740992
theorem sml_lt (n : Int) : -9007199254740992 < sml n ∧ sml n < 9007199254740992 := by
  unfold sml
  by_cases h : 0 ≤ n
  · rw [Int.tmod_eq_emod_of_nonneg h]; omega
  · have := Int.neg_tmod n 9007199254740992
    rw [Int.tmod_eq_emod_of_nonneg (by omega)] at this; omega
theorem sum_small : ∀ (l : List Int) (s : Int) (k : Nat), (∀ n ∈ l, -9007199254740992 < n ∧ n < 9007199254740992) → -(9007199254740992 * (k : Int)) ≤ s → s ≤ 9007199254740992 * (k : Int) → k + l.length ≤ 1000 → sumFrom s l = (s + l.sum, 0)
  | [], s, k, _, _, _, _ => by simp [sumFrom]
  | n :: l, s, k, h, h1, h2, h3 => by
    have hn := h n (by simp)
    simp only [List.length_cons] at h3
    have ha : addS s n = (s + n, 0) := addS_yes (by unfold i64; omega) (by unfold i64; omega) (by unfold fits; omega)
    rw [sumFrom, ha, if_pos rfl, sum_small l (s + n) (k + 1) (fun m hm => h m (List.mem_cons_of_mem _ hm)) (by omega) (by omega) (by omega), List.sum_cons, Int.add_assoc]
theorem sum_map {l : List Int} (h : l.length ≤ 500) : sumFrom 0 (l.map sml) = ((l.map sml).sum, 0) := by
  have := sum_small (l.map sml) 0 0 (fun n hn => by obtain ⟨m, _, rfl⟩ := List.mem_map.1 hn; exact sml_lt m) (by omega) (by omega) (by simp; omega)
  simpa using this
theorem sum_bound : ∀ (l : List Int), (∀ n ∈ l, -9007199254740992 < n ∧ n < 9007199254740992) → -(9007199254740992 * (l.length : Int)) ≤ l.sum ∧ l.sum ≤ 9007199254740992 * (l.length : Int)
  | [], _ => by simp
  | n :: l, h => by
    have hn := h n (by simp)
    have := sum_bound l (fun m hm => h m (List.mem_cons_of_mem _ hm))
    simp only [List.sum_cons, List.length_cons]
    omega

abbrev encS (n : Int) : List D := encI (sml n)
theorem little_loop {C : Ctx} {I : Nat → Prop} (hI : ∀ n, ¬ I n) {Q : Ex → St → Prop} {l : List Int} (hl : l.length < 1000)
    (hT : ∀ s, s 3 = ownV 16 l → Q (.exit 0) (St.mk s (looko [(16, ownO 1 encS l)]))) :
    ∀ (n k : Nat) (acc : List Int), k + n = l.length → acc = l.take k →
      wpB C I g_law01_little.l0 (St.mk (look [(3, ownV 16 acc), (6, vInts l), (7, vI l.length), (8, vI k)]) (looko [(16, ownO 1 encS acc)])) Q := by
  intro n
  induction n with
  | zero =>
    intro k acc hk ha
    refine g_law01_little_l0_sh rfl ?_
    have hk' : k = l.length := by omega
    subst hk'
    rw [List.take_length] at ha
    subst ha
    simp only [go_sem, ↓reduceIte, Nat.reduceEqDiff, Nat.reduceAdd, Nat.reduceSub, Nat.reduceMul, Nat.reduceLeDiff, Nat.reduceBEq, reduceCtorEq, Nat.reduceEqDiff, Int.reduceEq, Int.reduceLT, Int.reduceLE, Int.reduceNeg, Int.reduceBEq, Int.reduceBNe, Int.reduceToNat, Int.reducePow, Int.lt_irrefl, decide_false]
    exact hT _ rfl
  | succ n ih =>
    intro k acc hk ha
    refine g_law01_little_l0_sh rfl ?_
    have hlt : k < l.length := by omega
    have he := List.getElem?_eq_getElem hlt
    have hlt' : ((k : Int) < (l.length : Int)) := by omega
    have hw1 : IntKind.i64.wrap ((k : Int) + 1) = (k : Int) + 1 := wrapI (by omega) (by omega)
    have hal : acc.length ≤ 999 := by rw [ha]; simp; omega
    have next := ih (k + 1) (acc ++ [l[k]]) (by omega) (by rw [ha, List.take_add_one, he]; rfl)
    rw [ownV_snoc, ownO_snoc] at next
    cases acc with
    | nil =>
      repeat (first | simp only [go_sem, ↓reduceIte, Nat.reduceEqDiff, Nat.reduceAdd, Nat.reduceSub, Nat.reduceMul, Nat.reduceLeDiff, Nat.reduceBEq, reduceCtorEq, Nat.reduceEqDiff, Int.reduceEq, Int.reduceLT, Int.reduceLE, Int.reduceNeg, Int.reduceBEq, Int.reduceBNe, Int.reduceToNat, Int.reducePow, ownV, ownO, hI, hlt', decide_true, Int.natCast_nonneg, Int.toNat_natCast, getMap encI he, encI, partsN, hw1] | refine g_law01_little_c0_sh.mpr ?_ | refine g_law01_little_c1_sh.mpr ?_ | refine g_law01_little_code_sh.mpr ?_)
      exact next
    | cons a r =>
      repeat (first | simp only [go_sem, ↓reduceIte, Nat.reduceEqDiff, Nat.reduceAdd, Nat.reduceSub, Nat.reduceMul, Nat.reduceLeDiff, Nat.reduceBEq, reduceCtorEq, Nat.reduceEqDiff, Int.reduceEq, Int.reduceLT, Int.reduceLE, Int.reduceNeg, Int.reduceBEq, Int.reduceBNe, Int.reduceToNat, Int.reducePow, ownV, ownO, hI, hlt', decide_true, Int.natCast_nonneg, Int.toNat_natCast, getMap encI he, encI, partsN, hw1] | refine g_law01_little_c0_sh.mpr ?_ | refine g_law01_little_c1_sh.mpr ?_ | refine g_law01_little_code_sh.mpr ?_)
      refine ⟨by simp at hal ⊢; omega, by simp at hal ⊢; omega, ?_⟩
      repeat (first | simp only [go_sem, ↓reduceIte, Nat.reduceEqDiff, Nat.reduceAdd, Nat.reduceSub, Nat.reduceMul, Nat.reduceLeDiff, Nat.reduceBEq, reduceCtorEq, Nat.reduceEqDiff, Int.reduceEq, Int.reduceLT, Int.reduceLE, Int.reduceNeg, Int.reduceBEq, Int.reduceBNe, Int.reduceToNat, Int.reducePow, hw1] | refine g_law01_little_c0_sh.mpr ?_ | refine g_law01_little_c1_sh.mpr ?_ | refine g_law01_little_code_sh.mpr ?_)
      exact next
theorem little {C : Ctx} (h : okFn C.P C.φ 62 g_law01_little = true) (l : List Int) (hl : l.length < 1000) : SoundAt C 62 ⟨[vInts l], looko []⟩ ⟨vInts (l.map sml), looko []⟩ := by
  have h0 : SoundAt C 62 ⟨[vInts l], looko []⟩ ⟨slV encS l, looko []⟩ := by
    refine SoundAt.of_run h rfl (fun Q hR _ => ?_)
    rw [entry1]
    repeat (first | simp only [go_sem, ↓reduceIte, Nat.reduceEqDiff, Nat.reduceAdd, Nat.reduceSub, Nat.reduceMul, Nat.reduceLeDiff, Nat.reduceBEq, reduceCtorEq, Nat.reduceEqDiff, Int.reduceEq, Int.reduceLT, Int.reduceLE, Int.reduceNeg, Int.reduceBEq, Int.reduceBNe, Int.reduceToNat, Int.reducePow, List.length_map] | refine g_law01_little_c0_sh.mpr ?_ | refine g_law01_little_c1_sh.mpr ?_ | refine g_law01_little_code_sh.mpr ?_)
    refine little_loop (fun _ h => h) hl (fun s h3 => ?_) l.length 0 [] (by omega) rfl
    cases l with
    | nil =>
      repeat (first | simp only [go_sem, ↓reduceIte, Nat.reduceEqDiff, Nat.reduceAdd, Nat.reduceSub, Nat.reduceMul, Nat.reduceLeDiff, Nat.reduceBEq, reduceCtorEq, Nat.reduceEqDiff, Int.reduceEq, Int.reduceLT, Int.reduceLE, Int.reduceNeg, Int.reduceBEq, Int.reduceBNe, Int.reduceToNat, Int.reducePow, h3, ownV, ownO] | refine g_law01_little_c0_sh.mpr ?_ | refine g_law01_little_c1_sh.mpr ?_ | refine g_law01_little_code_sh.mpr ?_)
      refine hR _ ?_
      simp only [go_sem, ↓reduceIte, Nat.reduceEqDiff, Nat.reduceAdd, Nat.reduceSub, Nat.reduceMul, Nat.reduceLeDiff, Nat.reduceBEq, reduceCtorEq, Nat.reduceEqDiff, Int.reduceEq, Int.reduceLT, Int.reduceLE, Int.reduceNeg, Int.reduceBEq, Int.reduceBNe, Int.reduceToNat, Int.reducePow, slV]
    | cons a r =>
      repeat (first | simp only [go_sem, ↓reduceIte, Nat.reduceEqDiff, Nat.reduceAdd, Nat.reduceSub, Nat.reduceMul, Nat.reduceLeDiff, Nat.reduceBEq, reduceCtorEq, Nat.reduceEqDiff, Int.reduceEq, Int.reduceLT, Int.reduceLE, Int.reduceNeg, Int.reduceBEq, Int.reduceBNe, Int.reduceToNat, Int.reducePow, h3, ownV, ownO] | refine g_law01_little_c0_sh.mpr ?_ | refine g_law01_little_c1_sh.mpr ?_ | refine g_law01_little_code_sh.mpr ?_)
      refine hR _ ?_
      simp only [go_sem, ↓reduceIte, Nat.reduceEqDiff, Nat.reduceAdd, Nat.reduceSub, Nat.reduceMul, Nat.reduceLeDiff, Nat.reduceBEq, reduceCtorEq, Nat.reduceEqDiff, Int.reduceEq, Int.reduceLT, Int.reduceLE, Int.reduceNeg, Int.reduceBEq, Int.reduceBNe, Int.reduceToNat, Int.reducePow, slV]
  have := SoundAt.res_up h0
  rw [slV_up] at this
  have e : (l.map sml).map encI = l.map encS := by rw [List.map_map]; rfl
  show SoundAt C 62 _ ⟨.d (.sl ((l.map sml).map encI)), looko []⟩
  rw [e]
  exact this
theorem ints_all (l : List Int) : (∀ e : List D, e ∈ List.map encI l → e.length = 1) = True := eq_true (fun e he => by obtain ⟨m, _, rfl⟩ := List.mem_map.1 he; rfl)

theorem lawFirst {C : Ctx} (h : okFn C.P C.φ 61 g_law01_MoneyFirst = true) (K : MonK C) (hL : ∀ l : List Int, l.length < 1000 → SoundAt C 62 ⟨[vInts l], looko []⟩ ⟨vInts (l.map sml), looko []⟩) (a b : List Int) :
    SoundAt C 61 ⟨[vInts a, vInts b], looko []⟩ ⟨vB true, looko []⟩ := by
  refine SoundAt.of_run h rfl (fun Q hR hN => ?_)
  rw [entry2]
  by_cases h1 : ((a.length : Int) > 50)
  · repeat' (first | simp only [go_sem, ↓reduceIte, Nat.reduceEqDiff, Nat.reduceAdd, Nat.reduceSub, Nat.reduceMul, Nat.reduceLeDiff, Nat.reduceBEq, reduceCtorEq, Nat.reduceEqDiff, Int.reduceEq, Int.reduceLT, Int.reduceLE, Int.reduceNeg, Int.reduceBEq, Int.reduceBNe, Int.reduceToNat, Int.reducePow, List.length_map, h1, decide_true] | refine g_law01_MoneyFirst_code_sh.mpr ?_ | refine g_law01_MoneyFirst_o0_sh.mpr ?_ | refine g_law01_MoneyFirst_o1_sh.mpr ?_ | refine g_law01_MoneyFirst_c0_sh.mpr ?_ | refine callK_plain (K.awake) (fun _ => rfl) ?_ | refine hR _ ?_ | split)
  by_cases h2 : ((b.length : Int) > 50)
  · repeat' (first | simp only [go_sem, ↓reduceIte, Nat.reduceEqDiff, Nat.reduceAdd, Nat.reduceSub, Nat.reduceMul, Nat.reduceLeDiff, Nat.reduceBEq, reduceCtorEq, Nat.reduceEqDiff, Int.reduceEq, Int.reduceLT, Int.reduceLE, Int.reduceNeg, Int.reduceBEq, Int.reduceBNe, Int.reduceToNat, Int.reducePow, List.length_map, h1, h2, decide_true, decide_false] | refine g_law01_MoneyFirst_code_sh.mpr ?_ | refine g_law01_MoneyFirst_o0_sh.mpr ?_ | refine g_law01_MoneyFirst_o1_sh.mpr ?_ | refine g_law01_MoneyFirst_c0_sh.mpr ?_ | refine callK_plain (K.awake) (fun _ => rfl) ?_ | refine hR _ ?_ | split)
  have t1 := hL a (by omega)
  have t2 := hL b (by omega)
  have t3 := K.sum (a.map sml) (by simp; omega)
  have t4 := K.sum (b.map sml) (by simp; omega)
  have t6 := K.sum (a.map sml ++ b.map sml) (by simp; omega)
  rw [sum_map (by omega)] at t3 t4
  have ba := sum_bound (a.map sml) (fun n hn => by obtain ⟨m, _, rfl⟩ := List.mem_map.1 hn; exact sml_lt m)
  have bb := sum_bound (b.map sml) (fun n hn => by obtain ⟨m, _, rfl⟩ := List.mem_map.1 hn; exact sml_lt m)
  rw [List.length_map] at ba bb
  rw [← List.map_append, sum_map (by simp; omega), List.map_append, List.sum_append] at t6
  have t5 := K.add (a.map sml).sum (b.map sml).sum
  rw [addS_yes (by unfold i64; omega) (by unfold i64; omega) (by unfold fits; omega)] at t5
  have la : (a.map sml).length ≤ 50 := by simp; omega
  have lb : (b.map sml).length ≤ 50 := by simp; omega
  generalize a.map sml = x at *
  generalize b.map sml = y at *
  have q1 : x.length * 8 ≤ 140737488355328 := by omega
  have q2 : x.length ≤ 140737488355328 := by omega
  have q3 : (x.length + y.length) * 8 ≤ 140737488355328 := by omega
  have q4 : x.length + y.length ≤ 140737488355328 := by omega
  simp only [vInts, List.map_append] at t6
  repeat' (first | simp only [go_sem, ↓reduceIte, Nat.reduceEqDiff, Nat.reduceAdd, Nat.reduceSub, Nat.reduceMul, Nat.reduceLeDiff, Nat.reduceBEq, reduceCtorEq, Nat.reduceEqDiff, Int.reduceEq, Int.reduceLT, Int.reduceLE, Int.reduceNeg, Int.reduceBEq, Int.reduceBNe, Int.reduceToNat, Int.reducePow, List.length_map, h1, h2, decide_true, decide_false, ints_all, q1, q2, q3, q4, List.length_append] | refine g_law01_MoneyFirst_o1_sh.mpr ?_ | refine g_law01_MoneyFirst_o0_sh.mpr ?_ | refine g_law01_MoneyFirst_c0_sh.mpr ?_ | refine g_law01_MoneyFirst_o7_sh.mpr ?_ | refine g_law01_MoneyFirst_o6_sh.mpr ?_ | refine g_law01_MoneyFirst_o5_sh.mpr ?_ | refine g_law01_MoneyFirst_o4_sh.mpr ?_ | refine g_law01_MoneyFirst_o3_sh.mpr ?_ | refine g_law01_MoneyFirst_o2_sh.mpr ?_ | refine g_law01_MoneyFirst_c1_sh.mpr ?_ | refine g_law01_MoneyFirst_c2_sh.mpr ?_ | refine g_law01_MoneyFirst_c3_sh.mpr ?_ | refine g_law01_MoneyFirst_c4_sh.mpr ?_ | refine g_law01_MoneyFirst_c5_sh.mpr ?_ | refine g_law01_MoneyFirst_c6_sh.mpr ?_ | refine g_law01_MoneyFirst_c7_sh.mpr ?_ | refine g_law01_MoneyFirst_code_sh.mpr ?_ | refine callK_plain (K.awake) (fun _ => rfl) ?_ | refine callK_plain (t1) (fun _ => rfl) ?_ | refine callK_plain (t2) (fun _ => rfl) ?_ | refine callK_plain (t3) (fun _ => rfl) ?_ | refine callK_plain (t4) (fun _ => rfl) ?_ | refine callK_plain (t5) (fun _ => rfl) ?_ | refine callK_plain (t6) (fun _ => rfl) ?_ | refine hR _ ?_ | split)
theorem lists_loop {C : Ctx} {I : Nat → Prop} (hI : ∀ n, ¬ I n) {Q : Ex → St → Prop} {l : List Int} (hl : l.length < 1000)
    (hT : ∀ s, s 3 = ownV 27 l → s 4 = .cap0 → Q (.exit 0) (St.mk s (looko [(27, ownO 1 encS l), (35, none), (40, none)]))) :
    ∀ (n k : Nat) (acc : List Int), k + n = l.length → acc = l.take k →
      wpB C I g_law01_MoneyLists.l0 (St.mk (look [(3, ownV 27 acc), (4, .cap0), (17, vInts l), (18, vI l.length), (19, vI k)]) (looko [(27, ownO 1 encS acc), (35, none), (40, none)])) Q := by
  intro n
  induction n with
  | zero =>
    intro k acc hk ha
    refine g_law01_MoneyLists_l0_sh rfl ?_
    have hk' : k = l.length := by omega
    subst hk'
    rw [List.take_length] at ha
    subst ha
    simp only [go_sem, ↓reduceIte, Nat.reduceEqDiff, Nat.reduceAdd, Nat.reduceSub, Nat.reduceMul, Nat.reduceLeDiff, Nat.reduceBEq, reduceCtorEq, Nat.reduceEqDiff, Int.reduceEq, Int.reduceLT, Int.reduceLE, Int.reduceNeg, Int.reduceBEq, Int.reduceBNe, Int.reduceToNat, Int.reducePow, Int.lt_irrefl, decide_false]
    exact hT _ rfl rfl
  | succ n ih =>
    intro k acc hk ha
    refine g_law01_MoneyLists_l0_sh rfl ?_
    have hlt : k < l.length := by omega
    have he := List.getElem?_eq_getElem hlt
    have hlt' : ((k : Int) < (l.length : Int)) := by omega
    have hw1 : IntKind.i64.wrap ((k : Int) + 1) = (k : Int) + 1 := wrapI (by omega) (by omega)
    have hal : acc.length ≤ 999 := by rw [ha]; simp; omega
    have next := ih (k + 1) (acc ++ [l[k]]) (by omega) (by rw [ha, List.take_add_one, he]; rfl)
    rw [ownV_snoc, ownO_snoc] at next
    cases acc with
    | nil =>
      repeat (first | simp only [go_sem, ↓reduceIte, Nat.reduceEqDiff, Nat.reduceAdd, Nat.reduceSub, Nat.reduceMul, Nat.reduceLeDiff, Nat.reduceBEq, reduceCtorEq, Nat.reduceEqDiff, Int.reduceEq, Int.reduceLT, Int.reduceLE, Int.reduceNeg, Int.reduceBEq, Int.reduceBNe, Int.reduceToNat, Int.reducePow, ownV, ownO, hI, hlt', decide_true, Int.natCast_nonneg, Int.toNat_natCast, getMap encI he, encI, partsN, hw1] | refine g_law01_MoneyLists_c0_sh.mpr ?_)
      exact next
    | cons a r =>
      repeat (first | simp only [go_sem, ↓reduceIte, Nat.reduceEqDiff, Nat.reduceAdd, Nat.reduceSub, Nat.reduceMul, Nat.reduceLeDiff, Nat.reduceBEq, reduceCtorEq, Nat.reduceEqDiff, Int.reduceEq, Int.reduceLT, Int.reduceLE, Int.reduceNeg, Int.reduceBEq, Int.reduceBNe, Int.reduceToNat, Int.reducePow, ownV, ownO, hI, hlt', decide_true, Int.natCast_nonneg, Int.toNat_natCast, getMap encI he, encI, partsN, hw1] | refine g_law01_MoneyLists_c0_sh.mpr ?_)
      refine ⟨by simp at hal ⊢; omega, by simp at hal ⊢; omega, ?_⟩
      repeat (first | simp only [go_sem, ↓reduceIte, Nat.reduceEqDiff, Nat.reduceAdd, Nat.reduceSub, Nat.reduceMul, Nat.reduceLeDiff, Nat.reduceBEq, reduceCtorEq, Nat.reduceEqDiff, Int.reduceEq, Int.reduceLT, Int.reduceLE, Int.reduceNeg, Int.reduceBEq, Int.reduceBNe, Int.reduceToNat, Int.reducePow, hw1] | refine g_law01_MoneyLists_c0_sh.mpr ?_)
      exact next
theorem lawLists {C : Ctx} (h : okFn C.P C.φ 59 g_law01_MoneyLists = true) (K : MonK C) (l : List Int) : SoundAt C 59 ⟨[vInts l], looko []⟩ ⟨vB true, looko []⟩ := by
  refine SoundAt.of_run h rfl (fun Q hR hN => ?_)
  rw [entry1]
  by_cases h1 : ((l.length : Int) > 100)
  · repeat' (first | simp only [go_sem, ↓reduceIte, Nat.reduceEqDiff, Nat.reduceAdd, Nat.reduceSub, Nat.reduceMul, Nat.reduceLeDiff, Nat.reduceBEq, reduceCtorEq, Nat.reduceEqDiff, Int.reduceEq, Int.reduceLT, Int.reduceLE, Int.reduceNeg, Int.reduceBEq, Int.reduceBNe, Int.reduceToNat, Int.reducePow, List.length_map, h1, decide_true] | refine g_law01_MoneyLists_code_sh.mpr ?_ | refine callK_plain (K.awake) (fun _ => rfl) ?_ | refine hR _ ?_ | split)
  repeat (first | simp only [go_sem, ↓reduceIte, Nat.reduceEqDiff, Nat.reduceAdd, Nat.reduceSub, Nat.reduceMul, Nat.reduceLeDiff, Nat.reduceBEq, reduceCtorEq, Nat.reduceEqDiff, Int.reduceEq, Int.reduceLT, Int.reduceLE, Int.reduceNeg, Int.reduceBEq, Int.reduceBNe, Int.reduceToNat, Int.reducePow, List.length_map, h1, decide_false] | refine g_law01_MoneyLists_code_sh.mpr ?_ | refine g_law01_MoneyLists_c7_sh.mpr ?_)
  refine lists_loop (fun _ h => h) (by omega) (fun s h3 h4 => ?_) l.length 0 [] (by omega) rfl
  cases l with
  | nil =>
    have t0 : SoundAt C 60 ⟨[.cap0], looko []⟩ ⟨vIE (0, 0), looko []⟩ := SoundAt.up_of (K.sum [] (by decide)) rfl
    repeat' (first | simp only [go_sem, ↓reduceIte, Nat.reduceEqDiff, Nat.reduceAdd, Nat.reduceSub, Nat.reduceMul, Nat.reduceLeDiff, Nat.reduceBEq, reduceCtorEq, Nat.reduceEqDiff, Int.reduceEq, Int.reduceLT, Int.reduceLE, Int.reduceNeg, Int.reduceBEq, Int.reduceBNe, Int.reduceToNat, Int.reducePow, h3, h4, ownV, ownO] | refine g_law01_MoneyLists_c0_sh.mpr ?_ | refine g_law01_MoneyLists_o9_sh.mpr ?_ | refine g_law01_MoneyLists_o8_sh.mpr ?_ | refine g_law01_MoneyLists_o7_sh.mpr ?_ | refine g_law01_MoneyLists_o6_sh.mpr ?_ | refine g_law01_MoneyLists_o5_sh.mpr ?_ | refine g_law01_MoneyLists_o4_sh.mpr ?_ | refine g_law01_MoneyLists_o3_sh.mpr ?_ | refine g_law01_MoneyLists_o2_sh.mpr ?_ | refine g_law01_MoneyLists_o1_sh.mpr ?_ | refine g_law01_MoneyLists_o0_sh.mpr ?_ | refine g_law01_MoneyLists_c1_sh.mpr ?_ | refine g_law01_MoneyLists_c2_sh.mpr ?_ | refine g_law01_MoneyLists_c3_sh.mpr ?_ | refine g_law01_MoneyLists_c4_sh.mpr ?_ | refine g_law01_MoneyLists_c5_sh.mpr ?_ | refine g_law01_MoneyLists_c6_sh.mpr ?_ | refine g_law01_MoneyLists_c7_sh.mpr ?_ | refine g_law01_MoneyLists_code_sh.mpr ?_ | refine callK_plain (K.awake) (fun _ => rfl) ?_ | refine callK_plain (t0) (fun _ => rfl) ?_ | refine hR _ ?_ | split)
    trace_state
  | cons a r =>
    have hr : r.length ≤ 99 := by simp at h1; omega
    have p1 : (((r.length + 1 : Nat) : Int) > 0) := by omega
    have p2 : ((1 : Int) ≤ ((r.length + 1 : Nat) : Int)) := by omega
    have p3 : ((r.map encS).all fun e => e.length == 1) = true := by rw [List.all_eq_true]; intro e he; obtain ⟨m, _, rfl⟩ := List.mem_map.1 he; rfl
    have p4 : (∀ e : List D, e ∈ List.map encS r → e.length = 1) = True := eq_true (fun e he => by obtain ⟨m, _, rfl⟩ := List.mem_map.1 he; rfl)
    have p5 : r.length * 8 ≤ 140737488355328 := by omega
    have p6 : r.length ≤ 140737488355328 := by omega
    have p7 : (r.length + 1) * 8 ≤ 140737488355328 := by omega
    have p8 : r.length + 1 ≤ 140737488355328 := by omega
    have p9 : r.length ≤ 140737488355327 := by omega
    have tk : List.take r.length (List.map encS r) = List.map encS r := List.take_of_length_le (by simp)
    have hs1 := K.sum ((a :: r).map sml) (by simp; omega)
    have hs2 := K.sum (r.map sml ++ [sml a]) (by simp; omega)
    have hs3 : SoundAt C 60 ⟨[.cap0], looko []⟩ ⟨vIE (0, 0), looko []⟩ := SoundAt.up_of (K.sum [] (by decide)) rfl
    rw [sum_map (by simp; omega)] at hs1
    have hb : ∀ n ∈ r.map sml ++ [sml a], -9007199254740992 < n ∧ n < 9007199254740992 := by
      intro n hn
      rcases List.mem_append.1 hn with hn | hn
      · obtain ⟨m, _, rfl⟩ := List.mem_map.1 hn; exact sml_lt m
      · rw [List.mem_singleton] at hn; subst hn; exact sml_lt a
    rw [sum_small _ 0 0 hb (by omega) (by omega) (by simp; omega)] at hs2
    have hsum : 0 + (r.map sml ++ [sml a]).sum = ((a :: r).map sml).sum := by simp [Int.add_comm]
    rw [hsum] at hs2
    obtain ⟨S, hS⟩ : ∃ S, ((a :: r).map sml).sum = S := ⟨_, rfl⟩
    rw [hS] at hs1 hs2
    have e1 : vInts ((a :: r).map sml) = .d (.sl ([dI (sml a)] :: List.map encS r)) := by
      show V.d (.sl (encI (sml a) :: (r.map sml).map encI)) = _
      rw [List.map_map]; rfl
    have e2 : vInts (r.map sml ++ [sml a]) = .d (.sl (List.map encS r ++ [[dI (sml a)]])) := by
      show V.d (.sl ((r.map sml ++ [sml a]).map encI)) = _
      rw [List.map_append, List.map_map]; rfl
    rw [e1] at hs1
    rw [e2] at hs2
    repeat (first | simp only [go_sem, ↓reduceIte, Nat.reduceEqDiff, Nat.reduceAdd, Nat.reduceSub, Nat.reduceMul, Nat.reduceLeDiff, Nat.reduceBEq, reduceCtorEq, Nat.reduceEqDiff, Int.reduceEq, Int.reduceLT, Int.reduceLE, Int.reduceNeg, Int.reduceBEq, Int.reduceBNe, Int.reduceToNat, Int.reducePow, h3, h4, ownV, ownO, encS, encI, partsN, List.length_map, List.all_cons, tk, p1, p2, p3, p4, p5, p6, p7, p8, p9, decide_true, Int.le_refl, Int.toNat_zero, Int.toNat_one] | refine g_law01_MoneyLists_c0_sh.mpr ?_ | refine g_law01_MoneyLists_o9_sh.mpr ?_ | refine g_law01_MoneyLists_o8_sh.mpr ?_ | refine g_law01_MoneyLists_o7_sh.mpr ?_ | refine g_law01_MoneyLists_o6_sh.mpr ?_ | refine g_law01_MoneyLists_o5_sh.mpr ?_ | refine g_law01_MoneyLists_o4_sh.mpr ?_ | refine g_law01_MoneyLists_o3_sh.mpr ?_ | refine g_law01_MoneyLists_o2_sh.mpr ?_ | refine g_law01_MoneyLists_o1_sh.mpr ?_ | refine g_law01_MoneyLists_o0_sh.mpr ?_ | refine g_law01_MoneyLists_c1_sh.mpr ?_ | refine g_law01_MoneyLists_c2_sh.mpr ?_ | refine g_law01_MoneyLists_c3_sh.mpr ?_ | refine g_law01_MoneyLists_c4_sh.mpr ?_ | refine g_law01_MoneyLists_c5_sh.mpr ?_ | refine g_law01_MoneyLists_c6_sh.mpr ?_ | refine g_law01_MoneyLists_c7_sh.mpr ?_ | refine g_law01_MoneyLists_code_sh.mpr ?_)
    refine ⟨?_, fun m hm n cs hn => ?_⟩
    · repeat' (first | simp only [go_sem, ↓reduceIte, Nat.reduceEqDiff, Nat.reduceAdd, Nat.reduceSub, Nat.reduceMul, Nat.reduceLeDiff, Nat.reduceBEq, reduceCtorEq, Nat.reduceEqDiff, Int.reduceEq, Int.reduceLT, Int.reduceLE, Int.reduceNeg, Int.reduceBEq, Int.reduceBNe, Int.reduceToNat, Int.reducePow, bne_self_eq_false] | refine g_law01_MoneyLists_c0_sh.mpr ?_ | refine g_law01_MoneyLists_o9_sh.mpr ?_ | refine g_law01_MoneyLists_o8_sh.mpr ?_ | refine g_law01_MoneyLists_o7_sh.mpr ?_ | refine g_law01_MoneyLists_o6_sh.mpr ?_ | refine g_law01_MoneyLists_o5_sh.mpr ?_ | refine g_law01_MoneyLists_o4_sh.mpr ?_ | refine g_law01_MoneyLists_o3_sh.mpr ?_ | refine g_law01_MoneyLists_o2_sh.mpr ?_ | refine g_law01_MoneyLists_o1_sh.mpr ?_ | refine g_law01_MoneyLists_o0_sh.mpr ?_ | refine g_law01_MoneyLists_c1_sh.mpr ?_ | refine g_law01_MoneyLists_c2_sh.mpr ?_ | refine g_law01_MoneyLists_c3_sh.mpr ?_ | refine g_law01_MoneyLists_c4_sh.mpr ?_ | refine g_law01_MoneyLists_c5_sh.mpr ?_ | refine g_law01_MoneyLists_c6_sh.mpr ?_ | refine g_law01_MoneyLists_c7_sh.mpr ?_ | refine g_law01_MoneyLists_code_sh.mpr ?_ | refine callK_plain (K.awake) (fun _ => rfl) ?_ | refine callK_plain (hs1) (fun _ => rfl) ?_ | refine callK_plain (hs2) (fun _ => rfl) ?_ | refine callK_plain (hs3) (fun _ => rfl) ?_ | refine hR _ ?_ | split)
      trace_state
    · injection hm with hm
      subst hm
      repeat' (split at hn)
      all_goals first | (cases hn; done) | (injection hn with hn; injection hn with hn; subst hn; simp only [go_sem, ↓reduceIte, Nat.reduceEqDiff, Nat.reduceAdd, Nat.reduceSub, Nat.reduceMul, Nat.reduceLeDiff, Nat.reduceBEq, reduceCtorEq, Nat.reduceEqDiff, Int.reduceEq, Int.reduceLT, Int.reduceLE, Int.reduceNeg, Int.reduceBEq, Int.reduceBNe, Int.reduceToNat, Int.reducePow])
end Pay
