/- Contracts: the document's long numbers, digit by digit. -/
import Derived.Test.YthnddhfpkmbacaaDoorPayC31
import Derived.Test.YthnddhfpkmbacaaDoorPayC36
import Derived.Test.YthnddhfpkmbacaaDoorPaySh0
set_option linter.unusedSimpArgs false
set_option linter.unusedVariables false
namespace Pay
open Go
attribute [local irreducible] wpB opsB treeB drawB
def encN (n : Nat) : List D := [dI (n : Int)]
abbrev vDig (l : List Nat) : V := .d (.sl (l.map encN))
def valL : List Nat → Nat
  | [] => 0
  | d :: l => d + 10 * valL l
def digs (n : Nat) : List Nat := if h : n = 0 then [] else n % 10 :: digs (n / 10)
theorem digs_0 : digs 0 = [] := by rw [digs, dif_pos rfl]
theorem digs_pos {n : Nat} (h : n ≠ 0) : digs n = n % 10 :: digs (n / 10) := by rw [digs, dif_neg h]
def trimL (l : List Nat) : List Nat := (l.reverse.dropWhile (· == 0)).reverse
theorem trim_nil : trimL [] = [] := rfl
theorem trim_snoc0 (l : List Nat) : trimL (l ++ [0]) = trimL l := by simp [trimL]
theorem trim_snoc (l : List Nat) {d : Nat} (h : d ≠ 0) : trimL (l ++ [d]) = l ++ [d] := by simp [trimL, h]
theorem val_snoc : ∀ (l : List Nat) (d : Nat), valL (l ++ [d]) = valL l + d * 10 ^ l.length
  | [], d => by simp [valL]
  | x :: l, d => by
    simp only [List.cons_append, valL, val_snoc l d, List.length_cons, Nat.pow_succ]
    rw [Nat.mul_add, ← Nat.mul_assoc, Nat.mul_comm 10 d, Nat.mul_assoc d 10, Nat.mul_comm 10 (10 ^ l.length)]
    omega
theorem snoc_cases (l : List Nat) : l = [] ∨ ∃ l' d, l = l' ++ [d] := by
  rcases List.eq_nil_or_concat l with h | ⟨l', d, h⟩
  · exact .inl h
  · exact .inr ⟨l', d, by simpa using h⟩
/-- A list of digits without noughts at its end is its number's. -/
theorem digs_val : ∀ (l : List Nat), (∀ d ∈ l, d < 10) → (∀ l' d, l = l' ++ [d] → d ≠ 0) → digs (valL l) = l
  | [], _, _ => digs_0
  | x :: l, h1, h2 => by
    have hx := h1 x (by simp)
    have ih := digs_val l (fun d hd => h1 d (List.mem_cons_of_mem _ hd)) (fun l' d e => h2 (x :: l') d (by rw [e]; rfl))
    have hne : valL (x :: l) ≠ 0 := by
      intro h0
      simp only [valL] at h0
      have hl0 : valL l = 0 := by omega
      rw [hl0, digs_0] at ih
      subst ih
      have := h2 [] x rfl
      omega
    rw [digs_pos hne]
    simp only [valL]
    rw [show (x + 10 * valL l) % 10 = x by omega, show (x + 10 * valL l) / 10 = valL l by omega, ih]
theorem trim_digs : ∀ (n : Nat) (l : List Nat), l.length = n → (∀ d ∈ l, d < 10) → trimL l = digs (valL l) := by
  intro n
  induction n with
  | zero =>
    intro l hn _
    have : l = [] := List.eq_nil_of_length_eq_zero hn
    subst this
    rw [trim_nil, valL, digs_0]
  | succ n ih =>
    intro l hn h1
    rcases snoc_cases l with rfl | ⟨l', d, rfl⟩
    · simp at hn
    · by_cases hd : d = 0
      · subst hd
        rw [trim_snoc0, val_snoc, Nat.zero_mul, Nat.add_zero]
        exact ih l' (by simpa using hn) (fun x hx => h1 x (by simp [hx]))
      · rw [trim_snoc _ hd]
        refine (digs_val _ h1 (fun l2 d2 e => ?_)).symm
        have := List.append_inj' e rfl
        have := this.2
        simp at this
        omega
theorem val_digs (n : Nat) : valL (digs n) = n := by
  induction n using Nat.strongRecOn with
  | _ n ih =>
    by_cases h : n = 0
    · subst h; rw [digs_0]; rfl
    · rw [digs_pos h, valL, ih (n / 10) (by omega)]; omega
theorem digs_lt (n : Nat) : ∀ d ∈ digs n, d < 10 := by
  induction n using Nat.strongRecOn with
  | _ n ih =>
    intro d hd
    by_cases h : n = 0
    · subst h; rw [digs_0] at hd; cases hd
    · rw [digs_pos h] at hd
      rcases List.mem_cons.1 hd with rfl | hd
      · omega
      · exact ih (n / 10) (by omega) d hd
theorem digs_len : ∀ (k n : Nat), n < 10 ^ k → (digs n).length ≤ k
  | 0, n, h => by
    have : n = 0 := by simpa using h
    subst this; rw [digs_0]; exact Nat.le_refl _
  | k + 1, n, h => by
    by_cases h0 : n = 0
    · subst h0; rw [digs_0]; exact Nat.zero_le _
    · rw [digs_pos h0, List.length_cons]
      have := digs_len k (n / 10) (by rw [Nat.pow_succ] at h; omega)
      omega
theorem val_lt : ∀ (l : List Nat), (∀ d ∈ l, d < 10) → valL l < 10 ^ l.length
  | [], _ => by simp [valL]
  | x :: l, h => by
    have h1 := h x (by simp)
    have h2 := val_lt l (fun d hd => h d (List.mem_cons_of_mem _ hd))
    simp only [valL, List.length_cons, Nat.pow_succ]
    omega
theorem encN_all (l : List Nat) : ((l.map encN).all fun e => e.length == 1) = true := by
  rw [List.all_eq_true]
  intro e he
  obtain ⟨n, _, rfl⟩ := List.mem_map.1 he
  rfl
theorem trim_loop {C : Ctx} {I : Nat → Prop} {Q : Ex → St → Prop} {r : List Nat} (hT : ∀ t, t 0 = vDig r → Q (.exit 0) (St.mk t (looko []))) :
    ∀ (m : Nat) (l : List Nat), l.length = m → m < 1000000 → trimL l = r → wpB C I g_ref02_trim.l0 (St.mk (look [(0, vDig l)]) (looko [])) Q := by
  intro m
  induction m with
  | zero =>
    intro l hl _ hr
    have : l = [] := List.eq_nil_of_length_eq_zero hl
    subst this
    refine g_ref02_trim_l0_sh rfl ?_
    rw [trim_nil] at hr
    subst hr
    repeat (first | simp only [go_sem, ↓reduceIte, Nat.reduceEqDiff, Nat.reduceAdd, Nat.reduceSub, Nat.reduceMul, Nat.reduceLeDiff, Nat.reduceBEq, reduceCtorEq, Nat.reduceEqDiff, Int.reduceEq, Int.reduceLT, Int.reduceLE, Int.reduceNeg, Int.reduceBEq, Int.reduceBNe, Int.reduceToNat, Int.reducePow, List.length_map, Int.lt_irrefl, gt_iff_lt, decide_false] | refine g_ref02_trim_o1_sh.mpr ?_ | refine g_ref02_trim_o0_sh.mpr ?_ | refine g_ref02_trim_c0_sh.mpr ?_ | refine g_ref02_trim_c1_sh.mpr ?_ | refine g_ref02_trim_c2_sh.mpr ?_ | refine g_ref02_trim_code_sh.mpr ?_)
    exact hT _ rfl
  | succ m ih =>
    intro l hl hm hr
    rcases snoc_cases l with rfl | ⟨l', d, rfl⟩
    · simp at hl
    have hl' : l'.length = m := by simpa using hl
    refine g_ref02_trim_l0_sh rfl ?_
    have hlen : (l' ++ [d]).length = m + 1 := by simp [hl']
    have hpos : (((m + 1 : Nat) : Int) > 0) := by omega
    have hw : IntKind.i64.wrap (((m + 1 : Nat) : Int) - 1) = (m : Int) := by rw [wrapI (by omega) (by omega)]; omega
    have he : (l' ++ [d])[m]? = some d := by rw [List.getElem?_append_right (by omega), hl', Nat.sub_self]; rfl
    have htk : ((l' ++ [d]).map encN).take m = l'.map encN := by rw [← List.map_take, List.take_append_of_le_length (by omega), List.take_of_length_le (by omega)]
    have hle : (m : Int) ≤ ((m + 1 : Nat) : Int) := by omega
    have hall := encN_all (l' ++ [d])
    obtain ⟨u, hu⟩ : ∃ u, l' ++ [d] = u := ⟨_, rfl⟩
    by_cases hd : d = 0
    · subst hd
      rw [trim_snoc0] at hr
      rw [hu] at hlen he htk hall ⊢
      repeat (first | simp only [go_sem, ↓reduceIte, Nat.reduceEqDiff, Nat.reduceAdd, Nat.reduceSub, Nat.reduceMul, Nat.reduceLeDiff, Nat.reduceBEq, reduceCtorEq, Nat.reduceEqDiff, Int.reduceEq, Int.reduceLT, Int.reduceLE, Int.reduceNeg, Int.reduceBEq, Int.reduceBNe, Int.reduceToNat, Int.reducePow, List.length_map, hlen, hpos, decide_true, hw, Int.natCast_nonneg, Int.toNat_natCast, getMap encN he, encN, hle, hall, htk, and_self] | refine g_ref02_trim_o1_sh.mpr ?_ | refine g_ref02_trim_o0_sh.mpr ?_ | refine g_ref02_trim_c0_sh.mpr ?_ | refine g_ref02_trim_c1_sh.mpr ?_ | refine g_ref02_trim_c2_sh.mpr ?_ | refine g_ref02_trim_code_sh.mpr ?_)
      exact ih l' hl' (by omega) hr
    · have hd' : ((d : Int) == 0) = false := by rw [beq_eq_false_iff_ne]; omega
      rw [trim_snoc _ hd] at hr
      rw [hu] at hlen he hr ⊢
      subst hr
      repeat (first | simp only [go_sem, ↓reduceIte, Nat.reduceEqDiff, Nat.reduceAdd, Nat.reduceSub, Nat.reduceMul, Nat.reduceLeDiff, Nat.reduceBEq, reduceCtorEq, Nat.reduceEqDiff, Int.reduceEq, Int.reduceLT, Int.reduceLE, Int.reduceNeg, Int.reduceBEq, Int.reduceBNe, Int.reduceToNat, Int.reducePow, List.length_map, hlen, hpos, decide_true, hw, Int.natCast_nonneg, Int.toNat_natCast, getMap encN he, encN, hd'] | refine g_ref02_trim_o1_sh.mpr ?_ | refine g_ref02_trim_o0_sh.mpr ?_ | refine g_ref02_trim_c0_sh.mpr ?_ | refine g_ref02_trim_c1_sh.mpr ?_ | refine g_ref02_trim_c2_sh.mpr ?_ | refine g_ref02_trim_code_sh.mpr ?_)
      exact hT _ rfl
theorem refTrim {C : Ctx} (h : okFn C.P C.φ 118 g_ref02_trim = true) (l : List Nat) (hl : l.length < 1000000) : SoundAt C 118 ⟨[vDig l], looko []⟩ ⟨vDig (trimL l), looko []⟩ := by
  refine SoundAt.of_run h rfl (fun Q hR hN => ?_)
  rw [entry1]
  repeat (first | simp only [go_sem, ↓reduceIte, Nat.reduceEqDiff, Nat.reduceAdd, Nat.reduceSub, Nat.reduceMul, Nat.reduceLeDiff, Nat.reduceBEq, reduceCtorEq, Nat.reduceEqDiff, Int.reduceEq, Int.reduceLT, Int.reduceLE, Int.reduceNeg, Int.reduceBEq, Int.reduceBNe, Int.reduceToNat, Int.reducePow] | refine g_ref02_trim_o1_sh.mpr ?_ | refine g_ref02_trim_o0_sh.mpr ?_ | refine g_ref02_trim_c0_sh.mpr ?_ | refine g_ref02_trim_c1_sh.mpr ?_ | refine g_ref02_trim_c2_sh.mpr ?_ | refine g_ref02_trim_code_sh.mpr ?_)
  refine trim_loop (r := trimL l) (fun t t0 => ?_) l.length l rfl hl rfl
  repeat (first | simp only [go_sem, ↓reduceIte, Nat.reduceEqDiff, Nat.reduceAdd, Nat.reduceSub, Nat.reduceMul, Nat.reduceLeDiff, Nat.reduceBEq, reduceCtorEq, Nat.reduceEqDiff, Int.reduceEq, Int.reduceLT, Int.reduceLE, Int.reduceNeg, Int.reduceBEq, Int.reduceBNe, Int.reduceToNat, Int.reducePow, t0] | refine g_ref02_trim_o1_sh.mpr ?_ | refine g_ref02_trim_o0_sh.mpr ?_ | refine g_ref02_trim_c0_sh.mpr ?_ | refine g_ref02_trim_c1_sh.mpr ?_ | refine g_ref02_trim_c2_sh.mpr ?_ | refine g_ref02_trim_code_sh.mpr ?_)
  refine hR _ ?_
  simp only [go_sem, ↓reduceIte, Nat.reduceEqDiff, Nat.reduceAdd, Nat.reduceSub, Nat.reduceMul, Nat.reduceLeDiff, Nat.reduceBEq, reduceCtorEq, Nat.reduceEqDiff, Int.reduceEq, Int.reduceLT, Int.reduceLE, Int.reduceNeg, Int.reduceBEq, Int.reduceBNe, Int.reduceToNat, Int.reducePow]
def cmpN (a b : Nat) : Int := if a < b then -1 else if b < a then 1 else 0
def cmpFrom : Nat → List Nat → List Nat → Int
  | 0, _, _ => 0
  | k + 1, a, b => if a.getD k 0 < b.getD k 0 then -1 else if b.getD k 0 < a.getD k 0 then 1 else cmpFrom k a b
def cmpL (a b : List Nat) : Int := if a.length = b.length then cmpFrom a.length a b else if a.length < b.length then -1 else 1
theorem cmpFrom_val {a b : List Nat} (ha : ∀ d ∈ a, d < 10) (hb : ∀ d ∈ b, d < 10) : ∀ k, k ≤ a.length → k ≤ b.length → cmpFrom k a b = cmpN (valL (a.take k)) (valL (b.take k))
  | 0, _, _ => rfl
  | k + 1, h1, h2 => by
    have ih := cmpFrom_val ha hb k (by omega) (by omega)
    have e1 : a.take (k + 1) = a.take k ++ [a[k]] := by rw [List.take_succ_eq_append_getElem (by omega)]
    have e2 : b.take (k + 1) = b.take k ++ [b[k]] := by rw [List.take_succ_eq_append_getElem (by omega)]
    have l1 : (a.take k).length = k := by rw [List.length_take]; omega
    have l2 : (b.take k).length = k := by rw [List.length_take]; omega
    have g1 : a.getD k 0 = a[k] := by simp [List.getD, List.getElem?_eq_getElem (show k < a.length by omega)]
    have g2 : b.getD k 0 = b[k] := by simp [List.getD, List.getElem?_eq_getElem (show k < b.length by omega)]
    have v1 := val_lt (a.take k) (fun d hd => ha d (List.mem_of_mem_take hd))
    have v2 := val_lt (b.take k) (fun d hd => hb d (List.mem_of_mem_take hd))
    rw [l1] at v1
    rw [l2] at v2
    rw [cmpFrom, ih, e1, e2, val_snoc, val_snoc, l1, l2, g1, g2]
    obtain ⟨P, hP⟩ : ∃ P, 10 ^ k = P := ⟨_, rfl⟩
    rw [hP] at v1 v2 ⊢
    unfold cmpN
    by_cases c1 : a[k] < b[k]
    · rw [if_pos c1]
      have : (a[k] + 1) * P ≤ b[k] * P := Nat.mul_le_mul_right P c1
      rw [Nat.add_mul, Nat.one_mul] at this
      rw [if_pos (by omega)]
    · rw [if_neg c1]
      by_cases c2 : b[k] < a[k]
      · rw [if_pos c2]
        have : (b[k] + 1) * P ≤ a[k] * P := Nat.mul_le_mul_right P c2
        rw [Nat.add_mul, Nat.one_mul] at this
        rw [if_neg (by omega), if_pos (by omega)]
      · rw [if_neg c2]
        have : a[k] = b[k] := by omega
        rw [this]
        simp only [Nat.add_lt_add_iff_right]
theorem digs_mono : ∀ (n m : Nat), n ≤ m → (digs n).length ≤ (digs m).length := by
  intro n
  induction n using Nat.strongRecOn with
  | _ n ih =>
    intro m h
    by_cases h0 : n = 0
    · subst h0; rw [digs_0]; exact Nat.zero_le _
    · rw [digs_pos h0, digs_pos (n := m) (by omega), List.length_cons, List.length_cons]
      have := ih (n / 10) (by omega) (m / 10) (by omega)
      omega
theorem cmp_digs (a b : Nat) : cmpL (digs a) (digs b) = cmpN a b := by
  unfold cmpL
  by_cases h : (digs a).length = (digs b).length
  · rw [if_pos h, cmpFrom_val (digs_lt a) (digs_lt b) _ (Nat.le_refl _) (by omega), List.take_length, h, List.take_length, val_digs, val_digs]
  · rw [if_neg h]
    unfold cmpN
    by_cases h1 : (digs a).length < (digs b).length
    · rw [if_pos h1]
      have : a < b := by
        rcases Nat.lt_or_ge a b with h2 | h2
        · exact h2
        · have := digs_mono b a h2; omega
      rw [if_pos this]
    · rw [if_neg h1]
      have : b < a := by
        rcases Nat.lt_or_ge b a with h2 | h2
        · exact h2
        · have := digs_mono a b h2; omega
      rw [if_neg (by omega), if_pos this]
theorem size_loop {C : Ctx} {I : Nat → Prop} (hI : ∀ n, ¬ I n) {Q : Ex → St → Prop} {a b : List Nat} (hl : a.length < 1000000) {r : Int} (hl2 : a.length = b.length)
    (hR : r ≠ 0 → Q .ret (St.mk (look [(4, vI r)]) (looko []))) (hT : r = 0 → ∀ t, Q (.exit 0) (St.mk t (looko []))) :
    ∀ k : Nat, k ≤ a.length → cmpFrom k a b = r → ∀ t, t 0 = vDig a → t 1 = vDig b → t 5 = vI ((k : Int) - 1) → wpB C I g_ref02_size.l0 (St.mk t (looko [])) Q
  | 0, _, hr, t, t0, t1, t5 => by
    refine g_ref02_size_l0_sh rfl ?_
    have : ¬ (((0 : Nat) : Int) - 1 ≥ 0) := by omega
    rw [cmpFrom] at hr
    repeat (first | simp only [go_sem, ↓reduceIte, Nat.reduceEqDiff, Nat.reduceAdd, Nat.reduceSub, Nat.reduceMul, Nat.reduceLeDiff, Nat.reduceBEq, reduceCtorEq, Nat.reduceEqDiff, Int.reduceEq, Int.reduceLT, Int.reduceLE, Int.reduceNeg, Int.reduceBEq, Int.reduceBNe, Int.reduceToNat, Int.reducePow, t0, t1, t5, Int.reduceSub, Int.reduceNeg, ge_iff_le, Int.reduceLE, decide_false] | refine g_ref02_size_c0_sh.mpr ?_ | refine g_ref02_size_c1_sh.mpr ?_ | refine g_ref02_size_c2_sh.mpr ?_ | refine g_ref02_size_c3_sh.mpr ?_ | refine g_ref02_size_c4_sh.mpr ?_ | refine g_ref02_size_c5_sh.mpr ?_ | refine g_ref02_size_code_sh.mpr ?_)
    exact hT hr.symm _
  | k + 1, hk, hr, t, t0, t1, t5 => by
    refine g_ref02_size_l0_sh rfl ?_
    have e5 : (((k + 1 : Nat) : Int) - 1) = (k : Int) := by omega
    rw [e5] at t5
    have hge : ((k : Int) ≥ 0) := by omega
    have ha := List.getElem?_eq_getElem (show k < a.length by omega)
    have hb := List.getElem?_eq_getElem (show k < b.length by omega)
    have g1 : a.getD k 0 = a[k] := by simp [List.getD, ha]
    have g2 : b.getD k 0 = b[k] := by simp [List.getD, hb]
    have hw : IntKind.i64.wrap ((k : Int) - 1) = (k : Int) - 1 := wrapI (by omega) (by omega)
    rw [cmpFrom, g1, g2] at hr
    obtain ⟨x, hx⟩ : ∃ x, a[k] = x := ⟨_, rfl⟩
    obtain ⟨y, hy⟩ : ∃ y, b[k] = y := ⟨_, rfl⟩
    rw [hx, hy] at hr
    rw [hx] at ha
    rw [hy] at hb
    by_cases c1 : x < y
    · have c1' : ((x : Int) < (y : Int)) := by omega
      rw [if_pos c1] at hr
      subst hr
      repeat' (first | simp only [go_sem, ↓reduceIte, Nat.reduceEqDiff, Nat.reduceAdd, Nat.reduceSub, Nat.reduceMul, Nat.reduceLeDiff, Nat.reduceBEq, reduceCtorEq, Nat.reduceEqDiff, Int.reduceEq, Int.reduceLT, Int.reduceLE, Int.reduceNeg, Int.reduceBEq, Int.reduceBNe, Int.reduceToNat, Int.reducePow, hI, t0, t1, t5, hge, decide_true, Int.natCast_nonneg, Int.toNat_natCast, getMap encN ha, getMap encN hb, encN, c1'] | refine g_ref02_size_c0_sh.mpr ?_ | refine g_ref02_size_c1_sh.mpr ?_ | refine g_ref02_size_c2_sh.mpr ?_ | refine g_ref02_size_c3_sh.mpr ?_ | refine g_ref02_size_c4_sh.mpr ?_ | refine g_ref02_size_c5_sh.mpr ?_ | refine g_ref02_size_code_sh.mpr ?_ | refine And.intro ?_ ?_)
      all_goals first | exact hR (by decide) | skip
    · have c1' : ¬ ((x : Int) < (y : Int)) := by omega
      rw [if_neg c1] at hr
      by_cases c2 : y < x
      · have c2' : ((x : Int) > (y : Int)) := by omega
        rw [if_pos c2] at hr
        subst hr
        repeat' (first | simp only [go_sem, ↓reduceIte, Nat.reduceEqDiff, Nat.reduceAdd, Nat.reduceSub, Nat.reduceMul, Nat.reduceLeDiff, Nat.reduceBEq, reduceCtorEq, Nat.reduceEqDiff, Int.reduceEq, Int.reduceLT, Int.reduceLE, Int.reduceNeg, Int.reduceBEq, Int.reduceBNe, Int.reduceToNat, Int.reducePow, hI, t0, t1, t5, hge, decide_true, decide_false, Int.natCast_nonneg, Int.toNat_natCast, getMap encN ha, getMap encN hb, encN, c1', c2'] | refine g_ref02_size_c0_sh.mpr ?_ | refine g_ref02_size_c1_sh.mpr ?_ | refine g_ref02_size_c2_sh.mpr ?_ | refine g_ref02_size_c3_sh.mpr ?_ | refine g_ref02_size_c4_sh.mpr ?_ | refine g_ref02_size_c5_sh.mpr ?_ | refine g_ref02_size_code_sh.mpr ?_ | refine And.intro ?_ ?_)
        all_goals first | exact hR (by decide) | skip
      · have c2' : ¬ ((x : Int) > (y : Int)) := by omega
        rw [if_neg c2] at hr
        repeat' (first | simp only [go_sem, ↓reduceIte, Nat.reduceEqDiff, Nat.reduceAdd, Nat.reduceSub, Nat.reduceMul, Nat.reduceLeDiff, Nat.reduceBEq, reduceCtorEq, Nat.reduceEqDiff, Int.reduceEq, Int.reduceLT, Int.reduceLE, Int.reduceNeg, Int.reduceBEq, Int.reduceBNe, Int.reduceToNat, Int.reducePow, hI, t0, t1, t5, hge, decide_true, decide_false, Int.natCast_nonneg, Int.toNat_natCast, getMap encN ha, getMap encN hb, encN, c1', c2', hw] | refine g_ref02_size_c0_sh.mpr ?_ | refine g_ref02_size_c1_sh.mpr ?_ | refine g_ref02_size_c2_sh.mpr ?_ | refine g_ref02_size_c3_sh.mpr ?_ | refine g_ref02_size_c4_sh.mpr ?_ | refine g_ref02_size_c5_sh.mpr ?_ | refine g_ref02_size_code_sh.mpr ?_ | refine And.intro ?_ ?_)
        all_goals first | exact size_loop hI hl hl2 hR hT k (by omega) hr _ rfl rfl rfl | skip
theorem refSize {C : Ctx} (h : okFn C.P C.φ 119 g_ref02_size = true) (a b : List Nat) (hl : a.length < 1000000) (hl2 : b.length < 1000000) : SoundAt C 119 ⟨[vDig a, vDig b], looko []⟩ ⟨vI (cmpL a b), looko []⟩ := by
  refine SoundAt.of_run h rfl (fun Q hR hN => ?_)
  rw [entry2]
  by_cases h1 : a.length = b.length
  · have h1' : ((a.length : Int) != (b.length : Int)) = false := by rw [h1]; simp
    have e : cmpL a b = cmpFrom a.length a b := by rw [cmpL, if_pos h1]
    have hw : IntKind.i64.wrap ((a.length : Int) - 1) = (a.length : Int) - 1 := wrapI (by omega) (by omega)
    repeat (first | simp only [go_sem, ↓reduceIte, Nat.reduceEqDiff, Nat.reduceAdd, Nat.reduceSub, Nat.reduceMul, Nat.reduceLeDiff, Nat.reduceBEq, reduceCtorEq, Nat.reduceEqDiff, Int.reduceEq, Int.reduceLT, Int.reduceLE, Int.reduceNeg, Int.reduceBEq, Int.reduceBNe, Int.reduceToNat, Int.reducePow, List.length_map, h1', hw] | refine g_ref02_size_c0_sh.mpr ?_ | refine g_ref02_size_c1_sh.mpr ?_ | refine g_ref02_size_c2_sh.mpr ?_ | refine g_ref02_size_c3_sh.mpr ?_ | refine g_ref02_size_c4_sh.mpr ?_ | refine g_ref02_size_c5_sh.mpr ?_ | refine g_ref02_size_code_sh.mpr ?_)
    refine size_loop (fun _ h => h) hl h1 (r := cmpL a b) (fun hr => ?_) (fun hr t => ?_) a.length (Nat.le_refl _) e.symm _ rfl rfl rfl
    · refine hR _ ?_
      simp only [go_sem, ↓reduceIte, Nat.reduceEqDiff, Nat.reduceAdd, Nat.reduceSub, Nat.reduceMul, Nat.reduceLeDiff, Nat.reduceBEq, reduceCtorEq, Nat.reduceEqDiff, Int.reduceEq, Int.reduceLT, Int.reduceLE, Int.reduceNeg, Int.reduceBEq, Int.reduceBNe, Int.reduceToNat, Int.reducePow]
    · repeat (first | simp only [go_sem, ↓reduceIte, Nat.reduceEqDiff, Nat.reduceAdd, Nat.reduceSub, Nat.reduceMul, Nat.reduceLeDiff, Nat.reduceBEq, reduceCtorEq, Nat.reduceEqDiff, Int.reduceEq, Int.reduceLT, Int.reduceLE, Int.reduceNeg, Int.reduceBEq, Int.reduceBNe, Int.reduceToNat, Int.reducePow] | refine g_ref02_size_c0_sh.mpr ?_ | refine g_ref02_size_c1_sh.mpr ?_ | refine g_ref02_size_c2_sh.mpr ?_ | refine g_ref02_size_c3_sh.mpr ?_ | refine g_ref02_size_c4_sh.mpr ?_ | refine g_ref02_size_c5_sh.mpr ?_ | refine g_ref02_size_code_sh.mpr ?_)
      refine hR _ ?_
      simp only [go_sem, ↓reduceIte, Nat.reduceEqDiff, Nat.reduceAdd, Nat.reduceSub, Nat.reduceMul, Nat.reduceLeDiff, Nat.reduceBEq, reduceCtorEq, Nat.reduceEqDiff, Int.reduceEq, Int.reduceLT, Int.reduceLE, Int.reduceNeg, Int.reduceBEq, Int.reduceBNe, Int.reduceToNat, Int.reducePow, hr]
  · have h1' : ((a.length : Int) != (b.length : Int)) = true := by rw [bne_iff_ne]; omega
    by_cases h2 : a.length < b.length
    · have h2' : ((a.length : Int) < (b.length : Int)) := by omega
      have e : cmpL a b = -1 := by rw [cmpL, if_neg h1, if_pos h2]
      repeat' (first | simp only [go_sem, ↓reduceIte, Nat.reduceEqDiff, Nat.reduceAdd, Nat.reduceSub, Nat.reduceMul, Nat.reduceLeDiff, Nat.reduceBEq, reduceCtorEq, Nat.reduceEqDiff, Int.reduceEq, Int.reduceLT, Int.reduceLE, Int.reduceNeg, Int.reduceBEq, Int.reduceBNe, Int.reduceToNat, Int.reducePow, List.length_map, h1', h2', decide_true, e] | refine g_ref02_size_c0_sh.mpr ?_ | refine g_ref02_size_c1_sh.mpr ?_ | refine g_ref02_size_c2_sh.mpr ?_ | refine g_ref02_size_c3_sh.mpr ?_ | refine g_ref02_size_c4_sh.mpr ?_ | refine g_ref02_size_c5_sh.mpr ?_ | refine g_ref02_size_code_sh.mpr ?_ | refine hR _ ?_ | split)
    · have h2' : ¬ ((a.length : Int) < (b.length : Int)) := by omega
      have e : cmpL a b = 1 := by rw [cmpL, if_neg h1, if_neg h2]
      repeat' (first | simp only [go_sem, ↓reduceIte, Nat.reduceEqDiff, Nat.reduceAdd, Nat.reduceSub, Nat.reduceMul, Nat.reduceLeDiff, Nat.reduceBEq, reduceCtorEq, Nat.reduceEqDiff, Int.reduceEq, Int.reduceLT, Int.reduceLE, Int.reduceNeg, Int.reduceBEq, Int.reduceBNe, Int.reduceToNat, Int.reducePow, List.length_map, h1', h2', decide_false, e] | refine g_ref02_size_c0_sh.mpr ?_ | refine g_ref02_size_c1_sh.mpr ?_ | refine g_ref02_size_c2_sh.mpr ?_ | refine g_ref02_size_c3_sh.mpr ?_ | refine g_ref02_size_c4_sh.mpr ?_ | refine g_ref02_size_c5_sh.mpr ?_ | refine g_ref02_size_code_sh.mpr ?_ | refine hR _ ?_ | split)
theorem of_loop {C : Ctx} {I : Nat → Prop} (hI : ∀ n, ¬ I n) {Q : Ex → St → Prop} {r : List Nat} {mi : Bool} (hrl : r.length < 1000000)
    (hT : ∀ t, t 2 = .ptr 2 0 → t 3 = .ptr 3 0 → Q (.exit 0) (St.mk t (looko [(2, some (.box [vB false, .cap0])), (3, some (.box [vB mi, ownV 20 r])), (20, ownO 1 encN r)]))) :
    ∀ (m : Nat) (n : Int) (acc : List Nat), i64 n → n.natAbs < 10 ^ m → acc ++ digs n.natAbs = r →
      ∀ t, t 0 = vI n → t 2 = .ptr 2 0 → t 3 = .ptr 3 0 → wpB C I g_ref02_Of.l0 (St.mk t (looko [(2, some (.box [vB false, .cap0])), (3, some (.box [vB mi, ownV 20 acc])), (20, ownO 1 encN acc)])) Q := by
  intro m
  induction m with
  | zero =>
    intro n acc hn hm hr t t0 t2 t3
    have : n = 0 := by simp at hm; omega
    subst this
    rw [show (0 : Int).natAbs = 0 from rfl, digs_0, List.append_nil] at hr
    subst hr
    refine g_ref02_Of_l0_sh rfl ?_
    repeat (first | simp only [go_sem, ↓reduceIte, Nat.reduceEqDiff, Nat.reduceAdd, Nat.reduceSub, Nat.reduceMul, Nat.reduceLeDiff, Nat.reduceBEq, reduceCtorEq, Nat.reduceEqDiff, Int.reduceEq, Int.reduceLT, Int.reduceLE, Int.reduceNeg, Int.reduceBEq, Int.reduceBNe, Int.reduceToNat, Int.reducePow, t0, t2, t3, bne_self_eq_false] | refine g_ref02_Of_c0_sh.mpr ?_ | refine g_ref02_Of_c1_sh.mpr ?_ | refine g_ref02_Of_c2_sh.mpr ?_ | refine g_ref02_Of_c3_sh.mpr ?_ | refine g_ref02_Of_code_sh.mpr ?_)
    exact hT _ rfl rfl
  | succ m ih =>
    intro n acc hn hm hr t t0 t2 t3
    refine g_ref02_Of_l0_sh rfl ?_
    by_cases h0 : n = 0
    · subst h0
      rw [show (0 : Int).natAbs = 0 from rfl, digs_0, List.append_nil] at hr
      subst hr
      repeat (first | simp only [go_sem, ↓reduceIte, Nat.reduceEqDiff, Nat.reduceAdd, Nat.reduceSub, Nat.reduceMul, Nat.reduceLeDiff, Nat.reduceBEq, reduceCtorEq, Nat.reduceEqDiff, Int.reduceEq, Int.reduceLT, Int.reduceLE, Int.reduceNeg, Int.reduceBEq, Int.reduceBNe, Int.reduceToNat, Int.reducePow, t0, t2, t3, bne_self_eq_false] | refine g_ref02_Of_c0_sh.mpr ?_ | refine g_ref02_Of_c1_sh.mpr ?_ | refine g_ref02_Of_c2_sh.mpr ?_ | refine g_ref02_Of_c3_sh.mpr ?_ | refine g_ref02_Of_code_sh.mpr ?_)
      exact hT _ rfl rfl
    have h0' : (n != 0) = true := by simpa using h0
    have z : ¬ ((10 : Int) = 0) := by decide
    unfold i64 at hn
    rw [digs_pos (by omega)] at hr
    have hq : IntKind.i64.wrap (n.tdiv 10) = n.tdiv 10 := by
      have := Int.tdiv_eq_ediv_of_nonneg (a := n) (b := 10)
      by_cases hneg : n < 0
      · have e := Int.neg_tdiv (a := -n) (b := 10)
        rw [Int.neg_neg, Int.tdiv_eq_ediv_of_nonneg (a := -n) (by omega)] at e
        rw [e, wrapI (by omega) (by omega)]
      · rw [Int.tdiv_eq_ediv_of_nonneg (by omega), wrapI (by omega) (by omega)]
    have hqa : (n.tdiv 10).natAbs = n.natAbs / 10 := by rw [Int.natAbs_tdiv]; rfl
    have hra : (n.tmod 10).natAbs = n.natAbs % 10 := by rw [Int.natAbs_tmod]; rfl
    have next : ∀ acc', acc' = acc ++ [n.natAbs % 10] → wpB C I g_ref02_Of.l0 (St.mk (look [(0, vI (n.tdiv 10)), (2, .ptr 2 0), (3, .ptr 3 0)]) (looko [(2, some (.box [vB false, .cap0])), (3, some (.box [vB mi, ownV 20 acc'])), (20, ownO 1 encN acc')])) Q := by
      intro acc' e
      refine ih (n.tdiv 10) acc' (by unfold i64; omega) (by rw [hqa, Nat.pow_succ] at *; omega) ?_ _ rfl rfl rfl
      rw [e, hqa, ← hr]; simp
    have next := next _ rfl
    rw [ownV_snoc, ownO_snoc] at next
    have hal : acc.length < 1000000 := by rw [← hr] at hrl; simp at hrl; omega
    by_cases hs : n.tmod 10 < 0
    · have ed : IntKind.i64.wrap (0 - n.tmod 10) = ((n.natAbs % 10 : Nat) : Int) := by rw [wrapI (by omega) (by omega)]; omega
      cases acc with
      | nil =>
        repeat (first | simp only [go_sem, ↓reduceIte, Nat.reduceEqDiff, Nat.reduceAdd, Nat.reduceSub, Nat.reduceMul, Nat.reduceLeDiff, Nat.reduceBEq, reduceCtorEq, Nat.reduceEqDiff, Int.reduceEq, Int.reduceLT, Int.reduceLE, Int.reduceNeg, Int.reduceBEq, Int.reduceBNe, Int.reduceToNat, Int.reducePow, hI, t0, t2, t3, h0', z, hs, decide_true, ed, ownV, ownO, partsN, hq] | refine g_ref02_Of_c0_sh.mpr ?_ | refine g_ref02_Of_c1_sh.mpr ?_ | refine g_ref02_Of_c2_sh.mpr ?_ | refine g_ref02_Of_c3_sh.mpr ?_ | refine g_ref02_Of_code_sh.mpr ?_)
        exact next
      | cons x l =>
        simp only [List.length_cons] at hal
        repeat (first | simp only [go_sem, ↓reduceIte, Nat.reduceEqDiff, Nat.reduceAdd, Nat.reduceSub, Nat.reduceMul, Nat.reduceLeDiff, Nat.reduceBEq, reduceCtorEq, Nat.reduceEqDiff, Int.reduceEq, Int.reduceLT, Int.reduceLE, Int.reduceNeg, Int.reduceBEq, Int.reduceBNe, Int.reduceToNat, Int.reducePow, ↓demand_if, List.length_append, hI, t0, t2, t3, h0', z, hs, decide_true, ed, ownV, ownO, partsN, hq, List.length_map] | refine And.intro (by omega) ?_ | refine g_ref02_Of_c0_sh.mpr ?_ | refine g_ref02_Of_c1_sh.mpr ?_ | refine g_ref02_Of_c2_sh.mpr ?_ | refine g_ref02_Of_c3_sh.mpr ?_ | refine g_ref02_Of_code_sh.mpr ?_)
        exact next
    · have ed : n.tmod 10 = ((n.natAbs % 10 : Nat) : Int) := by omega
      cases acc with
      | nil =>
        repeat (first | simp only [go_sem, ↓reduceIte, Nat.reduceEqDiff, Nat.reduceAdd, Nat.reduceSub, Nat.reduceMul, Nat.reduceLeDiff, Nat.reduceBEq, reduceCtorEq, Nat.reduceEqDiff, Int.reduceEq, Int.reduceLT, Int.reduceLE, Int.reduceNeg, Int.reduceBEq, Int.reduceBNe, Int.reduceToNat, Int.reducePow, hI, t0, t2, t3, h0', z, hs, decide_false, ownV, ownO, partsN, hq] | refine g_ref02_Of_c0_sh.mpr ?_ | refine g_ref02_Of_c1_sh.mpr ?_ | refine g_ref02_Of_c2_sh.mpr ?_ | refine g_ref02_Of_c3_sh.mpr ?_ | refine g_ref02_Of_code_sh.mpr ?_)
        rw [ed]
        exact next
      | cons x l =>
        simp only [List.length_cons] at hal
        repeat (first | simp only [go_sem, ↓reduceIte, Nat.reduceEqDiff, Nat.reduceAdd, Nat.reduceSub, Nat.reduceMul, Nat.reduceLeDiff, Nat.reduceBEq, reduceCtorEq, Nat.reduceEqDiff, Int.reduceEq, Int.reduceLT, Int.reduceLE, Int.reduceNeg, Int.reduceBEq, Int.reduceBNe, Int.reduceToNat, Int.reducePow, ↓demand_if, List.length_append, hI, t0, t2, t3, h0', z, hs, decide_false, ownV, ownO, partsN, hq, List.length_map] | refine And.intro (by omega) ?_ | refine g_ref02_Of_c0_sh.mpr ?_ | refine g_ref02_Of_c1_sh.mpr ?_ | refine g_ref02_Of_c2_sh.mpr ?_ | refine g_ref02_Of_c3_sh.mpr ?_ | refine g_ref02_Of_code_sh.mpr ?_)
        rw [ed]
        exact next
abbrev vBig (m : Bool) (l : List Nat) : V := .agg [vB m, vDig l]
theorem refOf {C : Ctx} (h : okFn C.P C.φ 116 g_ref02_Of = true) (n : Int) (hn : i64 n) : SoundAt C 116 ⟨[vI n], looko []⟩ ⟨vBig (decide (n < 0)) (digs n.natAbs), looko []⟩ := by
  have hlen : (digs n.natAbs).length ≤ 20 := digs_len 20 _ (by unfold i64 at hn; omega)
  have key : ∀ r, r = .agg [vB (decide (n < 0)), slV encN (digs n.natAbs)] → SoundAt C 116 ⟨[vI n], looko []⟩ ⟨r, looko []⟩ := by
    intro r hr
    refine SoundAt.of_run h rfl (fun Q hR hN => ?_)
    rw [entry1]
    repeat (first | simp only [go_sem, ↓reduceIte, Nat.reduceEqDiff, Nat.reduceAdd, Nat.reduceSub, Nat.reduceMul, Nat.reduceLeDiff, Nat.reduceBEq, reduceCtorEq, Nat.reduceEqDiff, Int.reduceEq, Int.reduceLT, Int.reduceLE, Int.reduceNeg, Int.reduceBEq, Int.reduceBNe, Int.reduceToNat, Int.reducePow, no_I] | refine g_ref02_Of_c0_sh.mpr ?_ | refine g_ref02_Of_c1_sh.mpr ?_ | refine g_ref02_Of_c2_sh.mpr ?_ | refine g_ref02_Of_c3_sh.mpr ?_ | refine g_ref02_Of_code_sh.mpr ?_)
    refine of_loop (fun _ h => h) (r := digs n.natAbs) (mi := decide (n < 0)) (by omega) (fun t t2 t3 => ?_) 20 n [] hn (by unfold i64 at hn; omega) rfl _ rfl rfl rfl
    subst hr
    cases hd : digs n.natAbs with
    | nil =>
      repeat (first | simp only [go_sem, ↓reduceIte, Nat.reduceEqDiff, Nat.reduceAdd, Nat.reduceSub, Nat.reduceMul, Nat.reduceLeDiff, Nat.reduceBEq, reduceCtorEq, Nat.reduceEqDiff, Int.reduceEq, Int.reduceLT, Int.reduceLE, Int.reduceNeg, Int.reduceBEq, Int.reduceBNe, Int.reduceToNat, Int.reducePow, t2, t3, ownV, ownO, slV] | refine g_ref02_Of_c0_sh.mpr ?_ | refine g_ref02_Of_c1_sh.mpr ?_ | refine g_ref02_Of_c2_sh.mpr ?_ | refine g_ref02_Of_c3_sh.mpr ?_ | refine g_ref02_Of_code_sh.mpr ?_)
      refine hR _ ?_
      simp only [go_sem, ↓reduceIte, Nat.reduceEqDiff, Nat.reduceAdd, Nat.reduceSub, Nat.reduceMul, Nat.reduceLeDiff, Nat.reduceBEq, reduceCtorEq, Nat.reduceEqDiff, Int.reduceEq, Int.reduceLT, Int.reduceLE, Int.reduceNeg, Int.reduceBEq, Int.reduceBNe, Int.reduceToNat, Int.reducePow, ownV, ownO, slV, hd]
    | cons x l =>
      repeat (first | simp only [go_sem, ↓reduceIte, Nat.reduceEqDiff, Nat.reduceAdd, Nat.reduceSub, Nat.reduceMul, Nat.reduceLeDiff, Nat.reduceBEq, reduceCtorEq, Nat.reduceEqDiff, Int.reduceEq, Int.reduceLT, Int.reduceLE, Int.reduceNeg, Int.reduceBEq, Int.reduceBNe, Int.reduceToNat, Int.reducePow, t2, t3, ownV, ownO, slV] | refine g_ref02_Of_c0_sh.mpr ?_ | refine g_ref02_Of_c1_sh.mpr ?_ | refine g_ref02_Of_c2_sh.mpr ?_ | refine g_ref02_Of_c3_sh.mpr ?_ | refine g_ref02_Of_code_sh.mpr ?_)
      refine hR _ ?_
      simp only [go_sem, ↓reduceIte, Nat.reduceEqDiff, Nat.reduceAdd, Nat.reduceSub, Nat.reduceMul, Nat.reduceLeDiff, Nat.reduceBEq, reduceCtorEq, Nat.reduceEqDiff, Int.reduceEq, Int.reduceLT, Int.reduceLE, Int.reduceNeg, Int.reduceBEq, Int.reduceBNe, Int.reduceToNat, Int.reducePow, ownV, ownO, slV, hd]
  have := SoundAt.res_up (key _ rfl)
  simpa [V.up, V.ups, slV_up] using this
def lessF : Nat → List Nat → List Nat → List Nat
  | _, [], _ => []
  | c, x :: la, lb => if x < lb.headD 0 + c then (x + 10 - c - lb.headD 0) :: lessF 1 la lb.tail else (x - c - lb.headD 0) :: lessF 0 la lb.tail
theorem less_len : ∀ (c : Nat) (la lb : List Nat), (lessF c la lb).length = la.length
  | _, [], _ => rfl
  | c, x :: la, lb => by
    rw [lessF]
    split <;> simp [less_len]
theorem less_lt : ∀ (c : Nat) (la lb : List Nat), c ≤ 1 → (∀ d ∈ la, d < 10) → (∀ d ∈ lb, d < 10) → ∀ d ∈ lessF c la lb, d < 10
  | _, [], _, _, _, _, d, hd => by cases hd
  | c, x :: la, lb, hc, ha, hb, d, hd => by
    have hx := ha x (by simp)
    have hy : lb.headD 0 < 10 := by cases lb with
      | nil => exact Nat.zero_lt_succ _
      | cons y l => exact hb y (by simp)
    have hla : ∀ d ∈ la, d < 10 := fun d hd => ha d (List.mem_cons_of_mem _ hd)
    have hlb : ∀ d ∈ lb.tail, d < 10 := fun d hd => hb d (List.mem_of_mem_tail hd)
    rw [lessF] at hd
    split at hd
    · rcases List.mem_cons.1 hd with rfl | hd
      · omega
      · exact less_lt 1 la lb.tail (Nat.le_refl _) hla hlb d hd
    · rcases List.mem_cons.1 hd with rfl | hd
      · omega
      · exact less_lt 0 la lb.tail (by omega) hla hlb d hd
theorem less_val : ∀ (c : Nat) (la lb : List Nat), c ≤ 1 → (∀ d ∈ la, d < 10) → (∀ d ∈ lb, d < 10) → lb.length ≤ la.length → valL lb + c ≤ valL la → valL (lessF c la lb) = valL la - valL lb - c
  | c, [], lb, hc, ha, hb, hl, h => by
    have : lb = [] := List.eq_nil_of_length_eq_zero (by simpa using hl)
    subst this
    simp only [valL, lessF] at h ⊢
    omega
  | c, x :: la, lb, hc, ha, hb, hl, h => by
    have hx := ha x (by simp)
    have hla : ∀ d ∈ la, d < 10 := fun d hd => ha d (List.mem_cons_of_mem _ hd)
    have hlb : ∀ d ∈ lb.tail, d < 10 := fun d hd => hb d (List.mem_of_mem_tail hd)
    have hv : valL lb = lb.headD 0 + 10 * valL lb.tail := by cases lb <;> simp [valL]
    have hy : lb.headD 0 < 10 := by cases lb with
      | nil => exact Nat.zero_lt_succ _
      | cons y l => exact hb y (by simp)
    have hll : lb.tail.length ≤ la.length := by rw [List.length_tail]; simp only [List.length_cons] at hl; omega
    rw [lessF]
    simp only [valL] at h ⊢
    rw [hv] at h ⊢
    split
    · rename_i hlt
      have ih := less_val 1 la lb.tail (Nat.le_refl _) hla hlb hll (by omega)
      simp only [valL]
      rw [ih]; omega
    · rename_i hlt
      have ih := less_val 0 la lb.tail (by omega) hla hlb hll (by omega)
      simp only [valL]
      rw [ih]; omega
theorem less_loop {C : Ctx} {I : Nat → Prop} (hI : ∀ n, ¬ I n) {Q : Ex → St → Prop} {a b r : List Nat} (hl : a.length < 1000000) (ha : ∀ d ∈ a, d < 10) (hb : ∀ d ∈ b, d < 10)
    (hT : ∀ t, t 5 = ownV 38 r → Q (.exit 0) (St.mk t (looko [(38, ownO 1 encN r)]))) :
    ∀ (m k c : Nat) (acc : List Nat), k + m = a.length → c ≤ 1 → acc.length = k → acc ++ lessF c (a.drop k) (b.drop k) = r →
      ∀ t, t 0 = vDig a → t 1 = vDig b → t 5 = ownV 38 acc → t 6 = vI c → t 7 = vI k → wpB C I g_ref02_less.l0 (St.mk t (looko [(38, ownO 1 encN acc)])) Q := by
  intro m
  induction m with
  | zero =>
    intro k c acc hk hc hacc hr t t0 t1 t5 t6 t7
    refine g_ref02_less_l0_sh rfl ?_
    have : k = a.length := by omega
    rw [this, List.drop_length, lessF, List.append_nil] at hr
    subst hr
    rw [this] at t7
    repeat (first | simp only [go_sem, ↓reduceIte, Nat.reduceEqDiff, Nat.reduceAdd, Nat.reduceSub, Nat.reduceMul, Nat.reduceLeDiff, Nat.reduceBEq, reduceCtorEq, Nat.reduceEqDiff, Int.reduceEq, Int.reduceLT, Int.reduceLE, Int.reduceNeg, Int.reduceBEq, Int.reduceBNe, Int.reduceToNat, Int.reducePow, t0, t1, t5, t6, t7, List.length_map, Int.lt_irrefl, decide_false] | refine g_ref02_less_c0_sh.mpr ?_ | refine g_ref02_less_c1_sh.mpr ?_ | refine g_ref02_less_c2_sh.mpr ?_ | refine g_ref02_less_c3_sh.mpr ?_ | refine g_ref02_less_c4_sh.mpr ?_ | refine g_ref02_less_c5_sh.mpr ?_ | refine g_ref02_less_code_sh.mpr ?_)
    exact hT _ rfl
  | succ m ih =>
    intro k c acc hk hc hacc hr t t0 t1 t5 t6 t7
    refine g_ref02_less_l0_sh rfl ?_
    have hlt : k < a.length := by omega
    have hlt' : ((k : Int) < (a.length : Int)) := by omega
    have he := List.getElem?_eq_getElem hlt
    have hx := ha a[k] (List.getElem_mem hlt)
    rw [List.drop_eq_getElem_cons hlt, lessF, List.tail_drop] at hr
    obtain ⟨x, hx'⟩ : ∃ x, a[k] = x := ⟨_, rfl⟩
    rw [hx'] at he hx hr
    have hw : IntKind.i64.wrap ((k : Int) + 1) = ((k + 1 : Nat) : Int) := by rw [wrapI (by omega) (by omega)]; omega
    have w1 : IntKind.i64.wrap ((x : Int) - (c : Int)) = (x : Int) - (c : Int) := wrapI (by omega) (by omega)
    -- what follows the digit
    have put : ∀ (d c' : Nat) (tl : List (Nat × V)), tl = [] ∨ tl = [(32, vB false)] → c' ≤ 1 → (acc ++ [d]) ++ lessF c' (a.drop (k + 1)) (b.drop (k + 1)) = r →
        wpB C I g_ref02_less.c0 (St.mk (look ([(0, vDig a), (1, vDig b), (5, ownV 38 acc), (6, vI c'), (7, vI k), (8, vI d)] ++ tl)) (looko [(38, ownO 1 encN acc)])) (blockK 1 [0, 1, 5, 6, 7] (some [38]) (seqK (fun st => wpB C I g_ref02_less.c3 st (seqK (fun s => wpB C I g_ref02_less.l0 s Q) Q)) (seqK (fun s => wpB C I g_ref02_less.l0 s Q) Q))) := by
      intro d c' tl htl hc' hr'
      have next := ih (k + 1) c' (acc ++ [d]) (by omega) hc' (by simp [hacc]) hr' (look [(0, vDig a), (1, vDig b), (5, ownV 38 (acc ++ [d])), (6, vI c'), (7, vI ((k + 1 : Nat) : Int))]) rfl rfl rfl rfl rfl
      rw [ownV_snoc, ownO_snoc] at next
      rcases htl with rfl | rfl
      all_goals
        cases acc with
        | nil =>
          repeat (first | simp only [go_sem, ↓reduceIte, Nat.reduceEqDiff, Nat.reduceAdd, Nat.reduceSub, Nat.reduceMul, Nat.reduceLeDiff, Nat.reduceBEq, reduceCtorEq, Nat.reduceEqDiff, Int.reduceEq, Int.reduceLT, Int.reduceLE, Int.reduceNeg, Int.reduceBEq, Int.reduceBNe, Int.reduceToNat, Int.reducePow, ↓demand_if, List.length_append, hI, ownV, ownO, partsN, hw] | refine And.intro (by omega) ?_ | refine g_ref02_less_c0_sh.mpr ?_ | refine g_ref02_less_c3_sh.mpr ?_)
          exact next
        | cons y l =>
          simp only [List.length_cons] at hacc
          repeat (first | simp only [go_sem, ↓reduceIte, Nat.reduceEqDiff, Nat.reduceAdd, Nat.reduceSub, Nat.reduceMul, Nat.reduceLeDiff, Nat.reduceBEq, reduceCtorEq, Nat.reduceEqDiff, Int.reduceEq, Int.reduceLT, Int.reduceLE, Int.reduceNeg, Int.reduceBEq, Int.reduceBNe, Int.reduceToNat, Int.reducePow, ↓demand_if, List.length_append, hI, ownV, ownO, partsN, hw, List.length_map] | refine And.intro (by omega) ?_ | refine g_ref02_less_c0_sh.mpr ?_ | refine g_ref02_less_c3_sh.mpr ?_)
          exact next
    by_cases hkb : k < b.length
    · have hkb' : ((k : Int) < (b.length : Int)) := by omega
      have hbe := List.getElem?_eq_getElem hkb
      have hy := hb b[k] (List.getElem_mem hkb)
      have hh : (b.drop k).headD 0 = b[k] := by rw [List.drop_eq_getElem_cons hkb]; rfl
      rw [hh] at hr
      obtain ⟨y, hy'⟩ : ∃ y, b[k] = y := ⟨_, rfl⟩
      rw [hy'] at hbe hy hr
      have w2 : IntKind.i64.wrap ((x : Int) - (c : Int) - (y : Int)) = (x : Int) - (c : Int) - (y : Int) := wrapI (by omega) (by omega)
      by_cases hlt2 : x < y + c
      · rw [if_pos hlt2] at hr
        have hneg : ((x : Int) - (c : Int) - (y : Int) < 0) := by omega
        have w3 : IntKind.i64.wrap ((x : Int) - (c : Int) - (y : Int) + 10) = ((x + 10 - c - y : Nat) : Int) := by rw [wrapI (by omega) (by omega)]; omega
        repeat (first | simp only [go_sem, ↓reduceIte, Nat.reduceEqDiff, Nat.reduceAdd, Nat.reduceSub, Nat.reduceMul, Nat.reduceLeDiff, Nat.reduceBEq, reduceCtorEq, Nat.reduceEqDiff, Int.reduceEq, Int.reduceLT, Int.reduceLE, Int.reduceNeg, Int.reduceBEq, Int.reduceBNe, Int.reduceToNat, Int.reducePow, t0, t1, t5, t6, t7, List.length_map, hlt', decide_true, Int.natCast_nonneg, Int.toNat_natCast, getMap encN he, getMap encN hbe, encN, w1, hkb', w2, hneg, w3] | refine g_ref02_less_c4_sh.mpr ?_ | refine g_ref02_less_c2_sh.mpr ?_ | refine g_ref02_less_c1_sh.mpr ?_)
        exact put _ 1 [] (.inl rfl) (Nat.le_refl _) (by rw [← hr, List.append_assoc]; rfl)
      · rw [if_neg hlt2] at hr
        have hneg : ¬ ((x : Int) - (c : Int) - (y : Int) < 0) := by omega
        have w3 : (x : Int) - (c : Int) - (y : Int) = ((x - c - y : Nat) : Int) := by omega
        repeat (first | simp only [go_sem, ↓reduceIte, Nat.reduceEqDiff, Nat.reduceAdd, Nat.reduceSub, Nat.reduceMul, Nat.reduceLeDiff, Nat.reduceBEq, reduceCtorEq, Nat.reduceEqDiff, Int.reduceEq, Int.reduceLT, Int.reduceLE, Int.reduceNeg, Int.reduceBEq, Int.reduceBNe, Int.reduceToNat, Int.reducePow, t0, t1, t5, t6, t7, List.length_map, hlt', decide_true, decide_false, Int.natCast_nonneg, Int.toNat_natCast, getMap encN he, getMap encN hbe, encN, w1, hkb', w2, hneg] | refine g_ref02_less_c4_sh.mpr ?_ | refine g_ref02_less_c2_sh.mpr ?_ | refine g_ref02_less_c1_sh.mpr ?_)
        rw [w3]
        exact put _ 0 _ (.inr rfl) (by omega) (by rw [← hr, List.append_assoc]; rfl)
    · have hkb' : ¬ ((k : Int) < (b.length : Int)) := by omega
      have hh : (b.drop k).headD 0 = 0 := by rw [List.drop_of_length_le (by omega)]; rfl
      rw [hh] at hr
      by_cases hlt2 : x < 0 + c
      · rw [if_pos hlt2] at hr
        have hneg : ((x : Int) - (c : Int) < 0) := by omega
        have w3 : IntKind.i64.wrap ((x : Int) - (c : Int) + 10) = ((x + 10 - c - 0 : Nat) : Int) := by rw [wrapI (by omega) (by omega)]; omega
        repeat (first | simp only [go_sem, ↓reduceIte, Nat.reduceEqDiff, Nat.reduceAdd, Nat.reduceSub, Nat.reduceMul, Nat.reduceLeDiff, Nat.reduceBEq, reduceCtorEq, Nat.reduceEqDiff, Int.reduceEq, Int.reduceLT, Int.reduceLE, Int.reduceNeg, Int.reduceBEq, Int.reduceBNe, Int.reduceToNat, Int.reducePow, t0, t1, t5, t6, t7, List.length_map, hlt', decide_true, decide_false, Int.natCast_nonneg, Int.toNat_natCast, getMap encN he, encN, w1, hkb', hneg, w3] | refine g_ref02_less_c4_sh.mpr ?_ | refine g_ref02_less_c2_sh.mpr ?_ | refine g_ref02_less_c1_sh.mpr ?_)
        exact put _ 1 [] (.inl rfl) (Nat.le_refl _) (by rw [← hr, List.append_assoc]; rfl)
      · rw [if_neg hlt2] at hr
        have hneg : ¬ ((x : Int) - (c : Int) < 0) := by omega
        have w3 : (x : Int) - (c : Int) = ((x - c - 0 : Nat) : Int) := by omega
        repeat (first | simp only [go_sem, ↓reduceIte, Nat.reduceEqDiff, Nat.reduceAdd, Nat.reduceSub, Nat.reduceMul, Nat.reduceLeDiff, Nat.reduceBEq, reduceCtorEq, Nat.reduceEqDiff, Int.reduceEq, Int.reduceLT, Int.reduceLE, Int.reduceNeg, Int.reduceBEq, Int.reduceBNe, Int.reduceToNat, Int.reducePow, t0, t1, t5, t6, t7, List.length_map, hlt', decide_true, decide_false, Int.natCast_nonneg, Int.toNat_natCast, getMap encN he, encN, w1, hkb', hneg] | refine g_ref02_less_c4_sh.mpr ?_ | refine g_ref02_less_c2_sh.mpr ?_ | refine g_ref02_less_c1_sh.mpr ?_)
        rw [w3]
        exact put _ 0 _ (.inr rfl) (by omega) (by rw [← hr, List.append_assoc]; rfl)
/-- One less another one that is not greater. -/
theorem refLess {C : Ctx} (h : okFn C.P C.φ 120 g_ref02_less = true) (hT : ∀ l : List Nat, l.length < 1000000 → SoundAt C 118 ⟨[vDig l], looko []⟩ ⟨vDig (trimL l), looko []⟩) (a b : Nat) (hab : b ≤ a) (hl : (digs a).length < 1000000) :
    SoundAt C 120 ⟨[vDig (digs a), vDig (digs b)], looko []⟩ ⟨vDig (digs (a - b)), looko []⟩ := by
  obtain ⟨r, hr⟩ : ∃ r, lessF 0 (digs a) (digs b) = r := ⟨_, rfl⟩
  have hrl : r.length < 1000000 := by rw [← hr, less_len]; exact hl
  have htr : trimL r = digs (a - b) := by
    rw [trim_digs r.length r rfl (by rw [← hr]; exact less_lt 0 _ _ (by omega) (digs_lt a) (digs_lt b)), ← hr, less_val 0 _ _ (by omega) (digs_lt a) (digs_lt b) (digs_mono b a hab) (by rw [val_digs, val_digs]; omega), val_digs, val_digs, Nat.sub_zero]
  have t1 := hT r hrl
  rw [htr] at t1
  refine SoundAt.of_run h rfl (fun Q hR hN => ?_)
  rw [entry2]
  repeat (first | simp only [go_sem, ↓reduceIte, Nat.reduceEqDiff, Nat.reduceAdd, Nat.reduceSub, Nat.reduceMul, Nat.reduceLeDiff, Nat.reduceBEq, reduceCtorEq, Nat.reduceEqDiff, Int.reduceEq, Int.reduceLT, Int.reduceLE, Int.reduceNeg, Int.reduceBEq, Int.reduceBNe, Int.reduceToNat, Int.reducePow] | refine g_ref02_less_c0_sh.mpr ?_ | refine g_ref02_less_c1_sh.mpr ?_ | refine g_ref02_less_c2_sh.mpr ?_ | refine g_ref02_less_c3_sh.mpr ?_ | refine g_ref02_less_c4_sh.mpr ?_ | refine g_ref02_less_c5_sh.mpr ?_ | refine g_ref02_less_code_sh.mpr ?_)
  refine less_loop (fun _ h => h) hl (digs_lt a) (digs_lt b) (r := r) (fun t t5 => ?_) (digs a).length 0 0 [] (by omega) (by omega) rfl hr _ rfl rfl rfl rfl rfl
  cases r with
  | nil =>
    have t2 : SoundAt C 118 ⟨[.cap0], looko []⟩ ⟨vDig (digs (a - b)), looko []⟩ := SoundAt.up_of t1 rfl
    repeat' (first | simp only [go_sem, ↓reduceIte, Nat.reduceEqDiff, Nat.reduceAdd, Nat.reduceSub, Nat.reduceMul, Nat.reduceLeDiff, Nat.reduceBEq, reduceCtorEq, Nat.reduceEqDiff, Int.reduceEq, Int.reduceLT, Int.reduceLE, Int.reduceNeg, Int.reduceBEq, Int.reduceBNe, Int.reduceToNat, Int.reducePow, t5, ownV, ownO] | refine g_ref02_less_c0_sh.mpr ?_ | refine g_ref02_less_c1_sh.mpr ?_ | refine g_ref02_less_c2_sh.mpr ?_ | refine g_ref02_less_c3_sh.mpr ?_ | refine g_ref02_less_c4_sh.mpr ?_ | refine g_ref02_less_c5_sh.mpr ?_ | refine g_ref02_less_code_sh.mpr ?_ | refine callK_plain (t2) (fun _ => rfl) ?_ | refine hR _ ?_ | split)
  | cons x l =>
    repeat' (first | simp only [go_sem, ↓reduceIte, Nat.reduceEqDiff, Nat.reduceAdd, Nat.reduceSub, Nat.reduceMul, Nat.reduceLeDiff, Nat.reduceBEq, reduceCtorEq, Nat.reduceEqDiff, Int.reduceEq, Int.reduceLT, Int.reduceLE, Int.reduceNeg, Int.reduceBEq, Int.reduceBNe, Int.reduceToNat, Int.reducePow, t5, ownV, ownO] | refine g_ref02_less_c0_sh.mpr ?_ | refine g_ref02_less_c1_sh.mpr ?_ | refine g_ref02_less_c2_sh.mpr ?_ | refine g_ref02_less_c3_sh.mpr ?_ | refine g_ref02_less_c4_sh.mpr ?_ | refine g_ref02_less_c5_sh.mpr ?_ | refine g_ref02_less_code_sh.mpr ?_ | refine callK_plain (t1) (fun _ => rfl) ?_ | refine hR _ ?_ | split)
end Pay
