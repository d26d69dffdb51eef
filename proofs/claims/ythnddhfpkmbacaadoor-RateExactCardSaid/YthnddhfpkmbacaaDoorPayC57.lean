/- Contracts: the document's long division. -/
import Derived.Test.YthnddhfpkmbacaaDoorPayC33
import Derived.Test.YthnddhfpkmbacaaDoorPayC53
import Derived.Test.YthnddhfpkmbacaaDoorPayC56
import Derived.Test.YthnddhfpkmbacaaDoorPaySh0
set_option linter.unusedSimpArgs false
set_option linter.unusedVariables false
namespace Pay
open Go
attribute [local irreducible] wpB opsB treeB drawB
structure BigK (C : Ctx) : Prop where
  trim : ∀ l : List Nat, l.length < 1000000 → SoundAt C 118 ⟨[vDig l], looko []⟩ ⟨vDig (trimL l), looko []⟩
  size : ∀ a b : Nat, (digs a).length < 1000 → (digs b).length < 1000 → SoundAt C 119 ⟨[vDig (digs a), vDig (digs b)], looko []⟩ ⟨vI (cmpN a b), looko []⟩
  of : ∀ n : Int, i64 n → SoundAt C 116 ⟨[vI n], looko []⟩ ⟨vBig (decide (n < 0)) (digs n.natAbs), looko []⟩
  mul : ∀ (ma mb : Bool) (a b : Nat), (digs a).length < 1000 → (digs b).length < 1000 → SoundAt C 117 ⟨[vBig ma (digs a), vBig mb (digs b)], looko []⟩ ⟨big (ma != mb) (a * b), looko []⟩
  less : ∀ a b : Nat, b ≤ a → (digs a).length < 1000 → SoundAt C 120 ⟨[vDig (digs a), vDig (digs b)], looko []⟩ ⟨vDig (digs (a - b)), looko []⟩
theorem refDouble {C : Ctx} (h : okFn C.P C.φ 121 g_ref02_double = true) (K : BigK C) (a : Nat) (hal : (digs a).length < 1000) : SoundAt C 121 ⟨[vDig (digs a)], looko []⟩ ⟨vDig (digs (a * 2)), looko []⟩ := by
  have d2 : digs 2 = [2] := by rw [digs_pos (by decide), show 2 % 10 = 2 from rfl, show 2 / 10 = 0 from rfl, digs_0]
  have ho := K.of 2 (by unfold i64; omega)
  rw [show decide ((2 : Int) < 0) = false from rfl, show ((2 : Int).natAbs) = 2 from rfl] at ho
  have hm := K.mul false false a 2 hal (by rw [d2]; decide)
  refine SoundAt.of_run h rfl (fun Q hR hN => ?_)
  rw [entry1]
  repeat' (first | simp only [go_sem, ↓reduceIte, Nat.reduceEqDiff, Nat.reduceAdd, Nat.reduceSub, Nat.reduceMul, Nat.reduceLeDiff, Nat.reduceBEq, reduceCtorEq, Nat.reduceEqDiff, Int.reduceEq, Int.reduceLT, Int.reduceLE, Int.reduceGT, Int.reduceGE, Int.reduceNeg, Int.reduceBEq, Int.reduceBNe, Int.reduceToNat, Int.reducePow] | refine g_ref02_double_code_sh.mpr ?_ | refine callK_plain (ho) (fun _ => rfl) ?_ | refine callK_plain (hm) (fun _ => rfl) ?_ | refine hR _ ?_ | split)
def accR : Nat → List Nat → Nat
  | n, [] => n
  | n, d :: l => accR (10 * n + d) l
theorem accR_snoc : ∀ (l : List Nat) (n d : Nat), accR n (l ++ [d]) = 10 * accR n l + d
  | [], n, d => rfl
  | x :: l, n, d => by simp only [List.cons_append, accR, accR_snoc l]
theorem accR_ge : ∀ (l : List Nat) (n : Nat), n ≤ accR n l
  | [], n => Nat.le_refl _
  | x :: l, n => by
    simp only [accR]
    have := accR_ge l (10 * n + x)
    omega
theorem div_step (H K d : Nat) (hK : 0 < K) : (d + 10 * H) / K = 10 * (H / K) + (d + 10 * (H % K)) / K ∧ (d + 10 * H) % K = (d + 10 * (H % K)) % K := by
  have h := Nat.div_add_mod H K
  have e : d + 10 * H = (d + 10 * (H % K)) + K * (10 * (H / K)) := by
    rw [show K * (10 * (H / K)) = 10 * (K * (H / K)) by ac_rfl]; omega
  rw [e, Nat.add_mul_div_left _ _ hK, Nat.add_mul_mod_self_left]
  exact ⟨Nat.add_comm .., rfl⟩
theorem cmpN_ge {a b : Nat} : (cmpN a b ≥ 0) ↔ b ≤ a := by
  unfold cmpN
  split
  · omega
  · split <;> omega
theorem len40 {n : Nat} (h : n < 10 ^ 40) : (digs n).length < 1000 := by have := digs_len 40 n h; omega
theorem readD_c0 (o : Nat → Option Ob) : readD o .cap0 = some [] := rfl
/-- The inner loop: how often the divisor is taken off. -/
theorem md_in {C : Ctx} (W : BigK C) {I : Nat → Prop} {Q : Ex → St → Prop} {pm : Bool} {P : V} {K : Nat} (hK : 0 < K) (hK2 : K < 10 ^ 30) {how : Int} {i : Int} {u13 : V} {o63 : Option Ob} (c10 c11 : Ob) (h10 : c10 = .box [vB pm, P]) (h11 : c11 = .box [vB false, vDig (digs K)]) {r cnt : Nat}
    (hT : ∀ t, t 3 = vI how → t 10 = .ptr 10 0 → t 11 = .ptr 11 0 → t 12 = vDig (digs r) → t 13 = u13 → t 14 = vI i → t 16 = vI cnt → Q (.exit 2) (St.mk t (looko [(10, some c10), (11, some c11), (63, o63)]))) :
    ∀ (m L k : Nat), L / K = m → k + m ≤ 100 → k + m = cnt → L % K = r → ∀ t, t 3 = vI how → t 10 = .ptr 10 0 → t 11 = .ptr 11 0 → t 12 = vDig (digs L) → t 13 = u13 → t 14 = vI i → t 16 = vI k →
      wpB C I g_ref02_MulDiv.l1 (St.mk t (looko [(10, some c10), (11, some c11), (63, o63)])) Q := by
  intro m
  induction m with
  | zero =>
    intro L k hL hm hc hr t t3 t10 t11 t12 t13 t14 t16
    refine g_ref02_MulDiv_l1_sh rfl ?_
    have hlt : L < K := by rcases Nat.lt_or_ge L K with h | h; exact h; have := Nat.div_pos h hK; omega
    have hs := W.size L K (len40 (by omega)) (len40 (by omega))
    have hg : ¬ (cmpN L K ≥ 0) := by rw [cmpN_ge]; omega
    rw [Nat.mod_eq_of_lt hlt] at hr
    subst hr h10 h11
    have : k = cnt := by omega
    subst this
    repeat' (first | simp only [go_sem, ↓reduceIte, Nat.reduceEqDiff, Nat.reduceAdd, Nat.reduceSub, Nat.reduceMul, Nat.reduceLeDiff, Nat.reduceBEq, reduceCtorEq, Nat.reduceEqDiff, Int.reduceEq, Int.reduceLT, Int.reduceLE, Int.reduceGT, Int.reduceGE, Int.reduceNeg, Int.reduceBEq, Int.reduceBNe, Int.reduceToNat, Int.reducePow, t3, t10, t11, t12, t13, t14, t16, hg, decide_false] | refine g_ref02_MulDiv_c1_sh.mpr ?_ | refine callK_plain (hs) (fun _ => rfl) ?_ | refine hR _ ?_ | split)
    exact hT _ rfl rfl rfl rfl rfl rfl rfl
  | succ m ih =>
    intro L k hL hm hc hr t t3 t10 t11 t12 t13 t14 t16
    refine g_ref02_MulDiv_l1_sh rfl ?_
    have hge : K ≤ L := by rcases Nat.lt_or_ge L K with h | h; rw [Nat.div_eq_of_lt h] at hL; omega; exact h
    have hLb : L < 10 ^ 40 := by
      have := Nat.div_add_mod L K
      rw [hL] at this
      have h2 := Nat.mod_lt L hK
      have h3 : K * (m + 1) ≤ K * 100 := Nat.mul_le_mul_left K (show m + 1 ≤ 100 by omega)
      omega
    have hs := W.size L K (len40 hLb) (len40 (by omega))
    have hl := W.less L K hge (len40 hLb)
    have hg : cmpN L K ≥ 0 := cmpN_ge.2 hge
    have w1 : IntKind.i64.wrap ((k : Int) + 1) = ((k + 1 : Nat) : Int) := by rw [wrapI (by omega) (by omega)]; omega
    have ih := ih (L - K) (k + 1) (by have := Nat.div_eq_sub_div hK hge; omega) (by omega) (by omega) (by rw [← hr, Nat.mod_eq_sub_mod hge]) (look [(3, vI how), (10, .ptr 10 0), (11, .ptr 11 0), (12, vDig (digs (L - K))), (13, u13), (14, vI i), (16, vI ((k + 1 : Nat) : Int))]) rfl rfl rfl rfl rfl rfl rfl
    subst h10 h11
    repeat (first | simp only [go_sem, ↓reduceIte, Nat.reduceEqDiff, Nat.reduceAdd, Nat.reduceSub, Nat.reduceMul, Nat.reduceLeDiff, Nat.reduceBEq, reduceCtorEq, Nat.reduceEqDiff, Int.reduceEq, Int.reduceLT, Int.reduceLE, Int.reduceGT, Int.reduceGE, Int.reduceNeg, Int.reduceBEq, Int.reduceBNe, Int.reduceToNat, Int.reducePow, t3, t10, t11, t12, t13, t14, t16] | fail)
    refine callK_plain hs (fun _ => rfl) ?_
    repeat (first | simp only [go_sem, ↓reduceIte, Nat.reduceEqDiff, Nat.reduceAdd, Nat.reduceSub, Nat.reduceMul, Nat.reduceLeDiff, Nat.reduceBEq, reduceCtorEq, Nat.reduceEqDiff, Int.reduceEq, Int.reduceLT, Int.reduceLE, Int.reduceGT, Int.reduceGE, Int.reduceNeg, Int.reduceBEq, Int.reduceBNe, Int.reduceToNat, Int.reducePow, hg, decide_true] | refine g_ref02_MulDiv_c1_sh.mpr ?_)
    refine callK_plain hl (fun _ => rfl) ?_
    repeat (first | simp only [go_sem, ↓reduceIte, Nat.reduceEqDiff, Nat.reduceAdd, Nat.reduceSub, Nat.reduceMul, Nat.reduceLeDiff, Nat.reduceBEq, reduceCtorEq, Nat.reduceEqDiff, Int.reduceEq, Int.reduceLT, Int.reduceLE, Int.reduceGT, Int.reduceGE, Int.reduceNeg, Int.reduceBEq, Int.reduceBNe, Int.reduceToNat, Int.reducePow, w1] | refine g_ref02_MulDiv_c0_sh.mpr ?_)
    exact ih
/-- The outer loop: digit by digit. -/
theorem md_out {C : Ctx} (W : BigK C) {I : Nat → Prop} (hI : ∀ n, ¬ I n) {Q : Ex → St → Prop} {pm : Bool} {P : List Nat} (hP : ∀ d ∈ P, d < 10) (hPl : P.length < 100) {K : Nat} (hK : 0 < K) (hK2 : K < 10 ^ 30) {how : Int} (c10 c11 : Ob) (h10 : c10 = .box [vB pm, vDig P]) (h11 : c11 = .box [vB false, vDig (digs K)])
    (hT : ∀ qs, (∀ d ∈ qs, d < 10) → qs.length = P.length → accR 0 qs = valL P / K → ∀ t, t 3 = vI how → t 10 = .ptr 10 0 → t 11 = .ptr 11 0 → (t 12 = vDig (digs (valL P % K)) ∨ t 12 = .cap0 ∧ valL P % K = 0) → t 13 = ownV 63 qs →
      Q (.exit 0) (St.mk t (looko [(10, some c10), (11, some c11), (63, ownO 1 encN qs)]))) :
    ∀ (k : Nat), k ≤ P.length → ∀ (qs : List Nat), (∀ d ∈ qs, d < 10) → qs.length + k = P.length → accR 0 qs = valL (P.drop k) / K → ∀ t, t 3 = vI how → t 10 = .ptr 10 0 → t 11 = .ptr 11 0 → (t 12 = vDig (digs (valL (P.drop k) % K)) ∨ t 12 = .cap0 ∧ valL (P.drop k) % K = 0) → t 13 = ownV 63 qs → t 14 = vI ((k : Int) - 1) →
      wpB C I g_ref02_MulDiv.l0 (St.mk t (looko [(10, some c10), (11, some c11), (63, ownO 1 encN qs)])) Q := by
  intro k
  induction k with
  | zero =>
    intro _ qs hq hql hqv t t3 t10 t11 t12 t13 t14
    refine g_ref02_MulDiv_l0_sh rfl ?_
    rw [List.drop_zero] at hqv t12
    have hT := hT qs hq (by omega) hqv
    have hg : ¬ (((0 : Nat) : Int) - 1 ≥ 0) := by omega
    repeat (first | simp only [go_sem, ↓reduceIte, Nat.reduceEqDiff, Nat.reduceAdd, Nat.reduceSub, Nat.reduceMul, Nat.reduceLeDiff, Nat.reduceBEq, reduceCtorEq, Nat.reduceEqDiff, Int.reduceEq, Int.reduceLT, Int.reduceLE, Int.reduceGT, Int.reduceGE, Int.reduceNeg, Int.reduceBEq, Int.reduceBNe, Int.reduceToNat, Int.reducePow, t3, t10, t11, t13, t14, Int.reduceSub, Int.reduceNeg, ge_iff_le, Int.reduceLE, decide_false] | fail)
    exact hT _ rfl rfl rfl t12 rfl
  | succ k ih =>
    intro hk qs hq hql hqv t t3 t10 t11 t12 t13 t14
    refine g_ref02_MulDiv_l0_sh rfl ?_
    have e14 : (((k + 1 : Nat) : Int) - 1) = (k : Int) := by omega
    rw [e14] at t14
    have hg : ((k : Int) ≥ 0) := by omega
    have hlt : k < P.length := by omega
    have he := List.getElem?_eq_getElem hlt
    have hx := hP P[k] (List.getElem_mem hlt)
    have hdr : P.drop k = P[k] :: P.drop (k + 1) := List.drop_eq_getElem_cons hlt
    obtain ⟨d, hd⟩ : ∃ d, P[k] = d := ⟨_, rfl⟩
    rw [hd] at he hx hdr
    obtain ⟨H, hH⟩ : ∃ H, valL (P.drop (k + 1)) = H := ⟨_, rfl⟩
    rw [hH] at hqv t12
    have hv : valL (P.drop k) = d + 10 * H := by rw [hdr, valL, hH]
    obtain ⟨s1, s2⟩ := div_step H K d hK
    have hmod := Nat.mod_lt H hK
    have hdig : trimL (d :: digs (H % K)) = digs (d + 10 * (H % K)) := by
      rw [trim_digs _ _ rfl (fun z hz => by rcases List.mem_cons.1 hz with rfl | h; exact hx; exact digs_lt _ z h), valL, val_digs]
    have hc : (d + 10 * (H % K)) / K < 10 := by rw [Nat.div_lt_iff_lt_mul hK]; omega
    have ht := W.trim (d :: digs (H % K)) (by have := len40 (n := H % K) (by omega); rw [List.length_cons]; omega)
    rw [hdig] at ht
    have hall : ∀ e ∈ (digs (H % K)).map encN, e.length = 1 := fun e he => by obtain ⟨n, _, rfl⟩ := List.mem_map.1 he; rfl
    have hdl := len40 (n := H % K) (by omega)
    have w1 : IntKind.i64.wrap ((k : Int) - 1) = (k : Int) - 1 := wrapI (by omega) (by omega)
    have next := ih (by omega) (qs ++ [(d + 10 * (H % K)) / K]) (fun z hz => by
      rcases List.mem_append.1 hz with h | h
      · exact hq z h
      · rw [List.mem_singleton.1 h]; exact hc) (by simp; omega) (by rw [accR_snoc, hqv, hv, s1])
    rw [ownV_snoc, ownO_snoc, hv, s2] at next
    have tail : wpB C I g_ref02_MulDiv.c3 (St.mk (look [(3, vI how), (10, .ptr 10 0), (11, .ptr 11 0), (12, vDig (digs (d + 10 * (H % K)))), (13, ownV 63 qs), (14, vI k)]) (looko [(10, some c10), (11, some c11), (63, ownO 1 encN qs)]))
        (blockK 1 [3, 10, 11, 12, 13, 14] (some [10, 11, 63]) (seqK (fun st => wpB C I g_ref02_MulDiv.c5 st (seqK (fun s => wpB C I g_ref02_MulDiv.l0 s Q) Q)) (seqK (fun s => wpB C I g_ref02_MulDiv.l0 s Q) Q))) := by
      rw [h10, h11]
      repeat (first | simp only [go_sem, ↓reduceIte, Nat.reduceEqDiff, Nat.reduceAdd, Nat.reduceSub, Nat.reduceMul, Nat.reduceLeDiff, Nat.reduceBEq, reduceCtorEq, Nat.reduceEqDiff, Int.reduceEq, Int.reduceLT, Int.reduceLE, Int.reduceGT, Int.reduceGE, Int.reduceNeg, Int.reduceBEq, Int.reduceBNe, Int.reduceToNat, Int.reducePow, hI] | refine g_ref02_MulDiv_c3_sh.mpr ?_)
      rw [← h10, ← h11]
      refine md_in W hK hK2 c10 c11 h10 h11 (r := (d + 10 * (H % K)) % K) (cnt := (d + 10 * (H % K)) / K) (pm := pm) (P := vDig P) (how := how) (u13 := ownV 63 qs) (i := (k : Int)) (fun t t3 t10 t11 t12 t13 t14 t16 => ?_) ((d + 10 * (H % K)) / K) _ 0 rfl (by omega) (by omega) rfl _ rfl rfl rfl rfl rfl rfl rfl
      have next := next (look [(3, vI how), (10, .ptr 10 0), (11, .ptr 11 0), (12, vDig (digs ((d + 10 * (H % K)) % K))), (13, .own 63), (14, vI ((k : Int) - 1))]) rfl rfl rfl (.inl rfl) rfl rfl
      cases qs with
      | nil =>
        subst h10 h11
        repeat (first | simp only [go_sem, ↓reduceIte, Nat.reduceEqDiff, Nat.reduceAdd, Nat.reduceSub, Nat.reduceMul, Nat.reduceLeDiff, Nat.reduceBEq, reduceCtorEq, Nat.reduceEqDiff, Int.reduceEq, Int.reduceLT, Int.reduceLE, Int.reduceGT, Int.reduceGE, Int.reduceNeg, Int.reduceBEq, Int.reduceBNe, Int.reduceToNat, Int.reducePow, ↓demand_if, List.length_append, hI, t3, t10, t11, t12, t13, t14, t16, ownV, ownO, partsN, w1] | refine And.intro (by omega) ?_ | refine g_ref02_MulDiv_c2_sh.mpr ?_ | refine g_ref02_MulDiv_c5_sh.mpr ?_)
        exact next
      | cons y l =>
        simp only [List.length_cons] at hql
        subst h10 h11
        repeat (first | simp only [go_sem, ↓reduceIte, Nat.reduceEqDiff, Nat.reduceAdd, Nat.reduceSub, Nat.reduceMul, Nat.reduceLeDiff, Nat.reduceBEq, reduceCtorEq, Nat.reduceEqDiff, Int.reduceEq, Int.reduceLT, Int.reduceLE, Int.reduceGT, Int.reduceGE, Int.reduceNeg, Int.reduceBEq, Int.reduceBNe, Int.reduceToNat, Int.reducePow, ↓demand_if, List.length_append, hI, t3, t10, t11, t12, t13, t14, t16, ownV, ownO, partsN, w1, List.length_map] | refine And.intro (by omega) ?_ | refine g_ref02_MulDiv_c2_sh.mpr ?_ | refine g_ref02_MulDiv_c5_sh.mpr ?_)
        exact next
    rcases t12 with t12 | ⟨t12, h0⟩
    · subst h10 h11
      cases qs with
      | nil =>
        repeat (first | simp only [go_sem, ↓reduceIte, Nat.reduceEqDiff, Nat.reduceAdd, Nat.reduceSub, Nat.reduceMul, Nat.reduceLeDiff, Nat.reduceBEq, reduceCtorEq, Nat.reduceEqDiff, Int.reduceEq, Int.reduceLT, Int.reduceLE, Int.reduceGT, Int.reduceGE, Int.reduceNeg, Int.reduceBEq, Int.reduceBNe, Int.reduceToNat, Int.reducePow, ↓demand_if, List.length_append, hI, t3, t10, t11, t12, t13, t14, hg, decide_true, Int.natCast_nonneg, Int.toNat_natCast, getMap encN he, encN, partsN, hall, ownV, ownO, List.length_map, readD_c0] | refine And.intro (by omega) ?_ | refine g_ref02_MulDiv_c4_sh.mpr ?_ | refine callK_plain (ht) (fun _ => rfl) ?_)
        exact tail
      | cons y l =>
        repeat (first | simp only [go_sem, ↓reduceIte, Nat.reduceEqDiff, Nat.reduceAdd, Nat.reduceSub, Nat.reduceMul, Nat.reduceLeDiff, Nat.reduceBEq, reduceCtorEq, Nat.reduceEqDiff, Int.reduceEq, Int.reduceLT, Int.reduceLE, Int.reduceGT, Int.reduceGE, Int.reduceNeg, Int.reduceBEq, Int.reduceBNe, Int.reduceToNat, Int.reducePow, ↓demand_if, List.length_append, hI, t3, t10, t11, t12, t13, t14, hg, decide_true, Int.natCast_nonneg, Int.toNat_natCast, getMap encN he, encN, partsN, hall, ownV, ownO, List.length_map, readD_c0] | refine And.intro (by omega) ?_ | refine g_ref02_MulDiv_c4_sh.mpr ?_ | refine callK_plain (ht) (fun _ => rfl) ?_)
        exact tail
    · subst h10 h11
      rw [h0, digs_0] at ht
      cases qs with
      | nil =>
        repeat (first | simp only [go_sem, ↓reduceIte, Nat.reduceEqDiff, Nat.reduceAdd, Nat.reduceSub, Nat.reduceMul, Nat.reduceLeDiff, Nat.reduceBEq, reduceCtorEq, Nat.reduceEqDiff, Int.reduceEq, Int.reduceLT, Int.reduceLE, Int.reduceGT, Int.reduceGE, Int.reduceNeg, Int.reduceBEq, Int.reduceBNe, Int.reduceToNat, Int.reducePow, ↓demand_if, List.length_append, hI, t3, t10, t11, t12, t13, t14, hg, decide_true, Int.natCast_nonneg, Int.toNat_natCast, getMap encN he, encN, partsN, hall, ownV, ownO, List.length_map, readD_c0] | refine And.intro (by omega) ?_ | refine g_ref02_MulDiv_c4_sh.mpr ?_ | refine callK_plain (ht) (fun _ => rfl) ?_)
        rw [h0] at tail
        exact tail
      | cons y l =>
        repeat (first | simp only [go_sem, ↓reduceIte, Nat.reduceEqDiff, Nat.reduceAdd, Nat.reduceSub, Nat.reduceMul, Nat.reduceLeDiff, Nat.reduceBEq, reduceCtorEq, Nat.reduceEqDiff, Int.reduceEq, Int.reduceLT, Int.reduceLE, Int.reduceGT, Int.reduceGE, Int.reduceNeg, Int.reduceBEq, Int.reduceBNe, Int.reduceToNat, Int.reducePow, ↓demand_if, List.length_append, hI, t3, t10, t11, t12, t13, t14, hg, decide_true, Int.natCast_nonneg, Int.toNat_natCast, getMap encN he, encN, partsN, hall, ownV, ownO, List.length_map, readD_c0] | refine And.intro (by omega) ?_ | refine g_ref02_MulDiv_c4_sh.mpr ?_ | refine callK_plain (ht) (fun _ => rfl) ?_)
        rw [h0] at tail
        exact tail
def moreB (how : Int) (l : Bool) (half : Int) (odd : Bool) : Bool := (how == 1 && l) || (decide (how > 1) && decide (half > 0)) || (half == 0 && (how == 2 || (how == 3 && odd)))
set_option maxHeartbeats 1000000 in
theorem md_more {C : Ctx} {I : Nat → Prop} {Q : Ex → St → Prop} {how half : Int} {odd m : Bool} {L : Nat} {v12 u13 : V} {o10 o11 o63 : Option Ob} (hh : how = 0 ∨ how = 1 ∨ how = 2 ∨ how = 3) (hf : half = -1 ∨ half = 0 ∨ half = 1)
    (h12 : v12 = vDig (digs L) ∨ v12 = .cap0 ∧ L = 0) (hm : moreB how (decide (0 < L)) half odd = m)
    (next : wpB C I g_ref02_MulDiv.c14 (St.mk (look [(10, .ptr 10 0), (11, .ptr 11 0), (13, u13), (19, vB m)]) (looko [(10, o10), (11, o11), (63, o63)])) Q) :
    wpB C I g_ref02_MulDiv.c15 (St.mk (look [(3, vI how), (10, .ptr 10 0), (11, .ptr 11 0), (12, v12), (13, u13), (17, vB odd), (18, vI half)]) (looko [(10, o10), (11, o11), (63, o63)])) Q := by
  have hd : decide (((digs L).length : Int) > 0) = decide (0 < L) := by rw [← digs_pos_len]; exact decide_eq_decide.2 (by omega)
  rcases h12 with rfl | ⟨rfl, rfl⟩
  · obtain ⟨l, hl'⟩ : ∃ l, decide (0 < L) = l := ⟨_, rfl⟩
    rw [hl'] at hd hm
    rcases hh with rfl | rfl | rfl | rfl <;> rcases hf with rfl | rfl | rfl <;> cases odd <;> cases l <;> cases m
    all_goals first
      | exact absurd hm (by decide)
      | (repeat (first | simp only [go_sem, ↓reduceIte, Nat.reduceEqDiff, Nat.reduceAdd, Nat.reduceSub, Nat.reduceMul, Nat.reduceLeDiff, Nat.reduceBEq, reduceCtorEq, Nat.reduceEqDiff, Int.reduceEq, Int.reduceLT, Int.reduceLE, Int.reduceGT, Int.reduceGE, Int.reduceNeg, Int.reduceBEq, Int.reduceBNe, Int.reduceToNat, Int.reducePow, List.length_map, hd, decide_true, decide_false] | refine g_ref02_MulDiv_c15_sh.mpr ?_ | refine g_ref02_MulDiv_o2_sh.mpr ?_ | refine g_ref02_MulDiv_o3_sh.mpr ?_ | refine g_ref02_MulDiv_o4_sh.mpr ?_ | refine g_ref02_MulDiv_o5_sh.mpr ?_ | refine g_ref02_MulDiv_o6_sh.mpr ?_ | refine g_ref02_MulDiv_o7_sh.mpr ?_ | refine g_ref02_MulDiv_o8_sh.mpr ?_ | refine g_ref02_MulDiv_o9_sh.mpr ?_ | refine g_ref02_MulDiv_o10_sh.mpr ?_ | refine g_ref02_MulDiv_o11_sh.mpr ?_ | refine g_ref02_MulDiv_o12_sh.mpr ?_ | refine g_ref02_MulDiv_o13_sh.mpr ?_ | refine g_ref02_MulDiv_o14_sh.mpr ?_ | refine g_ref02_MulDiv_o15_sh.mpr ?_)
         exact next)
  · rw [show decide (0 < 0) = false from rfl] at hm
    have z0 : ¬ ((0 : Int) > 0) := by decide
    rcases hh with rfl | rfl | rfl | rfl <;> rcases hf with rfl | rfl | rfl <;> cases odd <;> cases m
    all_goals first
      | exact absurd hm (by decide)
      | (repeat (first | simp only [go_sem, ↓reduceIte, Nat.reduceEqDiff, Nat.reduceAdd, Nat.reduceSub, Nat.reduceMul, Nat.reduceLeDiff, Nat.reduceBEq, reduceCtorEq, Nat.reduceEqDiff, Int.reduceEq, Int.reduceLT, Int.reduceLE, Int.reduceGT, Int.reduceGE, Int.reduceNeg, Int.reduceBEq, Int.reduceBNe, Int.reduceToNat, Int.reducePow, gt_iff_lt, decide_true, decide_false] | refine g_ref02_MulDiv_c15_sh.mpr ?_ | refine g_ref02_MulDiv_o2_sh.mpr ?_ | refine g_ref02_MulDiv_o3_sh.mpr ?_ | refine g_ref02_MulDiv_o4_sh.mpr ?_ | refine g_ref02_MulDiv_o5_sh.mpr ?_ | refine g_ref02_MulDiv_o6_sh.mpr ?_ | refine g_ref02_MulDiv_o7_sh.mpr ?_ | refine g_ref02_MulDiv_o8_sh.mpr ?_ | refine g_ref02_MulDiv_o9_sh.mpr ?_ | refine g_ref02_MulDiv_o10_sh.mpr ?_ | refine g_ref02_MulDiv_o11_sh.mpr ?_ | refine g_ref02_MulDiv_o12_sh.mpr ?_ | refine g_ref02_MulDiv_o13_sh.mpr ?_ | refine g_ref02_MulDiv_o14_sh.mpr ?_ | refine g_ref02_MulDiv_o15_sh.mpr ?_)
         exact next)
/-- The digits are put together. -/
theorem md_acc {C : Ctx} {I : Nat → Prop} {Q : Ex → St → Prop} {more : Bool} {o10 o11 : Option Ob} {qs : List Nat} (hq : ∀ d ∈ qs, d < 10) (hql : qs.length < 1000) {v : Nat}
    (hT : v ≤ 9223372036854775807 → ∀ t, t 10 = .ptr 10 0 → t 11 = .ptr 11 0 → t 19 = vB more → t 20 = vI v → ∀ o, Q (.exit 4) (St.mk t (looko [(10, o10), (11, o11), (63, o)])))
    (hF : 9223372036854775807 < v → Q .ret (St.mk (look [(8, vI 0), (9, vB false)]) (looko []))) :
    ∀ (m j n : Nat), j + m = qs.length → n ≤ 9223372036854775807 → accR n (qs.drop j) = v → ∀ t, t 10 = .ptr 10 0 → t 11 = .ptr 11 0 → t 13 = ownV 63 qs → t 19 = vB more → t 20 = vI n → t 21 = vI j →
      wpB C I g_ref02_MulDiv.l2 (St.mk t (looko [(10, o10), (11, o11), (63, ownO 1 encN qs)])) Q := by
  intro m
  induction m with
  | zero =>
    intro j n hj hn hv t t10 t11 t13 t19 t20 t21
    refine g_ref02_MulDiv_l2_sh rfl ?_
    have : j = qs.length := by omega
    subst this
    rw [List.drop_length, accR] at hv
    subst hv
    cases qs with
    | nil =>
      repeat (first | simp only [go_sem, ↓reduceIte, Nat.reduceEqDiff, Nat.reduceAdd, Nat.reduceSub, Nat.reduceMul, Nat.reduceLeDiff, Nat.reduceBEq, reduceCtorEq, Nat.reduceEqDiff, Int.reduceEq, Int.reduceLT, Int.reduceLE, Int.reduceGT, Int.reduceGE, Int.reduceNeg, Int.reduceBEq, Int.reduceBNe, Int.reduceToNat, Int.reducePow, t10, t11, t13, t19, t20, t21, ownV, ownO, Int.lt_irrefl, decide_false] | fail)
      exact hT hn _ rfl rfl rfl rfl _
    | cons x l =>
      repeat (first | simp only [go_sem, ↓reduceIte, Nat.reduceEqDiff, Nat.reduceAdd, Nat.reduceSub, Nat.reduceMul, Nat.reduceLeDiff, Nat.reduceBEq, reduceCtorEq, Nat.reduceEqDiff, Int.reduceEq, Int.reduceLT, Int.reduceLE, Int.reduceGT, Int.reduceGE, Int.reduceNeg, Int.reduceBEq, Int.reduceBNe, Int.reduceToNat, Int.reducePow, t10, t11, t13, t19, t20, t21, ownV, ownO, List.length_map, Int.lt_irrefl, decide_false] | fail)
      exact hT hn _ rfl rfl rfl rfl _
  | succ m ih =>
    intro j n hj hn hv t t10 t11 t13 t19 t20 t21
    refine g_ref02_MulDiv_l2_sh rfl ?_
    have hlt : j < qs.length := by omega
    have hlt' : ((j : Int) < (qs.length : Int)) := by omega
    have he := List.getElem?_eq_getElem hlt
    have hx := hq qs[j] (List.getElem_mem hlt)
    rw [List.drop_eq_getElem_cons hlt, accR] at hv
    obtain ⟨d, hd⟩ : ∃ d, qs[j] = d := ⟨_, rfl⟩
    rw [hd] at he hx hv
    have ho : ownV 63 qs = .own 63 := by cases qs with | nil => simp at hlt | cons x l => rfl
    have hoo : ownO 1 encN qs = some (.row 1 (qs.map encN)) := by cases qs with | nil => simp at hlt | cons x l => rfl
    have ih := ih (j + 1) (10 * n + d) (by omega)
    have hge := accR_ge (qs.drop (j + 1)) (10 * n + d)
    rw [hv] at hge
    rw [ho] at t13 ih
    rw [hoo] at ih ⊢
    have z : ¬ ((10 : Int) = 0) := by decide
    have w1 : IntKind.i64.wrap (9223372036854775807 - (d : Int)) = 9223372036854775807 - (d : Int) := wrapI (by omega) (by omega)
    have w2 : IntKind.i64.wrap ((9223372036854775807 - (d : Int)).tdiv 10) = (((9223372036854775807 - d) / 10 : Nat) : Int) := by rw [Int.tdiv_eq_ediv_of_nonneg (by omega), wrapI (by omega) (by omega)]; omega
    by_cases hb : n > (9223372036854775807 - d) / 10
    · have hb' : ((n : Int) > (((9223372036854775807 - d) / 10 : Nat) : Int)) := by omega
      have hF := hF (by omega)
      repeat (first | simp only [go_sem, ↓reduceIte, Nat.reduceEqDiff, Nat.reduceAdd, Nat.reduceSub, Nat.reduceMul, Nat.reduceLeDiff, Nat.reduceBEq, reduceCtorEq, Nat.reduceEqDiff, Int.reduceEq, Int.reduceLT, Int.reduceLE, Int.reduceGT, Int.reduceGE, Int.reduceNeg, Int.reduceBEq, Int.reduceBNe, Int.reduceToNat, Int.reducePow, t10, t11, t13, t19, t20, t21, List.length_map, hlt', decide_true, Int.natCast_nonneg, Int.toNat_natCast, getMap encN he, encN, z, w1, w2, hb'] | refine g_ref02_MulDiv_c9_sh.mpr ?_)
      exact hF
    · have hb' : ¬ ((n : Int) > (((9223372036854775807 - d) / 10 : Nat) : Int)) := by omega
      have w3 : IntKind.i64.wrap (10 * (n : Int)) = 10 * (n : Int) := wrapI (by omega) (by omega)
      have w4 : IntKind.i64.wrap (10 * (n : Int) + (d : Int)) = ((10 * n + d : Nat) : Int) := by rw [wrapI (by omega) (by omega)]; omega
      have w5 : IntKind.i64.wrap ((j : Int) + 1) = ((j + 1 : Nat) : Int) := by rw [wrapI (by omega) (by omega)]; omega
      have ih := ih (by omega) hv (look [(10, .ptr 10 0), (11, .ptr 11 0), (13, .own 63), (19, vB more), (20, vI ((10 * n + d : Nat) : Int)), (21, vI ((j + 1 : Nat) : Int))]) rfl rfl rfl rfl rfl rfl
      repeat (first | simp only [go_sem, ↓reduceIte, Nat.reduceEqDiff, Nat.reduceAdd, Nat.reduceSub, Nat.reduceMul, Nat.reduceLeDiff, Nat.reduceBEq, reduceCtorEq, Nat.reduceEqDiff, Int.reduceEq, Int.reduceLT, Int.reduceLE, Int.reduceGT, Int.reduceGE, Int.reduceNeg, Int.reduceBEq, Int.reduceBNe, Int.reduceToNat, Int.reducePow, t10, t11, t13, t19, t20, t21, List.length_map, hlt', decide_true, decide_false, Int.natCast_nonneg, Int.toNat_natCast, getMap encN he, encN, z, w1, w2, hb', w3, w4, w5] | refine g_ref02_MulDiv_c9_sh.mpr ?_ | refine g_ref02_MulDiv_c7_sh.mpr ?_ | refine g_ref02_MulDiv_c8_sh.mpr ?_)
      exact ih
/-- What the document's quotient is. -/
def mdS (a b k how : Int) : Int × Bool :=
  if a.natAbs * b.natAbs / k.natAbs ≤ 9223372036854775807 ∧ rq how (a.natAbs * b.natAbs) k.natAbs ≤ 9223372036854775807 then
    (if (decide (a < 0) && decide (0 < a.natAbs * b.natAbs)) = true then -(rq how (a.natAbs * b.natAbs) k.natAbs : Int) else rq how (a.natAbs * b.natAbs) k.natAbs, true)
  else (0, false)
theorem more_up {how : Int} (hh : how = 0 ∨ how = 1 ∨ how = 2 ∨ how = 3) {N K : Nat} (hK : 0 < K) : moreB how (decide (0 < N % K)) (cmpN (N % K * 2) K) (decide (N / K % 2 = 1)) = upS how (N / K) (N % K) K := by
  have h := Nat.mod_lt N hK
  obtain ⟨l, hl⟩ : ∃ l, N % K = l := ⟨_, rfl⟩
  obtain ⟨q, hq⟩ : ∃ q, N / K = q := ⟨_, rfl⟩
  rw [hl] at h ⊢
  rw [hq]
  unfold moreB upS cmpN
  rcases hh with rfl | rfl | rfl | rfl
  · simp
  · by_cases h0 : 0 < l <;> simp [h0]
  · by_cases h1 : l * 2 < K
    · simp [h1]; omega
    · by_cases h2 : K < l * 2
      · simp [h1, h2]; omega
      · have e1 : ¬ K - l < l := by omega
        have e2 : ¬ l < K - l := by omega
        have e3 : ¬ l = 0 := by omega
        simp [h1, h2, e1, e2, e3]
  · by_cases h1 : l * 2 < K
    · simp [h1]; omega
    · by_cases h2 : K < l * 2
      · simp [h1, h2]; omega
      · have e1 : ¬ K - l < l := by omega
        have e2 : ¬ l < K - l := by omega
        have e3 : ¬ l = 0 := by omega
        simp [h1, h2, e1, e2, e3]
        rfl
end Pay
