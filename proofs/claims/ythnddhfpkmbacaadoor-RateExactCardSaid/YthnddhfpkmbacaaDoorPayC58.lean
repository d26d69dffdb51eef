/- Contracts: the document's quotient. -/
import Derived.Test.YthnddhfpkmbacaaDoorPayC57
set_option linter.unusedSimpArgs false
set_option linter.unusedVariables false
namespace Pay
open Go
attribute [local irreducible] wpB opsB treeB drawB
theorem md_c13 {C : Ctx} {I : Nat → Prop} {Q : Ex → St → Prop} {more pm : Bool} {P K : V} {v r : Nat} {o10 o11 : Option Ob} (h10 : o10 = some (.box [vB pm, P])) (h11 : o11 = some (.box [vB false, K])) (hv : v ≤ 9223372036854775807) (hr : r = v + (if more = true then 1 else 0))
    (hT : r ≤ 9223372036854775807 → Q .ret (St.mk (look [(8, vI (if pm = true then -(r : Int) else r)), (9, vB true)]) (looko [])))
    (hF : 9223372036854775807 < r → Q .ret (St.mk (look [(8, vI 0), (9, vB false)]) (looko []))) :
    wpB C I g_ref02_MulDiv.c13 (St.mk (look [(10, .ptr 10 0), (11, .ptr 11 0), (19, vB more), (20, vI v)]) (looko [(10, o10), (11, o11)])) Q := by
  subst h10 h11
  cases more with
  | false =>
    have e : r = v := by simpa using hr
    subst e
    have hT := hT hv
    have w : IntKind.i64.wrap (-(r : Int)) = -(r : Int) := wrapI (by omega) (by omega)
    have w0 : IntKind.i64.wrap (0 - (r : Int)) = -(r : Int) := by rw [wrapI (by omega) (by omega)]; omega
    cases pm with
    | false =>
      repeat (first | simp only [go_sem, ↓reduceIte, Nat.reduceEqDiff, Nat.reduceAdd, Nat.reduceSub, Nat.reduceMul, Nat.reduceLeDiff, Nat.reduceBEq, reduceCtorEq, Nat.reduceEqDiff, Int.reduceEq, Int.reduceLT, Int.reduceLE, Int.reduceGT, Int.reduceGE, Int.reduceNeg, Int.reduceBEq, Int.reduceBNe, Int.reduceToNat, Int.reducePow] | refine g_ref02_MulDiv_c13_sh.mpr ?_ | refine g_ref02_MulDiv_c12_sh.mpr ?_ | refine g_ref02_MulDiv_c11_sh.mpr ?_)
      exact hT
    | true =>
      repeat (first | simp only [go_sem, ↓reduceIte, Nat.reduceEqDiff, Nat.reduceAdd, Nat.reduceSub, Nat.reduceMul, Nat.reduceLeDiff, Nat.reduceBEq, reduceCtorEq, Nat.reduceEqDiff, Int.reduceEq, Int.reduceLT, Int.reduceLE, Int.reduceGT, Int.reduceGE, Int.reduceNeg, Int.reduceBEq, Int.reduceBNe, Int.reduceToNat, Int.reducePow, w, w0] | refine g_ref02_MulDiv_c13_sh.mpr ?_ | refine g_ref02_MulDiv_c12_sh.mpr ?_ | refine g_ref02_MulDiv_c11_sh.mpr ?_)
      exact hT
  | true =>
    have e : r = v + 1 := by simpa using hr
    by_cases hm : v = 9223372036854775807
    · have hm' : (((v : Nat) : Int) == 9223372036854775807) = true := by rw [beq_iff_eq]; omega
      have hF := hF (by omega)
      repeat (first | simp only [go_sem, ↓reduceIte, Nat.reduceEqDiff, Nat.reduceAdd, Nat.reduceSub, Nat.reduceMul, Nat.reduceLeDiff, Nat.reduceBEq, reduceCtorEq, Nat.reduceEqDiff, Int.reduceEq, Int.reduceLT, Int.reduceLE, Int.reduceGT, Int.reduceGE, Int.reduceNeg, Int.reduceBEq, Int.reduceBNe, Int.reduceToNat, Int.reducePow, hm'] | refine g_ref02_MulDiv_c13_sh.mpr ?_)
      exact hF
    · have hm' : (((v : Nat) : Int) == 9223372036854775807) = false := by rw [beq_eq_false_iff_ne]; omega
      have hT := hT (by omega)
      have w1 : IntKind.i64.wrap ((v : Int) + 1) = (r : Int) := by rw [wrapI (by omega) (by omega)]; omega
      have w : IntKind.i64.wrap (-(r : Int)) = -(r : Int) := wrapI (by omega) (by omega)
      have w0 : IntKind.i64.wrap (0 - (r : Int)) = -(r : Int) := by rw [wrapI (by omega) (by omega)]; omega
      cases pm with
      | false =>
        repeat (first | simp only [go_sem, ↓reduceIte, Nat.reduceEqDiff, Nat.reduceAdd, Nat.reduceSub, Nat.reduceMul, Nat.reduceLeDiff, Nat.reduceBEq, reduceCtorEq, Nat.reduceEqDiff, Int.reduceEq, Int.reduceLT, Int.reduceLE, Int.reduceGT, Int.reduceGE, Int.reduceNeg, Int.reduceBEq, Int.reduceBNe, Int.reduceToNat, Int.reducePow, hm', w1] | refine g_ref02_MulDiv_c13_sh.mpr ?_ | refine g_ref02_MulDiv_c12_sh.mpr ?_ | refine g_ref02_MulDiv_c11_sh.mpr ?_ | refine g_ref02_MulDiv_c10_sh.mpr ?_)
        exact hT
      | true =>
        repeat (first | simp only [go_sem, ↓reduceIte, Nat.reduceEqDiff, Nat.reduceAdd, Nat.reduceSub, Nat.reduceMul, Nat.reduceLeDiff, Nat.reduceBEq, reduceCtorEq, Nat.reduceEqDiff, Int.reduceEq, Int.reduceLT, Int.reduceLE, Int.reduceGT, Int.reduceGE, Int.reduceNeg, Int.reduceBEq, Int.reduceBNe, Int.reduceToNat, Int.reducePow, hm', w1, w, w0] | refine g_ref02_MulDiv_c13_sh.mpr ?_ | refine g_ref02_MulDiv_c12_sh.mpr ?_ | refine g_ref02_MulDiv_c11_sh.mpr ?_ | refine g_ref02_MulDiv_c10_sh.mpr ?_)
        exact hT
theorem acc_odd : ∀ (qs : List Nat) (x : Nat), accR 0 (qs ++ [x]) % 2 = x % 2 := by
  intro qs x
  rw [accR_snoc]; omega
theorem md_odd {C : Ctx} {I : Nat → Prop} {Q : Ex → St → Prop} {how : Int} {odd : Bool} {L : V} {o10 o11 : Option Ob} {qs : List Nat} (hql : qs.length < 1000) (ho : odd = decide (accR 0 qs % 2 = 1))
    (next : wpB C I g_ref02_MulDiv.c16 (St.mk (look [(3, vI how), (10, .ptr 10 0), (11, .ptr 11 0), (12, L), (13, ownV 63 qs), (17, vB odd)]) (looko [(10, o10), (11, o11), (63, ownO 1 encN qs)])) Q) :
    wpB C I g_ref02_MulDiv.c17 (St.mk (look [(3, vI how), (10, .ptr 10 0), (11, .ptr 11 0), (12, L), (13, ownV 63 qs)]) (looko [(10, o10), (11, o11), (63, ownO 1 encN qs)])) Q := by
  rcases snoc_cases qs with rfl | ⟨l, x, rfl⟩
  · have : odd = false := by rw [ho]; rfl
    subst this
    repeat (first | simp only [go_sem, ↓reduceIte, Nat.reduceEqDiff, Nat.reduceAdd, Nat.reduceSub, Nat.reduceMul, Nat.reduceLeDiff, Nat.reduceBEq, reduceCtorEq, Nat.reduceEqDiff, Int.reduceEq, Int.reduceLT, Int.reduceLE, Int.reduceGT, Int.reduceGE, Int.reduceNeg, Int.reduceBEq, Int.reduceBNe, Int.reduceToNat, Int.reducePow, ownV, ownO] | refine g_ref02_MulDiv_c17_sh.mpr ?_ | refine g_ref02_MulDiv_o0_sh.mpr ?_ | refine g_ref02_MulDiv_o1_sh.mpr ?_)
    exact next
  · rw [acc_odd] at ho
    have hv : ownV 63 (l ++ [x]) = .own 63 := by cases l <;> rfl
    have hoo : ownO 1 encN (l ++ [x]) = some (.row 1 ((l ++ [x]).map encN)) := by cases l <;> rfl
    obtain ⟨r, hr⟩ : ∃ r, l ++ [x] = r := ⟨_, rfl⟩
    have hrl : r.length = l.length + 1 := by rw [← hr]; simp
    have he : r[l.length]? = some x := by rw [← hr, List.getElem?_append_right (Nat.le_refl _), Nat.sub_self]; rfl
    rw [hr] at hql hv hoo next ⊢
    rw [hv, hoo] at next ⊢
    have w1 : IntKind.i64.wrap ((r.length : Int) - 1) = (l.length : Int) := by rw [wrapI (by omega) (by omega)]; omega
    have hgt : ((r.length : Int) > 0) := by omega
    have hlt : ((l.length : Int) < (r.length : Int)) := by omega
    have z : ¬ ((2 : Int) = 0) := by decide
    have d2 : (x : Int).tmod 2 = ((x % 2 : Nat) : Int) := by rw [Int.tmod_eq_emod_of_nonneg (by omega)]; rfl
    have e : (((x % 2 : Nat) : Int) == 1) = odd := by
      rw [ho, Bool.eq_iff_iff, beq_iff_eq, decide_eq_true_eq]; omega
    repeat (first | simp only [go_sem, ↓reduceIte, Nat.reduceEqDiff, Nat.reduceAdd, Nat.reduceSub, Nat.reduceMul, Nat.reduceLeDiff, Nat.reduceBEq, reduceCtorEq, Nat.reduceEqDiff, Int.reduceEq, Int.reduceLT, Int.reduceLE, Int.reduceGT, Int.reduceGE, Int.reduceNeg, Int.reduceBEq, Int.reduceBNe, Int.reduceToNat, Int.reducePow, List.length_map, hgt, decide_true, w1, hlt, Int.natCast_nonneg, Int.toNat_natCast, getMap encN he, encN, z, d2, e] | refine g_ref02_MulDiv_c17_sh.mpr ?_ | refine g_ref02_MulDiv_o0_sh.mpr ?_ | refine g_ref02_MulDiv_o1_sh.mpr ?_)
    exact next
theorem md_half {C : Ctx} (W : BigK C) (hD : ∀ a : Nat, (digs a).length < 1000 → SoundAt C 121 ⟨[vDig (digs a)], looko []⟩ ⟨vDig (digs (a * 2)), looko []⟩) {I : Nat → Prop} {Q : Ex → St → Prop} {how : Int} {odd pm : Bool} {P L : V} {l K : Nat} {o10 o11 : Option Ob} {qs : List Nat}
    (h10 : o10 = some (.box [vB pm, P])) (h11 : o11 = some (.box [vB false, vDig (digs K)])) (hL : L = vDig (digs l) ∨ L = .cap0 ∧ l = 0) (hl : l < 10 ^ 30) (hK : K < 10 ^ 30)
    (next : wpB C I g_ref02_MulDiv.c15 (St.mk (look [(3, vI how), (10, .ptr 10 0), (11, .ptr 11 0), (12, L), (13, ownV 63 qs), (17, vB odd), (18, vI (cmpN (l * 2) K))]) (looko [(10, o10), (11, o11), (63, ownO 1 encN qs)])) Q) :
    wpB C I g_ref02_MulDiv.c16 (St.mk (look [(3, vI how), (10, .ptr 10 0), (11, .ptr 11 0), (12, L), (13, ownV 63 qs), (17, vB odd)]) (looko [(10, o10), (11, o11), (63, ownO 1 encN qs)])) Q := by
  have h1 := hD l (len40 (by omega))
  have h2 := W.size (l * 2) K (len40 (by omega)) (len40 (by omega))
  subst h10 h11
  rcases hL with rfl | ⟨rfl, rfl⟩
  · cases qs with
    | nil =>
      repeat (first | simp only [go_sem, ↓reduceIte, Nat.reduceEqDiff, Nat.reduceAdd, Nat.reduceSub, Nat.reduceMul, Nat.reduceLeDiff, Nat.reduceBEq, reduceCtorEq, Nat.reduceEqDiff, Int.reduceEq, Int.reduceLT, Int.reduceLE, Int.reduceGT, Int.reduceGE, Int.reduceNeg, Int.reduceBEq, Int.reduceBNe, Int.reduceToNat, Int.reducePow, ↓demand_if, List.length_append, ownV, ownO] | refine And.intro (by omega) ?_ | refine g_ref02_MulDiv_c16_sh.mpr ?_ | refine callK_plain (h1) (fun _ => rfl) ?_ | refine callK_plain (h2) (fun _ => rfl) ?_)
      refine ⟨_, h1, fun _ => rfl, ?_⟩
      repeat (first | simp only [go_sem, ↓reduceIte, Nat.reduceEqDiff, Nat.reduceAdd, Nat.reduceSub, Nat.reduceMul, Nat.reduceLeDiff, Nat.reduceBEq, reduceCtorEq, Nat.reduceEqDiff, Int.reduceEq, Int.reduceLT, Int.reduceLE, Int.reduceGT, Int.reduceGE, Int.reduceNeg, Int.reduceBEq, Int.reduceBNe, Int.reduceToNat, Int.reducePow, ownV, ownO] | fail)
      refine ⟨_, h2, fun _ => rfl, ?_⟩
      repeat (first | simp only [go_sem, ↓reduceIte, Nat.reduceEqDiff, Nat.reduceAdd, Nat.reduceSub, Nat.reduceMul, Nat.reduceLeDiff, Nat.reduceBEq, reduceCtorEq, Nat.reduceEqDiff, Int.reduceEq, Int.reduceLT, Int.reduceLE, Int.reduceGT, Int.reduceGE, Int.reduceNeg, Int.reduceBEq, Int.reduceBNe, Int.reduceToNat, Int.reducePow, ownV, ownO] | fail)
      exact next
    | cons x q =>
      repeat (first | simp only [go_sem, ↓reduceIte, Nat.reduceEqDiff, Nat.reduceAdd, Nat.reduceSub, Nat.reduceMul, Nat.reduceLeDiff, Nat.reduceBEq, reduceCtorEq, Nat.reduceEqDiff, Int.reduceEq, Int.reduceLT, Int.reduceLE, Int.reduceGT, Int.reduceGE, Int.reduceNeg, Int.reduceBEq, Int.reduceBNe, Int.reduceToNat, Int.reducePow, ↓demand_if, List.length_append, ownV, ownO] | refine And.intro (by omega) ?_ | refine g_ref02_MulDiv_c16_sh.mpr ?_ | refine callK_plain (h1) (fun _ => rfl) ?_ | refine callK_plain (h2) (fun _ => rfl) ?_)
      refine ⟨_, h1, fun _ => rfl, ?_⟩
      repeat (first | simp only [go_sem, ↓reduceIte, Nat.reduceEqDiff, Nat.reduceAdd, Nat.reduceSub, Nat.reduceMul, Nat.reduceLeDiff, Nat.reduceBEq, reduceCtorEq, Nat.reduceEqDiff, Int.reduceEq, Int.reduceLT, Int.reduceLE, Int.reduceGT, Int.reduceGE, Int.reduceNeg, Int.reduceBEq, Int.reduceBNe, Int.reduceToNat, Int.reducePow, ownV, ownO] | fail)
      refine ⟨_, h2, fun _ => rfl, ?_⟩
      repeat (first | simp only [go_sem, ↓reduceIte, Nat.reduceEqDiff, Nat.reduceAdd, Nat.reduceSub, Nat.reduceMul, Nat.reduceLeDiff, Nat.reduceBEq, reduceCtorEq, Nat.reduceEqDiff, Int.reduceEq, Int.reduceLT, Int.reduceLE, Int.reduceGT, Int.reduceGE, Int.reduceNeg, Int.reduceBEq, Int.reduceBNe, Int.reduceToNat, Int.reducePow, ownV, ownO] | fail)
      exact next
  · have h1 : SoundAt C 121 ⟨[.cap0], looko []⟩ ⟨vDig (digs (0 * 2)), looko []⟩ := SoundAt.up_of h1 (by rw [digs_0]; rfl)
    cases qs with
    | nil =>
      repeat (first | simp only [go_sem, ↓reduceIte, Nat.reduceEqDiff, Nat.reduceAdd, Nat.reduceSub, Nat.reduceMul, Nat.reduceLeDiff, Nat.reduceBEq, reduceCtorEq, Nat.reduceEqDiff, Int.reduceEq, Int.reduceLT, Int.reduceLE, Int.reduceGT, Int.reduceGE, Int.reduceNeg, Int.reduceBEq, Int.reduceBNe, Int.reduceToNat, Int.reducePow, ↓demand_if, List.length_append, ownV, ownO] | refine And.intro (by omega) ?_ | refine g_ref02_MulDiv_c16_sh.mpr ?_ | refine callK_plain (h1) (fun _ => rfl) ?_ | refine callK_plain (h2) (fun _ => rfl) ?_)
      refine ⟨_, h1, fun _ => rfl, ?_⟩
      repeat (first | simp only [go_sem, ↓reduceIte, Nat.reduceEqDiff, Nat.reduceAdd, Nat.reduceSub, Nat.reduceMul, Nat.reduceLeDiff, Nat.reduceBEq, reduceCtorEq, Nat.reduceEqDiff, Int.reduceEq, Int.reduceLT, Int.reduceLE, Int.reduceGT, Int.reduceGE, Int.reduceNeg, Int.reduceBEq, Int.reduceBNe, Int.reduceToNat, Int.reducePow, ownV, ownO] | fail)
      refine ⟨_, h2, fun _ => rfl, ?_⟩
      repeat (first | simp only [go_sem, ↓reduceIte, Nat.reduceEqDiff, Nat.reduceAdd, Nat.reduceSub, Nat.reduceMul, Nat.reduceLeDiff, Nat.reduceBEq, reduceCtorEq, Nat.reduceEqDiff, Int.reduceEq, Int.reduceLT, Int.reduceLE, Int.reduceGT, Int.reduceGE, Int.reduceNeg, Int.reduceBEq, Int.reduceBNe, Int.reduceToNat, Int.reducePow, ownV, ownO] | fail)
      exact next
    | cons x q =>
      repeat (first | simp only [go_sem, ↓reduceIte, Nat.reduceEqDiff, Nat.reduceAdd, Nat.reduceSub, Nat.reduceMul, Nat.reduceLeDiff, Nat.reduceBEq, reduceCtorEq, Nat.reduceEqDiff, Int.reduceEq, Int.reduceLT, Int.reduceLE, Int.reduceGT, Int.reduceGE, Int.reduceNeg, Int.reduceBEq, Int.reduceBNe, Int.reduceToNat, Int.reducePow, ↓demand_if, List.length_append, ownV, ownO] | refine And.intro (by omega) ?_ | refine g_ref02_MulDiv_c16_sh.mpr ?_ | refine callK_plain (h1) (fun _ => rfl) ?_ | refine callK_plain (h2) (fun _ => rfl) ?_)
      refine ⟨_, h1, fun _ => rfl, ?_⟩
      repeat (first | simp only [go_sem, ↓reduceIte, Nat.reduceEqDiff, Nat.reduceAdd, Nat.reduceSub, Nat.reduceMul, Nat.reduceLeDiff, Nat.reduceBEq, reduceCtorEq, Nat.reduceEqDiff, Int.reduceEq, Int.reduceLT, Int.reduceLE, Int.reduceGT, Int.reduceGE, Int.reduceNeg, Int.reduceBEq, Int.reduceBNe, Int.reduceToNat, Int.reducePow, ownV, ownO] | fail)
      refine ⟨_, h2, fun _ => rfl, ?_⟩
      repeat (first | simp only [go_sem, ↓reduceIte, Nat.reduceEqDiff, Nat.reduceAdd, Nat.reduceSub, Nat.reduceMul, Nat.reduceLeDiff, Nat.reduceBEq, reduceCtorEq, Nat.reduceEqDiff, Int.reduceEq, Int.reduceLT, Int.reduceLE, Int.reduceGT, Int.reduceGE, Int.reduceNeg, Int.reduceBEq, Int.reduceBNe, Int.reduceToNat, Int.reducePow, ownV, ownO] | fail)
      exact next
theorem refMulDiv {C : Ctx} (h : okFn C.P C.φ 100 g_ref02_MulDiv = true) (W : BigK C) (hD : ∀ a : Nat, (digs a).length < 1000 → SoundAt C 121 ⟨[vDig (digs a)], looko []⟩ ⟨vDig (digs (a * 2)), looko []⟩) (a b k how : Int) (ha : i64 a) (hb : i64 b) (hk : i64 k) (hb0 : 0 ≤ b) (hk0 : 1 ≤ k) (hh : how = 0 ∨ how = 1 ∨ how = 2 ∨ how = 3) :
    SoundAt C 100 ⟨[vI a, vI b, vI k, vI how], looko []⟩ ⟨.tup [vI (mdS a b k how).1, vB (mdS a b k how).2], looko []⟩ := by
  obtain ⟨N, hN⟩ : ∃ N, a.natAbs * b.natAbs = N := ⟨_, rfl⟩
  obtain ⟨K, hK⟩ : ∃ K, k.natAbs = K := ⟨_, rfl⟩
  unfold i64 at ha hb hk
  have hKp : 0 < K := by omega
  have hK30 : K < 10 ^ 30 := by omega
  have hN40 : N < 10 ^ 40 := by
    rw [← hN]
    have := Nat.mul_le_mul (show a.natAbs ≤ 9223372036854775808 by omega) (show b.natAbs ≤ 9223372036854775808 by omega)
    omega
  have c1 := W.of a (by unfold i64; omega)
  have c2 := W.of b (by unfold i64; omega)
  have c3 := W.of k (by unfold i64; omega)
  have fb : decide (b < 0) = false := decide_eq_false (by omega)
  have fk : decide (k < 0) = false := decide_eq_false (by omega)
  rw [fb] at c2
  rw [fk, hK] at c3
  have c4 := W.mul (decide (a < 0)) false a.natAbs b.natAbs (len40 (by omega)) (len40 (by omega))
  rw [hN, Bool.bne_false] at c4
  have em : mdS a b k how = if N / K ≤ 9223372036854775807 ∧ rq how N K ≤ 9223372036854775807 then (if (decide (a < 0) && decide (0 < N)) = true then -(rq how N K : Int) else rq how N K, true) else (0, false) := by rw [mdS, hN, hK]
  obtain ⟨pm, hpm⟩ : ∃ pm, (decide (a < 0) && decide (0 < N)) = pm := ⟨_, rfl⟩
  rw [hpm] at em
  have hc4 : SoundAt C 117 ⟨[vBig (decide (a < 0)) (digs a.natAbs), vBig false (digs b.natAbs)], looko []⟩ ⟨vBig pm (digs N), looko []⟩ := by rw [← hpm]; exact c4
  have hdl : (digs N).length < 100 := by have := digs_len 40 N hN40; omega
  have w1 : IntKind.i64.wrap (((digs N).length : Int) - 1) = ((digs N).length : Int) - 1 := wrapI (by omega) (by omega)
  refine SoundAt.of_run h rfl (fun Q hR hN => ?_)
  rw [entry4]
  repeat (first | simp only [go_sem, ↓reduceIte, Nat.reduceEqDiff, Nat.reduceAdd, Nat.reduceSub, Nat.reduceMul, Nat.reduceLeDiff, Nat.reduceBEq, reduceCtorEq, Nat.reduceEqDiff, Int.reduceEq, Int.reduceLT, Int.reduceLE, Int.reduceGT, Int.reduceGE, Int.reduceNeg, Int.reduceBEq, Int.reduceBNe, Int.reduceToNat, Int.reducePow, ↓demand_if, List.length_append, no_I, List.length_map, w1] | refine And.intro (by omega) ?_ | refine g_ref02_MulDiv_code_sh.mpr ?_ | refine g_ref02_MulDiv_c18_sh.mpr ?_ | refine g_ref02_MulDiv_c6_sh.mpr ?_ | refine callK_plain (c1) (fun _ => rfl) ?_ | refine callK_plain (c2) (fun _ => rfl) ?_ | refine callK_plain (c3) (fun _ => rfl) ?_ | refine callK_plain (hc4) (fun _ => rfl) ?_)
  refine md_out W (fun _ h => h) (pm := pm) (P := digs N) (K := K) (how := how) (digs_lt N) hdl hKp hK30 _ _ rfl rfl (fun qs hq hql hqv t t3 t10 t11 t12 t13 => ?_) (digs N).length (Nat.le_refl _) [] (by simp) (by simp) (by rw [List.drop_length, valL, Nat.zero_div]; rfl) _ rfl rfl rfl (.inr ⟨rfl, by rw [List.drop_length, valL, Nat.zero_mod]⟩) rfl rfl
  rw [val_digs] at hqv t12
  repeat (first | simp only [go_sem, ↓reduceIte, Nat.reduceEqDiff, Nat.reduceAdd, Nat.reduceSub, Nat.reduceMul, Nat.reduceLeDiff, Nat.reduceBEq, reduceCtorEq, Nat.reduceEqDiff, Int.reduceEq, Int.reduceLT, Int.reduceLE, Int.reduceGT, Int.reduceGE, Int.reduceNeg, Int.reduceBEq, Int.reduceBNe, Int.reduceToNat, Int.reducePow, t3, t10, t11, t13] | fail)
  refine md_odd (by omega) rfl ?_
  refine md_half W hD rfl rfl t12 (by have := Nat.mod_lt N hKp; omega) hK30 ?_
  refine md_more (m := upS how (N / K) (N % K) K) hh (by unfold cmpN; split; exact .inl rfl; split; exact .inr (.inr rfl); exact .inr (.inl rfl)) t12 (by rw [hqv]; exact more_up hh hKp) ?_
  repeat (first | simp only [go_sem, ↓reduceIte, Nat.reduceEqDiff, Nat.reduceAdd, Nat.reduceSub, Nat.reduceMul, Nat.reduceLeDiff, Nat.reduceBEq, reduceCtorEq, Nat.reduceEqDiff, Int.reduceEq, Int.reduceLT, Int.reduceLE, Int.reduceGT, Int.reduceGE, Int.reduceNeg, Int.reduceBEq, Int.reduceBNe, Int.reduceToNat, Int.reducePow] | refine g_ref02_MulDiv_c14_sh.mpr ?_)
  refine md_acc hq (by omega) (v := N / K) (fun hv t t10 t11 t19 t20 o => ?_) (fun hv => ?_) qs.length 0 0 (by omega) (by omega) hqv _ rfl rfl rfl rfl rfl rfl
  · repeat (first | simp only [go_sem, ↓reduceIte, Nat.reduceEqDiff, Nat.reduceAdd, Nat.reduceSub, Nat.reduceMul, Nat.reduceLeDiff, Nat.reduceBEq, reduceCtorEq, Nat.reduceEqDiff, Int.reduceEq, Int.reduceLT, Int.reduceLE, Int.reduceGT, Int.reduceGE, Int.reduceNeg, Int.reduceBEq, Int.reduceBNe, Int.reduceToNat, Int.reducePow, t10, t11, t19, t20] | fail)
    refine md_c13 (r := rq how N K) rfl rfl hv rfl (fun hr => ?_) (fun hr => ?_)
    · rw [if_pos ⟨hv, hr⟩] at em
      refine hR _ ?_
      simp only [go_sem, ↓reduceIte, Nat.reduceEqDiff, Nat.reduceAdd, Nat.reduceSub, Nat.reduceMul, Nat.reduceLeDiff, Nat.reduceBEq, reduceCtorEq, Nat.reduceEqDiff, Int.reduceEq, Int.reduceLT, Int.reduceLE, Int.reduceGT, Int.reduceGE, Int.reduceNeg, Int.reduceBEq, Int.reduceBNe, Int.reduceToNat, Int.reducePow, em]
    · rw [if_neg (by omega)] at em
      refine hR _ ?_
      simp only [go_sem, ↓reduceIte, Nat.reduceEqDiff, Nat.reduceAdd, Nat.reduceSub, Nat.reduceMul, Nat.reduceLeDiff, Nat.reduceBEq, reduceCtorEq, Nat.reduceEqDiff, Int.reduceEq, Int.reduceLT, Int.reduceLE, Int.reduceGT, Int.reduceGE, Int.reduceNeg, Int.reduceBEq, Int.reduceBNe, Int.reduceToNat, Int.reducePow, em]
  · rw [if_neg (by omega)] at em
    repeat (first | simp only [go_sem, ↓reduceIte, Nat.reduceEqDiff, Nat.reduceAdd, Nat.reduceSub, Nat.reduceMul, Nat.reduceLeDiff, Nat.reduceBEq, reduceCtorEq, Nat.reduceEqDiff, Int.reduceEq, Int.reduceLT, Int.reduceLE, Int.reduceGT, Int.reduceGE, Int.reduceNeg, Int.reduceBEq, Int.reduceBNe, Int.reduceToNat, Int.reducePow] | fail)
    refine hR _ ?_
    simp only [go_sem, ↓reduceIte, Nat.reduceEqDiff, Nat.reduceAdd, Nat.reduceSub, Nat.reduceMul, Nat.reduceLeDiff, Nat.reduceBEq, reduceCtorEq, Nat.reduceEqDiff, Int.reduceEq, Int.reduceLT, Int.reduceLE, Int.reduceGT, Int.reduceGE, Int.reduceNeg, Int.reduceBEq, Int.reduceBNe, Int.reduceToNat, Int.reducePow, em]
end Pay
