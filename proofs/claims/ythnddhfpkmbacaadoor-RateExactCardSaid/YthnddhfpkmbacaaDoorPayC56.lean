/- Contracts: the document's long numbers, multiplied. -/
import Derived.Test.YthnddhfpkmbacaaDoorPayC55
import Derived.Test.YthnddhfpkmbacaaDoorPaySh0
set_option linter.unusedSimpArgs false
set_option linter.unusedVariables false
namespace Pay
open Go
attribute [local irreducible] wpB opsB treeB drawB
theorem val_app : ∀ (l r : List Nat), valL (l ++ r) = valL l + 10 ^ l.length * valL r
  | [], r => by simp [valL]
  | x :: l, r => by
    simp only [List.cons_append, valL, val_app l r, List.length_cons, Nat.pow_succ]
    rw [Nat.mul_add, ← Nat.mul_assoc, Nat.mul_comm 10 (10 ^ l.length)]
    omega
theorem set_split {r : List Nat} {k x : Nat} (h : r[k]? = some x) (y : Nat) : ∃ p q, r = p ++ x :: q ∧ p.length = k ∧ r.set k y = p ++ y :: q := by
  obtain ⟨hk, hx⟩ := List.getElem?_eq_some_iff.1 h
  refine ⟨r.take k, r.drop (k + 1), ?_, ?_, ?_⟩
  · rw [← hx, ← List.drop_eq_getElem_cons hk, List.take_append_drop]
  · rw [List.length_take]; omega
  · rw [List.set_eq_take_append_cons_drop, if_pos hk]
theorem val_set {r : List Nat} {k x : Nat} (h : r[k]? = some x) (d : Nat) : valL (r.set k (x + d)) = valL r + 10 ^ k * d := by
  obtain ⟨p, q, h1, h2, h3⟩ := set_split h (x + d)
  rw [h3]
  rw [h1, val_app, val_app, h2]
  simp only [valL, Nat.mul_add]
  omega
theorem mem_set {r : List Nat} {k x : Nat} (h : r[k]? = some x) (y : Nat) {z : Nat} (hz : z ∈ r.set k y) : z = y ∨ z ∈ r := by
  rcases List.mem_or_eq_of_mem_set hz with h | h
  · exact .inr h
  · exact .inl h
theorem setMap {α β : Type} (f : α → β) (l : List α) (k : Nat) (a : α) : (l.map f).set k (f a) = (l.set k a).map f := by rw [List.map_set]
theorem encN_set (l : List Nat) (k a : Nat) : (l.map encN).set k [.int .i64 (a : Int)] = (l.set k a).map encN := setMap encN l k a
theorem mul_step (x y W P v : Nat) : v + P * (x * y) + x * W * (P * 10) = v + x * (y + 10 * W) * P := by
  rw [Nat.mul_add, Nat.add_mul, ← Nat.add_assoc, Nat.mul_comm P]
  congr 1
  ac_rfl
/-- The inner loop: one digit by all digits. -/
theorem mul_in {C : Ctx} {I : Nat → Prop} {Q : Ex → St → Prop} {a b : List Nat} {i x : Nat} {ma mb : Bool} (c2 c3 c4 : Ob)
    (h4 : c4 = .box [vB false, .cap0]) (h2 : c2 = .box [vB ma, vDig a]) (h3 : c3 = .box [vB mb, vDig b]) (ha : a[i]? = some x) (hx : x < 10) (hb : ∀ d ∈ b, d < 10) (hal : a.length < 1000) (hbl : b.length < 1000) {B v : Nat} (hB : B ≤ 100000000)
    (hT : ∀ r, r.length = a.length + b.length + 1 → valL r = v → (∀ z ∈ r, z ≤ B + 81 * b.length) → ∀ t, t 2 = .ptr 2 0 → t 3 = .ptr 3 0 → t 4 = .ptr 4 0 → t 5 = .own 17 → t 6 = vI i →
      Q (.exit 2) (St.mk t (looko [(2, some c2), (3, some c3), (4, some c4), (17, some (.row 1 (r.map encN)))]))) :
    ∀ (m j : Nat) (r : List Nat), j + m = b.length → r.length = a.length + b.length + 1 → valL r + x * valL (b.drop j) * 10 ^ (i + j) = v → (∀ z ∈ r, z ≤ B + 81 * j) →
      ∀ t, t 2 = .ptr 2 0 → t 3 = .ptr 3 0 → t 4 = .ptr 4 0 → t 5 = .own 17 → t 6 = vI i → t 7 = vI j →
        wpB C I g_ref02_Mul.l1 (St.mk t (looko [(2, some c2), (3, some c3), (4, some c4), (17, some (.row 1 (r.map encN)))])) Q := by
  obtain ⟨hil, _⟩ := List.getElem?_eq_some_iff.1 ha
  intro m
  induction m with
  | zero =>
    intro j r hj hr hv hz t t2 t3 t4 t5 t6 t7
    refine g_ref02_Mul_l1_sh rfl ?_
    have : j = b.length := by omega
    subst this
    rw [List.drop_length, valL, Nat.mul_zero, Nat.zero_mul, Nat.add_zero] at hv
    have hT := hT r hr hv hz
    subst h2 h3 h4
    repeat (first | simp only [go_sem, ↓reduceIte, Nat.reduceEqDiff, Nat.reduceAdd, Nat.reduceSub, Nat.reduceMul, Nat.reduceLeDiff, Nat.reduceBEq, reduceCtorEq, Nat.reduceEqDiff, Int.reduceEq, Int.reduceLT, Int.reduceLE, Int.reduceNeg, Int.reduceBEq, Int.reduceBNe, Int.reduceToNat, Int.reducePow, t2, t3, t4, t5, t6, t7, List.length_map, Int.lt_irrefl, decide_false] | refine g_ref02_Mul_c0_sh.mpr ?_ | refine g_ref02_Mul_c1_sh.mpr ?_ | refine g_ref02_Mul_c2_sh.mpr ?_ | refine g_ref02_Mul_c3_sh.mpr ?_ | refine g_ref02_Mul_t3_sh.mpr ?_ | refine g_ref02_Mul_t4_sh.mpr ?_ | refine g_ref02_Mul_t5_sh.mpr ?_ | refine g_ref02_Mul_t6_sh.mpr ?_ | refine g_ref02_Mul_t7_sh.mpr ?_ | refine g_ref02_Mul_t8_sh.mpr ?_ | refine g_ref02_Mul_t9_sh.mpr ?_ | refine g_ref02_Mul_t10_sh.mpr ?_ | refine g_ref02_Mul_t11_sh.mpr ?_ | refine g_ref02_Mul_t12_sh.mpr ?_ | refine g_ref02_Mul_t13_sh.mpr ?_ | refine g_ref02_Mul_t14_sh.mpr ?_ | refine g_ref02_Mul_t15_sh.mpr ?_ | refine g_ref02_Mul_t16_sh.mpr ?_ | refine g_ref02_Mul_t17_sh.mpr ?_ | refine g_ref02_Mul_t18_sh.mpr ?_ | refine g_ref02_Mul_t19_sh.mpr ?_ | refine g_ref02_Mul_t20_sh.mpr ?_ | refine g_ref02_Mul_t21_sh.mpr ?_ | refine g_ref02_Mul_t22_sh.mpr ?_ | refine g_ref02_Mul_t23_sh.mpr ?_ | refine g_ref02_Mul_t24_sh.mpr ?_ | refine g_ref02_Mul_t25_sh.mpr ?_ | refine g_ref02_Mul_t26_sh.mpr ?_ | refine g_ref02_Mul_t27_sh.mpr ?_ | refine g_ref02_Mul_t28_sh.mpr ?_ | refine g_ref02_Mul_t29_sh.mpr ?_ | refine g_ref02_Mul_t30_sh.mpr ?_ | refine g_ref02_Mul_t31_sh.mpr ?_ | refine g_ref02_Mul_t32_sh.mpr ?_ | refine g_ref02_Mul_t33_sh.mpr ?_ | refine g_ref02_Mul_t34_sh.mpr ?_ | refine g_ref02_Mul_t35_sh.mpr ?_ | refine g_ref02_Mul_t36_sh.mpr ?_ | refine g_ref02_Mul_i2_sh.mpr ?_ | refine g_ref02_Mul_i1_sh.mpr ?_ | refine g_ref02_Mul_c4_sh.mpr ?_ | refine g_ref02_Mul_c5_sh.mpr ?_ | refine g_ref02_Mul_c6_sh.mpr ?_ | refine g_ref02_Mul_o38_sh.mpr ?_ | refine g_ref02_Mul_o37_sh.mpr ?_ | refine g_ref02_Mul_c7_sh.mpr ?_ | refine g_ref02_Mul_c8_sh.mpr ?_ | refine g_ref02_Mul_c9_sh.mpr ?_ | refine g_ref02_Mul_c10_sh.mpr ?_ | refine g_ref02_Mul_code_sh.mpr ?_)
    exact hT _ rfl rfl rfl rfl rfl
  | succ m ih =>
    intro j r hj hr hv hz t t2 t3 t4 t5 t6 t7
    refine g_ref02_Mul_l1_sh rfl ?_
    have hlt : j < b.length := by omega
    have hlt' : ((j : Int) < (b.length : Int)) := by omega
    have hbe := List.getElem?_eq_getElem hlt
    have hy := hb b[j] (List.getElem_mem hlt)
    rw [List.drop_eq_getElem_cons hlt, valL] at hv
    obtain ⟨y, hy'⟩ : ∃ y, b[j] = y := ⟨_, rfl⟩
    rw [hy'] at hbe hy hv
    have hrk : i + j < r.length := by omega
    have hre := List.getElem?_eq_getElem hrk
    have hzk := hz r[i + j] (List.getElem_mem hrk)
    obtain ⟨z, hz'⟩ : ∃ z, r[i + j] = z := ⟨_, rfl⟩
    rw [hz'] at hre hzk
    have hxy : x * y ≤ 81 := Nat.mul_le_mul (show x ≤ 9 by omega) (show y ≤ 9 by omega)
    have w0 : IntKind.i64.wrap ((i : Int) + (j : Int)) = ((i + j : Nat) : Int) := by rw [wrapI (by omega) (by omega)]; omega
    have w1 : IntKind.i64.wrap ((j : Int) + 1) = ((j + 1 : Nat) : Int) := by rw [wrapI (by omega) (by omega)]; omega
    have w2 : IntKind.i64.wrap ((x : Int) * (y : Int)) = ((x * y : Nat) : Int) := by rw [← Int.natCast_mul]; exact wrapI (by omega) (by omega)
    have w3 : IntKind.i64.wrap ((z : Int) + ((x * y : Nat) : Int)) = ((z + x * y : Nat) : Int) := by rw [← Int.natCast_add]; exact wrapI (by omega) (by omega)
    have hrk' : (((i + j : Nat) : Int) < (r.length : Int)) := by omega
    have ih := ih (j + 1) (r.set (i + j) (z + x * y)) (by omega) (by rw [List.length_set]; exact hr) (by
      rw [val_set hre, ← hv, ← Nat.add_assoc i j 1, Nat.pow_succ]; exact mul_step ..) (fun w hw => by
        rcases mem_set hre _ hw with rfl | hw
        · omega
        · have := hz w hw; omega)
    rw [← encN_set] at ih
    subst h2 h3 h4
    have ih := ih (look [(2, .ptr 2 0), (3, .ptr 3 0), (4, .ptr 4 0), (5, .own 17), (6, vI i), (7, vI ((j + 1 : Nat) : Int))]) rfl rfl rfl rfl rfl rfl
    repeat' (first | simp only [go_sem, ↓reduceIte, Nat.reduceEqDiff, Nat.reduceAdd, Nat.reduceSub, Nat.reduceMul, Nat.reduceLeDiff, Nat.reduceBEq, reduceCtorEq, Nat.reduceEqDiff, Int.reduceEq, Int.reduceLT, Int.reduceLE, Int.reduceNeg, Int.reduceBEq, Int.reduceBNe, Int.reduceToNat, Int.reducePow, t2, t3, t4, t5, t6, t7, List.length_map, hlt', decide_true, Int.natCast_nonneg, Int.toNat_natCast, getMap encN hbe, getMap encN ha, getMap encN hre, encN, w0, w1, w2, w3, hrk'] | refine g_ref02_Mul_c0_sh.mpr ?_ | refine g_ref02_Mul_c1_sh.mpr ?_ | refine g_ref02_Mul_c2_sh.mpr ?_ | refine g_ref02_Mul_c3_sh.mpr ?_ | refine g_ref02_Mul_t3_sh.mpr ?_ | refine g_ref02_Mul_t4_sh.mpr ?_ | refine g_ref02_Mul_t5_sh.mpr ?_ | refine g_ref02_Mul_t6_sh.mpr ?_ | refine g_ref02_Mul_t7_sh.mpr ?_ | refine g_ref02_Mul_t8_sh.mpr ?_ | refine g_ref02_Mul_t9_sh.mpr ?_ | refine g_ref02_Mul_t10_sh.mpr ?_ | refine g_ref02_Mul_t11_sh.mpr ?_ | refine g_ref02_Mul_t12_sh.mpr ?_ | refine g_ref02_Mul_t13_sh.mpr ?_ | refine g_ref02_Mul_t14_sh.mpr ?_ | refine g_ref02_Mul_t15_sh.mpr ?_ | refine g_ref02_Mul_t16_sh.mpr ?_ | refine g_ref02_Mul_t17_sh.mpr ?_ | refine g_ref02_Mul_t18_sh.mpr ?_ | refine g_ref02_Mul_t19_sh.mpr ?_ | refine g_ref02_Mul_t20_sh.mpr ?_ | refine g_ref02_Mul_t21_sh.mpr ?_ | refine g_ref02_Mul_t22_sh.mpr ?_ | refine g_ref02_Mul_t23_sh.mpr ?_ | refine g_ref02_Mul_t24_sh.mpr ?_ | refine g_ref02_Mul_t25_sh.mpr ?_ | refine g_ref02_Mul_t26_sh.mpr ?_ | refine g_ref02_Mul_t27_sh.mpr ?_ | refine g_ref02_Mul_t28_sh.mpr ?_ | refine g_ref02_Mul_t29_sh.mpr ?_ | refine g_ref02_Mul_t30_sh.mpr ?_ | refine g_ref02_Mul_t31_sh.mpr ?_ | refine g_ref02_Mul_t32_sh.mpr ?_ | refine g_ref02_Mul_t33_sh.mpr ?_ | refine g_ref02_Mul_t34_sh.mpr ?_ | refine g_ref02_Mul_t35_sh.mpr ?_ | refine g_ref02_Mul_t36_sh.mpr ?_ | refine g_ref02_Mul_i2_sh.mpr ?_ | refine g_ref02_Mul_i1_sh.mpr ?_ | refine g_ref02_Mul_c4_sh.mpr ?_ | refine g_ref02_Mul_c5_sh.mpr ?_ | refine g_ref02_Mul_c6_sh.mpr ?_ | refine g_ref02_Mul_o38_sh.mpr ?_ | refine g_ref02_Mul_o37_sh.mpr ?_ | refine g_ref02_Mul_c7_sh.mpr ?_ | refine g_ref02_Mul_c8_sh.mpr ?_ | refine g_ref02_Mul_c9_sh.mpr ?_ | refine g_ref02_Mul_c10_sh.mpr ?_ | refine g_ref02_Mul_code_sh.mpr ?_ | refine And.intro ?_ ?_)
    all_goals first | exact ih | skip
theorem out_step (x V P W v : Nat) : v + x * V * P + W * V * (P * 10) = v + (x + 10 * W) * V * P := by
  rw [Nat.add_mul, Nat.add_mul, ← Nat.add_assoc]
  congr 1
  ac_rfl
/-- The outer loop. -/
theorem mul_out {C : Ctx} {I : Nat → Prop} {Q : Ex → St → Prop} {a b : List Nat} {ma mb : Bool} (c2 c3 c4 : Ob) (h4 : c4 = .box [vB false, .cap0])
    (h2 : c2 = .box [vB ma, vDig a]) (h3 : c3 = .box [vB mb, vDig b]) (ha : ∀ d ∈ a, d < 10) (hb : ∀ d ∈ b, d < 10) (hal : a.length < 1000) (hbl : b.length < 1000) {v : Nat}
    (hT : ∀ r, r.length = a.length + b.length + 1 → valL r = v → (∀ z ∈ r, z ≤ 100000000) → ∀ t, t 2 = .ptr 2 0 → t 3 = .ptr 3 0 → t 4 = .ptr 4 0 → t 5 = .own 17 →
      Q (.exit 0) (St.mk t (looko [(2, some c2), (3, some c3), (4, some c4), (17, some (.row 1 (r.map encN)))]))) :
    ∀ (m i : Nat) (r : List Nat), i + m = a.length → r.length = a.length + b.length + 1 → valL r + valL (a.drop i) * valL b * 10 ^ i = v → (∀ z ∈ r, z ≤ 81 * b.length * i) →
      ∀ t, t 2 = .ptr 2 0 → t 3 = .ptr 3 0 → t 4 = .ptr 4 0 → t 5 = .own 17 → t 6 = vI i →
        wpB C I g_ref02_Mul.l0 (St.mk t (looko [(2, some c2), (3, some c3), (4, some c4), (17, some (.row 1 (r.map encN)))])) Q := by
  intro m
  induction m with
  | zero =>
    intro i r hi hr hv hz t t2 t3 t4 t5 t6
    refine g_ref02_Mul_l0_sh rfl ?_
    have : i = a.length := by omega
    subst this
    rw [List.drop_length, valL, Nat.zero_mul, Nat.zero_mul, Nat.add_zero] at hv
    have hT := hT r hr hv (fun z hm => Nat.le_trans (hz z hm) (Nat.le_trans (Nat.mul_le_mul (show 81 * b.length ≤ 81 * 1000 by omega) (show a.length ≤ 1000 by omega)) (by omega)))
    subst h2 h3 h4
    repeat (first | simp only [go_sem, ↓reduceIte, Nat.reduceEqDiff, Nat.reduceAdd, Nat.reduceSub, Nat.reduceMul, Nat.reduceLeDiff, Nat.reduceBEq, reduceCtorEq, Nat.reduceEqDiff, Int.reduceEq, Int.reduceLT, Int.reduceLE, Int.reduceNeg, Int.reduceBEq, Int.reduceBNe, Int.reduceToNat, Int.reducePow, t2, t3, t4, t5, t6, List.length_map, Int.lt_irrefl, decide_false] | refine g_ref02_Mul_c0_sh.mpr ?_ | refine g_ref02_Mul_c1_sh.mpr ?_ | refine g_ref02_Mul_c2_sh.mpr ?_ | refine g_ref02_Mul_c3_sh.mpr ?_ | refine g_ref02_Mul_t3_sh.mpr ?_ | refine g_ref02_Mul_t4_sh.mpr ?_ | refine g_ref02_Mul_t5_sh.mpr ?_ | refine g_ref02_Mul_t6_sh.mpr ?_ | refine g_ref02_Mul_t7_sh.mpr ?_ | refine g_ref02_Mul_t8_sh.mpr ?_ | refine g_ref02_Mul_t9_sh.mpr ?_ | refine g_ref02_Mul_t10_sh.mpr ?_ | refine g_ref02_Mul_t11_sh.mpr ?_ | refine g_ref02_Mul_t12_sh.mpr ?_ | refine g_ref02_Mul_t13_sh.mpr ?_ | refine g_ref02_Mul_t14_sh.mpr ?_ | refine g_ref02_Mul_t15_sh.mpr ?_ | refine g_ref02_Mul_t16_sh.mpr ?_ | refine g_ref02_Mul_t17_sh.mpr ?_ | refine g_ref02_Mul_t18_sh.mpr ?_ | refine g_ref02_Mul_t19_sh.mpr ?_ | refine g_ref02_Mul_t20_sh.mpr ?_ | refine g_ref02_Mul_t21_sh.mpr ?_ | refine g_ref02_Mul_t22_sh.mpr ?_ | refine g_ref02_Mul_t23_sh.mpr ?_ | refine g_ref02_Mul_t24_sh.mpr ?_ | refine g_ref02_Mul_t25_sh.mpr ?_ | refine g_ref02_Mul_t26_sh.mpr ?_ | refine g_ref02_Mul_t27_sh.mpr ?_ | refine g_ref02_Mul_t28_sh.mpr ?_ | refine g_ref02_Mul_t29_sh.mpr ?_ | refine g_ref02_Mul_t30_sh.mpr ?_ | refine g_ref02_Mul_t31_sh.mpr ?_ | refine g_ref02_Mul_t32_sh.mpr ?_ | refine g_ref02_Mul_t33_sh.mpr ?_ | refine g_ref02_Mul_t34_sh.mpr ?_ | refine g_ref02_Mul_t35_sh.mpr ?_ | refine g_ref02_Mul_t36_sh.mpr ?_ | refine g_ref02_Mul_i2_sh.mpr ?_ | refine g_ref02_Mul_i1_sh.mpr ?_ | refine g_ref02_Mul_c4_sh.mpr ?_ | refine g_ref02_Mul_c5_sh.mpr ?_ | refine g_ref02_Mul_c6_sh.mpr ?_ | refine g_ref02_Mul_o38_sh.mpr ?_ | refine g_ref02_Mul_o37_sh.mpr ?_ | refine g_ref02_Mul_c7_sh.mpr ?_ | refine g_ref02_Mul_c8_sh.mpr ?_ | refine g_ref02_Mul_c9_sh.mpr ?_ | refine g_ref02_Mul_c10_sh.mpr ?_ | refine g_ref02_Mul_code_sh.mpr ?_)
    exact hT _ rfl rfl rfl rfl
  | succ m ih =>
    intro i r hi hr hv hz t t2 t3 t4 t5 t6
    refine g_ref02_Mul_l0_sh rfl ?_
    have hlt : i < a.length := by omega
    have hlt' : ((i : Int) < (a.length : Int)) := by omega
    have hae := List.getElem?_eq_getElem hlt
    have hx := ha a[i] (List.getElem_mem hlt)
    rw [List.drop_eq_getElem_cons hlt, valL] at hv
    obtain ⟨x, hx'⟩ : ∃ x, a[i] = x := ⟨_, rfl⟩
    rw [hx'] at hae hx hv
    have w1 : IntKind.i64.wrap ((i : Int) + 1) = ((i + 1 : Nat) : Int) := by rw [wrapI (by omega) (by omega)]; omega
    have hB : 81 * b.length * i ≤ 100000000 := Nat.le_trans (Nat.mul_le_mul (show 81 * b.length ≤ 81 * 1000 by omega) (show i ≤ 1000 by omega)) (by omega)
    repeat (first | simp only [go_sem, ↓reduceIte, Nat.reduceEqDiff, Nat.reduceAdd, Nat.reduceSub, Nat.reduceMul, Nat.reduceLeDiff, Nat.reduceBEq, reduceCtorEq, Nat.reduceEqDiff, Int.reduceEq, Int.reduceLT, Int.reduceLE, Int.reduceNeg, Int.reduceBEq, Int.reduceBNe, Int.reduceToNat, Int.reducePow, h2, t2, t3, t4, t5, t6, List.length_map, hlt', decide_true] | refine g_ref02_Mul_c3_sh.mpr ?_)
    rw [← h2]
    refine mul_in (v := valL r + x * valL b * 10 ^ i) (B := 81 * b.length * i) (x := x) (i := i) c2 c3 c4 h4 h2 h3 hae hx hb hal hbl hB (fun r' hr' hv' hz' t t2 t3 t4 t5 t6 => ?_) b.length 0 r (by omega) hr (by rw [List.drop_zero, Nat.add_zero]) (fun z hm => hz z hm) _ rfl rfl rfl rfl rfl rfl
    have ih := ih (i + 1) r' (by omega) hr' (by rw [hv', ← hv, Nat.pow_succ]; exact out_step ..) (fun z hm => by have := hz' z hm; rw [Nat.mul_add, Nat.mul_one]; exact this)
      (look [(2, .ptr 2 0), (3, .ptr 3 0), (4, .ptr 4 0), (5, .own 17), (6, vI ((i + 1 : Nat) : Int))]) rfl rfl rfl rfl rfl
    repeat (first | simp only [go_sem, ↓reduceIte, Nat.reduceEqDiff, Nat.reduceAdd, Nat.reduceSub, Nat.reduceMul, Nat.reduceLeDiff, Nat.reduceBEq, reduceCtorEq, Nat.reduceEqDiff, Int.reduceEq, Int.reduceLT, Int.reduceLE, Int.reduceNeg, Int.reduceBEq, Int.reduceBNe, Int.reduceToNat, Int.reducePow, t2, t3, t4, t5, t6, w1] | refine g_ref02_Mul_c2_sh.mpr ?_)
    exact ih
theorem set_mid (p : List Nat) (x y z : Nat) (q : List Nat) : ((p ++ x :: y :: q).set (p.length + 1) z) = p ++ x :: z :: q := by
  rw [List.set_append_right _ _ (by omega), show p.length + 1 - p.length = 1 by omega]; rfl
theorem set_fst (p : List Nat) (x z : Nat) (q : List Nat) : ((p ++ x :: q).set p.length z) = p ++ z :: q := by
  rw [List.set_append_right _ _ (Nat.le_refl _), Nat.sub_self]; rfl
set_option maxHeartbeats 2000000 in
/-- The carry. -/
theorem mul_carry {C : Ctx} {I : Nat → Prop} {Q : Ex → St → Prop} {ma mb : Bool} {la lb : V} (c2 c3 c4 : Ob) (h4 : c4 = .box [vB false, .cap0])
    (h2 : c2 = .box [vB ma, la]) (h3 : c3 = .box [vB mb, lb]) {v N : Nat} (hN : N < 10000)
    (hT : ∀ p x, (∀ z ∈ p, z < 10) → valL (p ++ [x]) = v → p.length + 1 = N → ∀ t, t 2 = .ptr 2 0 → t 3 = .ptr 3 0 → t 4 = .ptr 4 0 → t 5 = .own 17 →
      Q (.exit 4) (St.mk t (looko [(2, some c2), (3, some c3), (4, some c4), (17, some (.row 1 ((p ++ [x]).map encN)))]))) :
    ∀ (q p : List Nat) (x : Nat), p.length + q.length + 1 = N → (∀ z ∈ p, z < 10) → (∀ z ∈ q, z ≤ 100000000) → x ≤ 200000000 → valL (p ++ x :: q) = v →
      ∀ t, t 2 = .ptr 2 0 → t 3 = .ptr 3 0 → t 4 = .ptr 4 0 → t 5 = .own 17 → t 8 = vI p.length →
        wpB C I g_ref02_Mul.l2 (St.mk t (looko [(2, some c2), (3, some c3), (4, some c4), (17, some (.row 1 ((p ++ x :: q).map encN)))])) Q
  | [], p, x, hl, hp, hq, hx, hv, t, t2, t3, t4, t5, t8 => by
    refine g_ref02_Mul_l2_sh rfl ?_
    simp only [List.length_nil] at hl
    have w1 : IntKind.i64.wrap ((p.length : Int) + 1) = ((p.length + 1 : Nat) : Int) := by rw [wrapI (by omega) (by omega)]; omega
    have hT := hT p x hp hv (by simpa using hl)
    obtain ⟨r, hr⟩ : ∃ r, p ++ [x] = r := ⟨_, rfl⟩
    have hrl : p.length + 1 = r.length := by rw [← hr]; simp
    rw [hr] at hT ⊢
    rw [hrl] at w1
    subst h2 h3 h4
    repeat (first | simp only [go_sem, ↓reduceIte, Nat.reduceEqDiff, Nat.reduceAdd, Nat.reduceSub, Nat.reduceMul, Nat.reduceLeDiff, Nat.reduceBEq, reduceCtorEq, Nat.reduceEqDiff, Int.reduceEq, Int.reduceLT, Int.reduceLE, Int.reduceNeg, Int.reduceBEq, Int.reduceBNe, Int.reduceToNat, Int.reducePow, t2, t3, t4, t5, t8, List.length_map, w1, Int.lt_irrefl, decide_false] | refine g_ref02_Mul_c0_sh.mpr ?_ | refine g_ref02_Mul_c1_sh.mpr ?_ | refine g_ref02_Mul_c2_sh.mpr ?_ | refine g_ref02_Mul_c3_sh.mpr ?_ | refine g_ref02_Mul_t3_sh.mpr ?_ | refine g_ref02_Mul_t4_sh.mpr ?_ | refine g_ref02_Mul_t5_sh.mpr ?_ | refine g_ref02_Mul_t6_sh.mpr ?_ | refine g_ref02_Mul_t7_sh.mpr ?_ | refine g_ref02_Mul_t8_sh.mpr ?_ | refine g_ref02_Mul_t9_sh.mpr ?_ | refine g_ref02_Mul_t10_sh.mpr ?_ | refine g_ref02_Mul_t11_sh.mpr ?_ | refine g_ref02_Mul_t12_sh.mpr ?_ | refine g_ref02_Mul_t13_sh.mpr ?_ | refine g_ref02_Mul_t14_sh.mpr ?_ | refine g_ref02_Mul_t15_sh.mpr ?_ | refine g_ref02_Mul_t16_sh.mpr ?_ | refine g_ref02_Mul_t17_sh.mpr ?_ | refine g_ref02_Mul_t18_sh.mpr ?_ | refine g_ref02_Mul_t19_sh.mpr ?_ | refine g_ref02_Mul_t20_sh.mpr ?_ | refine g_ref02_Mul_t21_sh.mpr ?_ | refine g_ref02_Mul_t22_sh.mpr ?_ | refine g_ref02_Mul_t23_sh.mpr ?_ | refine g_ref02_Mul_t24_sh.mpr ?_ | refine g_ref02_Mul_t25_sh.mpr ?_ | refine g_ref02_Mul_t26_sh.mpr ?_ | refine g_ref02_Mul_t27_sh.mpr ?_ | refine g_ref02_Mul_t28_sh.mpr ?_ | refine g_ref02_Mul_t29_sh.mpr ?_ | refine g_ref02_Mul_t30_sh.mpr ?_ | refine g_ref02_Mul_t31_sh.mpr ?_ | refine g_ref02_Mul_t32_sh.mpr ?_ | refine g_ref02_Mul_t33_sh.mpr ?_ | refine g_ref02_Mul_t34_sh.mpr ?_ | refine g_ref02_Mul_t35_sh.mpr ?_ | refine g_ref02_Mul_t36_sh.mpr ?_ | refine g_ref02_Mul_i2_sh.mpr ?_ | refine g_ref02_Mul_i1_sh.mpr ?_ | refine g_ref02_Mul_c4_sh.mpr ?_ | refine g_ref02_Mul_c5_sh.mpr ?_ | refine g_ref02_Mul_c6_sh.mpr ?_ | refine g_ref02_Mul_o38_sh.mpr ?_ | refine g_ref02_Mul_o37_sh.mpr ?_ | refine g_ref02_Mul_c7_sh.mpr ?_ | refine g_ref02_Mul_c8_sh.mpr ?_ | refine g_ref02_Mul_c9_sh.mpr ?_ | refine g_ref02_Mul_c10_sh.mpr ?_ | refine g_ref02_Mul_code_sh.mpr ?_)
    exact hT _ rfl rfl rfl rfl
  | y :: q, p, x, hl, hp, hq, hx, hv, t, t2, t3, t4, t5, t8 => by
    refine g_ref02_Mul_l2_sh rfl ?_
    simp only [List.length_cons] at hl
    have hy := hq y (by simp)
    have w1 : IntKind.i64.wrap ((p.length : Int) + 1) = ((p.length + 1 : Nat) : Int) := by rw [wrapI (by omega) (by omega)]; omega
    have ih := mul_carry (C := C) (I := I) c2 c3 c4 h4 h2 h3 hN hT q (p ++ [x % 10]) (y + x / 10) (by simp; omega) (fun z hz => by
      rcases List.mem_append.1 hz with h | h
      · exact hp z h
      · simp at h; omega) (fun z hz => hq z (List.mem_cons_of_mem _ hz)) (by omega) (by
        rw [List.append_assoc, ← hv, List.singleton_append, val_app, val_app]
        simp only [valL]
        congr 2
        omega) (look [(2, .ptr 2 0), (3, .ptr 3 0), (4, .ptr 4 0), (5, .own 17), (8, vI ((p.length + 1 : Nat) : Int))]) rfl rfl rfl rfl (by simp only [look, beq_self_eq_true, if_true, List.length_append, List.length_cons, List.length_nil]; rfl)
    rw [List.append_assoc] at ih
    obtain ⟨r, hr⟩ : ∃ r, p ++ x :: y :: q = r := ⟨_, rfl⟩
    obtain ⟨k, hk⟩ : ∃ k, p.length = k := ⟨_, rfl⟩
    have hrl : k + 2 + q.length = r.length := by rw [← hr, ← hk]; simp; omega
    have e0 : r[k]? = some x := by rw [← hr, ← hk, List.getElem?_append_right (Nat.le_refl _), Nat.sub_self]; rfl
    have e1 : r[k + 1]? = some y := by rw [← hr, ← hk, List.getElem?_append_right (by omega), show p.length + 1 - p.length = 1 by omega]; rfl
    have s1 : r.set (k + 1) (y + x / 10) = p ++ x :: (y + x / 10) :: q := by rw [← hr, ← hk]; exact set_mid ..
    have s2 : (r.set (k + 1) (y + x / 10)).set k (x % 10) = p ++ ([x % 10] ++ (y + x / 10) :: q) := by rw [s1, ← hk]; exact set_fst ..
    have e2 : (r.set (k + 1) (y + x / 10))[k]? = some x := by rw [s1, ← hk, List.getElem?_append_right (Nat.le_refl _), Nat.sub_self]; rfl
    have l2 : (r.set (k + 1) (y + x / 10)).length = r.length := List.length_set ..
    have hlt : (((k + 1 : Nat) : Int) < (r.length : Int)) := by omega
    have hlt0 : ((k : Int) < (r.length : Int)) := by omega
    have z : ¬ ((10 : Int) = 0) := by decide
    have d1 : IntKind.i64.wrap ((x : Int).tdiv 10) = ((x / 10 : Nat) : Int) := by rw [Int.tdiv_eq_ediv_of_nonneg (by omega), wrapI (by omega) (by omega)]; rfl
    have d2 : (x : Int).tmod 10 = ((x % 10 : Nat) : Int) := by rw [Int.tmod_eq_emod_of_nonneg (by omega)]; rfl
    have w2 : IntKind.i64.wrap ((y : Int) + ((x / 10 : Nat) : Int)) = ((y + x / 10 : Nat) : Int) := by rw [← Int.natCast_add]; exact wrapI (by omega) (by omega)
    rw [← s2] at ih
    rw [hk] at ih t8 w1
    rw [hr]
    subst h2 h3 h4
    have tail : wpB C I g_ref02_Mul.c4 (St.mk (look [(2, .ptr 2 0), (3, .ptr 3 0), (4, .ptr 4 0), (5, .own 17), (8, vI k)]) (looko [(2, some (.box [vB ma, la])), (3, some (.box [vB mb, lb])), (4, some (.box [vB false, .cap0])), (17, some (.row 1 ((r.set (k + 1) (y + x / 10)).map encN)))]))
        (blockK 5 [2, 3, 4, 5, 8] (some [2, 3, 4, 17]) (seqK (fun st => wpB C I g_ref02_Mul.c5 st (seqK (fun s => wpB C I g_ref02_Mul.l2 s Q) Q)) (seqK (fun s => wpB C I g_ref02_Mul.l2 s Q) Q))) := by
      repeat (first | simp only [go_sem, ↓reduceIte, Nat.reduceEqDiff, Nat.reduceAdd, Nat.reduceSub, Nat.reduceMul, Nat.reduceLeDiff, Nat.reduceBEq, reduceCtorEq, Nat.reduceEqDiff, Int.reduceEq, Int.reduceLT, Int.reduceLE, Int.reduceNeg, Int.reduceBEq, Int.reduceBNe, Int.reduceToNat, Int.reducePow, List.length_map, w1, hlt0, decide_true, Int.natCast_nonneg, Int.toNat_natCast, getMap encN e2, encN, z, d2, encN_set, l2] | refine g_ref02_Mul_c4_sh.mpr ?_ | refine g_ref02_Mul_c5_sh.mpr ?_)
      exact ih
    clear ih hT
    repeat (first | simp only [go_sem, ↓reduceIte, Nat.reduceEqDiff, Nat.reduceAdd, Nat.reduceSub, Nat.reduceMul, Nat.reduceLeDiff, Nat.reduceBEq, reduceCtorEq, Nat.reduceEqDiff, Int.reduceEq, Int.reduceLT, Int.reduceLE, Int.reduceNeg, Int.reduceBEq, Int.reduceBNe, Int.reduceToNat, Int.reducePow, t2, t3, t4, t5, t8, List.length_map, w1, hlt, decide_true] | refine g_ref02_Mul_c6_sh.mpr ?_)
    repeat' (first | simp only [go_sem, ↓reduceIte, Nat.reduceEqDiff, Nat.reduceAdd, Nat.reduceSub, Nat.reduceMul, Nat.reduceLeDiff, Nat.reduceBEq, reduceCtorEq, Nat.reduceEqDiff, Int.reduceEq, Int.reduceLT, Int.reduceLE, Int.reduceNeg, Int.reduceBEq, Int.reduceBNe, Int.reduceToNat, Int.reducePow, List.length_map, w1, hlt, hlt0, decide_true, Int.natCast_nonneg, Int.toNat_natCast, getMap encN e0, getMap encN e1, encN, z, d1, w2, encN_set] | refine g_ref02_Mul_t3_sh.mpr ?_ | refine g_ref02_Mul_t4_sh.mpr ?_ | refine g_ref02_Mul_t5_sh.mpr ?_ | refine g_ref02_Mul_t6_sh.mpr ?_ | refine g_ref02_Mul_t7_sh.mpr ?_ | refine g_ref02_Mul_t8_sh.mpr ?_ | refine g_ref02_Mul_t9_sh.mpr ?_ | refine g_ref02_Mul_t10_sh.mpr ?_ | refine g_ref02_Mul_t11_sh.mpr ?_ | refine g_ref02_Mul_t12_sh.mpr ?_ | refine g_ref02_Mul_t13_sh.mpr ?_ | refine g_ref02_Mul_t14_sh.mpr ?_ | refine g_ref02_Mul_t15_sh.mpr ?_ | refine g_ref02_Mul_t16_sh.mpr ?_ | refine g_ref02_Mul_t17_sh.mpr ?_ | refine g_ref02_Mul_t18_sh.mpr ?_ | refine g_ref02_Mul_t19_sh.mpr ?_ | refine g_ref02_Mul_t20_sh.mpr ?_ | refine g_ref02_Mul_t21_sh.mpr ?_ | refine g_ref02_Mul_t22_sh.mpr ?_ | refine g_ref02_Mul_t23_sh.mpr ?_ | refine g_ref02_Mul_t24_sh.mpr ?_ | refine g_ref02_Mul_t25_sh.mpr ?_ | refine g_ref02_Mul_t26_sh.mpr ?_ | refine g_ref02_Mul_t27_sh.mpr ?_ | refine g_ref02_Mul_t28_sh.mpr ?_ | refine g_ref02_Mul_t29_sh.mpr ?_ | refine g_ref02_Mul_t30_sh.mpr ?_ | refine g_ref02_Mul_t31_sh.mpr ?_ | refine g_ref02_Mul_t32_sh.mpr ?_ | refine g_ref02_Mul_t33_sh.mpr ?_ | refine g_ref02_Mul_t34_sh.mpr ?_ | refine g_ref02_Mul_t35_sh.mpr ?_ | refine g_ref02_Mul_t36_sh.mpr ?_ | refine g_ref02_Mul_i2_sh.mpr ?_ | refine g_ref02_Mul_i1_sh.mpr ?_ | refine And.intro ?_ ?_)
    all_goals first | exact tail | skip
theorem digs_pos_len (n : Nat) : decide (0 < (digs n).length) = decide (0 < n) := by
  by_cases h : n = 0
  · subst h; rw [digs_0]; rfl
  · rw [digs_pos h]; simp; omega
abbrev big (s : Bool) (n : Nat) : V := vBig (s && decide (0 < n)) (digs n)
theorem valL_rep : ∀ n, valL (List.replicate n 0) = 0
  | 0 => rfl
  | n + 1 => by rw [List.replicate_succ, valL, valL_rep n]
theorem refMul {C : Ctx} (h : okFn C.P C.φ 117 g_ref02_Mul = true) (hT : ∀ l : List Nat, l.length < 1000000 → SoundAt C 118 ⟨[vDig l], looko []⟩ ⟨vDig (trimL l), looko []⟩) (ma mb : Bool) (a b : Nat) (hal : (digs a).length < 1000) (hbl : (digs b).length < 1000) :
    SoundAt C 117 ⟨[vBig ma (digs a), vBig mb (digs b)], looko []⟩ ⟨big (ma != mb) (a * b), looko []⟩ := by
  obtain ⟨n, hn⟩ : ∃ n, (digs a).length + (digs b).length + 1 = n := ⟨_, rfl⟩
  have w1 : IntKind.i64.wrap (((digs a).length : Int) + ((digs b).length : Int)) = (((digs a).length + (digs b).length : Nat) : Int) := by rw [wrapI (by omega) (by omega)]; omega
  have w2 : IntKind.i64.wrap ((((digs a).length + (digs b).length : Nat) : Int) + 1) = (n : Int) := by rw [wrapI (by omega) (by omega)]; omega
  refine SoundAt.of_run h rfl (fun Q hR hN => ?_)
  rw [entry2]
  have b1 : n * 8 ≤ 140737488355328 := by omega
  have b2 : (n : Int) ≤ 140737488355328 := by omega
  have rep : (List.replicate n [D.int .i64 0] : List (List D)) = (List.replicate n 0).map encN := by rw [List.map_replicate]; rfl
  have hlr : (List.replicate n 0).length = (digs a).length + (digs b).length + 1 := by rw [List.length_replicate, hn]
  repeat (first | simp only [go_sem, ↓reduceIte, Nat.reduceEqDiff, Nat.reduceAdd, Nat.reduceSub, Nat.reduceMul, Nat.reduceLeDiff, Nat.reduceBEq, reduceCtorEq, Nat.reduceEqDiff, Int.reduceEq, Int.reduceLT, Int.reduceLE, Int.reduceNeg, Int.reduceBEq, Int.reduceBNe, Int.reduceToNat, Int.reducePow, no_I, List.length_map, w1, w2, Int.natCast_nonneg, Int.toNat_natCast, b1, b2, rep] | refine g_ref02_Mul_c0_sh.mpr ?_ | refine g_ref02_Mul_c1_sh.mpr ?_ | refine g_ref02_Mul_c2_sh.mpr ?_ | refine g_ref02_Mul_c3_sh.mpr ?_ | refine g_ref02_Mul_t3_sh.mpr ?_ | refine g_ref02_Mul_t4_sh.mpr ?_ | refine g_ref02_Mul_t5_sh.mpr ?_ | refine g_ref02_Mul_t6_sh.mpr ?_ | refine g_ref02_Mul_t7_sh.mpr ?_ | refine g_ref02_Mul_t8_sh.mpr ?_ | refine g_ref02_Mul_t9_sh.mpr ?_ | refine g_ref02_Mul_t10_sh.mpr ?_ | refine g_ref02_Mul_t11_sh.mpr ?_ | refine g_ref02_Mul_t12_sh.mpr ?_ | refine g_ref02_Mul_t13_sh.mpr ?_ | refine g_ref02_Mul_t14_sh.mpr ?_ | refine g_ref02_Mul_t15_sh.mpr ?_ | refine g_ref02_Mul_t16_sh.mpr ?_ | refine g_ref02_Mul_t17_sh.mpr ?_ | refine g_ref02_Mul_t18_sh.mpr ?_ | refine g_ref02_Mul_t19_sh.mpr ?_ | refine g_ref02_Mul_t20_sh.mpr ?_ | refine g_ref02_Mul_t21_sh.mpr ?_ | refine g_ref02_Mul_t22_sh.mpr ?_ | refine g_ref02_Mul_t23_sh.mpr ?_ | refine g_ref02_Mul_t24_sh.mpr ?_ | refine g_ref02_Mul_t25_sh.mpr ?_ | refine g_ref02_Mul_t26_sh.mpr ?_ | refine g_ref02_Mul_t27_sh.mpr ?_ | refine g_ref02_Mul_t28_sh.mpr ?_ | refine g_ref02_Mul_t29_sh.mpr ?_ | refine g_ref02_Mul_t30_sh.mpr ?_ | refine g_ref02_Mul_t31_sh.mpr ?_ | refine g_ref02_Mul_t32_sh.mpr ?_ | refine g_ref02_Mul_t33_sh.mpr ?_ | refine g_ref02_Mul_t34_sh.mpr ?_ | refine g_ref02_Mul_t35_sh.mpr ?_ | refine g_ref02_Mul_t36_sh.mpr ?_ | refine g_ref02_Mul_i2_sh.mpr ?_ | refine g_ref02_Mul_i1_sh.mpr ?_ | refine g_ref02_Mul_c4_sh.mpr ?_ | refine g_ref02_Mul_c5_sh.mpr ?_ | refine g_ref02_Mul_c6_sh.mpr ?_ | refine g_ref02_Mul_o38_sh.mpr ?_ | refine g_ref02_Mul_o37_sh.mpr ?_ | refine g_ref02_Mul_c7_sh.mpr ?_ | refine g_ref02_Mul_c8_sh.mpr ?_ | refine g_ref02_Mul_c9_sh.mpr ?_ | refine g_ref02_Mul_c10_sh.mpr ?_ | refine g_ref02_Mul_code_sh.mpr ?_)
  refine mul_out (v := a * b) (a := digs a) (b := digs b) _ _ _ rfl rfl rfl (digs_lt a) (digs_lt b) hal hbl (fun r hr hv hz t t2 t3 t4 t5 => ?_) (digs a).length 0 _ (by omega) hlr (by rw [valL_rep, List.drop_zero, val_digs, val_digs, Nat.pow_zero, Nat.mul_one, Nat.zero_add]) (fun z hm => by rw [List.mem_replicate] at hm; omega) _ rfl rfl rfl rfl rfl
  cases r with
  | nil => simp only [List.length_nil] at hr; omega
  | cons x q =>
    simp only [List.length_cons] at hr
    repeat (first | simp only [go_sem, ↓reduceIte, Nat.reduceEqDiff, Nat.reduceAdd, Nat.reduceSub, Nat.reduceMul, Nat.reduceLeDiff, Nat.reduceBEq, reduceCtorEq, Nat.reduceEqDiff, Int.reduceEq, Int.reduceLT, Int.reduceLE, Int.reduceNeg, Int.reduceBEq, Int.reduceBNe, Int.reduceToNat, Int.reducePow, t2, t3, t4, t5] | refine g_ref02_Mul_c9_sh.mpr ?_)
    refine mul_carry (v := a * b) (N := n) _ _ _ rfl rfl rfl (by omega) (fun p y hp hv2 hpn t t2 t3 t4 t5 => ?_) q [] x (by simp; omega) (by simp) (fun z hm => hz z (List.mem_cons_of_mem _ hm)) (Nat.le_trans (hz x (by simp)) (by omega)) hv _ rfl rfl rfl rfl rfl
    have hab : a * b < 10 ^ p.length := by
      have h1 := val_lt _ (digs_lt a)
      have h2 := val_lt _ (digs_lt b)
      rw [val_digs] at h1 h2
      rw [show p.length = (digs a).length + (digs b).length by omega, Nat.pow_add]
      exact Nat.mul_lt_mul_of_le_of_lt (Nat.le_of_lt h1) h2 (Nat.pow_pos (by decide))
    have hy : y = 0 := by
      rw [val_snoc] at hv2
      rcases Nat.eq_zero_or_pos y with h0 | h0
      · exact h0
      · have := Nat.le_mul_of_pos_left (10 ^ p.length) h0; omega
    obtain ⟨r, hr⟩ : ∃ r, p ++ [y] = r := ⟨_, rfl⟩
    have hrl : r.length < 1000000 := by rw [← hr]; simp; omega
    have htr : trimL r = digs (a * b) := by
      rw [trim_digs r.length r rfl (fun d hd => by
        rw [← hr] at hd
        rcases List.mem_append.1 hd with h | h
        · exact hp d h
        · simp at h; omega), ← hr, hv2]
    have t1 := hT r hrl
    rw [htr] at t1
    have hdl := digs_pos_len (a * b)
    rw [hr]
    have f1 : (true == false) = false := rfl
    have f2 : (false == true) = false := rfl
    have f3 : (true != true) = false := rfl
    have f4 : (false != false) = false := rfl
    have f5 : (true != false) = true := rfl
    have f6 : (false != true) = true := rfl
    have hdl' : decide (((digs (a * b)).length : Int) > 0) = decide (0 < a * b) := by rw [← hdl]; exact decide_eq_decide.2 (by omega)
    cases ma <;> cases mb
    · repeat' (first | simp only [go_sem, ↓reduceIte, Nat.reduceEqDiff, Nat.reduceAdd, Nat.reduceSub, Nat.reduceMul, Nat.reduceLeDiff, Nat.reduceBEq, reduceCtorEq, Nat.reduceEqDiff, Int.reduceEq, Int.reduceLT, Int.reduceLE, Int.reduceNeg, Int.reduceBEq, Int.reduceBNe, Int.reduceToNat, Int.reducePow, t2, t3, t4, t5, f1, f2, f3, f4, f5, f6, Bool.false_and, Bool.true_and, List.length_map, hdl', big] | refine g_ref02_Mul_c0_sh.mpr ?_ | refine g_ref02_Mul_c1_sh.mpr ?_ | refine g_ref02_Mul_c2_sh.mpr ?_ | refine g_ref02_Mul_c3_sh.mpr ?_ | refine g_ref02_Mul_t3_sh.mpr ?_ | refine g_ref02_Mul_t4_sh.mpr ?_ | refine g_ref02_Mul_t5_sh.mpr ?_ | refine g_ref02_Mul_t6_sh.mpr ?_ | refine g_ref02_Mul_t7_sh.mpr ?_ | refine g_ref02_Mul_t8_sh.mpr ?_ | refine g_ref02_Mul_t9_sh.mpr ?_ | refine g_ref02_Mul_t10_sh.mpr ?_ | refine g_ref02_Mul_t11_sh.mpr ?_ | refine g_ref02_Mul_t12_sh.mpr ?_ | refine g_ref02_Mul_t13_sh.mpr ?_ | refine g_ref02_Mul_t14_sh.mpr ?_ | refine g_ref02_Mul_t15_sh.mpr ?_ | refine g_ref02_Mul_t16_sh.mpr ?_ | refine g_ref02_Mul_t17_sh.mpr ?_ | refine g_ref02_Mul_t18_sh.mpr ?_ | refine g_ref02_Mul_t19_sh.mpr ?_ | refine g_ref02_Mul_t20_sh.mpr ?_ | refine g_ref02_Mul_t21_sh.mpr ?_ | refine g_ref02_Mul_t22_sh.mpr ?_ | refine g_ref02_Mul_t23_sh.mpr ?_ | refine g_ref02_Mul_t24_sh.mpr ?_ | refine g_ref02_Mul_t25_sh.mpr ?_ | refine g_ref02_Mul_t26_sh.mpr ?_ | refine g_ref02_Mul_t27_sh.mpr ?_ | refine g_ref02_Mul_t28_sh.mpr ?_ | refine g_ref02_Mul_t29_sh.mpr ?_ | refine g_ref02_Mul_t30_sh.mpr ?_ | refine g_ref02_Mul_t31_sh.mpr ?_ | refine g_ref02_Mul_t32_sh.mpr ?_ | refine g_ref02_Mul_t33_sh.mpr ?_ | refine g_ref02_Mul_t34_sh.mpr ?_ | refine g_ref02_Mul_t35_sh.mpr ?_ | refine g_ref02_Mul_t36_sh.mpr ?_ | refine g_ref02_Mul_i2_sh.mpr ?_ | refine g_ref02_Mul_i1_sh.mpr ?_ | refine g_ref02_Mul_c4_sh.mpr ?_ | refine g_ref02_Mul_c5_sh.mpr ?_ | refine g_ref02_Mul_c6_sh.mpr ?_ | refine g_ref02_Mul_o38_sh.mpr ?_ | refine g_ref02_Mul_o37_sh.mpr ?_ | refine g_ref02_Mul_c7_sh.mpr ?_ | refine g_ref02_Mul_c8_sh.mpr ?_ | refine g_ref02_Mul_c9_sh.mpr ?_ | refine g_ref02_Mul_c10_sh.mpr ?_ | refine g_ref02_Mul_code_sh.mpr ?_ | refine callK_plain (t1) (fun _ => rfl) ?_ | refine hR _ ?_ | split)
    · repeat' (first | simp only [go_sem, ↓reduceIte, Nat.reduceEqDiff, Nat.reduceAdd, Nat.reduceSub, Nat.reduceMul, Nat.reduceLeDiff, Nat.reduceBEq, reduceCtorEq, Nat.reduceEqDiff, Int.reduceEq, Int.reduceLT, Int.reduceLE, Int.reduceNeg, Int.reduceBEq, Int.reduceBNe, Int.reduceToNat, Int.reducePow, t2, t3, t4, t5, f1, f2, f3, f4, f5, f6, Bool.false_and, Bool.true_and, List.length_map, hdl', big] | refine g_ref02_Mul_c0_sh.mpr ?_ | refine g_ref02_Mul_c1_sh.mpr ?_ | refine g_ref02_Mul_c2_sh.mpr ?_ | refine g_ref02_Mul_c3_sh.mpr ?_ | refine g_ref02_Mul_t3_sh.mpr ?_ | refine g_ref02_Mul_t4_sh.mpr ?_ | refine g_ref02_Mul_t5_sh.mpr ?_ | refine g_ref02_Mul_t6_sh.mpr ?_ | refine g_ref02_Mul_t7_sh.mpr ?_ | refine g_ref02_Mul_t8_sh.mpr ?_ | refine g_ref02_Mul_t9_sh.mpr ?_ | refine g_ref02_Mul_t10_sh.mpr ?_ | refine g_ref02_Mul_t11_sh.mpr ?_ | refine g_ref02_Mul_t12_sh.mpr ?_ | refine g_ref02_Mul_t13_sh.mpr ?_ | refine g_ref02_Mul_t14_sh.mpr ?_ | refine g_ref02_Mul_t15_sh.mpr ?_ | refine g_ref02_Mul_t16_sh.mpr ?_ | refine g_ref02_Mul_t17_sh.mpr ?_ | refine g_ref02_Mul_t18_sh.mpr ?_ | refine g_ref02_Mul_t19_sh.mpr ?_ | refine g_ref02_Mul_t20_sh.mpr ?_ | refine g_ref02_Mul_t21_sh.mpr ?_ | refine g_ref02_Mul_t22_sh.mpr ?_ | refine g_ref02_Mul_t23_sh.mpr ?_ | refine g_ref02_Mul_t24_sh.mpr ?_ | refine g_ref02_Mul_t25_sh.mpr ?_ | refine g_ref02_Mul_t26_sh.mpr ?_ | refine g_ref02_Mul_t27_sh.mpr ?_ | refine g_ref02_Mul_t28_sh.mpr ?_ | refine g_ref02_Mul_t29_sh.mpr ?_ | refine g_ref02_Mul_t30_sh.mpr ?_ | refine g_ref02_Mul_t31_sh.mpr ?_ | refine g_ref02_Mul_t32_sh.mpr ?_ | refine g_ref02_Mul_t33_sh.mpr ?_ | refine g_ref02_Mul_t34_sh.mpr ?_ | refine g_ref02_Mul_t35_sh.mpr ?_ | refine g_ref02_Mul_t36_sh.mpr ?_ | refine g_ref02_Mul_i2_sh.mpr ?_ | refine g_ref02_Mul_i1_sh.mpr ?_ | refine g_ref02_Mul_c4_sh.mpr ?_ | refine g_ref02_Mul_c5_sh.mpr ?_ | refine g_ref02_Mul_c6_sh.mpr ?_ | refine g_ref02_Mul_o38_sh.mpr ?_ | refine g_ref02_Mul_o37_sh.mpr ?_ | refine g_ref02_Mul_c7_sh.mpr ?_ | refine g_ref02_Mul_c8_sh.mpr ?_ | refine g_ref02_Mul_c9_sh.mpr ?_ | refine g_ref02_Mul_c10_sh.mpr ?_ | refine g_ref02_Mul_code_sh.mpr ?_ | refine callK_plain (t1) (fun _ => rfl) ?_ | refine hR _ ?_ | split)
    · repeat' (first | simp only [go_sem, ↓reduceIte, Nat.reduceEqDiff, Nat.reduceAdd, Nat.reduceSub, Nat.reduceMul, Nat.reduceLeDiff, Nat.reduceBEq, reduceCtorEq, Nat.reduceEqDiff, Int.reduceEq, Int.reduceLT, Int.reduceLE, Int.reduceNeg, Int.reduceBEq, Int.reduceBNe, Int.reduceToNat, Int.reducePow, t2, t3, t4, t5, f1, f2, f3, f4, f5, f6, Bool.false_and, Bool.true_and, List.length_map, hdl', big] | refine g_ref02_Mul_c0_sh.mpr ?_ | refine g_ref02_Mul_c1_sh.mpr ?_ | refine g_ref02_Mul_c2_sh.mpr ?_ | refine g_ref02_Mul_c3_sh.mpr ?_ | refine g_ref02_Mul_t3_sh.mpr ?_ | refine g_ref02_Mul_t4_sh.mpr ?_ | refine g_ref02_Mul_t5_sh.mpr ?_ | refine g_ref02_Mul_t6_sh.mpr ?_ | refine g_ref02_Mul_t7_sh.mpr ?_ | refine g_ref02_Mul_t8_sh.mpr ?_ | refine g_ref02_Mul_t9_sh.mpr ?_ | refine g_ref02_Mul_t10_sh.mpr ?_ | refine g_ref02_Mul_t11_sh.mpr ?_ | refine g_ref02_Mul_t12_sh.mpr ?_ | refine g_ref02_Mul_t13_sh.mpr ?_ | refine g_ref02_Mul_t14_sh.mpr ?_ | refine g_ref02_Mul_t15_sh.mpr ?_ | refine g_ref02_Mul_t16_sh.mpr ?_ | refine g_ref02_Mul_t17_sh.mpr ?_ | refine g_ref02_Mul_t18_sh.mpr ?_ | refine g_ref02_Mul_t19_sh.mpr ?_ | refine g_ref02_Mul_t20_sh.mpr ?_ | refine g_ref02_Mul_t21_sh.mpr ?_ | refine g_ref02_Mul_t22_sh.mpr ?_ | refine g_ref02_Mul_t23_sh.mpr ?_ | refine g_ref02_Mul_t24_sh.mpr ?_ | refine g_ref02_Mul_t25_sh.mpr ?_ | refine g_ref02_Mul_t26_sh.mpr ?_ | refine g_ref02_Mul_t27_sh.mpr ?_ | refine g_ref02_Mul_t28_sh.mpr ?_ | refine g_ref02_Mul_t29_sh.mpr ?_ | refine g_ref02_Mul_t30_sh.mpr ?_ | refine g_ref02_Mul_t31_sh.mpr ?_ | refine g_ref02_Mul_t32_sh.mpr ?_ | refine g_ref02_Mul_t33_sh.mpr ?_ | refine g_ref02_Mul_t34_sh.mpr ?_ | refine g_ref02_Mul_t35_sh.mpr ?_ | refine g_ref02_Mul_t36_sh.mpr ?_ | refine g_ref02_Mul_i2_sh.mpr ?_ | refine g_ref02_Mul_i1_sh.mpr ?_ | refine g_ref02_Mul_c4_sh.mpr ?_ | refine g_ref02_Mul_c5_sh.mpr ?_ | refine g_ref02_Mul_c6_sh.mpr ?_ | refine g_ref02_Mul_o38_sh.mpr ?_ | refine g_ref02_Mul_o37_sh.mpr ?_ | refine g_ref02_Mul_c7_sh.mpr ?_ | refine g_ref02_Mul_c8_sh.mpr ?_ | refine g_ref02_Mul_c9_sh.mpr ?_ | refine g_ref02_Mul_c10_sh.mpr ?_ | refine g_ref02_Mul_code_sh.mpr ?_ | refine callK_plain (t1) (fun _ => rfl) ?_ | refine hR _ ?_ | split)
    · repeat' (first | simp only [go_sem, ↓reduceIte, Nat.reduceEqDiff, Nat.reduceAdd, Nat.reduceSub, Nat.reduceMul, Nat.reduceLeDiff, Nat.reduceBEq, reduceCtorEq, Nat.reduceEqDiff, Int.reduceEq, Int.reduceLT, Int.reduceLE, Int.reduceNeg, Int.reduceBEq, Int.reduceBNe, Int.reduceToNat, Int.reducePow, t2, t3, t4, t5, f1, f2, f3, f4, f5, f6, Bool.false_and, Bool.true_and, List.length_map, hdl', big] | refine g_ref02_Mul_c0_sh.mpr ?_ | refine g_ref02_Mul_c1_sh.mpr ?_ | refine g_ref02_Mul_c2_sh.mpr ?_ | refine g_ref02_Mul_c3_sh.mpr ?_ | refine g_ref02_Mul_t3_sh.mpr ?_ | refine g_ref02_Mul_t4_sh.mpr ?_ | refine g_ref02_Mul_t5_sh.mpr ?_ | refine g_ref02_Mul_t6_sh.mpr ?_ | refine g_ref02_Mul_t7_sh.mpr ?_ | refine g_ref02_Mul_t8_sh.mpr ?_ | refine g_ref02_Mul_t9_sh.mpr ?_ | refine g_ref02_Mul_t10_sh.mpr ?_ | refine g_ref02_Mul_t11_sh.mpr ?_ | refine g_ref02_Mul_t12_sh.mpr ?_ | refine g_ref02_Mul_t13_sh.mpr ?_ | refine g_ref02_Mul_t14_sh.mpr ?_ | refine g_ref02_Mul_t15_sh.mpr ?_ | refine g_ref02_Mul_t16_sh.mpr ?_ | refine g_ref02_Mul_t17_sh.mpr ?_ | refine g_ref02_Mul_t18_sh.mpr ?_ | refine g_ref02_Mul_t19_sh.mpr ?_ | refine g_ref02_Mul_t20_sh.mpr ?_ | refine g_ref02_Mul_t21_sh.mpr ?_ | refine g_ref02_Mul_t22_sh.mpr ?_ | refine g_ref02_Mul_t23_sh.mpr ?_ | refine g_ref02_Mul_t24_sh.mpr ?_ | refine g_ref02_Mul_t25_sh.mpr ?_ | refine g_ref02_Mul_t26_sh.mpr ?_ | refine g_ref02_Mul_t27_sh.mpr ?_ | refine g_ref02_Mul_t28_sh.mpr ?_ | refine g_ref02_Mul_t29_sh.mpr ?_ | refine g_ref02_Mul_t30_sh.mpr ?_ | refine g_ref02_Mul_t31_sh.mpr ?_ | refine g_ref02_Mul_t32_sh.mpr ?_ | refine g_ref02_Mul_t33_sh.mpr ?_ | refine g_ref02_Mul_t34_sh.mpr ?_ | refine g_ref02_Mul_t35_sh.mpr ?_ | refine g_ref02_Mul_t36_sh.mpr ?_ | refine g_ref02_Mul_i2_sh.mpr ?_ | refine g_ref02_Mul_i1_sh.mpr ?_ | refine g_ref02_Mul_c4_sh.mpr ?_ | refine g_ref02_Mul_c5_sh.mpr ?_ | refine g_ref02_Mul_c6_sh.mpr ?_ | refine g_ref02_Mul_o38_sh.mpr ?_ | refine g_ref02_Mul_o37_sh.mpr ?_ | refine g_ref02_Mul_c7_sh.mpr ?_ | refine g_ref02_Mul_c8_sh.mpr ?_ | refine g_ref02_Mul_c9_sh.mpr ?_ | refine g_ref02_Mul_c10_sh.mpr ?_ | refine g_ref02_Mul_code_sh.mpr ?_ | refine callK_plain (t1) (fun _ => rfl) ?_ | refine hR _ ?_ | split)
end Pay
