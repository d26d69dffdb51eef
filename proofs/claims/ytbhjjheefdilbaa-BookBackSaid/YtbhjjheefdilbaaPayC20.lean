/- Contracts: an entry of somebody else turns nothing of anybody but them. -/
import Derived.Test.YtbhjjheefdilbaaPayC8
import Derived.Test.YtbhjjheefdilbaaPayC12
import Derived.Test.YtbhjjheefdilbaaPayC16
import Derived.Test.YtbhjjheefdilbaaPayC17
import Derived.Test.YtbhjjheefdilbaaPayC18
import Derived.Test.YtbhjjheefdilbaaPaySh0
import Derived.Test.YtbhjjheefdilbaaPaySh1
set_option linter.unusedSimpArgs false
set_option linter.unusedVariables false
namespace Pay
open Go
attribute [local irreducible] wpB opsB treeB drawB

structure MoreK (C : Ctx) : Prop where
  awake : SoundAt C 4 ⟨[], looko []⟩ ⟨vB true, looko []⟩
  refs : ∀ l : List Ent, SoundAt C 3 ⟨[vBook l], looko []⟩ ⟨.tup [vEnts (refsR l), vB (refsB l)], looko []⟩
  known : ∀ (l : List Ent) (id per : Int), l.length < 1000 → (∀ e ∈ l, okE e) → SoundAt C 28 ⟨[vBook l, vI id, vI per], looko []⟩ ⟨vSums (knownS l id per), looko []⟩
  bal : ∀ (l : List Ent) (id : Int) (os : List Ord), l.length < 1000 → os.length < 1000 → (∀ e ∈ l, okE e) → SoundAt C 26 ⟨[vBook l, vI id, .d (.sl (os.map encO))], looko []⟩ ⟨.d (.sl ((balS l id os).map encO)), looko []⟩
  sameY : ∀ y : Yr, y.paid.length < 1000 → y.owed.length < 1000 → SoundAt C 27 ⟨[vYear y, vYear y], looko []⟩ ⟨vB true, looko []⟩

theorem fold_len (year : Int) : ∀ (A : List Ent) (y : Yr), (A.foldl (yStep year) y).paid.length = y.paid.length ∧ (A.foldl (yStep year) y).owed.length = y.owed.length
  | [], y => ⟨rfl, rfl⟩
  | e :: A, y => by
    obtain ⟨h1, h2⟩ := fold_len year A (yStep year y e)
    obtain ⟨h3, h4⟩ := yStep_len year y e
    exact ⟨h1.trans h3, h2.trans h4⟩
theorem year_len (l : List Ent) (id year : Int) : (yearS l id year 6).paid.length < 1000 ∧ (yearS l id year 6).owed.length < 1000 := by
  obtain ⟨h1, h2⟩ := fold_len year (aliveS l id) (yZero 6)
  have h3 : (yZero 6).paid.length = 6 := by decide
  have h4 : (yZero 6).owed.length = 6 := by decide
  unfold yearS
  omega
theorem bal_len : ∀ (A : List Ent) (os : List Ord), (A.foldl balStep os).length = os.length
  | [], os => rfl
  | e :: A, os => by rw [List.foldl_cons, bal_len A, balStep]; simp

theorem more_loop0 {C : Ctx} (hAwake : SoundAt C 4 ⟨[], looko []⟩ ⟨vB true, looko []⟩) {I : Nat → Prop} (hI : ∀ n, ¬ I n) {Q : Ex → St → Prop} {l : List Ent} {e : Ent} {id per : Int} {os : List Ord} (hl : l.length < 1000)
    (hT : Q (.exit 0) (St.mk (look [(2, vI id), (3, vI per), (4, .d (.sl (os.map encO))), (5, .ptr 5 0), (6, .ptr 6 0), (55, vEnts l), (56, vI l.length), (57, vI l.length), (58, vB false)]) (looko [(5, some (.box [vEnts l])), (6, some (.box ((enc e).map V.d)))])))
    (hF : ∀ o, Q .ret (St.mk (look [(10, vB true)]) o)) :
    ∀ (n k : Nat), k + n = l.length →
      wpB C I g_law17_BookMore.l0 (St.mk (look [(2, vI id), (3, vI per), (4, .d (.sl (os.map encO))), (5, .ptr 5 0), (6, .ptr 6 0), (55, vEnts l), (56, vI l.length), (57, vI k)]) (looko [(5, some (.box [vEnts l])), (6, some (.box ((enc e).map V.d)))])) Q := by
  intro n
  induction n with
  | zero =>
    intro k hk
    refine g_law17_BookMore_l0_sh rfl ?_
    have hk' : k = l.length := by omega
    subst hk'
    simp only [go_sem, ↓reduceIte, Nat.reduceEqDiff, Nat.reduceAdd, Nat.reduceSub, Nat.reduceMul, Nat.reduceLeDiff, Nat.reduceBEq, reduceCtorEq, Nat.reduceEqDiff, Int.reduceEq, Int.reduceLT, Int.reduceLE, Int.reduceNeg, Int.reduceBEq, Int.reduceBNe, Int.reduceToNat, Int.reducePow, Int.lt_irrefl, decide_false]
    exact hT
  | succ n ih =>
    intro k hk
    refine g_law17_BookMore_l0_sh rfl ?_
    have hlt : k < l.length := by omega
    have he := List.getElem?_eq_getElem hlt
    have hlt' : ((k : Int) < (l.length : Int)) := by omega
    have hw : IntKind.i64.wrap ((k : Int) + 1) = (k : Int) + 1 := wrapI (by omega) (by omega)
    by_cases h1 : l[k].back > (l.length : Int)
    · repeat (first | simp only [go_sem, ↓reduceIte, Nat.reduceEqDiff, Nat.reduceAdd, Nat.reduceSub, Nat.reduceMul, Nat.reduceLeDiff, Nat.reduceBEq, reduceCtorEq, Nat.reduceEqDiff, Int.reduceEq, Int.reduceLT, Int.reduceLE, Int.reduceNeg, Int.reduceBEq, Int.reduceBNe, Int.reduceToNat, Int.reducePow, hI, hlt', Int.natCast_nonneg, Int.toNat_natCast, getMap enc he, List.getElem?_map, enc_g4, List.length_map, h1] | refine g_law17_BookMore_c1_sh.mpr ?_)
      refine callK_plain hAwake (fun _ => rfl) ?_
      repeat (first | simp only [go_sem, ↓reduceIte, Nat.reduceEqDiff, Nat.reduceAdd, Nat.reduceSub, Nat.reduceMul, Nat.reduceLeDiff, Nat.reduceBEq, reduceCtorEq, Nat.reduceEqDiff, Int.reduceEq, Int.reduceLT, Int.reduceLE, Int.reduceNeg, Int.reduceBEq, Int.reduceBNe, Int.reduceToNat, Int.reducePow] | refine g_law17_BookMore_c1_sh.mpr ?_)
      exact hF _
    · repeat (first | simp only [go_sem, ↓reduceIte, Nat.reduceEqDiff, Nat.reduceAdd, Nat.reduceSub, Nat.reduceMul, Nat.reduceLeDiff, Nat.reduceBEq, reduceCtorEq, Nat.reduceEqDiff, Int.reduceEq, Int.reduceLT, Int.reduceLE, Int.reduceNeg, Int.reduceBEq, Int.reduceBNe, Int.reduceToNat, Int.reducePow, hI, hlt', Int.natCast_nonneg, Int.toNat_natCast, getMap enc he, List.getElem?_map, enc_g4, List.length_map, h1, hw] | refine g_law17_BookMore_c1_sh.mpr ?_ | refine g_law17_BookMore_c2_sh.mpr ?_)
      exact ih (k + 1) (by omega)

theorem more_loop1 {C : Ctx} {I : Nat → Prop} (hI : ∀ n, ¬ I n) {Q : Ex → St → Prop} {id per : Int} {os : List Ord} {o5 o17 o19 o20 : Ob} (hl : os.length < 1000)
    (hq : ∀ vs, quietL vs [(5, some o5), (17, some o17), (19, some o19), (20, some o20)] = true)
    (hT : ∀ s, s 2 = vI id → s 3 = vI per → s 5 = .ptr 5 0 → s 17 = .ptr 17 0 → s 19 = .ptr 19 0 → s 20 = .ptr 20 0 → Q (.exit 2) (St.mk s (looko [(5, some o5), (17, some o17), (19, some o19), (20, some o20)]))) :
    ∀ (n k : Nat), k + n = os.length →
      wpB C I g_law17_BookMore.l1 (St.mk (look [(2, vI id), (3, vI per), (5, .ptr 5 0), (17, .ptr 17 0), (19, .ptr 19 0), (20, .ptr 20 0), (21, .d (.sl (os.map encO))), (22, .d (.sl (os.map encO))), (106, vI os.length), (107, vI k)])
        (looko [(5, some o5), (17, some o17), (19, some o19), (20, some o20)])) Q := by
  intro n
  induction n with
  | zero =>
    intro k hk
    refine g_law17_BookMore_l1_sh rfl ?_
    have hk' : k = os.length := by omega
    subst hk'
    simp only [go_sem, ↓reduceIte, Nat.reduceEqDiff, Nat.reduceAdd, Nat.reduceSub, Nat.reduceMul, Nat.reduceLeDiff, Nat.reduceBEq, reduceCtorEq, Nat.reduceEqDiff, Int.reduceEq, Int.reduceLT, Int.reduceLE, Int.reduceNeg, Int.reduceBEq, Int.reduceBNe, Int.reduceToNat, Int.reducePow, Int.lt_irrefl, decide_false]
    exact hT _ rfl rfl rfl rfl rfl rfl
  | succ n ih =>
    intro k hk
    refine g_law17_BookMore_l1_sh rfl ?_
    have hlt : k < os.length := by omega
    have he := List.getElem?_eq_getElem hlt
    have hlt' : ((k : Int) < (os.length : Int)) := by omega
    have hw : IntKind.i64.wrap ((k : Int) + 1) = (k : Int) + 1 := wrapI (by omega) (by omega)
    have hq' : ∀ vs, quietV (looko [(5, some o5), (17, some o17), (19, some o19), (20, some o20)]) vs = True := fun vs => eq_true (quiet_mem (hq vs))
    repeat (first | simp only [go_sem, ↓reduceIte, Nat.reduceEqDiff, Nat.reduceAdd, Nat.reduceSub, Nat.reduceMul, Nat.reduceLeDiff, Nat.reduceBEq, reduceCtorEq, Nat.reduceEqDiff, Int.reduceEq, Int.reduceLT, Int.reduceLE, Int.reduceNeg, Int.reduceBEq, Int.reduceBNe, Int.reduceToNat, Int.reducePow, hq', hlt', Int.natCast_nonneg, Int.toNat_natCast, getMap encO he, encO, bne_self_eq_false, hw] | refine g_law17_BookMore_c5_sh.mpr ?_)
    exact ih (k + 1) (by omega)

theorem more_c7 {C : Ctx} (B : BookK C) (K : MoreK C) {I : Nat → Prop} (hI : ∀ n, ¬ I n) {Q : Ex → St → Prop} {id per : Int} {l l' : List Ent} {y : Yr} (hl : l.length < 1000) (hl' : l'.length < 1000) (hok : ∀ e ∈ l, okE e) (hok' : ∀ e ∈ l', okE e)
    (hy : y.paid.length < 1000 ∧ y.owed.length < 1000) (hk : knownS l' id per = knownS l id per) (hf : findS l' id per = findS l id per)
    (hQ : ∀ o, Q .ret (St.mk (look [(10, vB true)]) o)) :
    wpB C I g_law17_BookMore.c7 (St.mk (look [(2, vI id), (3, vI per), (5, .ptr 5 0), (17, .ptr 17 0), (19, .ptr 19 0), (20, .ptr 20 0)])
      (looko [(5, some (.box [vEnts l])), (17, some (.box [vEnts l'])), (19, some (boxY y)), (20, some (boxY y))])) Q := by
  repeat (first | simp only [go_sem, ↓reduceIte, Nat.reduceEqDiff, Nat.reduceAdd, Nat.reduceSub, Nat.reduceMul, Nat.reduceLeDiff, Nat.reduceBEq, reduceCtorEq, Nat.reduceEqDiff, Int.reduceEq, Int.reduceLT, Int.reduceLE, Int.reduceNeg, Int.reduceBEq, Int.reduceBNe, Int.reduceToNat, Int.reducePow] | refine g_law17_BookMore_o5_sh.mpr ?_ | refine g_law17_BookMore_o4_sh.mpr ?_ | refine g_law17_BookMore_o3_sh.mpr ?_ | refine g_law17_BookMore_o2_sh.mpr ?_ | refine g_law17_BookMore_o1_sh.mpr ?_ | refine g_law17_BookMore_o0_sh.mpr ?_ | refine g_law17_BookMore_c0_sh.mpr ?_ | refine g_law17_BookMore_c1_sh.mpr ?_ | refine g_law17_BookMore_c2_sh.mpr ?_ | refine g_law17_BookMore_c3_sh.mpr ?_ | refine g_law17_BookMore_t16_sh.mpr ?_ | refine g_law17_BookMore_t17_sh.mpr ?_ | refine g_law17_BookMore_t18_sh.mpr ?_ | refine g_law17_BookMore_t19_sh.mpr ?_ | refine g_law17_BookMore_t20_sh.mpr ?_ | refine g_law17_BookMore_t21_sh.mpr ?_ | refine g_law17_BookMore_i15_sh.mpr ?_ | refine g_law17_BookMore_i14_sh.mpr ?_ | refine g_law17_BookMore_i13_sh.mpr ?_ | refine g_law17_BookMore_i12_sh.mpr ?_ | refine g_law17_BookMore_i11_sh.mpr ?_ | refine g_law17_BookMore_i10_sh.mpr ?_ | refine g_law17_BookMore_i9_sh.mpr ?_ | refine g_law17_BookMore_i8_sh.mpr ?_ | refine g_law17_BookMore_i7_sh.mpr ?_ | refine g_law17_BookMore_o23_sh.mpr ?_ | refine g_law17_BookMore_o22_sh.mpr ?_ | refine g_law17_BookMore_c4_sh.mpr ?_ | refine g_law17_BookMore_c5_sh.mpr ?_ | refine g_law17_BookMore_i52_sh.mpr ?_ | refine g_law17_BookMore_i51_sh.mpr ?_ | refine g_law17_BookMore_i50_sh.mpr ?_ | refine g_law17_BookMore_i49_sh.mpr ?_ | refine g_law17_BookMore_i48_sh.mpr ?_ | refine g_law17_BookMore_i47_sh.mpr ?_ | refine g_law17_BookMore_i46_sh.mpr ?_ | refine g_law17_BookMore_i45_sh.mpr ?_ | refine g_law17_BookMore_i44_sh.mpr ?_ | refine g_law17_BookMore_i43_sh.mpr ?_ | refine g_law17_BookMore_i42_sh.mpr ?_ | refine g_law17_BookMore_i41_sh.mpr ?_ | refine g_law17_BookMore_i40_sh.mpr ?_ | refine g_law17_BookMore_i39_sh.mpr ?_ | refine g_law17_BookMore_i38_sh.mpr ?_ | refine g_law17_BookMore_i37_sh.mpr ?_ | refine g_law17_BookMore_i36_sh.mpr ?_ | refine g_law17_BookMore_i35_sh.mpr ?_ | refine g_law17_BookMore_i34_sh.mpr ?_ | refine g_law17_BookMore_i33_sh.mpr ?_ | refine g_law17_BookMore_i32_sh.mpr ?_ | refine g_law17_BookMore_i31_sh.mpr ?_ | refine g_law17_BookMore_i30_sh.mpr ?_ | refine g_law17_BookMore_i29_sh.mpr ?_ | refine g_law17_BookMore_i28_sh.mpr ?_ | refine g_law17_BookMore_i27_sh.mpr ?_ | refine g_law17_BookMore_i26_sh.mpr ?_ | refine g_law17_BookMore_i25_sh.mpr ?_ | refine g_law17_BookMore_c6_sh.mpr ?_ | refine g_law17_BookMore_c7_sh.mpr ?_ | refine g_law17_BookMore_c8_sh.mpr ?_ | refine g_law17_BookMore_c9_sh.mpr ?_ | refine g_law17_BookMore_c10_sh.mpr ?_ | refine g_law17_BookMore_c11_sh.mpr ?_ | refine g_law17_BookMore_c12_sh.mpr ?_ | refine g_law17_BookMore_c13_sh.mpr ?_ | refine g_law17_BookMore_c14_sh.mpr ?_ | refine g_law17_BookMore_c15_sh.mpr ?_ | refine g_law17_BookMore_code_sh.mpr ?_)
  refine ⟨_, K.sameY y hy.1 hy.2, fun _ => rfl, ?_⟩
  repeat (first | simp only [go_sem, ↓reduceIte, Nat.reduceEqDiff, Nat.reduceAdd, Nat.reduceSub, Nat.reduceMul, Nat.reduceLeDiff, Nat.reduceBEq, reduceCtorEq, Nat.reduceEqDiff, Int.reduceEq, Int.reduceLT, Int.reduceLE, Int.reduceNeg, Int.reduceBEq, Int.reduceBNe, Int.reduceToNat, Int.reducePow] | refine g_law17_BookMore_o5_sh.mpr ?_ | refine g_law17_BookMore_o4_sh.mpr ?_ | refine g_law17_BookMore_o3_sh.mpr ?_ | refine g_law17_BookMore_o2_sh.mpr ?_ | refine g_law17_BookMore_o1_sh.mpr ?_ | refine g_law17_BookMore_o0_sh.mpr ?_ | refine g_law17_BookMore_c0_sh.mpr ?_ | refine g_law17_BookMore_c1_sh.mpr ?_ | refine g_law17_BookMore_c2_sh.mpr ?_ | refine g_law17_BookMore_c3_sh.mpr ?_ | refine g_law17_BookMore_t16_sh.mpr ?_ | refine g_law17_BookMore_t17_sh.mpr ?_ | refine g_law17_BookMore_t18_sh.mpr ?_ | refine g_law17_BookMore_t19_sh.mpr ?_ | refine g_law17_BookMore_t20_sh.mpr ?_ | refine g_law17_BookMore_t21_sh.mpr ?_ | refine g_law17_BookMore_i15_sh.mpr ?_ | refine g_law17_BookMore_i14_sh.mpr ?_ | refine g_law17_BookMore_i13_sh.mpr ?_ | refine g_law17_BookMore_i12_sh.mpr ?_ | refine g_law17_BookMore_i11_sh.mpr ?_ | refine g_law17_BookMore_i10_sh.mpr ?_ | refine g_law17_BookMore_i9_sh.mpr ?_ | refine g_law17_BookMore_i8_sh.mpr ?_ | refine g_law17_BookMore_i7_sh.mpr ?_ | refine g_law17_BookMore_o23_sh.mpr ?_ | refine g_law17_BookMore_o22_sh.mpr ?_ | refine g_law17_BookMore_c4_sh.mpr ?_ | refine g_law17_BookMore_c5_sh.mpr ?_ | refine g_law17_BookMore_i52_sh.mpr ?_ | refine g_law17_BookMore_i51_sh.mpr ?_ | refine g_law17_BookMore_i50_sh.mpr ?_ | refine g_law17_BookMore_i49_sh.mpr ?_ | refine g_law17_BookMore_i48_sh.mpr ?_ | refine g_law17_BookMore_i47_sh.mpr ?_ | refine g_law17_BookMore_i46_sh.mpr ?_ | refine g_law17_BookMore_i45_sh.mpr ?_ | refine g_law17_BookMore_i44_sh.mpr ?_ | refine g_law17_BookMore_i43_sh.mpr ?_ | refine g_law17_BookMore_i42_sh.mpr ?_ | refine g_law17_BookMore_i41_sh.mpr ?_ | refine g_law17_BookMore_i40_sh.mpr ?_ | refine g_law17_BookMore_i39_sh.mpr ?_ | refine g_law17_BookMore_i38_sh.mpr ?_ | refine g_law17_BookMore_i37_sh.mpr ?_ | refine g_law17_BookMore_i36_sh.mpr ?_ | refine g_law17_BookMore_i35_sh.mpr ?_ | refine g_law17_BookMore_i34_sh.mpr ?_ | refine g_law17_BookMore_i33_sh.mpr ?_ | refine g_law17_BookMore_i32_sh.mpr ?_ | refine g_law17_BookMore_i31_sh.mpr ?_ | refine g_law17_BookMore_i30_sh.mpr ?_ | refine g_law17_BookMore_i29_sh.mpr ?_ | refine g_law17_BookMore_i28_sh.mpr ?_ | refine g_law17_BookMore_i27_sh.mpr ?_ | refine g_law17_BookMore_i26_sh.mpr ?_ | refine g_law17_BookMore_i25_sh.mpr ?_ | refine g_law17_BookMore_c6_sh.mpr ?_ | refine g_law17_BookMore_c7_sh.mpr ?_ | refine g_law17_BookMore_c8_sh.mpr ?_ | refine g_law17_BookMore_c9_sh.mpr ?_ | refine g_law17_BookMore_c10_sh.mpr ?_ | refine g_law17_BookMore_c11_sh.mpr ?_ | refine g_law17_BookMore_c12_sh.mpr ?_ | refine g_law17_BookMore_c13_sh.mpr ?_ | refine g_law17_BookMore_c14_sh.mpr ?_ | refine g_law17_BookMore_c15_sh.mpr ?_ | refine g_law17_BookMore_code_sh.mpr ?_)
  refine ⟨_, K.known l id per hl hok, fun _ => rfl, ?_⟩
  repeat (first | simp only [go_sem, ↓reduceIte, Nat.reduceEqDiff, Nat.reduceAdd, Nat.reduceSub, Nat.reduceMul, Nat.reduceLeDiff, Nat.reduceBEq, reduceCtorEq, Nat.reduceEqDiff, Int.reduceEq, Int.reduceLT, Int.reduceLE, Int.reduceNeg, Int.reduceBEq, Int.reduceBNe, Int.reduceToNat, Int.reducePow] | refine g_law17_BookMore_o5_sh.mpr ?_ | refine g_law17_BookMore_o4_sh.mpr ?_ | refine g_law17_BookMore_o3_sh.mpr ?_ | refine g_law17_BookMore_o2_sh.mpr ?_ | refine g_law17_BookMore_o1_sh.mpr ?_ | refine g_law17_BookMore_o0_sh.mpr ?_ | refine g_law17_BookMore_c0_sh.mpr ?_ | refine g_law17_BookMore_c1_sh.mpr ?_ | refine g_law17_BookMore_c2_sh.mpr ?_ | refine g_law17_BookMore_c3_sh.mpr ?_ | refine g_law17_BookMore_t16_sh.mpr ?_ | refine g_law17_BookMore_t17_sh.mpr ?_ | refine g_law17_BookMore_t18_sh.mpr ?_ | refine g_law17_BookMore_t19_sh.mpr ?_ | refine g_law17_BookMore_t20_sh.mpr ?_ | refine g_law17_BookMore_t21_sh.mpr ?_ | refine g_law17_BookMore_i15_sh.mpr ?_ | refine g_law17_BookMore_i14_sh.mpr ?_ | refine g_law17_BookMore_i13_sh.mpr ?_ | refine g_law17_BookMore_i12_sh.mpr ?_ | refine g_law17_BookMore_i11_sh.mpr ?_ | refine g_law17_BookMore_i10_sh.mpr ?_ | refine g_law17_BookMore_i9_sh.mpr ?_ | refine g_law17_BookMore_i8_sh.mpr ?_ | refine g_law17_BookMore_i7_sh.mpr ?_ | refine g_law17_BookMore_o23_sh.mpr ?_ | refine g_law17_BookMore_o22_sh.mpr ?_ | refine g_law17_BookMore_c4_sh.mpr ?_ | refine g_law17_BookMore_c5_sh.mpr ?_ | refine g_law17_BookMore_i52_sh.mpr ?_ | refine g_law17_BookMore_i51_sh.mpr ?_ | refine g_law17_BookMore_i50_sh.mpr ?_ | refine g_law17_BookMore_i49_sh.mpr ?_ | refine g_law17_BookMore_i48_sh.mpr ?_ | refine g_law17_BookMore_i47_sh.mpr ?_ | refine g_law17_BookMore_i46_sh.mpr ?_ | refine g_law17_BookMore_i45_sh.mpr ?_ | refine g_law17_BookMore_i44_sh.mpr ?_ | refine g_law17_BookMore_i43_sh.mpr ?_ | refine g_law17_BookMore_i42_sh.mpr ?_ | refine g_law17_BookMore_i41_sh.mpr ?_ | refine g_law17_BookMore_i40_sh.mpr ?_ | refine g_law17_BookMore_i39_sh.mpr ?_ | refine g_law17_BookMore_i38_sh.mpr ?_ | refine g_law17_BookMore_i37_sh.mpr ?_ | refine g_law17_BookMore_i36_sh.mpr ?_ | refine g_law17_BookMore_i35_sh.mpr ?_ | refine g_law17_BookMore_i34_sh.mpr ?_ | refine g_law17_BookMore_i33_sh.mpr ?_ | refine g_law17_BookMore_i32_sh.mpr ?_ | refine g_law17_BookMore_i31_sh.mpr ?_ | refine g_law17_BookMore_i30_sh.mpr ?_ | refine g_law17_BookMore_i29_sh.mpr ?_ | refine g_law17_BookMore_i28_sh.mpr ?_ | refine g_law17_BookMore_i27_sh.mpr ?_ | refine g_law17_BookMore_i26_sh.mpr ?_ | refine g_law17_BookMore_i25_sh.mpr ?_ | refine g_law17_BookMore_c6_sh.mpr ?_ | refine g_law17_BookMore_c7_sh.mpr ?_ | refine g_law17_BookMore_c8_sh.mpr ?_ | refine g_law17_BookMore_c9_sh.mpr ?_ | refine g_law17_BookMore_c10_sh.mpr ?_ | refine g_law17_BookMore_c11_sh.mpr ?_ | refine g_law17_BookMore_c12_sh.mpr ?_ | refine g_law17_BookMore_c13_sh.mpr ?_ | refine g_law17_BookMore_c14_sh.mpr ?_ | refine g_law17_BookMore_c15_sh.mpr ?_ | refine g_law17_BookMore_code_sh.mpr ?_)
  refine ⟨_, K.known l' id per hl' hok', fun _ => rfl, ?_⟩
  rw [hk]
  generalize knownS l id per = z
  repeat (first | simp only [go_sem, ↓reduceIte, Nat.reduceEqDiff, Nat.reduceAdd, Nat.reduceSub, Nat.reduceMul, Nat.reduceLeDiff, Nat.reduceBEq, reduceCtorEq, Nat.reduceEqDiff, Int.reduceEq, Int.reduceLT, Int.reduceLE, Int.reduceNeg, Int.reduceBEq, Int.reduceBNe, Int.reduceToNat, Int.reducePow, encS] | refine g_law17_BookMore_o5_sh.mpr ?_ | refine g_law17_BookMore_o4_sh.mpr ?_ | refine g_law17_BookMore_o3_sh.mpr ?_ | refine g_law17_BookMore_o2_sh.mpr ?_ | refine g_law17_BookMore_o1_sh.mpr ?_ | refine g_law17_BookMore_o0_sh.mpr ?_ | refine g_law17_BookMore_c0_sh.mpr ?_ | refine g_law17_BookMore_c1_sh.mpr ?_ | refine g_law17_BookMore_c2_sh.mpr ?_ | refine g_law17_BookMore_c3_sh.mpr ?_ | refine g_law17_BookMore_t16_sh.mpr ?_ | refine g_law17_BookMore_t17_sh.mpr ?_ | refine g_law17_BookMore_t18_sh.mpr ?_ | refine g_law17_BookMore_t19_sh.mpr ?_ | refine g_law17_BookMore_t20_sh.mpr ?_ | refine g_law17_BookMore_t21_sh.mpr ?_ | refine g_law17_BookMore_i15_sh.mpr ?_ | refine g_law17_BookMore_i14_sh.mpr ?_ | refine g_law17_BookMore_i13_sh.mpr ?_ | refine g_law17_BookMore_i12_sh.mpr ?_ | refine g_law17_BookMore_i11_sh.mpr ?_ | refine g_law17_BookMore_i10_sh.mpr ?_ | refine g_law17_BookMore_i9_sh.mpr ?_ | refine g_law17_BookMore_i8_sh.mpr ?_ | refine g_law17_BookMore_i7_sh.mpr ?_ | refine g_law17_BookMore_o23_sh.mpr ?_ | refine g_law17_BookMore_o22_sh.mpr ?_ | refine g_law17_BookMore_c4_sh.mpr ?_ | refine g_law17_BookMore_c5_sh.mpr ?_ | refine g_law17_BookMore_i52_sh.mpr ?_ | refine g_law17_BookMore_i51_sh.mpr ?_ | refine g_law17_BookMore_i50_sh.mpr ?_ | refine g_law17_BookMore_i49_sh.mpr ?_ | refine g_law17_BookMore_i48_sh.mpr ?_ | refine g_law17_BookMore_i47_sh.mpr ?_ | refine g_law17_BookMore_i46_sh.mpr ?_ | refine g_law17_BookMore_i45_sh.mpr ?_ | refine g_law17_BookMore_i44_sh.mpr ?_ | refine g_law17_BookMore_i43_sh.mpr ?_ | refine g_law17_BookMore_i42_sh.mpr ?_ | refine g_law17_BookMore_i41_sh.mpr ?_ | refine g_law17_BookMore_i40_sh.mpr ?_ | refine g_law17_BookMore_i39_sh.mpr ?_ | refine g_law17_BookMore_i38_sh.mpr ?_ | refine g_law17_BookMore_i37_sh.mpr ?_ | refine g_law17_BookMore_i36_sh.mpr ?_ | refine g_law17_BookMore_i35_sh.mpr ?_ | refine g_law17_BookMore_i34_sh.mpr ?_ | refine g_law17_BookMore_i33_sh.mpr ?_ | refine g_law17_BookMore_i32_sh.mpr ?_ | refine g_law17_BookMore_i31_sh.mpr ?_ | refine g_law17_BookMore_i30_sh.mpr ?_ | refine g_law17_BookMore_i29_sh.mpr ?_ | refine g_law17_BookMore_i28_sh.mpr ?_ | refine g_law17_BookMore_i27_sh.mpr ?_ | refine g_law17_BookMore_i26_sh.mpr ?_ | refine g_law17_BookMore_i25_sh.mpr ?_ | refine g_law17_BookMore_c6_sh.mpr ?_ | refine g_law17_BookMore_c7_sh.mpr ?_ | refine g_law17_BookMore_c8_sh.mpr ?_ | refine g_law17_BookMore_c9_sh.mpr ?_ | refine g_law17_BookMore_c10_sh.mpr ?_ | refine g_law17_BookMore_c11_sh.mpr ?_ | refine g_law17_BookMore_c12_sh.mpr ?_ | refine g_law17_BookMore_c13_sh.mpr ?_ | refine g_law17_BookMore_c14_sh.mpr ?_ | refine g_law17_BookMore_c15_sh.mpr ?_ | refine g_law17_BookMore_code_sh.mpr ?_)
  refine ⟨_, B.find l id per hl, fun _ => rfl, ?_⟩
  repeat (first | simp only [go_sem, ↓reduceIte, Nat.reduceEqDiff, Nat.reduceAdd, Nat.reduceSub, Nat.reduceMul, Nat.reduceLeDiff, Nat.reduceBEq, reduceCtorEq, Nat.reduceEqDiff, Int.reduceEq, Int.reduceLT, Int.reduceLE, Int.reduceNeg, Int.reduceBEq, Int.reduceBNe, Int.reduceToNat, Int.reducePow] | refine g_law17_BookMore_o5_sh.mpr ?_ | refine g_law17_BookMore_o4_sh.mpr ?_ | refine g_law17_BookMore_o3_sh.mpr ?_ | refine g_law17_BookMore_o2_sh.mpr ?_ | refine g_law17_BookMore_o1_sh.mpr ?_ | refine g_law17_BookMore_o0_sh.mpr ?_ | refine g_law17_BookMore_c0_sh.mpr ?_ | refine g_law17_BookMore_c1_sh.mpr ?_ | refine g_law17_BookMore_c2_sh.mpr ?_ | refine g_law17_BookMore_c3_sh.mpr ?_ | refine g_law17_BookMore_t16_sh.mpr ?_ | refine g_law17_BookMore_t17_sh.mpr ?_ | refine g_law17_BookMore_t18_sh.mpr ?_ | refine g_law17_BookMore_t19_sh.mpr ?_ | refine g_law17_BookMore_t20_sh.mpr ?_ | refine g_law17_BookMore_t21_sh.mpr ?_ | refine g_law17_BookMore_i15_sh.mpr ?_ | refine g_law17_BookMore_i14_sh.mpr ?_ | refine g_law17_BookMore_i13_sh.mpr ?_ | refine g_law17_BookMore_i12_sh.mpr ?_ | refine g_law17_BookMore_i11_sh.mpr ?_ | refine g_law17_BookMore_i10_sh.mpr ?_ | refine g_law17_BookMore_i9_sh.mpr ?_ | refine g_law17_BookMore_i8_sh.mpr ?_ | refine g_law17_BookMore_i7_sh.mpr ?_ | refine g_law17_BookMore_o23_sh.mpr ?_ | refine g_law17_BookMore_o22_sh.mpr ?_ | refine g_law17_BookMore_c4_sh.mpr ?_ | refine g_law17_BookMore_c5_sh.mpr ?_ | refine g_law17_BookMore_i52_sh.mpr ?_ | refine g_law17_BookMore_i51_sh.mpr ?_ | refine g_law17_BookMore_i50_sh.mpr ?_ | refine g_law17_BookMore_i49_sh.mpr ?_ | refine g_law17_BookMore_i48_sh.mpr ?_ | refine g_law17_BookMore_i47_sh.mpr ?_ | refine g_law17_BookMore_i46_sh.mpr ?_ | refine g_law17_BookMore_i45_sh.mpr ?_ | refine g_law17_BookMore_i44_sh.mpr ?_ | refine g_law17_BookMore_i43_sh.mpr ?_ | refine g_law17_BookMore_i42_sh.mpr ?_ | refine g_law17_BookMore_i41_sh.mpr ?_ | refine g_law17_BookMore_i40_sh.mpr ?_ | refine g_law17_BookMore_i39_sh.mpr ?_ | refine g_law17_BookMore_i38_sh.mpr ?_ | refine g_law17_BookMore_i37_sh.mpr ?_ | refine g_law17_BookMore_i36_sh.mpr ?_ | refine g_law17_BookMore_i35_sh.mpr ?_ | refine g_law17_BookMore_i34_sh.mpr ?_ | refine g_law17_BookMore_i33_sh.mpr ?_ | refine g_law17_BookMore_i32_sh.mpr ?_ | refine g_law17_BookMore_i31_sh.mpr ?_ | refine g_law17_BookMore_i30_sh.mpr ?_ | refine g_law17_BookMore_i29_sh.mpr ?_ | refine g_law17_BookMore_i28_sh.mpr ?_ | refine g_law17_BookMore_i27_sh.mpr ?_ | refine g_law17_BookMore_i26_sh.mpr ?_ | refine g_law17_BookMore_i25_sh.mpr ?_ | refine g_law17_BookMore_c6_sh.mpr ?_ | refine g_law17_BookMore_c7_sh.mpr ?_ | refine g_law17_BookMore_c8_sh.mpr ?_ | refine g_law17_BookMore_c9_sh.mpr ?_ | refine g_law17_BookMore_c10_sh.mpr ?_ | refine g_law17_BookMore_c11_sh.mpr ?_ | refine g_law17_BookMore_c12_sh.mpr ?_ | refine g_law17_BookMore_c13_sh.mpr ?_ | refine g_law17_BookMore_c14_sh.mpr ?_ | refine g_law17_BookMore_c15_sh.mpr ?_ | refine g_law17_BookMore_code_sh.mpr ?_)
  refine ⟨_, B.find l' id per hl', fun _ => rfl, ?_⟩
  rw [hf]
  repeat (first | simp only [go_sem, ↓reduceIte, Nat.reduceEqDiff, Nat.reduceAdd, Nat.reduceSub, Nat.reduceMul, Nat.reduceLeDiff, Nat.reduceBEq, reduceCtorEq, Nat.reduceEqDiff, Int.reduceEq, Int.reduceLT, Int.reduceLE, Int.reduceNeg, Int.reduceBEq, Int.reduceBNe, Int.reduceToNat, Int.reducePow] | refine g_law17_BookMore_o5_sh.mpr ?_ | refine g_law17_BookMore_o4_sh.mpr ?_ | refine g_law17_BookMore_o3_sh.mpr ?_ | refine g_law17_BookMore_o2_sh.mpr ?_ | refine g_law17_BookMore_o1_sh.mpr ?_ | refine g_law17_BookMore_o0_sh.mpr ?_ | refine g_law17_BookMore_c0_sh.mpr ?_ | refine g_law17_BookMore_c1_sh.mpr ?_ | refine g_law17_BookMore_c2_sh.mpr ?_ | refine g_law17_BookMore_c3_sh.mpr ?_ | refine g_law17_BookMore_t16_sh.mpr ?_ | refine g_law17_BookMore_t17_sh.mpr ?_ | refine g_law17_BookMore_t18_sh.mpr ?_ | refine g_law17_BookMore_t19_sh.mpr ?_ | refine g_law17_BookMore_t20_sh.mpr ?_ | refine g_law17_BookMore_t21_sh.mpr ?_ | refine g_law17_BookMore_i15_sh.mpr ?_ | refine g_law17_BookMore_i14_sh.mpr ?_ | refine g_law17_BookMore_i13_sh.mpr ?_ | refine g_law17_BookMore_i12_sh.mpr ?_ | refine g_law17_BookMore_i11_sh.mpr ?_ | refine g_law17_BookMore_i10_sh.mpr ?_ | refine g_law17_BookMore_i9_sh.mpr ?_ | refine g_law17_BookMore_i8_sh.mpr ?_ | refine g_law17_BookMore_i7_sh.mpr ?_ | refine g_law17_BookMore_o23_sh.mpr ?_ | refine g_law17_BookMore_o22_sh.mpr ?_ | refine g_law17_BookMore_c4_sh.mpr ?_ | refine g_law17_BookMore_c5_sh.mpr ?_ | refine g_law17_BookMore_i52_sh.mpr ?_ | refine g_law17_BookMore_i51_sh.mpr ?_ | refine g_law17_BookMore_i50_sh.mpr ?_ | refine g_law17_BookMore_i49_sh.mpr ?_ | refine g_law17_BookMore_i48_sh.mpr ?_ | refine g_law17_BookMore_i47_sh.mpr ?_ | refine g_law17_BookMore_i46_sh.mpr ?_ | refine g_law17_BookMore_i45_sh.mpr ?_ | refine g_law17_BookMore_i44_sh.mpr ?_ | refine g_law17_BookMore_i43_sh.mpr ?_ | refine g_law17_BookMore_i42_sh.mpr ?_ | refine g_law17_BookMore_i41_sh.mpr ?_ | refine g_law17_BookMore_i40_sh.mpr ?_ | refine g_law17_BookMore_i39_sh.mpr ?_ | refine g_law17_BookMore_i38_sh.mpr ?_ | refine g_law17_BookMore_i37_sh.mpr ?_ | refine g_law17_BookMore_i36_sh.mpr ?_ | refine g_law17_BookMore_i35_sh.mpr ?_ | refine g_law17_BookMore_i34_sh.mpr ?_ | refine g_law17_BookMore_i33_sh.mpr ?_ | refine g_law17_BookMore_i32_sh.mpr ?_ | refine g_law17_BookMore_i31_sh.mpr ?_ | refine g_law17_BookMore_i30_sh.mpr ?_ | refine g_law17_BookMore_i29_sh.mpr ?_ | refine g_law17_BookMore_i28_sh.mpr ?_ | refine g_law17_BookMore_i27_sh.mpr ?_ | refine g_law17_BookMore_i26_sh.mpr ?_ | refine g_law17_BookMore_i25_sh.mpr ?_ | refine g_law17_BookMore_c6_sh.mpr ?_ | refine g_law17_BookMore_c7_sh.mpr ?_ | refine g_law17_BookMore_c8_sh.mpr ?_ | refine g_law17_BookMore_c9_sh.mpr ?_ | refine g_law17_BookMore_c10_sh.mpr ?_ | refine g_law17_BookMore_c11_sh.mpr ?_ | refine g_law17_BookMore_c12_sh.mpr ?_ | refine g_law17_BookMore_c13_sh.mpr ?_ | refine g_law17_BookMore_c14_sh.mpr ?_ | refine g_law17_BookMore_c15_sh.mpr ?_ | refine g_law17_BookMore_code_sh.mpr ?_)
  refine ⟨_, K.awake, fun _ => rfl, ?_⟩
  repeat (first | simp only [go_sem, ↓reduceIte, Nat.reduceEqDiff, Nat.reduceAdd, Nat.reduceSub, Nat.reduceMul, Nat.reduceLeDiff, Nat.reduceBEq, reduceCtorEq, Nat.reduceEqDiff, Int.reduceEq, Int.reduceLT, Int.reduceLE, Int.reduceNeg, Int.reduceBEq, Int.reduceBNe, Int.reduceToNat, Int.reducePow] | refine g_law17_BookMore_o5_sh.mpr ?_ | refine g_law17_BookMore_o4_sh.mpr ?_ | refine g_law17_BookMore_o3_sh.mpr ?_ | refine g_law17_BookMore_o2_sh.mpr ?_ | refine g_law17_BookMore_o1_sh.mpr ?_ | refine g_law17_BookMore_o0_sh.mpr ?_ | refine g_law17_BookMore_c0_sh.mpr ?_ | refine g_law17_BookMore_c1_sh.mpr ?_ | refine g_law17_BookMore_c2_sh.mpr ?_ | refine g_law17_BookMore_c3_sh.mpr ?_ | refine g_law17_BookMore_t16_sh.mpr ?_ | refine g_law17_BookMore_t17_sh.mpr ?_ | refine g_law17_BookMore_t18_sh.mpr ?_ | refine g_law17_BookMore_t19_sh.mpr ?_ | refine g_law17_BookMore_t20_sh.mpr ?_ | refine g_law17_BookMore_t21_sh.mpr ?_ | refine g_law17_BookMore_i15_sh.mpr ?_ | refine g_law17_BookMore_i14_sh.mpr ?_ | refine g_law17_BookMore_i13_sh.mpr ?_ | refine g_law17_BookMore_i12_sh.mpr ?_ | refine g_law17_BookMore_i11_sh.mpr ?_ | refine g_law17_BookMore_i10_sh.mpr ?_ | refine g_law17_BookMore_i9_sh.mpr ?_ | refine g_law17_BookMore_i8_sh.mpr ?_ | refine g_law17_BookMore_i7_sh.mpr ?_ | refine g_law17_BookMore_o23_sh.mpr ?_ | refine g_law17_BookMore_o22_sh.mpr ?_ | refine g_law17_BookMore_c4_sh.mpr ?_ | refine g_law17_BookMore_c5_sh.mpr ?_ | refine g_law17_BookMore_i52_sh.mpr ?_ | refine g_law17_BookMore_i51_sh.mpr ?_ | refine g_law17_BookMore_i50_sh.mpr ?_ | refine g_law17_BookMore_i49_sh.mpr ?_ | refine g_law17_BookMore_i48_sh.mpr ?_ | refine g_law17_BookMore_i47_sh.mpr ?_ | refine g_law17_BookMore_i46_sh.mpr ?_ | refine g_law17_BookMore_i45_sh.mpr ?_ | refine g_law17_BookMore_i44_sh.mpr ?_ | refine g_law17_BookMore_i43_sh.mpr ?_ | refine g_law17_BookMore_i42_sh.mpr ?_ | refine g_law17_BookMore_i41_sh.mpr ?_ | refine g_law17_BookMore_i40_sh.mpr ?_ | refine g_law17_BookMore_i39_sh.mpr ?_ | refine g_law17_BookMore_i38_sh.mpr ?_ | refine g_law17_BookMore_i37_sh.mpr ?_ | refine g_law17_BookMore_i36_sh.mpr ?_ | refine g_law17_BookMore_i35_sh.mpr ?_ | refine g_law17_BookMore_i34_sh.mpr ?_ | refine g_law17_BookMore_i33_sh.mpr ?_ | refine g_law17_BookMore_i32_sh.mpr ?_ | refine g_law17_BookMore_i31_sh.mpr ?_ | refine g_law17_BookMore_i30_sh.mpr ?_ | refine g_law17_BookMore_i29_sh.mpr ?_ | refine g_law17_BookMore_i28_sh.mpr ?_ | refine g_law17_BookMore_i27_sh.mpr ?_ | refine g_law17_BookMore_i26_sh.mpr ?_ | refine g_law17_BookMore_i25_sh.mpr ?_ | refine g_law17_BookMore_c6_sh.mpr ?_ | refine g_law17_BookMore_c7_sh.mpr ?_ | refine g_law17_BookMore_c8_sh.mpr ?_ | refine g_law17_BookMore_c9_sh.mpr ?_ | refine g_law17_BookMore_c10_sh.mpr ?_ | refine g_law17_BookMore_c11_sh.mpr ?_ | refine g_law17_BookMore_c12_sh.mpr ?_ | refine g_law17_BookMore_c13_sh.mpr ?_ | refine g_law17_BookMore_c14_sh.mpr ?_ | refine g_law17_BookMore_c15_sh.mpr ?_ | refine g_law17_BookMore_code_sh.mpr ?_)
  exact hQ _

structure MoreL (l l' : List Ent) (id per : Int) : Prop where
  len : l.length < 1000
  len' : l'.length < 1000
  ok : ∀ e ∈ l, okE e
  ok' : ∀ e ∈ l', okE e
  alive : aliveS l' id = aliveS l id
  find : findS l' id per = findS l id per

theorem more_c10 {C : Ctx} (B : BookK C) (K : MoreK C) {I : Nat → Prop} (hI : ∀ n, ¬ I n) {Q : Ex → St → Prop} {id per : Int} {l l' : List Ent} {y : Yr} {os : List Ord} (L : MoreL l l' id per) (ho : os.length ≤ 40)
    (hy : y.paid.length < 1000 ∧ y.owed.length < 1000) (hQ : ∀ o, Q .ret (St.mk (look [(10, vB true)]) o)) :
    wpB C I g_law17_BookMore.c10 (St.mk (look [(2, vI id), (3, vI per), (4, .d (.sl (os.map encO))), (5, .ptr 5 0), (17, .ptr 17 0), (19, .ptr 19 0), (20, .ptr 20 0)])
      (looko [(5, some (.box [vEnts l])), (17, some (.box [vEnts l'])), (19, some (boxY y)), (20, some (boxY y))])) Q := by
  have hk : knownS l' id per = knownS l id per := by unfold knownS; rw [L.alive]
  have hb : balS l' id os = balS l id os := by unfold balS; rw [L.alive]
  have hbl : (balS l id os).length = os.length := bal_len _ _
  have hend := more_c7 B K hI (Q := Q) (y := y) L.len L.len' L.ok L.ok' hy hk L.find hQ
  refine g_law17_BookMore_c10_sh.mpr ?_
  repeat (first | simp only [go_sem, ↓reduceIte, Nat.reduceEqDiff, Nat.reduceAdd, Nat.reduceSub, Nat.reduceMul, Nat.reduceLeDiff, Nat.reduceBEq, reduceCtorEq, Nat.reduceEqDiff, Int.reduceEq, Int.reduceLT, Int.reduceLE, Int.reduceNeg, Int.reduceBEq, Int.reduceBNe, Int.reduceToNat, Int.reducePow] | refine g_law17_BookMore_i15_sh.mpr ?_ | refine g_law17_BookMore_i14_sh.mpr ?_ | refine g_law17_BookMore_i13_sh.mpr ?_ | refine g_law17_BookMore_i12_sh.mpr ?_ | refine g_law17_BookMore_i11_sh.mpr ?_ | refine g_law17_BookMore_i10_sh.mpr ?_ | refine g_law17_BookMore_i9_sh.mpr ?_ | refine g_law17_BookMore_i8_sh.mpr ?_ | refine g_law17_BookMore_i7_sh.mpr ?_ | refine g_law17_BookMore_i52_sh.mpr ?_ | refine g_law17_BookMore_i51_sh.mpr ?_ | refine g_law17_BookMore_i50_sh.mpr ?_ | refine g_law17_BookMore_i49_sh.mpr ?_ | refine g_law17_BookMore_i48_sh.mpr ?_ | refine g_law17_BookMore_i47_sh.mpr ?_ | refine g_law17_BookMore_i46_sh.mpr ?_ | refine g_law17_BookMore_i45_sh.mpr ?_ | refine g_law17_BookMore_i44_sh.mpr ?_ | refine g_law17_BookMore_i43_sh.mpr ?_ | refine g_law17_BookMore_i42_sh.mpr ?_ | refine g_law17_BookMore_i41_sh.mpr ?_ | refine g_law17_BookMore_i40_sh.mpr ?_ | refine g_law17_BookMore_i39_sh.mpr ?_ | refine g_law17_BookMore_i38_sh.mpr ?_ | refine g_law17_BookMore_i37_sh.mpr ?_ | refine g_law17_BookMore_i36_sh.mpr ?_ | refine g_law17_BookMore_i35_sh.mpr ?_ | refine g_law17_BookMore_i34_sh.mpr ?_ | refine g_law17_BookMore_i33_sh.mpr ?_ | refine g_law17_BookMore_i32_sh.mpr ?_ | refine g_law17_BookMore_i31_sh.mpr ?_ | refine g_law17_BookMore_i30_sh.mpr ?_ | refine g_law17_BookMore_i29_sh.mpr ?_ | refine g_law17_BookMore_i28_sh.mpr ?_ | refine g_law17_BookMore_i27_sh.mpr ?_ | refine g_law17_BookMore_i26_sh.mpr ?_ | refine g_law17_BookMore_i25_sh.mpr ?_)
  refine ⟨_, K.bal l id os L.len (by omega) L.ok, fun _ => rfl, ?_⟩
  repeat (first | simp only [go_sem, ↓reduceIte, Nat.reduceEqDiff, Nat.reduceAdd, Nat.reduceSub, Nat.reduceMul, Nat.reduceLeDiff, Nat.reduceBEq, reduceCtorEq, Nat.reduceEqDiff, Int.reduceEq, Int.reduceLT, Int.reduceLE, Int.reduceNeg, Int.reduceBEq, Int.reduceBNe, Int.reduceToNat, Int.reducePow] | refine g_law17_BookMore_i15_sh.mpr ?_ | refine g_law17_BookMore_i14_sh.mpr ?_ | refine g_law17_BookMore_i13_sh.mpr ?_ | refine g_law17_BookMore_i12_sh.mpr ?_ | refine g_law17_BookMore_i11_sh.mpr ?_ | refine g_law17_BookMore_i10_sh.mpr ?_ | refine g_law17_BookMore_i9_sh.mpr ?_ | refine g_law17_BookMore_i8_sh.mpr ?_ | refine g_law17_BookMore_i7_sh.mpr ?_ | refine g_law17_BookMore_i52_sh.mpr ?_ | refine g_law17_BookMore_i51_sh.mpr ?_ | refine g_law17_BookMore_i50_sh.mpr ?_ | refine g_law17_BookMore_i49_sh.mpr ?_ | refine g_law17_BookMore_i48_sh.mpr ?_ | refine g_law17_BookMore_i47_sh.mpr ?_ | refine g_law17_BookMore_i46_sh.mpr ?_ | refine g_law17_BookMore_i45_sh.mpr ?_ | refine g_law17_BookMore_i44_sh.mpr ?_ | refine g_law17_BookMore_i43_sh.mpr ?_ | refine g_law17_BookMore_i42_sh.mpr ?_ | refine g_law17_BookMore_i41_sh.mpr ?_ | refine g_law17_BookMore_i40_sh.mpr ?_ | refine g_law17_BookMore_i39_sh.mpr ?_ | refine g_law17_BookMore_i38_sh.mpr ?_ | refine g_law17_BookMore_i37_sh.mpr ?_ | refine g_law17_BookMore_i36_sh.mpr ?_ | refine g_law17_BookMore_i35_sh.mpr ?_ | refine g_law17_BookMore_i34_sh.mpr ?_ | refine g_law17_BookMore_i33_sh.mpr ?_ | refine g_law17_BookMore_i32_sh.mpr ?_ | refine g_law17_BookMore_i31_sh.mpr ?_ | refine g_law17_BookMore_i30_sh.mpr ?_ | refine g_law17_BookMore_i29_sh.mpr ?_ | refine g_law17_BookMore_i28_sh.mpr ?_ | refine g_law17_BookMore_i27_sh.mpr ?_ | refine g_law17_BookMore_i26_sh.mpr ?_ | refine g_law17_BookMore_i25_sh.mpr ?_)
  refine ⟨_, K.bal l' id os L.len' (by omega) L.ok', fun _ => rfl, ?_⟩
  rw [hb]
  generalize balS l id os = bs at hbl
  have hbs : bs.length < 1000 := by omega
  have hl2 : ((bs.length : Int) != (os.length : Int)) = false := by simp [hbl]
  repeat (first | simp only [go_sem, ↓reduceIte, Nat.reduceEqDiff, Nat.reduceAdd, Nat.reduceSub, Nat.reduceMul, Nat.reduceLeDiff, Nat.reduceBEq, reduceCtorEq, Nat.reduceEqDiff, Int.reduceEq, Int.reduceLT, Int.reduceLE, Int.reduceNeg, Int.reduceBEq, Int.reduceBNe, Int.reduceToNat, Int.reducePow, List.length_map, bne_self_eq_false, hl2] | refine g_law17_BookMore_c9_sh.mpr ?_ | refine g_law17_BookMore_o22_sh.mpr ?_ | refine g_law17_BookMore_o23_sh.mpr ?_ | refine g_law17_BookMore_c4_sh.mpr ?_ | refine g_law17_BookMore_c8_sh.mpr ?_)
  refine more_loop1 hI (os := bs) hbs (fun vs => by simp only [go_sem, ↓reduceIte, Nat.reduceEqDiff, Nat.reduceAdd, Nat.reduceSub, Nat.reduceMul, Nat.reduceLeDiff, Nat.reduceBEq, reduceCtorEq, Nat.reduceEqDiff, Int.reduceEq, Int.reduceLT, Int.reduceLE, Int.reduceNeg, Int.reduceBEq, Int.reduceBNe, Int.reduceToNat, Int.reducePow]) (fun s h2 h3 h5 h17 h19 h20 => ?_) bs.length 0 (by omega)
  simp only [go_sem, ↓reduceIte, Nat.reduceEqDiff, Nat.reduceAdd, Nat.reduceSub, Nat.reduceMul, Nat.reduceLeDiff, Nat.reduceBEq, reduceCtorEq, Nat.reduceEqDiff, Int.reduceEq, Int.reduceLT, Int.reduceLE, Int.reduceNeg, Int.reduceBEq, Int.reduceBNe, Int.reduceToNat, Int.reducePow, h2, h3, h5, h17, h19, h20]
  exact hend

theorem more_c11 {C : Ctx} (B : BookK C) (K : MoreK C) {I : Nat → Prop} (hI : ∀ n, ¬ I n) {Q : Ex → St → Prop} {id per : Int} {l l' : List Ent} {os : List Ord} (L : MoreL l l' id per) (ho : os.length ≤ 40)
    (hQ : ∀ o, Q .ret (St.mk (look [(10, vB true)]) o)) :
    wpB C I g_law17_BookMore.c11 (St.mk (look [(2, vI id), (3, vI per), (4, .d (.sl (os.map encO))), (5, .ptr 5 0), (17, .ptr 17 0)])
      (looko [(5, some (.box [vEnts l])), (17, some (.box [vEnts l']))])) Q := by
  have hy := year_len l id (w64 (per.tdiv 12))
  have hyr : yearS l' id (w64 (per.tdiv 12)) 6 = yearS l id (w64 (per.tdiv 12)) 6 := by unfold yearS; rw [L.alive]
  have hend := more_c10 B K hI (Q := Q) (y := yearS l id (w64 (per.tdiv 12)) 6) L ho hy hQ
  refine g_law17_BookMore_c11_sh.mpr ?_
  repeat (first | simp only [go_sem, ↓reduceIte, Nat.reduceEqDiff, Nat.reduceAdd, Nat.reduceSub, Nat.reduceMul, Nat.reduceLeDiff, Nat.reduceBEq, reduceCtorEq, Nat.reduceEqDiff, Int.reduceEq, Int.reduceLT, Int.reduceLE, Int.reduceNeg, Int.reduceBEq, Int.reduceBNe, Int.reduceToNat, Int.reducePow] | refine g_law17_BookMore_i15_sh.mpr ?_ | refine g_law17_BookMore_i14_sh.mpr ?_ | refine g_law17_BookMore_i13_sh.mpr ?_ | refine g_law17_BookMore_i12_sh.mpr ?_ | refine g_law17_BookMore_i11_sh.mpr ?_ | refine g_law17_BookMore_i10_sh.mpr ?_ | refine g_law17_BookMore_i9_sh.mpr ?_ | refine g_law17_BookMore_i8_sh.mpr ?_ | refine g_law17_BookMore_i7_sh.mpr ?_ | refine g_law17_BookMore_i52_sh.mpr ?_ | refine g_law17_BookMore_i51_sh.mpr ?_ | refine g_law17_BookMore_i50_sh.mpr ?_ | refine g_law17_BookMore_i49_sh.mpr ?_ | refine g_law17_BookMore_i48_sh.mpr ?_ | refine g_law17_BookMore_i47_sh.mpr ?_ | refine g_law17_BookMore_i46_sh.mpr ?_ | refine g_law17_BookMore_i45_sh.mpr ?_ | refine g_law17_BookMore_i44_sh.mpr ?_ | refine g_law17_BookMore_i43_sh.mpr ?_ | refine g_law17_BookMore_i42_sh.mpr ?_ | refine g_law17_BookMore_i41_sh.mpr ?_ | refine g_law17_BookMore_i40_sh.mpr ?_ | refine g_law17_BookMore_i39_sh.mpr ?_ | refine g_law17_BookMore_i38_sh.mpr ?_ | refine g_law17_BookMore_i37_sh.mpr ?_ | refine g_law17_BookMore_i36_sh.mpr ?_ | refine g_law17_BookMore_i35_sh.mpr ?_ | refine g_law17_BookMore_i34_sh.mpr ?_ | refine g_law17_BookMore_i33_sh.mpr ?_ | refine g_law17_BookMore_i32_sh.mpr ?_ | refine g_law17_BookMore_i31_sh.mpr ?_ | refine g_law17_BookMore_i30_sh.mpr ?_ | refine g_law17_BookMore_i29_sh.mpr ?_ | refine g_law17_BookMore_i28_sh.mpr ?_ | refine g_law17_BookMore_i27_sh.mpr ?_ | refine g_law17_BookMore_i26_sh.mpr ?_ | refine g_law17_BookMore_i25_sh.mpr ?_)
  refine ⟨_, B.year l id (w64 (per.tdiv 12)) 6 L.len, fun _ => rfl, ?_⟩
  repeat (first | simp only [go_sem, ↓reduceIte, Nat.reduceEqDiff, Nat.reduceAdd, Nat.reduceSub, Nat.reduceMul, Nat.reduceLeDiff, Nat.reduceBEq, reduceCtorEq, Nat.reduceEqDiff, Int.reduceEq, Int.reduceLT, Int.reduceLE, Int.reduceNeg, Int.reduceBEq, Int.reduceBNe, Int.reduceToNat, Int.reducePow] | refine g_law17_BookMore_i15_sh.mpr ?_ | refine g_law17_BookMore_i14_sh.mpr ?_ | refine g_law17_BookMore_i13_sh.mpr ?_ | refine g_law17_BookMore_i12_sh.mpr ?_ | refine g_law17_BookMore_i11_sh.mpr ?_ | refine g_law17_BookMore_i10_sh.mpr ?_ | refine g_law17_BookMore_i9_sh.mpr ?_ | refine g_law17_BookMore_i8_sh.mpr ?_ | refine g_law17_BookMore_i7_sh.mpr ?_ | refine g_law17_BookMore_i52_sh.mpr ?_ | refine g_law17_BookMore_i51_sh.mpr ?_ | refine g_law17_BookMore_i50_sh.mpr ?_ | refine g_law17_BookMore_i49_sh.mpr ?_ | refine g_law17_BookMore_i48_sh.mpr ?_ | refine g_law17_BookMore_i47_sh.mpr ?_ | refine g_law17_BookMore_i46_sh.mpr ?_ | refine g_law17_BookMore_i45_sh.mpr ?_ | refine g_law17_BookMore_i44_sh.mpr ?_ | refine g_law17_BookMore_i43_sh.mpr ?_ | refine g_law17_BookMore_i42_sh.mpr ?_ | refine g_law17_BookMore_i41_sh.mpr ?_ | refine g_law17_BookMore_i40_sh.mpr ?_ | refine g_law17_BookMore_i39_sh.mpr ?_ | refine g_law17_BookMore_i38_sh.mpr ?_ | refine g_law17_BookMore_i37_sh.mpr ?_ | refine g_law17_BookMore_i36_sh.mpr ?_ | refine g_law17_BookMore_i35_sh.mpr ?_ | refine g_law17_BookMore_i34_sh.mpr ?_ | refine g_law17_BookMore_i33_sh.mpr ?_ | refine g_law17_BookMore_i32_sh.mpr ?_ | refine g_law17_BookMore_i31_sh.mpr ?_ | refine g_law17_BookMore_i30_sh.mpr ?_ | refine g_law17_BookMore_i29_sh.mpr ?_ | refine g_law17_BookMore_i28_sh.mpr ?_ | refine g_law17_BookMore_i27_sh.mpr ?_ | refine g_law17_BookMore_i26_sh.mpr ?_ | refine g_law17_BookMore_i25_sh.mpr ?_)
  refine ⟨_, B.year l' id (w64 (per.tdiv 12)) 6 L.len', fun _ => rfl, ?_⟩
  rw [hyr]
  generalize yearS l id (w64 (per.tdiv 12)) 6 = y at hend
  repeat' (first | simp only [go_sem, ↓reduceIte, Nat.reduceEqDiff, Nat.reduceAdd, Nat.reduceSub, Nat.reduceMul, Nat.reduceLeDiff, Nat.reduceBEq, reduceCtorEq, Nat.reduceEqDiff, Int.reduceEq, Int.reduceLT, Int.reduceLE, Int.reduceNeg, Int.reduceBEq, Int.reduceBNe, Int.reduceToNat, Int.reducePow, hI] | refine g_law17_BookMore_t16_sh.mpr ?_ | refine g_law17_BookMore_t17_sh.mpr ?_ | refine g_law17_BookMore_t18_sh.mpr ?_ | refine g_law17_BookMore_t19_sh.mpr ?_ | refine g_law17_BookMore_t20_sh.mpr ?_ | refine g_law17_BookMore_t21_sh.mpr ?_ | refine And.intro ?_ ?_)
  all_goals exact hend

theorem find_app (p : Nat → Ent → Bool) (m : List Ent) : ∀ (l : List Ent) (k : Nat), findFrom p (k + l.length) m = -1 → findFrom p k (l ++ m) = findFrom p k l
  | [], k, h => by simpa [findFrom] using h
  | e :: l, k, h => by
    simp only [List.cons_append, findFrom]
    split
    · rfl
    · exact find_app p m l (k + 1) (by rwa [show k + 1 + l.length = k + (e :: l).length by simp; omega])
theorem find_congr {p q : Nat → Ent → Bool} : ∀ (l : List Ent) (k : Nat), (∀ j e, l[j]? = some e → p (k + j) e = q (k + j) e) → findFrom p k l = findFrom q k l
  | [], k, _ => rfl
  | e :: l, k, h => by
    have h0 := h 0 e rfl
    have ih := find_congr (p := p) (q := q) l (k + 1) (fun j x hj => by rw [show k + 1 + j = k + (j + 1) by omega]; exact h (j + 1) x (by simpa using hj))
    simp only [Nat.add_zero] at h0
    simp only [findFrom, h0, ih]
theorem filt_congr0 {p q : Nat → Ent → Bool} : ∀ (l : List Ent) (k : Nat), (∀ j e, l[j]? = some e → p (k + j) e = q (k + j) e) → filtFrom p k l = filtFrom q k l
  | [], k, _ => rfl
  | e :: l, k, h => by
    have h0 := h 0 e rfl
    have ih := filt_congr0 (p := p) (q := q) l (k + 1) (fun j x hj => by rw [show k + 1 + j = k + (j + 1) by omega]; exact h (j + 1) x (by simpa using hj))
    simp only [Nat.add_zero] at h0
    simp only [filtFrom, h0, ih]
theorem filt_append0 (p : Nat → Ent → Bool) (m : List Ent) : ∀ (l : List Ent) (k : Nat), filtFrom p k (l ++ m) = filtFrom p k l ++ filtFrom p (k + l.length) m
  | [], k => by simp [filtFrom]
  | e :: l, k => by
    simp only [List.cons_append, filtFrom, filt_append0 p m l (k + 1), List.length_cons]
    rw [show k + 1 + l.length = k + (l.length + 1) by omega]
    split <;> simp
/-- What is put behind turns nothing of what is live, if it takes nothing back. -/
theorem live_app {l m : List Ent} {i : Nat} (hi : i < l.length) (hm : m.any (fun x => x.back == (i : Int) + 1) = false) : liveS (l ++ m) i = liveS l i := by
  have h1 : (i : Int) < ((l ++ m).length : Int) := by simp; omega
  have h2 : (i : Int) < (l.length : Int) := by omega
  have h3 : (l ++ m)[i]? = l[i]? := by rw [List.getElem?_append_left hi]
  simp only [liveS, Int.toNat_natCast, Int.natCast_nonneg, h1, h2, decide_true, Bool.true_and, h3, List.any_append, hm, Bool.or_false]

theorem more_law {l : List Ent} {e : Ent} {id per : Int} (hl : l.length ≤ 40) (hok : ∀ x ∈ l, okE x) (hoke : okE e) (hid : e.id ≠ id) : MoreL l (addTo l e) id per := by
  by_cases hb : e.back = 0
  case neg =>
    have : addTo l e = l := by simp [addTo, hb]
    rw [this]
    exact ⟨by omega, by omega, hok, hok, rfl, rfl⟩
  by_cases hf : findS l e.id e.per ≥ 0
  · have : addTo l e = l := by simp [addTo, hb, hf]
    rw [this]
    exact ⟨by omega, by omega, hok, hok, rfl, rfl⟩
  have hto : addTo l e = l ++ [e] := by simp [addTo, hb]; omega
  rw [hto]
  have hany : ∀ i : Nat, [e].any (fun x => x.back == (i : Int) + 1) = false := fun i => by
    simp only [List.any_cons, List.any_nil, Bool.or_false, hb, beq_eq_false_iff_ne, ne_eq]; omega
  have hide : (e.id == id) = false := by simp [hid]
  refine ⟨by omega, by simp; omega, hok, fun x hx => ?_, ?_, ?_⟩
  · rcases List.mem_append.1 hx with h | h
    · exact hok x h
    · simp only [List.mem_singleton] at h
      subst h; exact hoke
  · unfold aliveS
    rw [filt_append0]
    have h0 : filtFrom (aliveP (l ++ [e]) id) (0 + l.length) [e] = [] := by simp [filtFrom, aliveP, hide]
    rw [h0, List.append_nil]
    refine filt_congr0 l 0 (fun j x hj => ?_)
    simp only [aliveP, List.any_append, hany, Bool.or_false]
  · unfold findS
    rw [find_app _ _ l 0 (by simp [findFrom, findP, hide])]
    refine find_congr l 0 (fun j x hj => ?_)
    have hj' : j < l.length := (List.getElem?_eq_some_iff.1 hj).1
    simp only [findP, Nat.zero_add, live_app hj' (hany j)]

theorem more_c14 {C : Ctx} (B : BookK C) (K : MoreK C) {I : Nat → Prop} (hI : ∀ n, ¬ I n) {Q : Ex → St → Prop} {id per : Int} {l : List Ent} {e : Ent} {os : List Ord} (L : MoreL l (addTo l e) id per) (ho : os.length ≤ 40) (hide : (e.id == id) = false)
    (hQ : ∀ o, Q .ret (St.mk (look [(10, vB true)]) o)) :
    wpB C I g_law17_BookMore.c14 (St.mk (look [(2, vI id), (3, vI per), (4, .d (.sl (os.map encO))), (5, .ptr 5 0), (6, .ptr 6 0), (12, vB true), (14, vB true)])
      (looko [(5, some (.box [vEnts l])), (6, some (.box ((enc e).map V.d)))])) Q := by
  have hend := more_c11 B K hI (Q := Q) L ho hQ
  have ho' : ¬ (os.length : Int) > 40 := by omega
  repeat (first | simp only [go_sem, ↓reduceIte, Nat.reduceEqDiff, Nat.reduceAdd, Nat.reduceSub, Nat.reduceMul, Nat.reduceLeDiff, Nat.reduceBEq, reduceCtorEq, Nat.reduceEqDiff, Int.reduceEq, Int.reduceLT, Int.reduceLE, Int.reduceNeg, Int.reduceBEq, Int.reduceBNe, Int.reduceToNat, Int.reducePow, List.length_map, ho', List.getElem?_map, enc_g2, hide] | refine g_law17_BookMore_c14_sh.mpr ?_ | refine g_law17_BookMore_o0_sh.mpr ?_ | refine g_law17_BookMore_o1_sh.mpr ?_ | refine g_law17_BookMore_o2_sh.mpr ?_ | refine g_law17_BookMore_o3_sh.mpr ?_ | refine g_law17_BookMore_o4_sh.mpr ?_ | refine g_law17_BookMore_o5_sh.mpr ?_ | refine g_law17_BookMore_c0_sh.mpr ?_ | refine g_law17_BookMore_c13_sh.mpr ?_ | refine g_law17_BookMore_c3_sh.mpr ?_)
  refine more_loop0 K.awake hI L.len ?_ (fun o => by exact hQ o) l.length 0 (by omega)
  repeat (first | simp only [go_sem, ↓reduceIte, Nat.reduceEqDiff, Nat.reduceAdd, Nat.reduceSub, Nat.reduceMul, Nat.reduceLeDiff, Nat.reduceBEq, reduceCtorEq, Nat.reduceEqDiff, Int.reduceEq, Int.reduceLT, Int.reduceLE, Int.reduceNeg, Int.reduceBEq, Int.reduceBNe, Int.reduceToNat, Int.reducePow] | refine g_law17_BookMore_c12_sh.mpr ?_)
  refine callK_plain (B.add l e L.len) (fun _ => rfl) ?_
  repeat (first | simp only [go_sem, ↓reduceIte, Nat.reduceEqDiff, Nat.reduceAdd, Nat.reduceSub, Nat.reduceMul, Nat.reduceLeDiff, Nat.reduceBEq, reduceCtorEq, Nat.reduceEqDiff, Int.reduceEq, Int.reduceLT, Int.reduceLE, Int.reduceNeg, Int.reduceBEq, Int.reduceBNe, Int.reduceToNat, Int.reducePow, hI] | refine g_law17_BookMore_c12_sh.mpr ?_)
  exact hend

theorem bookMore {C : Ctx} (h29 : okFn C.P C.φ 29 g_law17_BookMore = true) (B : BookK C) (K : MoreK C) (l : List Ent) (e : Ent) (id per : Int) (os : List Ord) :
    SoundAt C 29 ⟨[vBook l, vEnt e, vI id, vI per, .d (.sl (os.map encO))], looko []⟩ ⟨vB true, looko []⟩ := by
  refine SoundAt.of_run h29 rfl (fun Q hR _ => ?_)
  have hQ : ∀ o, Q .ret (St.mk (look [(10, vB true)]) o) := fun o => hR _ (by simp only [go_sem, ↓reduceIte, Nat.reduceEqDiff, Nat.reduceAdd, Nat.reduceSub, Nat.reduceMul, Nat.reduceLeDiff, Nat.reduceBEq, reduceCtorEq, Nat.reduceEqDiff, Int.reduceEq, Int.reduceLT, Int.reduceLE, Int.reduceNeg, Int.reduceBEq, Int.reduceBNe, Int.reduceToNat, Int.reducePow])
  clear hR
  rw [entry5]
  repeat (first | simp only [go_sem, ↓reduceIte, Nat.reduceEqDiff, Nat.reduceAdd, Nat.reduceSub, Nat.reduceMul, Nat.reduceLeDiff, Nat.reduceBEq, reduceCtorEq, Nat.reduceEqDiff, Int.reduceEq, Int.reduceLT, Int.reduceLE, Int.reduceNeg, Int.reduceBEq, Int.reduceBNe, Int.reduceToNat, Int.reducePow] | refine g_law17_BookMore_code_sh.mpr ?_)
  refine callK_plain (K.refs l) (fun _ => rfl) ?_
  repeat (first | simp only [go_sem, ↓reduceIte, Nat.reduceEqDiff, Nat.reduceAdd, Nat.reduceSub, Nat.reduceMul, Nat.reduceLeDiff, Nat.reduceBEq, reduceCtorEq, Nat.reduceEqDiff, Int.reduceEq, Int.reduceLT, Int.reduceLE, Int.reduceNeg, Int.reduceBEq, Int.reduceBNe, Int.reduceToNat, Int.reducePow] | refine g_law17_BookMore_c15_sh.mpr ?_)
  refine callK_plain (K.refs [e]) (fun _ => rfl) ?_
  by_cases hgo : refsB l = true ∧ refsB [e] = true ∧ os.length ≤ 40 ∧ e.id ≠ id
  case neg =>
    cases b1 : refsB l with
    | false =>
      repeat (first | simp only [go_sem, ↓reduceIte, Nat.reduceEqDiff, Nat.reduceAdd, Nat.reduceSub, Nat.reduceMul, Nat.reduceLeDiff, Nat.reduceBEq, reduceCtorEq, Nat.reduceEqDiff, Int.reduceEq, Int.reduceLT, Int.reduceLE, Int.reduceNeg, Int.reduceBEq, Int.reduceBNe, Int.reduceToNat, Int.reducePow] | refine g_law17_BookMore_c15_sh.mpr ?_ | refine g_law17_BookMore_c14_sh.mpr ?_ | refine g_law17_BookMore_o0_sh.mpr ?_ | refine g_law17_BookMore_o1_sh.mpr ?_ | refine g_law17_BookMore_o2_sh.mpr ?_ | refine g_law17_BookMore_o3_sh.mpr ?_ | refine g_law17_BookMore_o4_sh.mpr ?_ | refine g_law17_BookMore_o5_sh.mpr ?_ | refine g_law17_BookMore_c0_sh.mpr ?_)
      refine callK_plain K.awake (fun _ => rfl) ?_
      repeat (first | simp only [go_sem, ↓reduceIte, Nat.reduceEqDiff, Nat.reduceAdd, Nat.reduceSub, Nat.reduceMul, Nat.reduceLeDiff, Nat.reduceBEq, reduceCtorEq, Nat.reduceEqDiff, Int.reduceEq, Int.reduceLT, Int.reduceLE, Int.reduceNeg, Int.reduceBEq, Int.reduceBNe, Int.reduceToNat, Int.reducePow] | refine g_law17_BookMore_c0_sh.mpr ?_)
      exact hQ _
    | true =>
    cases b2 : refsB [e] with
    | false =>
      repeat (first | simp only [go_sem, ↓reduceIte, Nat.reduceEqDiff, Nat.reduceAdd, Nat.reduceSub, Nat.reduceMul, Nat.reduceLeDiff, Nat.reduceBEq, reduceCtorEq, Nat.reduceEqDiff, Int.reduceEq, Int.reduceLT, Int.reduceLE, Int.reduceNeg, Int.reduceBEq, Int.reduceBNe, Int.reduceToNat, Int.reducePow] | refine g_law17_BookMore_c15_sh.mpr ?_ | refine g_law17_BookMore_c14_sh.mpr ?_ | refine g_law17_BookMore_o0_sh.mpr ?_ | refine g_law17_BookMore_o1_sh.mpr ?_ | refine g_law17_BookMore_o2_sh.mpr ?_ | refine g_law17_BookMore_o3_sh.mpr ?_ | refine g_law17_BookMore_o4_sh.mpr ?_ | refine g_law17_BookMore_o5_sh.mpr ?_ | refine g_law17_BookMore_c0_sh.mpr ?_)
      refine callK_plain K.awake (fun _ => rfl) ?_
      repeat (first | simp only [go_sem, ↓reduceIte, Nat.reduceEqDiff, Nat.reduceAdd, Nat.reduceSub, Nat.reduceMul, Nat.reduceLeDiff, Nat.reduceBEq, reduceCtorEq, Nat.reduceEqDiff, Int.reduceEq, Int.reduceLT, Int.reduceLE, Int.reduceNeg, Int.reduceBEq, Int.reduceBNe, Int.reduceToNat, Int.reducePow] | refine g_law17_BookMore_c0_sh.mpr ?_)
      exact hQ _
    | true =>
    by_cases b3 : (os.length : Int) > 40
    · repeat (first | simp only [go_sem, ↓reduceIte, Nat.reduceEqDiff, Nat.reduceAdd, Nat.reduceSub, Nat.reduceMul, Nat.reduceLeDiff, Nat.reduceBEq, reduceCtorEq, Nat.reduceEqDiff, Int.reduceEq, Int.reduceLT, Int.reduceLE, Int.reduceNeg, Int.reduceBEq, Int.reduceBNe, Int.reduceToNat, Int.reducePow, b3, List.length_map] | refine g_law17_BookMore_c15_sh.mpr ?_ | refine g_law17_BookMore_c14_sh.mpr ?_ | refine g_law17_BookMore_o0_sh.mpr ?_ | refine g_law17_BookMore_o1_sh.mpr ?_ | refine g_law17_BookMore_o2_sh.mpr ?_ | refine g_law17_BookMore_o3_sh.mpr ?_ | refine g_law17_BookMore_o4_sh.mpr ?_ | refine g_law17_BookMore_o5_sh.mpr ?_ | refine g_law17_BookMore_c0_sh.mpr ?_)
      refine callK_plain K.awake (fun _ => rfl) ?_
      repeat (first | simp only [go_sem, ↓reduceIte, Nat.reduceEqDiff, Nat.reduceAdd, Nat.reduceSub, Nat.reduceMul, Nat.reduceLeDiff, Nat.reduceBEq, reduceCtorEq, Nat.reduceEqDiff, Int.reduceEq, Int.reduceLT, Int.reduceLE, Int.reduceNeg, Int.reduceBEq, Int.reduceBNe, Int.reduceToNat, Int.reducePow] | refine g_law17_BookMore_c0_sh.mpr ?_)
      exact hQ _
    · have b4 : e.id = id := by
        by_cases h : e.id = id
        · exact h
        · exact absurd ⟨b1, b2, by omega, h⟩ hgo
      have b4' : (e.id == id) = true := by simp [b4]
      repeat (first | simp only [go_sem, ↓reduceIte, Nat.reduceEqDiff, Nat.reduceAdd, Nat.reduceSub, Nat.reduceMul, Nat.reduceLeDiff, Nat.reduceBEq, reduceCtorEq, Nat.reduceEqDiff, Int.reduceEq, Int.reduceLT, Int.reduceLE, Int.reduceNeg, Int.reduceBEq, Int.reduceBNe, Int.reduceToNat, Int.reducePow, b3, b4', List.length_map, List.getElem?_map, enc_g2] | refine g_law17_BookMore_c15_sh.mpr ?_ | refine g_law17_BookMore_c14_sh.mpr ?_ | refine g_law17_BookMore_o0_sh.mpr ?_ | refine g_law17_BookMore_o1_sh.mpr ?_ | refine g_law17_BookMore_o2_sh.mpr ?_ | refine g_law17_BookMore_o3_sh.mpr ?_ | refine g_law17_BookMore_o4_sh.mpr ?_ | refine g_law17_BookMore_o5_sh.mpr ?_ | refine g_law17_BookMore_c0_sh.mpr ?_)
      refine callK_plain K.awake (fun _ => rfl) ?_
      repeat (first | simp only [go_sem, ↓reduceIte, Nat.reduceEqDiff, Nat.reduceAdd, Nat.reduceSub, Nat.reduceMul, Nat.reduceLeDiff, Nat.reduceBEq, reduceCtorEq, Nat.reduceEqDiff, Int.reduceEq, Int.reduceLT, Int.reduceLE, Int.reduceNeg, Int.reduceBEq, Int.reduceBNe, Int.reduceToNat, Int.reducePow] | refine g_law17_BookMore_c0_sh.mpr ?_)
      exact hQ _
  obtain ⟨b1, b2, ho, hid⟩ := hgo
  have hlen : l.length ≤ 40 ∧ l.all smallE = true := by simpa [refsB] using b1
  have hok : ∀ x ∈ l, okE x := fun x hx => okE_of (List.all_eq_true.1 hlen.2 x hx)
  have hoke : okE e := okE_of (by simpa [refsB] using b2)
  have hend := more_c14 B K (I := fun _ => False) (Q := Q) (fun _ h => h) (more_law (per := per) hlen.1 hok hoke hid) ho (by simp [hid]) hQ
  rw [b1, b2]
  repeat (first | simp only [go_sem, ↓reduceIte, Nat.reduceEqDiff, Nat.reduceAdd, Nat.reduceSub, Nat.reduceMul, Nat.reduceLeDiff, Nat.reduceBEq, reduceCtorEq, Nat.reduceEqDiff, Int.reduceEq, Int.reduceLT, Int.reduceLE, Int.reduceNeg, Int.reduceBEq, Int.reduceBNe, Int.reduceToNat, Int.reducePow] | refine g_law17_BookMore_c15_sh.mpr ?_)
  exact hend
end Pay
