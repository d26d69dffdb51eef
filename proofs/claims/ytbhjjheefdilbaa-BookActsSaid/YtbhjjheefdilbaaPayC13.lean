/- Contracts: what is compared with itself is the same. -/
import Derived.Test.YtbhjjheefdilbaaPayW
import Derived.Test.YtbhjjheefdilbaaPaySh0
import Derived.Test.YtbhjjheefdilbaaPaySh1
set_option linter.unusedSimpArgs false
set_option linter.unusedVariables false
namespace Pay
open Go
attribute [local irreducible] wpB opsB treeB drawB

theorem ints_loop {C : Ctx} {I : Nat → Prop} (hI : ∀ n, ¬ I n) {Q : Ex → St → Prop} {xs : List Int} (hl : xs.length < 1000) (hT : ∀ st, Q (.exit 0) st) :
    ∀ (n k : Nat), k + n = xs.length →
      wpB C I g_ref16_same.l0 (St.mk (look [(0, .d (.sl (xs.map encI))), (1, .d (.sl (xs.map encI))), (5, vI k)]) (looko [])) Q := by
  intro n
  induction n with
  | zero =>
    intro k hk
    refine g_ref16_same_l0_sh rfl ?_
    have hk' : k = xs.length := by omega
    subst hk'
    repeat (first | simp only [go_sem, ↓reduceIte, Nat.reduceEqDiff, Nat.reduceAdd, Nat.reduceSub, Nat.reduceMul, Nat.reduceLeDiff, Nat.reduceBEq, reduceCtorEq, Nat.reduceEqDiff, Int.reduceEq, Int.reduceLT, Int.reduceLE, Int.reduceNeg, Int.reduceBEq, Int.reduceBNe, Int.reduceToNat, Int.reducePow, List.length_map, Int.lt_irrefl, decide_false] | refine g_ref16_same_c0_sh.mpr ?_ | refine g_ref16_same_c1_sh.mpr ?_ | refine g_ref16_same_c2_sh.mpr ?_ | refine g_ref16_same_c3_sh.mpr ?_ | refine g_ref16_same_code_sh.mpr ?_)
    exact hT _
  | succ n ih =>
    intro k hk
    refine g_ref16_same_l0_sh rfl ?_
    have hlt : k < xs.length := by omega
    have he := List.getElem?_eq_getElem hlt
    have hlt' : ((k : Int) < (xs.length : Int)) := by omega
    have hw1 : IntKind.i64.wrap ((k : Int) + 1) = (k : Int) + 1 := wrapI (by omega) (by omega)
    repeat (first | simp only [go_sem, ↓reduceIte, Nat.reduceEqDiff, Nat.reduceAdd, Nat.reduceSub, Nat.reduceMul, Nat.reduceLeDiff, Nat.reduceBEq, reduceCtorEq, Nat.reduceEqDiff, Int.reduceEq, Int.reduceLT, Int.reduceLE, Int.reduceNeg, Int.reduceBEq, Int.reduceBNe, Int.reduceToNat, Int.reducePow, List.length_map, hlt', Int.natCast_nonneg, Int.toNat_natCast, getMap encI he, encI, bne_self_eq_false, hw1] | refine g_ref16_same_c0_sh.mpr ?_ | refine g_ref16_same_c1_sh.mpr ?_ | refine g_ref16_same_c2_sh.mpr ?_ | refine g_ref16_same_c3_sh.mpr ?_ | refine g_ref16_same_code_sh.mpr ?_)
    exact ih (k + 1) (by omega)

theorem sameInts {C : Ctx} (h21 : okFn C.P C.φ 21 g_ref16_same = true) (xs : List Int) (hl : xs.length < 1000) :
    SoundAt C 21 ⟨[.d (.sl (xs.map encI)), .d (.sl (xs.map encI))], looko []⟩ ⟨vB true, looko []⟩ := by
  refine SoundAt.of_run h21 rfl (fun Q hR _ => ?_)
  rw [entry2]
  repeat (first | simp only [go_sem, ↓reduceIte, Nat.reduceEqDiff, Nat.reduceAdd, Nat.reduceSub, Nat.reduceMul, Nat.reduceLeDiff, Nat.reduceBEq, reduceCtorEq, Nat.reduceEqDiff, Int.reduceEq, Int.reduceLT, Int.reduceLE, Int.reduceNeg, Int.reduceBEq, Int.reduceBNe, Int.reduceToNat, Int.reducePow, List.length_map, bne_self_eq_false] | refine g_ref16_same_c0_sh.mpr ?_ | refine g_ref16_same_c1_sh.mpr ?_ | refine g_ref16_same_c2_sh.mpr ?_ | refine g_ref16_same_c3_sh.mpr ?_ | refine g_ref16_same_code_sh.mpr ?_)
  refine ints_loop (fun _ h => h) hl (fun st => ?_) xs.length 0 (by omega)
  repeat (first | simp only [go_sem, ↓reduceIte, Nat.reduceEqDiff, Nat.reduceAdd, Nat.reduceSub, Nat.reduceMul, Nat.reduceLeDiff, Nat.reduceBEq, reduceCtorEq, Nat.reduceEqDiff, Int.reduceEq, Int.reduceLT, Int.reduceLE, Int.reduceNeg, Int.reduceBEq, Int.reduceBNe, Int.reduceToNat, Int.reducePow] | refine g_ref16_same_c0_sh.mpr ?_ | refine g_ref16_same_c1_sh.mpr ?_ | refine g_ref16_same_c2_sh.mpr ?_ | refine g_ref16_same_c3_sh.mpr ?_ | refine g_ref16_same_code_sh.mpr ?_)
  refine hR _ ?_
  simp only [go_sem, ↓reduceIte, Nat.reduceEqDiff, Nat.reduceAdd, Nat.reduceSub, Nat.reduceMul, Nat.reduceLeDiff, Nat.reduceBEq, reduceCtorEq, Nat.reduceEqDiff, Int.reduceEq, Int.reduceLT, Int.reduceLE, Int.reduceNeg, Int.reduceBEq, Int.reduceBNe, Int.reduceToNat, Int.reducePow]

def encR (e : Ent) : List D := [.sl (e.lines.map encLine), dI e.raw.gross, dI e.raw.pretax, dI e.raw.post, dI e.extra.gross, dI e.extra.pretax, dI e.extra.post,
  dI e.taxable, dI e.tax, dI e.taken, dI e.held, dI e.net, dI e.short, .sl (e.paid.map encI), .sl (e.owed.map encI), .sl (e.garn.map encI)]
abbrev vRes (e : Ent) : V := .agg ((encR e).map V.d)
abbrev boxRes (e : Ent) : Ob := .box ((encR e).map V.d)

theorem res_loop {C : Ctx} {I : Nat → Prop} (hI : ∀ n, ¬ I n) {Q : Ex → St → Prop} {e : Ent} (hl : e.lines.length < 1000)
    (hT : ∀ s, s 2 = .ptr 2 0 → s 3 = .ptr 3 0 → Q (.exit 0) (St.mk s (looko [(2, some (boxRes e)), (3, some (boxRes e))]))) :
    ∀ (n k : Nat), k + n = e.lines.length →
      wpB C I g_ref16_Same.l0 (St.mk (look [(2, .ptr 2 0), (3, .ptr 3 0), (5, vI k)]) (looko [(2, some (boxRes e)), (3, some (boxRes e))])) Q := by
  intro n
  induction n with
  | zero =>
    intro k hk
    refine g_ref16_Same_l0_sh rfl ?_
    have hk' : k = e.lines.length := by omega
    subst hk'
    repeat (first | simp only [go_sem, ↓reduceIte, Nat.reduceEqDiff, Nat.reduceAdd, Nat.reduceSub, Nat.reduceMul, Nat.reduceLeDiff, Nat.reduceBEq, reduceCtorEq, Nat.reduceEqDiff, Int.reduceEq, Int.reduceLT, Int.reduceLE, Int.reduceNeg, Int.reduceBEq, Int.reduceBNe, Int.reduceToNat, Int.reducePow, encR, List.length_map, Int.lt_irrefl, decide_false] | refine g_ref16_Same_o15_sh.mpr ?_ | refine g_ref16_Same_o14_sh.mpr ?_ | refine g_ref16_Same_o13_sh.mpr ?_ | refine g_ref16_Same_o12_sh.mpr ?_ | refine g_ref16_Same_o11_sh.mpr ?_ | refine g_ref16_Same_o10_sh.mpr ?_ | refine g_ref16_Same_o9_sh.mpr ?_ | refine g_ref16_Same_o8_sh.mpr ?_ | refine g_ref16_Same_o7_sh.mpr ?_ | refine g_ref16_Same_o6_sh.mpr ?_ | refine g_ref16_Same_o5_sh.mpr ?_ | refine g_ref16_Same_o4_sh.mpr ?_ | refine g_ref16_Same_o3_sh.mpr ?_ | refine g_ref16_Same_o2_sh.mpr ?_ | refine g_ref16_Same_o1_sh.mpr ?_ | refine g_ref16_Same_o0_sh.mpr ?_ | refine g_ref16_Same_c0_sh.mpr ?_ | refine g_ref16_Same_c1_sh.mpr ?_ | refine g_ref16_Same_c2_sh.mpr ?_ | refine g_ref16_Same_o19_sh.mpr ?_ | refine g_ref16_Same_o18_sh.mpr ?_ | refine g_ref16_Same_o17_sh.mpr ?_ | refine g_ref16_Same_o16_sh.mpr ?_ | refine g_ref16_Same_c3_sh.mpr ?_ | refine g_ref16_Same_c4_sh.mpr ?_ | refine g_ref16_Same_c5_sh.mpr ?_ | refine g_ref16_Same_code_sh.mpr ?_)
    exact hT _ rfl rfl
  | succ n ih =>
    intro k hk
    refine g_ref16_Same_l0_sh rfl ?_
    have hlt : k < e.lines.length := by omega
    have he := List.getElem?_eq_getElem hlt
    have hlt' : ((k : Int) < (e.lines.length : Int)) := by omega
    have hw1 : IntKind.i64.wrap ((k : Int) + 1) = (k : Int) + 1 := wrapI (by omega) (by omega)
    repeat (first | simp only [go_sem, ↓reduceIte, Nat.reduceEqDiff, Nat.reduceAdd, Nat.reduceSub, Nat.reduceMul, Nat.reduceLeDiff, Nat.reduceBEq, reduceCtorEq, Nat.reduceEqDiff, Int.reduceEq, Int.reduceLT, Int.reduceLE, Int.reduceNeg, Int.reduceBEq, Int.reduceBNe, Int.reduceToNat, Int.reducePow, encR, encLine, List.length_map, hlt', Int.natCast_nonneg, Int.toNat_natCast, getMap encLine he, bne_self_eq_false, hw1] | refine g_ref16_Same_o15_sh.mpr ?_ | refine g_ref16_Same_o14_sh.mpr ?_ | refine g_ref16_Same_o13_sh.mpr ?_ | refine g_ref16_Same_o12_sh.mpr ?_ | refine g_ref16_Same_o11_sh.mpr ?_ | refine g_ref16_Same_o10_sh.mpr ?_ | refine g_ref16_Same_o9_sh.mpr ?_ | refine g_ref16_Same_o8_sh.mpr ?_ | refine g_ref16_Same_o7_sh.mpr ?_ | refine g_ref16_Same_o6_sh.mpr ?_ | refine g_ref16_Same_o5_sh.mpr ?_ | refine g_ref16_Same_o4_sh.mpr ?_ | refine g_ref16_Same_o3_sh.mpr ?_ | refine g_ref16_Same_o2_sh.mpr ?_ | refine g_ref16_Same_o1_sh.mpr ?_ | refine g_ref16_Same_o0_sh.mpr ?_ | refine g_ref16_Same_c0_sh.mpr ?_ | refine g_ref16_Same_c1_sh.mpr ?_ | refine g_ref16_Same_c2_sh.mpr ?_ | refine g_ref16_Same_o19_sh.mpr ?_ | refine g_ref16_Same_o18_sh.mpr ?_ | refine g_ref16_Same_o17_sh.mpr ?_ | refine g_ref16_Same_o16_sh.mpr ?_ | refine g_ref16_Same_c3_sh.mpr ?_ | refine g_ref16_Same_c4_sh.mpr ?_ | refine g_ref16_Same_c5_sh.mpr ?_ | refine g_ref16_Same_code_sh.mpr ?_)
    exact ih (k + 1) (by omega)

theorem sameRes {C : Ctx} (h20 : okFn C.P C.φ 20 g_ref16_Same = true) (hInts : ∀ xs : List Int, xs.length < 1000 → SoundAt C 21 ⟨[.d (.sl (xs.map encI)), .d (.sl (xs.map encI))], looko []⟩ ⟨vB true, looko []⟩)
    (e : Ent) (h1 : e.lines.length < 1000) (h2 : e.paid.length < 1000) (h3 : e.owed.length < 1000) (h4 : e.garn.length < 1000) :
    SoundAt C 20 ⟨[vRes e, vRes e], looko []⟩ ⟨vB true, looko []⟩ := by
  refine SoundAt.of_run h20 rfl (fun Q hR _ => ?_)
  rw [entry2]
  repeat (first | simp only [go_sem, ↓reduceIte, Nat.reduceEqDiff, Nat.reduceAdd, Nat.reduceSub, Nat.reduceMul, Nat.reduceLeDiff, Nat.reduceBEq, reduceCtorEq, Nat.reduceEqDiff, Int.reduceEq, Int.reduceLT, Int.reduceLE, Int.reduceNeg, Int.reduceBEq, Int.reduceBNe, Int.reduceToNat, Int.reducePow, encR, List.length_map, bne_self_eq_false] | refine g_ref16_Same_o15_sh.mpr ?_ | refine g_ref16_Same_o14_sh.mpr ?_ | refine g_ref16_Same_o13_sh.mpr ?_ | refine g_ref16_Same_o12_sh.mpr ?_ | refine g_ref16_Same_o11_sh.mpr ?_ | refine g_ref16_Same_o10_sh.mpr ?_ | refine g_ref16_Same_o9_sh.mpr ?_ | refine g_ref16_Same_o8_sh.mpr ?_ | refine g_ref16_Same_o7_sh.mpr ?_ | refine g_ref16_Same_o6_sh.mpr ?_ | refine g_ref16_Same_o5_sh.mpr ?_ | refine g_ref16_Same_o4_sh.mpr ?_ | refine g_ref16_Same_o3_sh.mpr ?_ | refine g_ref16_Same_o2_sh.mpr ?_ | refine g_ref16_Same_o1_sh.mpr ?_ | refine g_ref16_Same_o0_sh.mpr ?_ | refine g_ref16_Same_c0_sh.mpr ?_ | refine g_ref16_Same_c1_sh.mpr ?_ | refine g_ref16_Same_c2_sh.mpr ?_ | refine g_ref16_Same_o19_sh.mpr ?_ | refine g_ref16_Same_o18_sh.mpr ?_ | refine g_ref16_Same_o17_sh.mpr ?_ | refine g_ref16_Same_o16_sh.mpr ?_ | refine g_ref16_Same_c3_sh.mpr ?_ | refine g_ref16_Same_c4_sh.mpr ?_ | refine g_ref16_Same_c5_sh.mpr ?_ | refine g_ref16_Same_code_sh.mpr ?_)
  refine res_loop (fun _ h => h) h1 (fun s s2 s3 => ?_) e.lines.length 0 (by omega)
  repeat (first | simp only [go_sem, ↓reduceIte, Nat.reduceEqDiff, Nat.reduceAdd, Nat.reduceSub, Nat.reduceMul, Nat.reduceLeDiff, Nat.reduceBEq, reduceCtorEq, Nat.reduceEqDiff, Int.reduceEq, Int.reduceLT, Int.reduceLE, Int.reduceNeg, Int.reduceBEq, Int.reduceBNe, Int.reduceToNat, Int.reducePow, encR, s2, s3] | refine g_ref16_Same_o15_sh.mpr ?_ | refine g_ref16_Same_o14_sh.mpr ?_ | refine g_ref16_Same_o13_sh.mpr ?_ | refine g_ref16_Same_o12_sh.mpr ?_ | refine g_ref16_Same_o11_sh.mpr ?_ | refine g_ref16_Same_o10_sh.mpr ?_ | refine g_ref16_Same_o9_sh.mpr ?_ | refine g_ref16_Same_o8_sh.mpr ?_ | refine g_ref16_Same_o7_sh.mpr ?_ | refine g_ref16_Same_o6_sh.mpr ?_ | refine g_ref16_Same_o5_sh.mpr ?_ | refine g_ref16_Same_o4_sh.mpr ?_ | refine g_ref16_Same_o3_sh.mpr ?_ | refine g_ref16_Same_o2_sh.mpr ?_ | refine g_ref16_Same_o1_sh.mpr ?_ | refine g_ref16_Same_o0_sh.mpr ?_ | refine g_ref16_Same_c0_sh.mpr ?_ | refine g_ref16_Same_c1_sh.mpr ?_ | refine g_ref16_Same_c2_sh.mpr ?_ | refine g_ref16_Same_o19_sh.mpr ?_ | refine g_ref16_Same_o18_sh.mpr ?_ | refine g_ref16_Same_o17_sh.mpr ?_ | refine g_ref16_Same_o16_sh.mpr ?_ | refine g_ref16_Same_c3_sh.mpr ?_ | refine g_ref16_Same_c4_sh.mpr ?_ | refine g_ref16_Same_c5_sh.mpr ?_ | refine g_ref16_Same_code_sh.mpr ?_)
  refine callK_plain (hInts e.paid h2) (fun _ => rfl) ?_
  repeat (first | simp only [go_sem, ↓reduceIte, Nat.reduceEqDiff, Nat.reduceAdd, Nat.reduceSub, Nat.reduceMul, Nat.reduceLeDiff, Nat.reduceBEq, reduceCtorEq, Nat.reduceEqDiff, Int.reduceEq, Int.reduceLT, Int.reduceLE, Int.reduceNeg, Int.reduceBEq, Int.reduceBNe, Int.reduceToNat, Int.reducePow, encR] | refine g_ref16_Same_o15_sh.mpr ?_ | refine g_ref16_Same_o14_sh.mpr ?_ | refine g_ref16_Same_o13_sh.mpr ?_ | refine g_ref16_Same_o12_sh.mpr ?_ | refine g_ref16_Same_o11_sh.mpr ?_ | refine g_ref16_Same_o10_sh.mpr ?_ | refine g_ref16_Same_o9_sh.mpr ?_ | refine g_ref16_Same_o8_sh.mpr ?_ | refine g_ref16_Same_o7_sh.mpr ?_ | refine g_ref16_Same_o6_sh.mpr ?_ | refine g_ref16_Same_o5_sh.mpr ?_ | refine g_ref16_Same_o4_sh.mpr ?_ | refine g_ref16_Same_o3_sh.mpr ?_ | refine g_ref16_Same_o2_sh.mpr ?_ | refine g_ref16_Same_o1_sh.mpr ?_ | refine g_ref16_Same_o0_sh.mpr ?_ | refine g_ref16_Same_c0_sh.mpr ?_ | refine g_ref16_Same_c1_sh.mpr ?_ | refine g_ref16_Same_c2_sh.mpr ?_ | refine g_ref16_Same_o19_sh.mpr ?_ | refine g_ref16_Same_o18_sh.mpr ?_ | refine g_ref16_Same_o17_sh.mpr ?_ | refine g_ref16_Same_o16_sh.mpr ?_ | refine g_ref16_Same_c3_sh.mpr ?_ | refine g_ref16_Same_c4_sh.mpr ?_ | refine g_ref16_Same_c5_sh.mpr ?_ | refine g_ref16_Same_code_sh.mpr ?_)
  refine callK_plain (hInts e.owed h3) (fun _ => rfl) ?_
  repeat (first | simp only [go_sem, ↓reduceIte, Nat.reduceEqDiff, Nat.reduceAdd, Nat.reduceSub, Nat.reduceMul, Nat.reduceLeDiff, Nat.reduceBEq, reduceCtorEq, Nat.reduceEqDiff, Int.reduceEq, Int.reduceLT, Int.reduceLE, Int.reduceNeg, Int.reduceBEq, Int.reduceBNe, Int.reduceToNat, Int.reducePow, encR] | refine g_ref16_Same_o15_sh.mpr ?_ | refine g_ref16_Same_o14_sh.mpr ?_ | refine g_ref16_Same_o13_sh.mpr ?_ | refine g_ref16_Same_o12_sh.mpr ?_ | refine g_ref16_Same_o11_sh.mpr ?_ | refine g_ref16_Same_o10_sh.mpr ?_ | refine g_ref16_Same_o9_sh.mpr ?_ | refine g_ref16_Same_o8_sh.mpr ?_ | refine g_ref16_Same_o7_sh.mpr ?_ | refine g_ref16_Same_o6_sh.mpr ?_ | refine g_ref16_Same_o5_sh.mpr ?_ | refine g_ref16_Same_o4_sh.mpr ?_ | refine g_ref16_Same_o3_sh.mpr ?_ | refine g_ref16_Same_o2_sh.mpr ?_ | refine g_ref16_Same_o1_sh.mpr ?_ | refine g_ref16_Same_o0_sh.mpr ?_ | refine g_ref16_Same_c0_sh.mpr ?_ | refine g_ref16_Same_c1_sh.mpr ?_ | refine g_ref16_Same_c2_sh.mpr ?_ | refine g_ref16_Same_o19_sh.mpr ?_ | refine g_ref16_Same_o18_sh.mpr ?_ | refine g_ref16_Same_o17_sh.mpr ?_ | refine g_ref16_Same_o16_sh.mpr ?_ | refine g_ref16_Same_c3_sh.mpr ?_ | refine g_ref16_Same_c4_sh.mpr ?_ | refine g_ref16_Same_c5_sh.mpr ?_ | refine g_ref16_Same_code_sh.mpr ?_)
  refine callK_plain (hInts e.garn h4) (fun _ => rfl) ?_
  repeat (first | simp only [go_sem, ↓reduceIte, Nat.reduceEqDiff, Nat.reduceAdd, Nat.reduceSub, Nat.reduceMul, Nat.reduceLeDiff, Nat.reduceBEq, reduceCtorEq, Nat.reduceEqDiff, Int.reduceEq, Int.reduceLT, Int.reduceLE, Int.reduceNeg, Int.reduceBEq, Int.reduceBNe, Int.reduceToNat, Int.reducePow, encR] | refine g_ref16_Same_o15_sh.mpr ?_ | refine g_ref16_Same_o14_sh.mpr ?_ | refine g_ref16_Same_o13_sh.mpr ?_ | refine g_ref16_Same_o12_sh.mpr ?_ | refine g_ref16_Same_o11_sh.mpr ?_ | refine g_ref16_Same_o10_sh.mpr ?_ | refine g_ref16_Same_o9_sh.mpr ?_ | refine g_ref16_Same_o8_sh.mpr ?_ | refine g_ref16_Same_o7_sh.mpr ?_ | refine g_ref16_Same_o6_sh.mpr ?_ | refine g_ref16_Same_o5_sh.mpr ?_ | refine g_ref16_Same_o4_sh.mpr ?_ | refine g_ref16_Same_o3_sh.mpr ?_ | refine g_ref16_Same_o2_sh.mpr ?_ | refine g_ref16_Same_o1_sh.mpr ?_ | refine g_ref16_Same_o0_sh.mpr ?_ | refine g_ref16_Same_c0_sh.mpr ?_ | refine g_ref16_Same_c1_sh.mpr ?_ | refine g_ref16_Same_c2_sh.mpr ?_ | refine g_ref16_Same_o19_sh.mpr ?_ | refine g_ref16_Same_o18_sh.mpr ?_ | refine g_ref16_Same_o17_sh.mpr ?_ | refine g_ref16_Same_o16_sh.mpr ?_ | refine g_ref16_Same_c3_sh.mpr ?_ | refine g_ref16_Same_c4_sh.mpr ?_ | refine g_ref16_Same_c5_sh.mpr ?_ | refine g_ref16_Same_code_sh.mpr ?_)
  refine hR _ ?_
  simp only [go_sem, ↓reduceIte, Nat.reduceEqDiff, Nat.reduceAdd, Nat.reduceSub, Nat.reduceMul, Nat.reduceLeDiff, Nat.reduceBEq, reduceCtorEq, Nat.reduceEqDiff, Int.reduceEq, Int.reduceLT, Int.reduceLE, Int.reduceNeg, Int.reduceBEq, Int.reduceBNe, Int.reduceToNat, Int.reducePow]

abbrev boxEnt (e : Ent) : Ob := .box ((enc e).map V.d)
theorem ent_loop {C : Ctx} {I : Nat → Prop} (hI : ∀ n, ¬ I n) {Q : Ex → St → Prop} {e : Ent} (hl : e.fixes.length < 1000) (hT : ∀ st, Q (.exit 0) st) :
    ∀ (n k : Nat), k + n = e.fixes.length →
      wpB C I g_ref17_Same.l0 (St.mk (look [(2, .ptr 2 0), (3, .ptr 3 0), (5, vI k)]) (looko [(2, some (boxEnt e)), (3, some (boxEnt e))])) Q := by
  intro n
  induction n with
  | zero =>
    intro k hk
    refine g_ref17_Same_l0_sh rfl ?_
    have hk' : k = e.fixes.length := by omega
    subst hk'
    repeat (first | simp only [go_sem, ↓reduceIte, Nat.reduceEqDiff, Nat.reduceAdd, Nat.reduceSub, Nat.reduceMul, Nat.reduceLeDiff, Nat.reduceBEq, reduceCtorEq, Nat.reduceEqDiff, Int.reduceEq, Int.reduceLT, Int.reduceLE, Int.reduceNeg, Int.reduceBEq, Int.reduceBNe, Int.reduceToNat, Int.reducePow, List.getElem?_map, enc_g21, List.length_map, Int.lt_irrefl, decide_false] | refine g_ref17_Same_o11_sh.mpr ?_ | refine g_ref17_Same_o10_sh.mpr ?_ | refine g_ref17_Same_o9_sh.mpr ?_ | refine g_ref17_Same_o8_sh.mpr ?_ | refine g_ref17_Same_o7_sh.mpr ?_ | refine g_ref17_Same_o6_sh.mpr ?_ | refine g_ref17_Same_o5_sh.mpr ?_ | refine g_ref17_Same_o4_sh.mpr ?_ | refine g_ref17_Same_o3_sh.mpr ?_ | refine g_ref17_Same_o2_sh.mpr ?_ | refine g_ref17_Same_o1_sh.mpr ?_ | refine g_ref17_Same_o0_sh.mpr ?_ | refine g_ref17_Same_c0_sh.mpr ?_ | refine g_ref17_Same_c1_sh.mpr ?_ | refine g_ref17_Same_c2_sh.mpr ?_ | refine g_ref17_Same_c3_sh.mpr ?_ | refine g_ref17_Same_c4_sh.mpr ?_ | refine g_ref17_Same_code_sh.mpr ?_)
    exact hT _
  | succ n ih =>
    intro k hk
    refine g_ref17_Same_l0_sh rfl ?_
    have hlt : k < e.fixes.length := by omega
    have he := List.getElem?_eq_getElem hlt
    have hlt' : ((k : Int) < (e.fixes.length : Int)) := by omega
    have hw1 : IntKind.i64.wrap ((k : Int) + 1) = (k : Int) + 1 := wrapI (by omega) (by omega)
    repeat (first | simp only [go_sem, ↓reduceIte, Nat.reduceEqDiff, Nat.reduceAdd, Nat.reduceSub, Nat.reduceMul, Nat.reduceLeDiff, Nat.reduceBEq, reduceCtorEq, Nat.reduceEqDiff, Int.reduceEq, Int.reduceLT, Int.reduceLE, Int.reduceNeg, Int.reduceBEq, Int.reduceBNe, Int.reduceToNat, Int.reducePow, List.getElem?_map, enc_g21, encFix, List.length_map, hlt', Int.natCast_nonneg, Int.toNat_natCast, getMap encFix he, bne_self_eq_false, hw1] | refine g_ref17_Same_o11_sh.mpr ?_ | refine g_ref17_Same_o10_sh.mpr ?_ | refine g_ref17_Same_o9_sh.mpr ?_ | refine g_ref17_Same_o8_sh.mpr ?_ | refine g_ref17_Same_o7_sh.mpr ?_ | refine g_ref17_Same_o6_sh.mpr ?_ | refine g_ref17_Same_o5_sh.mpr ?_ | refine g_ref17_Same_o4_sh.mpr ?_ | refine g_ref17_Same_o3_sh.mpr ?_ | refine g_ref17_Same_o2_sh.mpr ?_ | refine g_ref17_Same_o1_sh.mpr ?_ | refine g_ref17_Same_o0_sh.mpr ?_ | refine g_ref17_Same_c0_sh.mpr ?_ | refine g_ref17_Same_c1_sh.mpr ?_ | refine g_ref17_Same_c2_sh.mpr ?_ | refine g_ref17_Same_c3_sh.mpr ?_ | refine g_ref17_Same_c4_sh.mpr ?_ | refine g_ref17_Same_code_sh.mpr ?_)
    exact ih (k + 1) (by omega)

theorem encR_cells (e : Ent) : List.take 16 (List.drop 5 ((enc e).map V.d)) = (encR e).map V.d := rfl
theorem sameEnt {C : Ctx} (h17 : okFn C.P C.φ 17 g_ref17_Same = true)
    (hRes : ∀ e : Ent, e.lines.length < 1000 → e.paid.length < 1000 → e.owed.length < 1000 → e.garn.length < 1000 → SoundAt C 20 ⟨[vRes e, vRes e], looko []⟩ ⟨vB true, looko []⟩)
    (e : Ent) (h1 : e.lines.length < 1000) (h2 : e.paid.length < 1000) (h3 : e.owed.length < 1000) (h4 : e.garn.length < 1000) (h5 : e.fixes.length < 1000) :
    SoundAt C 17 ⟨[vEnt e, vEnt e], looko []⟩ ⟨vB true, looko []⟩ := by
  refine SoundAt.of_run h17 rfl (fun Q hR _ => ?_)
  rw [entry2]
  repeat (first | simp only [go_sem, ↓reduceIte, Nat.reduceEqDiff, Nat.reduceAdd, Nat.reduceSub, Nat.reduceMul, Nat.reduceLeDiff, Nat.reduceBEq, reduceCtorEq, Nat.reduceEqDiff, Int.reduceEq, Int.reduceLT, Int.reduceLE, Int.reduceNeg, Int.reduceBEq, Int.reduceBNe, Int.reduceToNat, Int.reducePow, List.getElem?_map, enc_g0, enc_g1, enc_g2, enc_g3, enc_g4, enc_g21, encR_cells, List.length_map, bne_self_eq_false] | refine g_ref17_Same_o11_sh.mpr ?_ | refine g_ref17_Same_o10_sh.mpr ?_ | refine g_ref17_Same_o9_sh.mpr ?_ | refine g_ref17_Same_o8_sh.mpr ?_ | refine g_ref17_Same_o7_sh.mpr ?_ | refine g_ref17_Same_o6_sh.mpr ?_ | refine g_ref17_Same_o5_sh.mpr ?_ | refine g_ref17_Same_o4_sh.mpr ?_ | refine g_ref17_Same_o3_sh.mpr ?_ | refine g_ref17_Same_o2_sh.mpr ?_ | refine g_ref17_Same_o1_sh.mpr ?_ | refine g_ref17_Same_o0_sh.mpr ?_ | refine g_ref17_Same_c0_sh.mpr ?_ | refine g_ref17_Same_c1_sh.mpr ?_ | refine g_ref17_Same_c2_sh.mpr ?_ | refine g_ref17_Same_c3_sh.mpr ?_ | refine g_ref17_Same_c4_sh.mpr ?_ | refine g_ref17_Same_code_sh.mpr ?_)
  refine callK_plain (hRes e h1 h2 h3 h4) (fun _ => rfl) ?_
  repeat (first | simp only [go_sem, ↓reduceIte, Nat.reduceEqDiff, Nat.reduceAdd, Nat.reduceSub, Nat.reduceMul, Nat.reduceLeDiff, Nat.reduceBEq, reduceCtorEq, Nat.reduceEqDiff, Int.reduceEq, Int.reduceLT, Int.reduceLE, Int.reduceNeg, Int.reduceBEq, Int.reduceBNe, Int.reduceToNat, Int.reducePow, List.getElem?_map, enc_g21, List.length_map, bne_self_eq_false] | refine g_ref17_Same_o11_sh.mpr ?_ | refine g_ref17_Same_o10_sh.mpr ?_ | refine g_ref17_Same_o9_sh.mpr ?_ | refine g_ref17_Same_o8_sh.mpr ?_ | refine g_ref17_Same_o7_sh.mpr ?_ | refine g_ref17_Same_o6_sh.mpr ?_ | refine g_ref17_Same_o5_sh.mpr ?_ | refine g_ref17_Same_o4_sh.mpr ?_ | refine g_ref17_Same_o3_sh.mpr ?_ | refine g_ref17_Same_o2_sh.mpr ?_ | refine g_ref17_Same_o1_sh.mpr ?_ | refine g_ref17_Same_o0_sh.mpr ?_ | refine g_ref17_Same_c0_sh.mpr ?_ | refine g_ref17_Same_c1_sh.mpr ?_ | refine g_ref17_Same_c2_sh.mpr ?_ | refine g_ref17_Same_c3_sh.mpr ?_ | refine g_ref17_Same_c4_sh.mpr ?_ | refine g_ref17_Same_code_sh.mpr ?_)
  refine ent_loop (fun _ h => h) h5 (fun st => ?_) e.fixes.length 0 (by omega)
  repeat (first | simp only [go_sem, ↓reduceIte, Nat.reduceEqDiff, Nat.reduceAdd, Nat.reduceSub, Nat.reduceMul, Nat.reduceLeDiff, Nat.reduceBEq, reduceCtorEq, Nat.reduceEqDiff, Int.reduceEq, Int.reduceLT, Int.reduceLE, Int.reduceNeg, Int.reduceBEq, Int.reduceBNe, Int.reduceToNat, Int.reducePow] | refine g_ref17_Same_o11_sh.mpr ?_ | refine g_ref17_Same_o10_sh.mpr ?_ | refine g_ref17_Same_o9_sh.mpr ?_ | refine g_ref17_Same_o8_sh.mpr ?_ | refine g_ref17_Same_o7_sh.mpr ?_ | refine g_ref17_Same_o6_sh.mpr ?_ | refine g_ref17_Same_o5_sh.mpr ?_ | refine g_ref17_Same_o4_sh.mpr ?_ | refine g_ref17_Same_o3_sh.mpr ?_ | refine g_ref17_Same_o2_sh.mpr ?_ | refine g_ref17_Same_o1_sh.mpr ?_ | refine g_ref17_Same_o0_sh.mpr ?_ | refine g_ref17_Same_c0_sh.mpr ?_ | refine g_ref17_Same_c1_sh.mpr ?_ | refine g_ref17_Same_c2_sh.mpr ?_ | refine g_ref17_Same_c3_sh.mpr ?_ | refine g_ref17_Same_c4_sh.mpr ?_ | refine g_ref17_Same_code_sh.mpr ?_)
  refine hR _ ?_
  simp only [go_sem, ↓reduceIte, Nat.reduceEqDiff, Nat.reduceAdd, Nat.reduceSub, Nat.reduceMul, Nat.reduceLeDiff, Nat.reduceBEq, reduceCtorEq, Nat.reduceEqDiff, Int.reduceEq, Int.reduceLT, Int.reduceLE, Int.reduceNeg, Int.reduceBEq, Int.reduceBNe, Int.reduceToNat, Int.reducePow]
end Pay
