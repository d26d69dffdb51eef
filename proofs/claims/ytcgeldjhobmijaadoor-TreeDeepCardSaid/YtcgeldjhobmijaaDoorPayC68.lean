/- Laws of rule sets: so many ( ), or -. -/
import Derived.Test.YtcgeldjhobmijaaDoorPayC32
import Derived.Test.YtcgeldjhobmijaaDoorPayC65
import Derived.Test.YtcgeldjhobmijaaDoorPayC67
import Derived.Test.YtcgeldjhobmijaaDoorPaySh4_0
import Derived.Test.YtcgeldjhobmijaaDoorPayTr1
import Derived.Test.YtcgeldjhobmijaaDoorPayTr3
set_option linter.unusedSimpArgs false
set_option linter.unusedVariables false
namespace Pay
open Go
attribute [local irreducible] wpB opsB treeB drawB
def deepA (k : Nat) (minus : Bool) : List UInt8 := [108, 101, 116, 32, 97, 32, 61, 32] ++ List.replicate k (if minus = true then 45 else 40)
def deepE (k : Nat) (minus : Bool) : List UInt8 := [49] ++ (if minus = true then [] else List.replicate k 41)
def deepT (k : Nat) (minus : Bool) : List UInt8 := deepA k minus ++ deepE k minus ++ [59]
def deepB (k : Nat) (minus : Bool) : Bool :=
  if k < 20 then (parseP (deepT k minus)).2.2 == 0 && (parseP (deepT k minus)).1.rules.length == 1 && (((parseP (deepT k minus)).1.exprs.length == 1) == (!minus || k == 0))
  else (parseP (deepT k minus)).2.2 == 9 && (parseP (deepT k minus)).2.1 == 28 && (parseP (deepT k minus)).1.rules.length == 0
set_option maxRecDepth 100000 in
theorem deep_all : ((List.range 40).all fun k => deepB k true && deepB k false) = true := by kernel_rfl
theorem deep_one {k : Nat} (h : k < 40) (minus : Bool) : deepB k minus = true := by
  have := List.all_eq_true.1 deep_all k (List.mem_range.2 h)
  simp only [Bool.and_eq_true] at this
  cases minus
  · exact this.2
  · exact this.1
theorem deep_loop {C : Ctx} {I : Nat → Prop} {Q : Ex → St → Prop} {K : Nat} {minus : Bool} {A B : List UInt8} (hK : K < 100) (hA : A.length < 1000) (hB : B.length < 1000)
    (hT : ∀ t, t 1 = vB minus → t 5 = vI K → t 6 = vS A → t 7 = vS B → Q (.exit 0) (St.mk t (looko []))) :
    ∀ (m i : Nat) (a b : List UInt8), i + m = K → a ++ List.replicate m (if minus = true then 45 else 40) = A → b ++ (if minus = true then [] else List.replicate m 41) = B →
      wpB C I g_law08_TreeDeep.l0 (St.mk (look [(1, vB minus), (5, vI K), (6, vS a), (7, vS b), (14, vI K), (15, vI i)]) (looko [])) Q := by
  intro m
  induction m with
  | zero =>
    intro i a b hi ha hb
    refine g_law08_TreeDeep_l0_sh rfl ?_
    have : i = K := by omega
    subst this
    simp only [List.replicate_zero, List.append_nil] at ha
    have hb : b = B := by cases minus <;> simpa using hb
    subst ha hb
    repeat (first | simp only [go_sem, Int.lt_irrefl, decide_false] | refine Unf.h ?_)
    refine hT _ ?_ ?_ ?_ ?_ <;> rfl
  | succ m ih =>
    intro i a b hi ha hb
    refine g_law08_TreeDeep_l0_sh rfl ?_
    have hlt' : ((i : Int) < (K : Int)) := by omega
    have hw : IntKind.i64.wrap ((i : Int) + 1) = ((i + 1 : Nat) : Int) := by rw [wrapI (by omega) (by omega)]; omega
    have l1 := congrArg List.length ha
    have l2 := congrArg List.length hb
    simp only [List.length_append, List.length_replicate] at l1 l2
    cases minus with
    | true =>
      repeat (first | simp only [go_sem, ↓demand_if, List.length_append, hlt', decide_true, hw] | refine And.intro (by omega) ?_ | refine Unf.h ?_)
      exact ih (i + 1) _ _ (by omega) (by rw [← ha, List.replicate_succ]; simp) (by rw [← hb]; simp)
    | false =>
      simp only [Bool.false_eq_true, if_false, List.length_replicate] at l2
      repeat (first | simp only [go_sem, ↓demand_if, List.length_append, hlt', decide_true, hw] | refine And.intro (by omega) ?_ | refine Unf.h ?_)
      exact ih (i + 1) _ _ (by omega) (by rw [← ha, List.replicate_succ]; simp) (by rw [← hb, if_neg (by simp), if_neg (by simp), List.replicate_succ]; simp)
theorem lawTreeDeep {C : Ctx} (h : okFn C.P C.φ 149 g_law08_TreeDeep = true) (K : LawT C) (n : Nat) (minus : Bool) (hn : n < 256) : SoundAt C 149 ⟨[.d (.int .u8 n), vB minus], looko []⟩ ⟨vB true, looko []⟩ := by
  have hm : Int.tmod (n : Int) 40 = ((n % 40 : Nat) : Int) := rfl
  obtain ⟨k, hk⟩ : ∃ k, n % 40 = k := ⟨_, rfl⟩
  rw [hk] at hm
  have hk40 : k < 40 := by omega
  have hw1 : IntKind.u8.wrap (k : Int) = (k : Int) := by rw [IntKind.wrap_u8]; omega
  have hw2 : IntKind.i64.wrap (k : Int) = (k : Int) := wrapI (by omega) (by omega)
  have lA : (deepA k minus).length = 8 + k := by simp [deepA]; omega
  have lE : (deepE k minus).length ≤ 1 + k := by cases minus <;> simp [deepE] <;> omega
  have lT : (deepT k minus).length < 1000 := by simp only [deepT, List.length_append, List.length_cons, List.length_nil]; omega
  have tp := K.parse (deepT k minus) (by omega)
  have hd := deep_one hk40 minus
  unfold deepB at hd
  obtain ⟨p, hp⟩ : ∃ p, parseP (deepT k minus) = p := ⟨_, rfl⟩
  rw [hp] at tp hd
  obtain ⟨p1, p2, p3⟩ := p
  refine SoundAt.of_run h rfl (fun Q hR hN => ?_)
  rw [entry2]
  repeat (first | simp only [go_sem, hm, hw1, hw2, Int.reduceEq] | refine Unf.h ?_)
  refine deep_loop (K := k) (minus := minus) (A := deepA k minus) (B := deepE k minus) (by omega) (by omega) (by omega) (fun t t1 t5 t6 t7 => ?_) k 0 _ _ (by omega) rfl rfl
  have b1 : (deepA k minus).length + (deepE k minus).length ≤ 9223372036854775807 := by omega
  have b2 : (deepA k minus).length + (deepE k minus).length + 1 ≤ 9223372036854775807 := by omega
  repeat (first | simp only [go_sem, ↓demand_if, List.length_append, t1, t5, t6, t7] | refine And.intro (by omega) ?_ | refine Unf.h ?_)
  refine callK_plain tp (fun _ => rfl) ?_
  by_cases h20 : k < 20
  · have h20' : ((k : Int) < 20) := by omega
    rw [if_pos h20] at hd
    simp only [Bool.and_eq_true, beq_iff_eq] at hd
    obtain ⟨⟨d1, d2⟩, d3⟩ := hd
    have e1 : (p3 == 0) = true := by simp [d1]
    have e2 : ((p1.rules.length : Int) == 1) = true := by simp; omega
    have e3 : ((p1.exprs.length : Int) == 1) = (p1.exprs.length == 1) := by
      by_cases h : p1.exprs.length = 1
      · rw [h]; rfl
      · rw [beq_eq_false_iff_ne.2 h, beq_eq_false_iff_ne.2 (by omega)]
    have e4 : ((k : Int) == 0) = (k == 0) := by
      by_cases h : k = 0
      · rw [h]; rfl
      · rw [beq_eq_false_iff_ne.2 h, beq_eq_false_iff_ne.2 (by omega)]
    cases minus with
    | true =>
      simp only [Bool.not_true, Bool.false_or] at d3
      repeat (first | simp only [go_sem, t1, t5, h20', decide_true, vParse, e1, e2, e3, e4, List.length_map, d3] | refine Unf.h ?_)
      refine callK_plain K.awake (fun _ => rfl) ?_
      repeat (first | simp only [go_sem] | refine Unf.h ?_)
      refine hR _ ?_
      simp only [go_sem]
    | false =>
      simp only [Bool.not_false, Bool.true_or] at d3
      repeat (first | simp only [go_sem, t1, t5, h20', decide_true, vParse, e1, e2, e3, e4, List.length_map, d3] | refine Unf.h ?_)
      refine callK_plain K.awake (fun _ => rfl) ?_
      repeat (first | simp only [go_sem] | refine Unf.h ?_)
      refine hR _ ?_
      simp only [go_sem]
  · have h20' : ¬ ((k : Int) < 20) := by omega
    rw [if_neg h20] at hd
    simp only [Bool.and_eq_true, beq_iff_eq] at hd
    obtain ⟨⟨d1, d2⟩, d3⟩ := hd
    have e1 : (p3 == 9) = true := by simp [d1]
    have e2 : (p2 == 28) = true := by simp [d2]
    have e3 : ((p1.rules.length : Int) == 0) = true := by rw [d3]; rfl
    repeat (first | simp only [go_sem, t1, t5, h20', decide_false, vParse, e1, e2, e3, List.length_map] | refine Unf.h ?_)
    refine callK_plain K.awake (fun _ => rfl) ?_
    repeat (first | simp only [go_sem] | refine Unf.h ?_)
    refine hR _ ?_
    simp only [go_sem]
end Pay
