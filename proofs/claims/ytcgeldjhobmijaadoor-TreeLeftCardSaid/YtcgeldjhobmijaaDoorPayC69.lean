/- Laws of rule sets: a sum is read from the left. -/
import Derived.Test.YtcgeldjhobmijaaDoorPayC32
import Derived.Test.YtcgeldjhobmijaaDoorPayC48
import Derived.Test.YtcgeldjhobmijaaDoorPayC61
import Derived.Test.YtcgeldjhobmijaaDoorPayC65
import Derived.Test.YtcgeldjhobmijaaDoorPayC67
import Derived.Test.YtcgeldjhobmijaaDoorPaySh5_0
import Derived.Test.YtcgeldjhobmijaaDoorPayTr1
import Derived.Test.YtcgeldjhobmijaaDoorPayTr3
import Derived.Test.YtcgeldjhobmijaaDoorPayTr5
set_option linter.unusedSimpArgs false
set_option linter.unusedVariables false
namespace Pay
open Go
attribute [local irreducible] wpB opsB treeB drawB
def encW (n : Nat) : List D := [.int .u16 n]
abbrev vWs (l : List Nat) : V := .d (.sl (l.map encW))
theorem dig1 {m : Nat} (h : m < 208) : UInt8.ofNat (Int.toNat (IntKind.u8.wrap (IntKind.i64.wrap (48 + (m : Int))))) = UInt8.ofNat (48 + m) := by
  rw [wrapI (by omega) (by omega)]
  have h2 : IntKind.u8.wrap (48 + (m : Int)) = ((48 + m : Nat) : Int) := by rw [IntKind.wrap_u8]; omega
  rw [h2, Int.toNat_natCast]
/-- The text, from a place on. -/
def fromT (first : Bool) : List Nat → List UInt8
  | [] => []
  | n :: l => (if first = true then [] else [32, 43, 32]) ++ dg (n % 1000) ++ fromT false l
theorem dg_len (k : Nat) : (dg k).length ≤ 3 := by
  unfold dg
  split <;> split <;> simp
theorem left_loop {C : Ctx} {I : Nat → Prop} {Q : Ex → St → Prop} {l : List Nat} {A : List UInt8} (hl : l.length < 1000) (hA : A.length < 100000)
    (hb : ∀ n ∈ l, n < 65536) (hT : ∀ t, t 0 = vWs l → t 3 = vS A → Q (.exit 0) (St.mk t (looko []))) :
    ∀ (m i : Nat) (a : List UInt8), i + m = l.length → a ++ fromT (i == 0) (l.drop i) = A →
      wpB C I g_law08_TreeLeft.l0 (St.mk (look [(0, vWs l), (3, vS a), (23, vWs l), (24, vI l.length), (25, vI i)]) (looko [])) Q := by
  intro m
  induction m with
  | zero =>
    intro i a hi ha
    refine g_law08_TreeLeft_l0_sh rfl ?_
    have : i = l.length := by omega
    subst this
    simp only [List.drop_length, fromT, List.append_nil] at ha
    subst ha
    repeat (first | simp only [go_sem, Int.lt_irrefl, decide_false] | refine Unf.h ?_)
    refine hT _ ?_ ?_ <;> rfl
  | succ m ih =>
    intro i a hi ha
    refine g_law08_TreeLeft_l0_sh rfl ?_
    have hlt : i < l.length := by omega
    have hlt' : ((i : Int) < (l.length : Int)) := by omega
    have he := List.getElem?_eq_getElem hlt
    have hw : IntKind.i64.wrap ((i : Int) + 1) = ((i + 1 : Nat) : Int) := by rw [wrapI (by omega) (by omega)]; omega
    obtain ⟨n, hn⟩ : ∃ n, l[i] = n := ⟨_, rfl⟩
    have hnb : n < 65536 := hn ▸ hb _ (List.getElem_mem hlt)
    rw [List.drop_eq_getElem_cons hlt, hn] at ha
    rw [hn] at he
    simp only [fromT] at ha
    obtain ⟨k, hk⟩ : ∃ k, n % 1000 = k := ⟨_, rfl⟩
    have hk1 : k < 1000 := by omega
    have hm : Int.tmod (n : Int) 1000 = (k : Int) := by rw [← hk]; rfl
    have w1 : IntKind.i64.wrap (k : Int) = (k : Int) := wrapI (by omega) (by omega)
    have q1 : IntKind.i64.wrap (Int.tdiv (k : Int) 100) = ((k / 100 : Nat) : Int) := by rw [show Int.tdiv (k : Int) 100 = ((k / 100 : Nat) : Int) from rfl, wrapI (by omega) (by omega)]
    have q2 : IntKind.i64.wrap (Int.tdiv (k : Int) 10) = ((k / 10 : Nat) : Int) := by rw [show Int.tdiv (k : Int) 10 = ((k / 10 : Nat) : Int) from rfl, wrapI (by omega) (by omega)]
    have q3 : Int.tmod ((k / 10 : Nat) : Int) 10 = ((k / 10 % 10 : Nat) : Int) := rfl
    have q4 : Int.tmod (k : Int) 10 = ((k % 10 : Nat) : Int) := rfl
    have d1 := dig1 (m := k / 100) (by omega)
    have d2 := dig1 (m := k / 10 % 10) (by omega)
    have d3 := dig1 (m := k % 10) (by omega)
    rw [hk] at ha
    have hlen := congrArg List.length ha
    simp only [List.length_append] at hlen
    have hdg := dg_len k
    have next : ∀ b, b = a ++ (if (i == 0) = true then [] else [32, 43, 32]) ++ dg k → wpB C I g_law08_TreeLeft.l0 (St.mk (look [(0, vWs l), (3, vS b), (23, vWs l), (24, vI l.length), (25, vI ((i + 1 : Nat) : Int))]) (looko [])) Q := by
      intro b hb
      refine ih (i + 1) b (by omega) ?_
      rw [← ha, hb]
      simp
    unfold dg at next hlen
    obtain ⟨b1, hb1⟩ : ∃ b, decide ((i : Int) > 0) = b := ⟨_, rfl⟩
    obtain ⟨b2, hb2⟩ : ∃ b, decide ((k : Int) > 99) = b := ⟨_, rfl⟩
    obtain ⟨b3, hb3⟩ : ∃ b, decide ((k : Int) > 9) = b := ⟨_, rfl⟩
    have e1 : (i == 0) = !b1 := by
      rw [← hb1, Bool.eq_iff_iff]; simp <;> omega
    have e2 : (k > 99) = (b2 = true) := by rw [← hb2]; simp <;> omega
    have e3 : (k > 9) = (b3 = true) := by rw [← hb3]; simp <;> omega
    rw [e1] at next hlen
    simp only [e2, e3] at next hlen
    cases b1 <;> cases b2 <;> cases b3
    all_goals
      simp only [Bool.not_true, Bool.not_false, Bool.false_eq_true, if_true, if_false, List.length_cons, List.length_nil, List.length_append] at hlen
      repeat (first | simp only [go_sem, ↓demand_if, List.length_append, hlt', decide_true, Int.natCast_nonneg, Int.toNat_natCast, getMap encW he, encW, hw, hm, w1, q1, q2, q3, q4, d1, d2, d3, hb1, hb2, hb3, partsN, Int.reduceEq] | refine And.intro (by omega) ?_ | refine Unf.h ?_)
      exact next _ (by simp)
theorem left_loop2 {C : Ctx} {I : Nat → Prop} (hI : ∀ n, ¬ I n) {Q : Ex → St → Prop} {l : List Nat} {p : Prog} (hl : l.length < 1000) (hb : ∀ n ∈ l, n < 65536) {k0 : Nat} {ks : List Nat} (hk : l.map (· % 1000) = k0 :: ks)
    (hp : p.exprs = xLeaf wWhole [] k0 :: goX 1 ks) (hT : ∀ t o, Q (.exit 2) (St.mk t o)) :
    ∀ (m i : Nat), i + m = l.length →
      wpB C I g_law08_TreeLeft.l1 (St.mk (look [(7, .ptr 7 0), (86, vWs l), (87, vI l.length), (88, vI i)]) (looko [(7, some (.box [.d (.sl (p.rules.map encRl)), .d (.sl (p.exprs.map encX))]))])) Q := by
  intro m
  induction m with
  | zero =>
    intro i hi
    refine g_law08_TreeLeft_l1_sh rfl ?_
    have : i = l.length := by omega
    subst this
    repeat (first | simp only [go_sem, Int.lt_irrefl, decide_false] | refine Unf.h ?_)
    exact hT _ _
  | succ m ih =>
    intro i hi
    refine g_law08_TreeLeft_l1_sh rfl ?_
    have hlt : i < l.length := by omega
    have hlt' : ((i : Int) < (l.length : Int)) := by omega
    have he := List.getElem?_eq_getElem hlt
    have hw : IntKind.i64.wrap ((i : Int) + 1) = ((i + 1 : Nat) : Int) := by rw [wrapI (by omega) (by omega)]; omega
    obtain ⟨n, hn⟩ : ∃ n, l[i] = n := ⟨_, rfl⟩
    have hnb : n < 65536 := hn ▸ hb _ (List.getElem_mem hlt)
    rw [hn] at he
    obtain ⟨k, hkn⟩ : ∃ k, n % 1000 = k := ⟨_, rfl⟩
    have hm : Int.tmod (n : Int) 1000 = (k : Int) := by rw [← hkn]; rfl
    have w1 : IntKind.i64.wrap (k : Int) = (k : Int) := wrapI (by omega) (by omega)
    have hki : (k0 :: ks)[i]? = some k := by rw [← hk, List.getElem?_map, he]; simp [hkn]
    cases i with
    | zero =>
      simp only [List.getElem?_cons_zero, Option.some.injEq] at hki
      subst hki
      have m1 : IntKind.i64.wrap (2 * ((0 : Nat) : Int)) = 0 := by rw [wrapI (by omega) (by omega)]; rfl
      have m2 : IntKind.i64.wrap (-1) = -1 := by rw [wrapI (by omega) (by omega)]
      have p0 : p.exprs[0]? = some (xLeaf wWhole [] k0) := by rw [hp]; rfl
      have hlt0 : (0 : Int) < (l.length : Int) := by omega
      have w2 : IntKind.i64.wrap (0 + 1) = 1 := by rw [wrapI (by omega) (by omega)]; rfl
      simp only [Int.natCast_zero] at m1
      repeat (first | simp only [go_sem, hI, hlt0, decide_true, getMap encW he, encW, hm, w1, w2, m1, m2, getMap encX p0, encX, xLeaf, bne_self_eq_false, Int.le_refl, Int.reduceSub] | refine Unf.h ?_)
      exact ih 1 (by omega)
    | succ j =>
      simp only [List.getElem?_cons_succ] at hki
      obtain ⟨g1, g2⟩ := goX_get ks 1 j k hki
      have p1 : p.exprs[2 * j + 1]? = some (xLeaf wWhole [] k) := by rw [hp, List.getElem?_cons_succ]; exact g1
      have p2 : p.exprs[2 * j + 2]? = some (xNode [43] (1 + 2 * j - 1) (1 + 2 * j) 0) := by rw [hp, List.getElem?_cons_succ]; exact g2
      have m1 : IntKind.i64.wrap (2 * ((j + 1 : Nat) : Int)) = ((2 * j + 2 : Nat) : Int) := by rw [wrapI (by omega) (by omega)]; omega
      have m2 : IntKind.i64.wrap (((2 * j + 2 : Nat) : Int) - 1) = ((2 * j + 1 : Nat) : Int) := by rw [wrapI (by omega) (by omega)]; omega
      have m3 : IntKind.i64.wrap (((2 * j + 2 : Nat) : Int) - 2) = ((1 + 2 * j - 1 : Nat) : Int) := by rw [wrapI (by omega) (by omega)]; omega
      have m4 : ((1 + 2 * j : Nat) : Int) = ((2 * j + 1 : Nat) : Int) := by omega
      have m5 : ¬ ((0 : Int) > ((2 * j + 1 : Nat) : Int)) := by omega
      have m6 : (((j + 1 : Nat) : Int) > 0) := by omega
      repeat (first | simp only [go_sem, hI, hlt', decide_true, decide_false, if_false, Int.natCast_nonneg, Int.toNat_natCast, getMap encW he, encW, hm, w1, m1, m2, m3, m5, m6, getMap encX p1, getMap encX p2, encX, xLeaf, xNode, m4, bne_self_eq_false, hw] | refine Unf.h ?_)
      exact ih (j + 1 + 1) (by omega)
theorem from_left (ks : List Nat) : fromT false ks ++ [59] = restT (ks.map (· % 1000)) := by
  induction ks with
  | nil => rfl
  | cons k ks ih => simp [fromT, restT, ← ih]
theorem fromT_len : ∀ (l : List Nat) (b : Bool), (fromT b l).length ≤ 6 * l.length
  | [], _ => Nat.le_refl _
  | n :: l, b => by
    have := fromT_len l false
    have := dg_len (n % 1000)
    simp only [fromT, List.length_append, List.length_cons]
    cases b <;> simp <;> omega
theorem lawTreeLeft {C : Ctx} (h : okFn C.P C.φ 150 g_law08_TreeLeft = true) (K : LawT C) (l : List Nat) (hb : ∀ n ∈ l, n < 65536) : SoundAt C 150 ⟨[vWs l], looko []⟩ ⟨vB true, looko []⟩ := by
  refine SoundAt.of_run h rfl (fun Q hR hN => ?_)
  rw [entry1]
  cases l with
  | nil =>
    repeat (first | simp only [go_sem] | refine Unf.h ?_)
    refine callK_plain K.awake (fun _ => rfl) ?_
    repeat (first | simp only [go_sem] | refine Unf.h ?_)
    refine hR _ ?_
    simp only [go_sem]
  | cons n r =>
    have b1 : (((r.length + 1 : Nat) : Int) == 0) = false := by
      rw [beq_eq_false_iff_ne]; omega
    by_cases h60 : r.length + 1 > 60
    · have h60' : (((r.length + 1 : Nat) : Int) > 60) := by omega
      repeat (first | simp only [go_sem, List.length_map, b1, h60', decide_true] | refine Unf.h ?_)
      refine callK_plain K.awake (fun _ => rfl) ?_
      repeat (first | simp only [go_sem] | refine Unf.h ?_)
      refine hR _ ?_
      simp only [go_sem]
    have h60' : ¬ (((r.length + 1 : Nat) : Int) > 60) := by omega
    have hk : n % 1000 < 1000 := by omega
    have hks : ∀ k ∈ r.map (· % 1000), k < 1000 := by
      intro k hk
      obtain ⟨m, _, rfl⟩ := List.mem_map.1 hk
      omega
    have e0 : leftHead ++ fromT true (n :: r) ++ [59] = leftT (n % 1000) (r.map (· % 1000)) := by
      unfold leftT
      rw [← from_left]
      simp [fromT]
    have hlen := fromT_len (n :: r) true
    simp only [List.length_cons] at hlen
    have hl2 : (leftHead ++ fromT true (n :: r)).length ≤ 8 + 6 * 60 := by
      rw [List.length_append]; simp only [leftHead, List.length_cons, List.length_nil]; omega
    have tp := K.parse (leftT (n % 1000) (r.map (· % 1000))) (by rw [← e0, List.length_append]; simp only [List.length_cons, List.length_nil]; omega)
    obtain ⟨law1, law2⟩ := left_law hk hks
    have ln : (parseP (leftT (n % 1000) (r.map (· % 1000)))).1.exprs.length = 2 * r.length + 1 := by
      rw [law1, List.length_cons, goX_len, List.length_map]
    rw [← e0] at tp
    rw [← e0] at law1 law2 ln
    obtain ⟨q, hq⟩ : ∃ q, parseP (leftHead ++ fromT true (n :: r) ++ [59]) = q := ⟨_, rfl⟩
    rw [hq] at tp law1 law2 ln
    obtain ⟨p1, p2, p3⟩ := q
    simp only at law1 law2 ln
    subst law2
    obtain ⟨T, hT⟩ : ∃ T, leftHead ++ fromT true (n :: r) = T := ⟨_, rfl⟩
    rw [hT] at tp hl2
    have hT1 : (T.length : Int) + 1 ≤ 9223372036854775807 := by omega
    have m1 : IntKind.i64.wrap (2 * ((r.length + 1 : Nat) : Int)) = ((2 * r.length + 2 : Nat) : Int) := by rw [wrapI (by omega) (by omega)]; omega
    have m2 : IntKind.i64.wrap (((2 * r.length + 2 : Nat) : Int) - 1) = ((2 * r.length + 1 : Nat) : Int) := by rw [wrapI (by omega) (by omega)]; omega
    repeat (first | simp only [go_sem, List.length_map, b1, h60', decide_false] | refine Unf.h ?_)
    refine left_loop (l := n :: r) (A := T) (by simp; omega) (by omega) hb (fun t t0 t3 => ?_) (r.length + 1) 0 leftHead (by simp) (by rw [← hT]; rfl)
    repeat (first | simp only [go_sem, ↓demand_if, List.length_append, t0, t3] | refine And.intro (by omega) ?_ | refine Unf.h ?_)
    refine callK_plain tp (fun _ => rfl) ?_
    repeat (first | simp only [go_sem, t0, vParse, List.length_map, ln, m1, m2, bne_self_eq_false] | refine Unf.h ?_)
    refine left_loop2 (fun n h => h) (l := n :: r) (p := p1) (k0 := n % 1000) (ks := r.map (· % 1000)) (by simp; omega) hb rfl law1 (fun t o => ?_) (r.length + 1) 0 (by simp)
    repeat (first | simp only [go_sem] | refine Unf.h ?_)
    refine callK_plain K.awake (fun _ => rfl) ?_
    repeat (first | simp only [go_sem] | refine Unf.h ?_)
    refine hR _ ?_
    simp only [go_sem]
end Pay
