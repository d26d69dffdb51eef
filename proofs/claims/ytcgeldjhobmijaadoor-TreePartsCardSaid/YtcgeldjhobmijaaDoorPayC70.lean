/- Laws of rule sets: each expression but the roots is a part of just one. -/
import Derived.Test.YtcgeldjhobmijaaDoorPayC32
import Derived.Test.YtcgeldjhobmijaaDoorPayC48
import Derived.Test.YtcgeldjhobmijaaDoorPayC61
import Derived.Test.YtcgeldjhobmijaaDoorPayC63
import Derived.Test.YtcgeldjhobmijaaDoorPayC65
import Derived.Test.YtcgeldjhobmijaaDoorPayC67
import Derived.Test.YtcgeldjhobmijaaDoorPaySh1_0
import Derived.Test.YtcgeldjhobmijaaDoorPayTr1
import Derived.Test.YtcgeldjhobmijaaDoorPayTr2
import Derived.Test.YtcgeldjhobmijaaDoorPayTr3
import Derived.Test.YtcgeldjhobmijaaDoorPayTr6
set_option linter.unusedSimpArgs false
set_option linter.unusedVariables false
namespace Pay
open Go
attribute [local irreducible] wpB opsB treeB drawB
/-- How often each was used. -/
def cntL (N : Nat) (done : List Int) : List Int := (List.range N).map fun (m : Nat) => ((done.count (m : Int) : Nat) : Int)
theorem cntL_len (N : Nat) (done : List Int) : (cntL N done).length = N := by simp [cntL]
theorem cntL_get {N m : Nat} (h : m < N) (done : List Int) : (cntL N done)[m]? = some ((done.count (m : Int) : Nat) : Int) := by simp [cntL, h]
theorem cntL_set {N m : Nat} (done : List Int) : (cntL N done).set m (((done.count (m : Int) : Nat) : Int) + 1) = cntL N (done ++ [(m : Int)]) := by
  apply List.ext_getElem
  · simp [cntL]
  · intro i h1 h2
    simp only [cntL, List.getElem_set, List.getElem_map, List.getElem_range, List.count_append, List.count_cons, List.count_nil]
    by_cases h : m = i
    · subst h; simp
    · have : ¬ ((m : Int) = (i : Int)) := by omega
      simp [h, this]
theorem cntL_0 (N : Nat) : cntL N [] = List.replicate N 0 := by
  simp [cntL, List.map_const']
abbrev vIl (l : List Int) : V := .d (.sl (l.map encI))
theorem parts_inner {C : Ctx} {I : Nat → Prop} {Q : Ex → St → Prop} {N i : Nat} {ps : List Int} (hps : ∀ q ∈ ps, 0 ≤ q ∧ q < (i : Int)) (hi : i ≤ N) (hN : N < 1000) {t44 : V} {p : Prog} {D : List Int} (hd : D.length < 4000) (hl : ps.length < 10)
    {n45 : Nat} (hT : ∀ t, t 3 = .ptr 3 0 → t 6 = .own 42 → t 44 = t44 → t 45 = vI n45 → t 46 = vI i → Q (.exit 3) (St.mk t (looko [(3, some (.box [.d (.sl (p.rules.map encRl)), .d (.sl (p.exprs.map encX))])), (42, some (.row 1 ((cntL N D).map encI)))]))) :
    ∀ (m j : Nat) (d : List Int), j + m = ps.length → d ++ ps.drop j = D →
      wpB C I g_law08_TreeParts.l1 (St.mk (look [(3, .ptr 3 0), (6, .own 42), (7, vI i), (44, t44), (45, vI n45), (46, vI i), (84, vIl ps), (85, vI ps.length), (86, vI j)]) (looko [(3, some (.box [.d (.sl (p.rules.map encRl)), .d (.sl (p.exprs.map encX))])), (42, some (.row 1 ((cntL N d).map encI)))])) Q := by
  intro m
  induction m with
  | zero =>
    intro j d hj hD
    refine g_law08_TreeParts_l1_sh rfl ?_
    have : j = ps.length := by omega
    subst this
    rw [List.drop_length, List.append_nil] at hD
    subst hD
    repeat (first | simp only [go_sem, Int.lt_irrefl, decide_false] | refine Unf.h ?_)
    refine hT _ ?_ ?_ ?_ ?_ ?_ <;> rfl
  | succ m ih =>
    intro j d2 hj hD
    refine g_law08_TreeParts_l1_sh rfl ?_
    have hlt : j < ps.length := by omega
    have hlt' : ((j : Int) < (ps.length : Int)) := by omega
    have he := List.getElem?_eq_getElem hlt
    have hw : IntKind.i64.wrap ((j : Int) + 1) = ((j + 1 : Nat) : Int) := by rw [wrapI (by omega) (by omega)]; omega
    obtain ⟨q, hq⟩ : ∃ q, ps[j] = q := ⟨_, rfl⟩
    have hb := hps _ (List.getElem_mem hlt)
    rw [List.drop_eq_getElem_cons hlt] at hD
    rw [hq] at hb he hD
    obtain ⟨k, rfl⟩ : ∃ k : Nat, q = (k : Int) := ⟨q.toNat, by omega⟩
    have hk : k < N := by omega
    have h1 : ¬ ((k : Int) < 0) := by omega
    have h2 : ¬ ((k : Int) ≥ (i : Int)) := by omega
    have next := ih (j + 1) (d2 ++ [(k : Int)]) (by omega) (by rw [← hD]; simp)
    rw [← cntL_set] at next
    have hl2 : d2.length < 4000 := by
      have := congrArg List.length hD
      rw [List.length_append] at this; omega
    have hc := List.count_le_length (a := (k : Int)) (l := d2)
    have hg := cntL_get hk d2
    obtain ⟨c, hcc⟩ : ∃ c, d2.count (k : Int) = c := ⟨_, rfl⟩
    rw [hcc] at hg hc next
    have hw2 : IntKind.i64.wrap ((c : Int) + 1) = (c : Int) + 1 := wrapI (by omega) (by omega)
    have hkn : ((k : Int) < ((cntL N d2).length : Int)) := by rw [cntL_len]; omega
    rw [List.map_set] at next
    repeat (first | simp only [go_sem, hlt', decide_true, decide_false, h1, h2, Int.natCast_nonneg, Int.toNat_natCast, getMap encI he, encI, List.length_map, hkn, getMap encI hg, hw2, hw] | refine Unf.h ?_)
    exact next
set_option maxHeartbeats 2000000 in
theorem parts_outer {C : Ctx} {I : Nat → Prop} (hI : ∀ n, ¬ I n) {Q : Ex → St → Prop} {p : Prog} (ha : Ahead 0 p.exprs) (hN : p.exprs.length < 1000)
    (hT : ∀ t, t 3 = .ptr 3 0 → t 6 = .own 42 → Q (.exit 0) (St.mk t (looko [(3, some (.box [.d (.sl (p.rules.map encRl)), .d (.sl (p.exprs.map encX))])), (42, some (.row 1 ((cntL p.exprs.length (allParts p.exprs)).map encI)))]))) :
    ∀ (m k : Nat), k + m = p.exprs.length → (allParts (p.exprs.take k)).length ≤ 3 * k →
      wpB C I g_law08_TreeParts.l0 (St.mk (look [(3, .ptr 3 0), (6, .own 42), (44, .d (.sl (p.exprs.map encX))), (45, vI p.exprs.length), (46, vI k)]) (looko [(3, some (.box [.d (.sl (p.rules.map encRl)), .d (.sl (p.exprs.map encX))])), (42, some (.row 1 ((cntL p.exprs.length (allParts (p.exprs.take k))).map encI)))])) Q := by
  intro m
  induction m with
  | zero =>
    intro k hk _
    refine g_law08_TreeParts_l0_sh rfl ?_
    have : k = p.exprs.length := by omega
    subst this
    rw [List.take_length]
    repeat (first | simp only [go_sem, Int.lt_irrefl, decide_false] | refine Unf.h ?_)
    refine hT _ ?_ ?_ <;> rfl
  | succ m ih =>
    intro k hk hd
    refine g_law08_TreeParts_l0_sh rfl ?_
    have hlt : k < p.exprs.length := by omega
    have hlt' : ((k : Int) < (p.exprs.length : Int)) := by omega
    have he := List.getElem?_eq_getElem hlt
    have hw : IntKind.i64.wrap ((k : Int) + 1) = ((k + 1 : Nat) : Int) := by rw [wrapI (by omega) (by omega)]; omega
    obtain ⟨x, hx⟩ : ∃ x, p.exprs[k] = x := ⟨_, rfl⟩
    rw [hx] at he
    obtain ⟨hwf, hb⟩ := ha k x he
    rw [Nat.zero_add] at hb
    have hts : allParts (p.exprs.take (k + 1)) = allParts (p.exprs.take k) ++ partsX x := by
      rw [List.take_add_one, he, allParts_app]
      simp [allParts]
    have next := fun hl => ih (k + 1) (by omega) hl
    rw [hts] at next
    obtain ⟨d, hdd⟩ : ∃ d, allParts (p.exprs.take k) = d := ⟨_, rfl⟩
    rw [hdd] at next hd ⊢
    have fin : ∀ {QQ : Ex → St → Prop} {ps : List Int}, partsX x = ps → ps.length ≤ 3 →
        (∀ q ∈ ps, 0 ≤ q ∧ q < (k : Int)) ∧ wpB C I g_law08_TreeParts.l0 (St.mk (look [(3, .ptr 3 0), (6, .own 42), (44, .d (.sl (p.exprs.map encX))), (45, vI p.exprs.length), (46, vI ((k + 1 : Nat) : Int))]) (looko [(3, some (.box [.d (.sl (p.rules.map encRl)), .d (.sl (p.exprs.map encX))])), (42, some (.row 1 ((cntL p.exprs.length (d ++ ps)).map encI)))])) Q := by
      intro QQ ps hps hl
      rw [hps] at hb next
      exact ⟨hb, next (by rw [List.length_append]; omega)⟩
    obtain ⟨op, nm, v, a, b, c⟩ := x
    rcases hwf with h | h | h | h
    · have e0 : partsX ⟨op, nm, v, a, b, c⟩ = [] := by
        have h := h
        have key : ∀ op : List UInt8, op ≠ wNeg → binOps.contains op = false → op ≠ wIf → partsX ⟨op, nm, v, a, b, c⟩ = [] := by
          intro op h1 h2 h3
          unfold partsX
          rw [if_neg h1, if_neg (by rw [h2]; simp), if_neg h3]
        simp only [leafOps, List.mem_cons, List.not_mem_nil, or_false] at h
        rcases h with rfl | rfl | rfl | rfl <;> exact key _ (by decide) (by decide) (by decide)
      obtain ⟨_, nx⟩ := fin (QQ := Q) e0 (by simp)
      rw [List.append_nil] at nx
      simp only [leafOps, List.mem_cons, List.not_mem_nil, or_false] at h
      rcases h with rfl | rfl | rfl | rfl
      all_goals
        repeat (first | simp only [go_sem, hI, hlt', decide_true, Int.natCast_nonneg, Int.toNat_natCast, getMap encX he, encX] | refine Unf.h ?_)
        refine g_law08_TreeParts_l1_sh rfl ?_
        repeat (first | simp only [go_sem, Int.lt_irrefl, decide_false, hw] | refine Unf.h ?_)
        exact nx
    · have h : op = wNeg := h
      subst h
      obtain ⟨h0, nx⟩ := fin (QQ := Q) (ps := [a]) (by unfold partsX; rw [if_pos rfl]) (by simp)
      repeat (first | simp only [go_sem, hI, hlt', decide_true, Int.natCast_nonneg, Int.toNat_natCast, getMap encX he, encX, partsN] | refine Unf.h ?_)
      refine parts_inner h0 (N := p.exprs.length) (D := d ++ _) (by omega) (by omega) (by simp; omega) (by simp) (fun t t3 t6 t44 t45 t46 => ?_) 1 0 d rfl rfl
      repeat (first | simp only [go_sem, t3, t6, t44, t45, t46, hw] | refine Unf.h ?_)
      exact nx
    · have e0 : partsX ⟨op, nm, v, a, b, c⟩ = [a, b] := by
        obtain ⟨h1, h2, _⟩ := bin_op h
        unfold partsX
        rw [if_neg h1, if_pos h2]
      obtain ⟨h0, nx⟩ := fin (QQ := Q) e0 (by simp)
      rcases bin_list h with rfl | rfl | rfl | rfl | rfl | rfl | rfl | rfl | rfl | rfl | rfl
      all_goals
        repeat (first | simp only [go_sem, hI, hlt', decide_true, Int.natCast_nonneg, Int.toNat_natCast, getMap encX he, encX, partsN] | refine Unf.h ?_)
        refine parts_inner h0 (N := p.exprs.length) (D := d ++ _) (by omega) (by omega) (by simp; omega) (by simp) (fun t t3 t6 t44 t45 t46 => ?_) 2 0 d rfl rfl
        repeat (first | simp only [go_sem, t3, t6, t44, t45, t46, hw] | refine Unf.h ?_)
        exact nx
    · have h : op = wIf := h
      subst h
      have e0 : partsX ⟨wIf, nm, v, a, b, c⟩ = [a, b, c] := by
        have h1 : wIf ≠ wNeg := by decide
        have h2 : ¬ binOps.contains wIf = true := by decide
        unfold partsX
        rw [if_neg h1, if_neg h2, if_pos rfl]
      obtain ⟨h0, nx⟩ := fin (QQ := Q) e0 (by simp)
      repeat (first | simp only [go_sem, hI, hlt', decide_true, Int.natCast_nonneg, Int.toNat_natCast, getMap encX he, encX, partsN] | refine Unf.h ?_)
      refine parts_inner h0 (N := p.exprs.length) (D := d ++ _) (by omega) (by omega) (by simp; omega) (by simp) (fun t t3 t6 t44 t45 t46 => ?_) 3 0 d rfl rfl
      repeat (first | simp only [go_sem, t3, t6, t44, t45, t46, hw] | refine Unf.h ?_)
      exact nx
theorem parts_roots {C : Ctx} {I : Nat → Prop} (hI : ∀ n, ¬ I n) {Q : Ex → St → Prop} {rs : List Rul} {N : Nat} {done : List Int} (hd : done.length < 4000) (hr : ∀ r ∈ rs, 0 ≤ r.root ∧ r.root < (N : Int)) (hN : N < 1000) (hl : rs.length < 1000)
    (hT : ∀ t, t 6 = .own 42 → Q (.exit 5) (St.mk t (looko [(42, some (.row 1 ((cntL N (done ++ rs.map (·.root))).map encI)))]))) :
    ∀ (m k : Nat), k + m = rs.length →
      wpB C I g_law08_TreeParts.l2 (St.mk (look [(6, .own 42), (106, .d (.sl (rs.map encRl))), (107, vI rs.length), (108, vI k)]) (looko [(42, some (.row 1 ((cntL N (done ++ (rs.take k).map (·.root))).map encI)))])) Q := by
  intro m
  induction m with
  | zero =>
    intro k hk
    refine g_law08_TreeParts_l2_sh rfl ?_
    have : k = rs.length := by omega
    subst this
    rw [List.take_length]
    repeat (first | simp only [go_sem, Int.lt_irrefl, decide_false] | refine Unf.h ?_)
    refine hT _ ?_ <;> rfl
  | succ m ih =>
    intro k hk
    refine g_law08_TreeParts_l2_sh rfl ?_
    have hlt : k < rs.length := by omega
    have hlt' : ((k : Int) < (rs.length : Int)) := by omega
    have he := List.getElem?_eq_getElem hlt
    have hw : IntKind.i64.wrap ((k : Int) + 1) = ((k + 1 : Nat) : Int) := by rw [wrapI (by omega) (by omega)]; omega
    obtain ⟨r, hrk⟩ : ∃ r, rs[k] = r := ⟨_, rfl⟩
    have hb := hr _ (List.getElem_mem hlt)
    rw [hrk] at he hb
    obtain ⟨kd, nm, root⟩ := r
    simp only at hb
    obtain ⟨j, rfl⟩ : ∃ j : Nat, root = (j : Int) := ⟨root.toNat, by omega⟩
    have hj : j < N := by omega
    have h1 : ¬ ((j : Int) < 0) := by omega
    have hts : (rs.take (k + 1)).map (·.root) = (rs.take k).map (·.root) ++ [(j : Int)] := by rw [List.take_add_one, he]; simp
    have next := ih (k + 1) (by omega)
    rw [hts, ← List.append_assoc, ← cntL_set] at next
    obtain ⟨d2, hd2⟩ : ∃ d2, done ++ (rs.take k).map (·.root) = d2 := ⟨_, rfl⟩
    have hl2 : d2.length < 6000 := by rw [← hd2, List.length_append, List.length_map, List.length_take]; omega
    rw [hd2] at next ⊢
    have hc := List.count_le_length (a := (j : Int)) (l := d2)
    have hg := cntL_get hj d2
    obtain ⟨c, hcc⟩ : ∃ c, d2.count (j : Int) = c := ⟨_, rfl⟩
    rw [hcc] at hg hc next
    have hw2 : IntKind.i64.wrap ((c : Int) + 1) = (c : Int) + 1 := wrapI (by omega) (by omega)
    have hkn : ((j : Int) < ((cntL N d2).length : Int)) := by rw [cntL_len]; omega
    have hkn2 : ¬ ((j : Int) ≥ ((cntL N d2).length : Int)) := by omega
    rw [List.map_set] at next
    repeat (first | simp only [go_sem, hI, hlt', decide_true, decide_false, h1, Int.natCast_nonneg, Int.toNat_natCast, getMap encRl he, encRl, encI, List.length_map, hkn, hkn2, getMap encI hg, hw2, hw] | refine Unf.h ?_)
    exact next
theorem parts_check {C : Ctx} {I : Nat → Prop} {Q : Ex → St → Prop} {cur : List Int} {v : V} {ob : Option Ob} (hv : v = .own 42) (hob : ob = some (.row 1 (cur.map encI))) (h1 : ∀ c ∈ cur, c = 1) (hN : cur.length < 1000)
    (hT : ∀ t o, Q (.exit 7) (St.mk t o)) :
    ∀ (m k : Nat), k + m = cur.length →
      wpB C I g_law08_TreeParts.l3 (St.mk (look [(130, v), (131, vI cur.length), (132, vI k)]) (looko [(42, ob)])) Q := by
  subst hv hob
  intro m
  induction m with
  | zero =>
    intro k hk
    refine g_law08_TreeParts_l3_sh rfl ?_
    have : k = cur.length := by omega
    subst this
    repeat (first | simp only [go_sem, Int.lt_irrefl, decide_false] | refine Unf.h ?_)
    exact hT _ _
  | succ m ih =>
    intro k hk
    refine g_law08_TreeParts_l3_sh rfl ?_
    have hlt : k < cur.length := by omega
    have hlt' : ((k : Int) < (cur.length : Int)) := by omega
    have he := List.getElem?_eq_getElem hlt
    have hw : IntKind.i64.wrap ((k : Int) + 1) = ((k + 1 : Nat) : Int) := by rw [wrapI (by omega) (by omega)]; omega
    have hb := h1 _ (List.getElem_mem hlt)
    rw [hb] at he
    repeat (first | simp only [go_sem, hlt', decide_true, Int.natCast_nonneg, Int.toNat_natCast, getMap encI he, encI, List.length_map, hw] | refine Unf.h ?_)
    exact ih (k + 1) (by omega)
theorem parts_many (xs : List Xpr) : (allParts xs).length ≤ 3 * xs.length := by
  induction xs with
  | nil => simp [allParts]
  | cons x xs ih =>
    have : (partsX x).length ≤ 3 := by unfold partsX; split <;> (try split) <;> (try split) <;> simp
    simp only [allParts, List.flatMap_cons, List.length_append, List.length_cons] at ih ⊢
    omega
theorem lawTreeParts {C : Ctx} (h : okFn C.P C.φ 142 g_law08_TreeParts = true) (K : LawT C) (s : List UInt8) : SoundAt C 142 ⟨[vS s], looko []⟩ ⟨vB true, looko []⟩ := by
  refine SoundAt.of_run h rfl (fun Q hR hN => ?_)
  rw [entry1]
  by_cases h1 : s.length > 600
  · have h1' : ((s.length : Int) > 600) := by omega
    repeat (first | simp only [go_sem, h1', decide_true] | refine Unf.h ?_)
    refine callK_plain K.awake (fun _ => rfl) ?_
    repeat (first | simp only [go_sem] | refine Unf.h ?_)
    refine hR _ ?_
    simp only [go_sem]
  have h1' : ¬ ((s.length : Int) > 600) := by omega
  have tp := K.parse s (by omega)
  have sm := parse_small s (by omega)
  rcases parse_cases s with ⟨he, hp⟩ | ⟨l, hwf, hp⟩
  · obtain ⟨q, hq⟩ : ∃ q, parseP s = q := ⟨_, rfl⟩
    rw [hq] at tp he hp
    obtain ⟨q1, q2, q3⟩ := q
    simp only at he hp
    subst hp
    have hb : (q3 != 0) = true := by simpa using he
    repeat (first | simp only [go_sem, h1', decide_false] | refine Unf.h ?_)
    refine callK_plain tp (fun _ => rfl) ?_
    have w0 : IntKind.i64.wrap (0 + 0) = 0 := by rw [wrapI (by omega) (by omega)]; rfl
    repeat (first | simp only [go_sem, vParse, hb, w0] | refine Unf.h ?_)
    refine callK_plain K.awake (fun _ => rfl) ?_
    repeat (first | simp only [go_sem] | refine Unf.h ?_)
    refine hR _ ?_
    simp only [go_sem]
  · rw [hp] at tp sm
    simp only at sm
    have ha := exprsOf_ahead l 0 hwf
    have hr := roots_in l 0
    have ht := total_count l 0
    obtain ⟨p, hpp⟩ : ∃ p, progOf l = p := ⟨_, rfl⟩
    have ex : exprsOf 0 l = p.exprs := by rw [← hpp]; rfl
    have er : rulesOf 0 l = p.rules := by rw [← hpp]; rfl
    rw [hpp] at tp sm
    rw [ex] at ha hr ht
    rw [er] at hr ht
    have hl1 : p.exprs.length ≤ 140737488355328 := by omega
    have hl2 : p.exprs.length * 8 ≤ 140737488355328 := by omega
    have hmn := parts_many p.exprs
    repeat (first | simp only [go_sem, h1', decide_false] | refine Unf.h ?_)
    refine callK_plain tp (fun _ => rfl) ?_
    repeat (first | simp only [go_sem, vParse, List.length_map, Int.natCast_nonneg, Int.toNat_natCast, hl2] | refine And.intro (by omega) ?_ | refine Unf.h ?_)
    have e0 : (List.replicate p.exprs.length ([.int .i64 0] : List D)) = (cntL p.exprs.length (allParts (p.exprs.take 0))).map encI := by
      simp only [List.take_zero, allParts, List.flatMap_nil, cntL_0, List.map_replicate]
      rfl
    rw [e0]
    refine parts_outer (fun n h => h) ha (by omega) (fun t t3 t6 => ?_) p.exprs.length 0 (by omega) (by simp [allParts])
    repeat (first | simp only [go_sem, t3, t6, List.length_map] | refine Unf.h ?_)
    have e1 : allParts p.exprs = allParts p.exprs ++ (p.rules.take 0).map (·.root) := by simp
    rw [e1]
    refine parts_roots (fun n h => h) (done := allParts p.exprs) (by omega) (fun r hr' => ?_) (by omega) (by omega) (fun t t6 => ?_) p.rules.length 0 (by omega)
    · have := hr r hr'
      omega
    · repeat (first | simp only [go_sem, t6, List.length_map, cntL_len] | refine Unf.h ?_)
      have hone : ∀ c ∈ cntL p.exprs.length (allParts p.exprs ++ p.rules.map (·.root)), c = 1 := by
        intro c hc
        simp only [cntL, List.mem_map, List.mem_range] at hc
        obtain ⟨m, hm, rfl⟩ := hc
        have := ht m hwf
        rw [List.count_append, this]
        unfold ind
        rw [if_pos (by omega)]
        rfl
      have hcl := cntL_len p.exprs.length (allParts p.exprs ++ p.rules.map (·.root))
      have fin := parts_check (C := C) (I := fun n => False) (Q := (blockK 7 [] (some []) (seqK (fun st => wpB C (fun n => False) g_law08_TreeParts.c15 st Q) Q))) (cur := cntL p.exprs.length (allParts p.exprs ++ p.rules.map (·.root))) rfl rfl hone (by omega) (fun t o => ?_) (cntL p.exprs.length (allParts p.exprs ++ p.rules.map (·.root))).length 0 (by omega)
      · rw [hcl] at fin
        exact fin
      · repeat (first | simp only [go_sem] | refine Unf.h ?_)
        refine callK_plain K.awake (fun _ => rfl) ?_
        repeat (first | simp only [go_sem] | refine Unf.h ?_)
        refine hR _ ?_
        simp only [go_sem]
end Pay
