/- Laws of rule sets: two, one behind the other. -/
import Derived.Test.YtcgeldjhobmijaaDoorPayC32
import Derived.Test.YtcgeldjhobmijaaDoorPayC48
import Derived.Test.YtcgeldjhobmijaaDoorPayC61
import Derived.Test.YtcgeldjhobmijaaDoorPayC63
import Derived.Test.YtcgeldjhobmijaaDoorPayC65
import Derived.Test.YtcgeldjhobmijaaDoorPayC66
import Derived.Test.YtcgeldjhobmijaaDoorPayC67
import Derived.Test.YtcgeldjhobmijaaDoorPaySh0_0
import Derived.Test.YtcgeldjhobmijaaDoorPaySh3_0
import Derived.Test.YtcgeldjhobmijaaDoorPayTr1
import Derived.Test.YtcgeldjhobmijaaDoorPayTr2
import Derived.Test.YtcgeldjhobmijaaDoorPayTr3
import Derived.Test.YtcgeldjhobmijaaDoorPayTr6
import Derived.Test.YtcgeldjhobmijaaDoorPayTr7
set_option linter.unusedSimpArgs false
set_option linter.unusedVariables false
namespace Pay
open Go
attribute [local irreducible] wpB opsB treeB drawB
/-- A program as the document's, with rows of its own. -/
theorem treeRefO {C : Ctx} (h : okFn C.P C.φ 146 g_law08_ref = true) (p : Prog) (h1 : p.rules.length < 100000) (h2 : p.exprs.length < 100000) :
    SoundAt C 146 ⟨[vProg p], looko []⟩ ⟨.agg [.own 192, .own 170], looko [(192, some (.row 3 (p.rules.map encRl))), (170, some (.row 6 (p.exprs.map encX)))]⟩ := by
  have key : ∀ v1 v2 o1 o2, v1 = ownV 19 p.rules → v2 = ownV 33 p.exprs → o1 = ownO 3 encRl p.rules → o2 = ownO 6 encX p.exprs → SoundAt C 146 ⟨[vProg p], looko []⟩ ⟨.agg [v1, v2], looko [(19, o1), (33, o2)]⟩ := by
    intro v1 v2 o1 o2 e1 e2 e3 e4
    refine SoundAt.of_run (fn := { g_law08_ref with frz := [] }) h rfl (fun Q hR hN => ?_)
    rw [entry1]
    refine (show wpB C _ g_law08_ref.code _ _ from ?_)
    repeat (first | simp only [go_sem, List.length_map] | refine Unf.h ?_)
    refine ref_loop0 (fun n h => h) rfl h1 (fun s s1 s2 s3 => ?_) p.rules.length 0 (by omega)
    repeat (first | simp only [go_sem, s1, s2, s3, List.length_map] | refine Unf.h ?_)
    refine ref_loop1 (fun n h => h) rfl h2 (rs := p.rules) rfl rfl (fun s s2 s3 => ?_) p.exprs.length 0 (by omega)
    have fin : ∀ s, s 2 = .ptr 2 0 → Q .ret (St.mk s (looko [(2, some (.box [v1, v2])), (19, o1), (33, o2)])) := by
      intro s s2
      refine hR _ ⟨[.agg [v1, v2]], ?_, rfl, fun n x hx => ?_⟩
      · show resVs (St.mk s (looko [(2, some (.box [v1, v2])), (19, o1), (33, o2)])) [ARes.cell 2 (some 2)] = some [.agg [v1, v2]]
        simp only [go_sem, s2]
      · show looko [(2, some (Ob.box [v1, v2])), (19, o1), (33, o2)] n = some x
        simp only [looko] at hx ⊢
        by_cases h2 : n = 2
        · subst h2; simp at hx
        · rw [if_neg h2]; exact hx
    cases hr : p.rules with
    | nil =>
      cases hx : p.exprs with
      | nil =>
        rw [hr] at e1 e3
        rw [hx] at e2 e4
        simp only [ownV, ownO] at e1 e2 e3 e4
        subst e1 e2 e3 e4
        repeat (first | simp only [go_sem, s2, s3, ownV, ownO] | refine Unf.h ?_)
        exact fin _ rfl
      | cons b m =>
        rw [hr] at e1 e3
        rw [hx] at e2 e4
        simp only [ownV, ownO] at e1 e2 e3 e4
        subst e1 e2 e3 e4
        repeat (first | simp only [go_sem, s2, s3, ownV, ownO] | refine Unf.h ?_)
        exact fin _ rfl
    | cons a l =>
      cases hx : p.exprs with
      | nil =>
        rw [hr] at e1 e3
        rw [hx] at e2 e4
        simp only [ownV, ownO] at e1 e2 e3 e4
        subst e1 e2 e3 e4
        repeat (first | simp only [go_sem, s2, s3, ownV, ownO] | refine Unf.h ?_)
        exact fin _ rfl
      | cons b m =>
        rw [hr] at e1 e3
        rw [hx] at e2 e4
        simp only [ownV, ownO] at e1 e2 e3 e4
        subst e1 e2 e3 e4
        repeat (first | simp only [go_sem, s2, s3, ownV, ownO] | refine Unf.h ?_)
        exact fin _ rfl
  refine SoundX.res_own 192 170 (a := 19) (b := 33) ?_ ?_ (by decide) (by decide) rfl rfl (key _ _ _ _ rfl rfl rfl rfl)
  · cases p.rules with
    | nil => exact .inl ⟨rfl, rfl⟩
    | cons a l => exact .inr ⟨rfl, rfl⟩
  · cases p.exprs with
    | nil => exact .inl ⟨rfl, rfl⟩
    | cons a l => exact .inr ⟨rfl, by simp [looko, ownO]⟩
abbrev bP (p : Prog) : Ob := .box [.d (.sl (p.rules.map encRl)), .d (.sl (p.exprs.map encX))]
attribute [go_sem] bP
theorem shiftX_leaf {op nm : List UInt8} {v a b c : Int} (d : Nat) (h : op = wWhole ∨ op = wAmount ∨ op = wRate ∨ op = wName) : shiftX d ⟨op, nm, v, a, b, c⟩ = ⟨op, nm, v, a, b, c⟩ := by
  unfold shiftX
  exact if_pos h
theorem shiftX_if {nm : List UInt8} {v a b c : Int} (d : Nat) : shiftX d ⟨wIf, nm, v, a, b, c⟩ = ⟨wIf, nm, v, a + d, b + d, c + d⟩ := by
  simp [shiftX]
theorem shiftX_neg {nm : List UInt8} {v a b c : Int} (d : Nat) : shiftX d ⟨wNeg, nm, v, a, b, c⟩ = ⟨wNeg, nm, v, a + d, b, c⟩ := by
  simp [shiftX]
theorem shiftX_bin {op nm : List UInt8} {v a b c : Int} (d : Nat) (h : op ∈ binOps) : shiftX d ⟨op, nm, v, a, b, c⟩ = ⟨op, nm, v, a + d, b + d, c⟩ := by
  have h1 : ¬ (op = wWhole ∨ op = wAmount ∨ op = wRate ∨ op = wName) := by
    rintro (rfl | rfl | rfl | rfl) <;> exact absurd h (by decide)
  obtain ⟨h3, _, h2⟩ := bin_op h
  simp only [not_or] at h1
  simp [shiftX, h1, h2, h3]
set_option maxHeartbeats 4000000 in
theorem joins_loop0 {C : Ctx} {I : Nat → Prop} (hI : ∀ n, ¬ I n) {Q : Ex → St → Prop} {p q B : Prog} {g : Int} {n : Nat} (hn : n < 1000) (hpl : p.exprs.length < 1000) (ha : Ahead 0 q.exprs) (hN : q.exprs.length < 1000)
    (hT : ∀ t, t 8 = .ptr 8 0 → t 11 = .ptr 11 0 → t 13 = vI g → t 14 = .ptr 14 0 → t 15 = vI n → Q (.exit 0) (St.mk t (looko [(8, some (bP q)), (11, some (bP B)), (14, some (.box [.own 192, .own 170])), (170, some (.row 6 ((p.exprs ++ q.exprs.map (shiftX n)).map encX))), (192, some (.row 3 (p.rules.map encRl)))]))) :
    ∀ (m k : Nat), k + m = q.exprs.length →
      wpB C I g_law08_TreeJoins.l0 (St.mk (look [(8, .ptr 8 0), (11, .ptr 11 0), (13, vI g), (14, .ptr 14 0), (15, vI n), (118, .d (.sl (q.exprs.map encX))), (119, vI q.exprs.length), (120, vI k)])
        (looko [(8, some (bP q)), (11, some (bP B)), (14, some (.box [.own 192, .own 170])), (170, some (.row 6 ((p.exprs ++ (q.exprs.take k).map (shiftX n)).map encX))), (192, some (.row 3 (p.rules.map encRl)))])) Q := by
  intro m
  induction m with
  | zero =>
    intro k hk
    refine g_law08_TreeJoins_l0_sh rfl ?_
    have : k = q.exprs.length := by omega
    subst this
    rw [List.take_length]
    repeat (first | simp only [go_sem, Int.lt_irrefl, decide_false] | refine Unf.h ?_)
    refine hT _ ?_ ?_ ?_ ?_ ?_ <;> rfl
  | succ m ih =>
    intro k hk
    refine g_law08_TreeJoins_l0_sh rfl ?_
    have hlt : k < q.exprs.length := by omega
    have hlt' : ((k : Int) < (q.exprs.length : Int)) := by omega
    have he := List.getElem?_eq_getElem hlt
    have hw : IntKind.i64.wrap ((k : Int) + 1) = ((k + 1 : Nat) : Int) := by rw [wrapI (by omega) (by omega)]; omega
    obtain ⟨x, hx⟩ : ∃ x, q.exprs[k] = x := ⟨_, rfl⟩
    rw [hx] at he
    obtain ⟨hwf, hb⟩ := ha k x he
    have hts : p.exprs ++ (q.exprs.take (k + 1)).map (shiftX n) = (p.exprs ++ (q.exprs.take k).map (shiftX n)) ++ [shiftX n x] := by rw [List.take_add_one, he]; simp
    have next := ih (k + 1) (by omega)
    rw [hts, List.map_append] at next
    have hlen : (p.exprs ++ (q.exprs.take k).map (shiftX n)).length < 2000 := by rw [List.length_append, List.length_map, List.length_take]; omega
    obtain ⟨E, hE⟩ : ∃ E, p.exprs ++ (q.exprs.take k).map (shiftX n) = E := ⟨_, rfl⟩
    rw [hE] at next hlen ⊢
    have hl1 : E.length ≤ 140737488355327 := by omega
    have hl2 : (E.length + 1) * 64 ≤ 140737488355328 := by omega
    have wr : ∀ a : Int, 0 ≤ a → a < (0 + k : Nat) → IntKind.i64.wrap (a + (n : Int)) = a + (n : Int) := fun a h1 h2 => wrapI (by omega) (by omega)
    obtain ⟨op, nm, v, a, b, c⟩ := x
    rcases hwf with h | h | h | h
    · simp only [leafOps, List.mem_cons, List.not_mem_nil, or_false] at h
      have h : op = wWhole ∨ op = wAmount ∨ op = wRate ∨ op = wName := h
      rw [shiftX_leaf n h] at next
      rcases h with rfl | rfl | rfl | rfl
      all_goals
        repeat (first | simp only [go_sem, hI, hlt', decide_true, Int.natCast_nonneg, Int.toNat_natCast, getMap encX he, encX, partsN, List.length_map, hl1, hl2, hw] | refine Unf.h ?_)
        exact next
    · have h : op = wNeg := h
      subst h
      rw [shiftX_neg n] at next
      have e0 : partsX ⟨wNeg, nm, v, a, b, c⟩ = [a] := by unfold partsX; rw [if_pos rfl]
      rw [e0] at hb
      obtain ⟨a1, a2⟩ := hb a (by simp)
      have wa := wr a a1 a2
      repeat (first | simp only [go_sem, hI, hlt', decide_true, Int.natCast_nonneg, Int.toNat_natCast, getMap encX he, encX, partsN, List.length_map, hl1, hl2, hw, wa] | refine Unf.h ?_)
      exact next
    · rw [shiftX_bin n h] at next
      have e0 : partsX ⟨op, nm, v, a, b, c⟩ = [a, b] := by
        obtain ⟨h1, h2, _⟩ := bin_op h
        unfold partsX
        rw [if_neg h1, if_pos h2]
      rw [e0] at hb
      obtain ⟨a1, a2⟩ := hb a (by simp)
      obtain ⟨b1, b2⟩ := hb b (by simp)
      have wa := wr a a1 a2
      have wb := wr b b1 b2
      rcases bin_list h with rfl | rfl | rfl | rfl | rfl | rfl | rfl | rfl | rfl | rfl | rfl
      all_goals
        repeat' (first | exact next | simp only [go_sem, hI, hlt', decide_true, Int.natCast_nonneg, Int.toNat_natCast, getMap encX he, encX, partsN, List.length_map, hl1, hl2, hw, wa, wb] | refine Unf.h ?_ | refine And.intro ?_ ?_)
    · have h : op = wIf := h
      subst h
      rw [shiftX_if n] at next
      have e0 : partsX ⟨wIf, nm, v, a, b, c⟩ = [a, b, c] := by
        have h1 : wIf ≠ wNeg := by decide
        have h2 : ¬ binOps.contains wIf = true := by decide
        unfold partsX
        rw [if_neg h1, if_neg h2, if_pos rfl]
      rw [e0] at hb
      obtain ⟨a1, a2⟩ := hb a (by simp)
      obtain ⟨b1, b2⟩ := hb b (by simp)
      obtain ⟨c1, c2⟩ := hb c (by simp)
      have wa := wr a a1 a2
      have wb := wr b b1 b2
      have wc := wr c c1 c2
      repeat' (first | exact next | simp only [go_sem, hI, hlt', decide_true, Int.natCast_nonneg, Int.toNat_natCast, getMap encX he, encX, partsN, List.length_map, hl1, hl2, hw, wa, wb, wc] | refine Unf.h ?_ | refine And.intro ?_ ?_)
theorem callK_own2 {C : Ctx} {I : Nat → Prop} {dst : Option Nat} {ls : List (Nat × V)} {m : List (Nat × Option Ob)} {f : Nat} {xs : List V} {F : V → (Nat → Option Ob) → Prop} {a b s1 s2 : Nat} {e1 e2 : List (List D)}
    (h : SoundAt C f ⟨xs, looko []⟩ ⟨.agg [.own a, .own b], looko [(a, some (.row s1 e1)), (b, some (.row s2 e2))]⟩) (hs : ¬ I a ∧ ¬ I b ∧ (freshS a dst ls && freshO a m) = true ∧ (freshS b dst ls && freshO b m) = true)
    (hK : F (.agg [.own a, .own b]) (updL (looko m) [(a, .row s1 e1), (b, .row s2 e2)])) : callK C I (St.mk (look ls) (looko m)) dst f xs F := by
  obtain ⟨h1, h2, h3, h4⟩ := hs
  simp only [Bool.and_eq_true] at h3 h4
  refine callKX_new [] [(a, .row s1 e1), (b, .row s2 e2)] (fun n hn => hn.elim) trivial (fun n hn => by cases hn) (fun n hn _ => ?_) (fun p hp m hm => ?_) h (fun n hn => ?_) hK
  · simp only [oL, List.map_cons, List.map_nil, looko] at hn
    split at hn
    · rename_i e; subst e; exact ⟨h1, fresh_mk h3.1 h3.2⟩
    · split at hn
      · rename_i e; subst e; exact ⟨h2, fresh_mk h4.1 h4.2⟩
      · cases hn
  · simp only [List.mem_cons, List.not_mem_nil, or_false] at hp
    rcases hp with rfl | rfl <;> cases hm
  · simp only [V.refs, V.refsL, Bool.or_false, Bool.or_eq_true, beq_iff_eq] at hn
    simp only [oL, List.map_cons, List.map_nil, looko]
    rcases hn with rfl | rfl
    · simp
    · split <;> simp
theorem joins_loop1 {C : Ctx} {I : Nat → Prop} (hI : ∀ n, ¬ I n) {Q : Ex → St → Prop} {rs pr : List Rul} {es : List Xpr} {B : Prog} {g : Int} {n : Nat} (hn : n < 1000) (hpl : pr.length < 1000) (hr : ∀ r ∈ rs, 0 ≤ r.root ∧ r.root < 1000) (hN : rs.length < 1000)
    (hT : ∀ t, t 11 = .ptr 11 0 → t 13 = vI g → t 14 = .ptr 14 0 → Q (.exit 3) (St.mk t (looko [(11, some (bP B)), (14, some (.box [.own 192, .own 170])), (170, some (.row 6 (es.map encX))), (192, some (.row 3 ((pr ++ rs.map (shiftR n)).map encRl)))]))) :
    ∀ (m k : Nat), k + m = rs.length →
      wpB C I g_law08_TreeJoins.l1 (St.mk (look [(11, .ptr 11 0), (13, vI g), (14, .ptr 14 0), (15, vI n), (174, .d (.sl (rs.map encRl))), (175, vI rs.length), (176, vI k)])
        (looko [(11, some (bP B)), (14, some (.box [.own 192, .own 170])), (170, some (.row 6 (es.map encX))), (192, some (.row 3 ((pr ++ (rs.take k).map (shiftR n)).map encRl)))])) Q := by
  intro m
  induction m with
  | zero =>
    intro k hk
    refine g_law08_TreeJoins_l1_sh rfl ?_
    have : k = rs.length := by omega
    subst this
    rw [List.take_length]
    repeat (first | simp only [go_sem, Int.lt_irrefl, decide_false] | refine Unf.h ?_)
    refine hT _ ?_ ?_ ?_ <;> rfl
  | succ m ih =>
    intro k hk
    refine g_law08_TreeJoins_l1_sh rfl ?_
    have hlt : k < rs.length := by omega
    have hlt' : ((k : Int) < (rs.length : Int)) := by omega
    have he := List.getElem?_eq_getElem hlt
    have hw : IntKind.i64.wrap ((k : Int) + 1) = ((k + 1 : Nat) : Int) := by rw [wrapI (by omega) (by omega)]; omega
    obtain ⟨x, hx⟩ : ∃ x, rs[k] = x := ⟨_, rfl⟩
    have hb := hr _ (List.getElem_mem hlt)
    rw [hx] at he hb
    have hts : pr ++ (rs.take (k + 1)).map (shiftR n) = (pr ++ (rs.take k).map (shiftR n)) ++ [shiftR n x] := by rw [List.take_add_one, he]; simp
    have next := ih (k + 1) (by omega)
    rw [hts, List.map_append] at next
    have hlen : (pr ++ (rs.take k).map (shiftR n)).length < 2000 := by rw [List.length_append, List.length_map, List.length_take]; omega
    obtain ⟨E, hE⟩ : ∃ E, pr ++ (rs.take k).map (shiftR n) = E := ⟨_, rfl⟩
    rw [hE] at next hlen ⊢
    have hl1 : E.length ≤ 140737488355327 := by omega
    have hl2 : (E.length + 1) * 40 ≤ 140737488355328 := by omega
    obtain ⟨kd, nm, root⟩ := x
    have wr : IntKind.i64.wrap (root + (n : Int)) = root + (n : Int) := wrapI (by simp only at hb; omega) (by simp only at hb; omega)
    repeat (first | simp only [go_sem, hI, hlt', decide_true, Int.natCast_nonneg, Int.toNat_natCast, getMap encRl he, encRl, partsN, List.length_map, hl1, hl2, hw, wr] | refine Unf.h ?_)
    exact next
theorem lawTreeJoins {C : Ctx} (h : okFn C.P C.φ 148 g_law08_TreeJoins = true) (hRf : okFn C.P C.φ 146 g_law08_ref = true) (K : LawT C) (s t : List UInt8) : SoundAt C 148 ⟨[vS s, vS t], looko []⟩ ⟨vB true, looko []⟩ := by
  refine SoundAt.of_run h rfl (fun Q hR hN => ?_)
  rw [entry2]
  have hF : ∀ st o, st 4 = vB true → Q .ret (St.mk st o) := fun st o h4 => hR _ (by simp only [go_sem, h4])
  by_cases h1 : s.length > 300
  · have h1' : ((s.length : Int) > 300) := by omega
    repeat (first | simp only [go_sem, h1', decide_true] | refine Unf.h ?_)
    refine callK_plain K.awake (fun _ => rfl) ?_
    repeat (first | simp only [go_sem] | refine Unf.h ?_)
    exact hF _ _ rfl
  have h1' : ¬ ((s.length : Int) > 300) := by omega
  by_cases h2 : t.length > 300
  · have h2' : ((t.length : Int) > 300) := by omega
    repeat (first | simp only [go_sem, h1', h2', decide_true, decide_false] | refine Unf.h ?_)
    refine callK_plain K.awake (fun _ => rfl) ?_
    repeat (first | simp only [go_sem] | refine Unf.h ?_)
    exact hF _ _ rfl
  have h2' : ¬ ((t.length : Int) > 300) := by omega
  have hlB : (s ++ 10 :: t).length = s.length + t.length + 1 := by simp; omega
  have tp := K.parse s (by omega)
  have tq := K.parse t (by omega)
  have tb := K.parse (s ++ 10 :: t) (by omega)
  have sp := parse_small s (by omega)
  have sq := parse_small t (by omega)
  have sb := parse_small (s ++ 10 :: t) (by omega)
  have eB : s ++ [10] ++ t = s ++ 10 :: t := by simp
  rw [← eB] at tb
  have k1 : (s.length : Int) + 1 ≤ 9223372036854775807 := by omega
  repeat (first | simp only [go_sem, h1', h2', decide_false] | refine Unf.h ?_)
  refine callK_plain tp (fun _ => rfl) ?_
  repeat (first | simp only [go_sem, vParse] | refine Unf.h ?_)
  refine callK_plain tq (fun _ => rfl) ?_
  repeat (first | simp only [go_sem, vParse, ↓demand_if, List.length_append] | refine And.intro (by omega) ?_ | refine Unf.h ?_)
  refine callK_plain tb (fun _ => rfl) ?_
  rw [eB]
  rcases read_cases s with ⟨hp1, hp2⟩ | ⟨ts, l, hls, hrd, hwf, hp⟩
  · have hb : ((parseP s).2.2 != 0) = true := by rcases hp2 with h | h <;> rw [h] <;> rfl
    repeat (first | simp only [go_sem, vParse, hb, hp1] | refine Unf.h ?_)
    refine callK_plain K.awake (fun _ => rfl) ?_
    repeat (first | simp only [go_sem] | refine Unf.h ?_)
    exact hF _ _ rfl
  rw [hp] at sp ⊢
  simp only at sp
  have hrl : (progOf l).rules.length = l.length := rulesOf_len l 0
  rcases joins_law hls hrd with ⟨m, hwm, hq, hbig, hsm⟩ | ⟨hq1, hq2, hb1, hb2⟩
  · rw [hq] at sq ⊢
    simp only at sq
    have hrm : (progOf m).rules.length = m.length := rulesOf_len m 0
    obtain ⟨P, hP⟩ : ∃ P, progOf l = P := ⟨_, rfl⟩
    obtain ⟨R, hRr⟩ : ∃ R, progOf m = R := ⟨_, rfl⟩
    rw [hP] at sp hrl ⊢
    rw [hRr] at sq hrm ⊢
    have wl : IntKind.i64.wrap ((P.rules.length : Int) + (R.rules.length : Int)) = (P.rules.length : Int) + (R.rules.length : Int) := wrapI (by omega) (by omega)
    by_cases h60 : 60 < l.length + m.length
    · have c60 : ((P.rules.length : Int) + (R.rules.length : Int) > 60) := by omega
      have hb := hbig h60
      have hb9 : ((parseP (s ++ 10 :: t)).2.2 == 9) = true := by rw [hb]; rfl
      repeat (first | simp only [go_sem, vParse, List.length_map, wl, c60, decide_true, hb9] | refine Unf.h ?_)
      refine callK_plain K.awake (fun _ => rfl) ?_
      repeat (first | simp only [go_sem] | refine Unf.h ?_)
      exact hF _ _ rfl
    · have c60 : ¬ ((P.rules.length : Int) + (R.rules.length : Int) > 60) := by omega
      have hB := hsm (by omega)
      have hpa := progOf_app (l := l) hwm
      rw [hP, hRr] at hpa
      rw [hpa] at hB
      rw [hB] at sb ⊢
      simp only at sb
      obtain ⟨T, hT⟩ : ∃ T : Prog, (⟨P.rules ++ R.rules.map (shiftR P.exprs.length), P.exprs ++ R.exprs.map (shiftX P.exprs.length)⟩ : Prog) = T := ⟨_, rfl⟩
      have hTr : P.rules ++ R.rules.map (shiftR P.exprs.length) = T.rules := by rw [← hT]
      have hTx : P.exprs ++ R.exprs.map (shiftX P.exprs.length) = T.exprs := by rw [← hT]
      rw [hTr, hTx] at sb
      rw [hT]
      have tr := treeRefO hRf P (by omega) (by omega)
      have tr2 := K.ref T (by omega) (by omega)
      have ts2 := K.same T T (by omega) (by omega)
      rw [decide_eq_true rfl] at ts2
      have haR : Ahead 0 R.exprs := by rw [← hRr]; exact exprsOf_ahead m 0 hwm
      have hrR : ∀ r ∈ R.rules, 0 ≤ r.root ∧ r.root < 1000 := by
        intro r hr
        have := roots_in m 0 r (by rw [← hRr] at hr; exact hr)
        have e : (exprsOf 0 m).length = R.exprs.length := by rw [← hRr]; rfl
        omega
      repeat (first | simp only [go_sem, vParse, List.length_map, wl, c60, decide_false] | refine Unf.h ?_)
      refine callK_own2 tr ?_ ?_
      · simp only [go_sem]
      repeat (first | simp only [go_sem, vParse, List.length_map] | refine Unf.h ?_)
      have e0 : (List.map encX P.exprs) = ((P.exprs ++ (R.exprs.take 0).map (shiftX P.exprs.length)).map encX) := by simp
      rw [e0]
      refine joins_loop0 (fun n h => h) (p := P) (q := R) (B := T) (n := P.exprs.length) (by omega) (by omega) haR (by omega) (fun t t8 t11 t13 t14 t15 => ?_) R.exprs.length 0 (by omega)
      rw [hTx]
      repeat (first | simp only [go_sem, List.length_map, t8, t11, t13, t14, t15] | refine Unf.h ?_)
      have e1 : (List.map encRl P.rules) = ((P.rules ++ (R.rules.take 0).map (shiftR P.exprs.length)).map encRl) := by simp
      rw [e1]
      refine joins_loop1 (fun n h => h) (B := T) (n := P.exprs.length) (by omega) (by omega) hrR (by omega) (fun t t11 t13 t14 => ?_) R.rules.length 0 (by omega)
      rw [hTr]
      repeat' (first | exact hF _ _ rfl | simp only [go_sem, ↓freeK_ll, t11, t13, t14] | refine ⟨_, tr2, fun _ => rfl, ?_⟩ | refine ⟨_, ts2, fun _ => rfl, ?_⟩ | refine ⟨_, K.awake, fun _ => rfl, ?_⟩ | refine callE_plain tr2 (fun _ => rfl) ?_ | refine callE_plain ts2 (fun _ => rfl) ?_ | refine callE_plain K.awake (fun _ => rfl) ?_ | refine Unf.h ?_ | refine And.intro ?_ ?_)
  · obtain ⟨P, hP⟩ : ∃ P, progOf l = P := ⟨_, rfl⟩
    rw [hP] at sp hrl ⊢
    have h60 := prog_60 ts.length 0 ts l (sign_ok hls) (by omega) hrd
    have wl : IntKind.i64.wrap ((P.rules.length : Int) + 0) = (P.rules.length : Int) := by rw [wrapI (by omega) (by omega)]; omega
    have c60 : ¬ ((P.rules.length : Int) > 60) := by omega
    obtain ⟨q, hq⟩ : ∃ q, parseP t = q := ⟨_, rfl⟩
    obtain ⟨b, hb⟩ : ∃ b, parseP (s ++ 10 :: t) = b := ⟨_, rfl⟩
    rw [hq] at hq1 hq2 hb2 ⊢
    rw [hb] at hb1 hb2 ⊢
    obtain ⟨q1, q2, q3⟩ := q
    obtain ⟨b1, b2, b3⟩ := b
    simp only at hq1 hq2 hb1 hb2
    subst hq1 hb1
    have nz : (q3 != 0) = true := by rcases hq2 with h | h <;> rw [h] <;> rfl
    have pl := parse_place t
    rw [hq] at pl
    simp only at pl
    have w1 : IntKind.i64.wrap (q2 + (s.length : Int)) = q2 + (s.length : Int) := wrapI (by omega) (by omega)
    have w2 : IntKind.i64.wrap (q2 + (s.length : Int) + 1) = q2 + (s.length : Int) + 1 := wrapI (by omega) (by omega)
    rcases hb2 with ⟨rfl, rfl⟩ | rfl
    · repeat (first | simp only [go_sem, vParse, List.length_map, wl, c60, decide_false, nz, w1, w2] | refine Unf.h ?_)
      refine callK_plain K.awake (fun _ => rfl) ?_
      repeat (first | simp only [go_sem] | refine Unf.h ?_)
      exact hF _ _ rfl
    · rcases hq2 with rfl | rfl
      · repeat (first | simp only [go_sem, vParse, List.length_map, wl, c60, decide_false, nz, w1, w2] | refine Unf.h ?_)
        refine callK_plain K.awake (fun _ => rfl) ?_
        repeat (first | simp only [go_sem] | refine Unf.h ?_)
        exact hF _ _ rfl
      · obtain ⟨e, he⟩ : ∃ e, (b2 == q2 + (s.length : Int) + 1) = e := ⟨_, rfl⟩
        cases e
        all_goals
          repeat (first | simp only [go_sem, vParse, List.length_map, wl, c60, decide_false, nz, w1, w2, he] | refine Unf.h ?_)
          refine callK_plain K.awake (fun _ => rfl) ?_
          repeat (first | simp only [go_sem] | refine Unf.h ?_)
          exact hF _ _ rfl
end Pay
