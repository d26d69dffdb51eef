/- Contracts: the document's kinds: its first functions. -/
import Derived.Test.YtmglkghngkbioaaGreatDoorPayC32
import Derived.Test.YtmglkghngkbioaaGreatDoorPayC61
import Derived.Test.YtmglkghngkbioaaGreatDoorPayC65
import Derived.Test.YtmglkghngkbioaaGreatDoorPayC80
import Derived.Test.YtmglkghngkbioaaGreatDoorPayC81
import Derived.Test.YtmglkghngkbioaaGreatDoorPayC83
import Derived.Test.YtmglkghngkbioaaGreatDoorPayCk1
import Derived.Test.YtmglkghngkbioaaGreatDoorPayCkC
import Derived.Test.YtmglkghngkbioaaGreatDoorPaySh1_0
import Derived.Test.YtmglkghngkbioaaGreatDoorPayTr1
set_option linter.unusedSimpArgs false
set_option linter.unusedVariables false
namespace Pay
open Go
attribute [local irreducible] wpB opsB treeB drawB
def partK (x : Xpr) (n : Int) : Int := if n = 0 then x.a else if n = 1 then x.b else x.c
theorem many_get (x : Xpr) (n : Nat) (h : n < (partsI x).length) : (partsI x)[n]? = some (partK x n) := by
  unfold partsI at h ⊢
  split at h
  · simp at h
  · rename_i h1
    rw [if_neg h1]
    split at h
    · rename_i h2
      rw [if_pos h2]
      simp at h
      subst h
      rfl
    · rename_i h2
      rw [if_neg h2]
      split at h
      · rename_i h3
        rw [if_pos h3]
        simp at h
        obtain rfl | rfl | rfl : n = 0 ∨ n = 1 ∨ n = 2 := by omega
        all_goals rfl
      · rename_i h3
        rw [if_neg h3]
        simp at h
        obtain rfl | rfl : n = 0 ∨ n = 1 := by omega
        all_goals rfl
theorem r10Many {C : Ctx} (h : okFn C.P C.φ 189 g_ref10_Many = true) (x : Xpr) : SoundAt C 189 ⟨[vS x.op], looko []⟩ ⟨vI (partsI x).length, looko []⟩ := by
  refine SoundAt.of_run h rfl (fun Q hR hN => ?_)
  rw [entry1]
  rcases op_parts x.op with e | e | e | e | e | e | hn
  all_goals
    first
      | (obtain ⟨n1, n2, n3, n4, n5, n6⟩ := id hn
         repeat (first | simp only [go_sem, n1, n2, n3, n4, n5, n6] | refine Unf.h ?_)
         refine hR _ ?_
         simp only [go_sem, parts_two hn]
         try rfl)
      | (repeat (first | simp only [go_sem, e, ucons_beq, ucons_nil, unil_cons, unil_nil] | refine Unf.h ?_)
         refine hR _ ?_
         try simp only [go_sem]
         simp [partsI, isLeaf, e])
theorem r10Part {C : Ctx} (h : okFn C.P C.φ 190 g_ref10_Part = true) (x : Xpr) (n : Int) : SoundAt C 190 ⟨[vX x, vI n], looko []⟩ ⟨vI (partK x n), looko []⟩ := by
  refine SoundAt.of_run h rfl (fun Q hR hN => ?_)
  rw [entry2]
  by_cases h0 : n = 0
  · subst h0
    repeat (first | simp only [go_sem] | refine Unf.h ?_)
    refine hR _ ?_
    simp only [go_sem]
    rfl
  have b0 : (n == 0) = false := by simp [h0]
  by_cases h1 : n = 1
  · subst h1
    repeat (first | simp only [go_sem] | refine Unf.h ?_)
    refine hR _ ?_
    simp only [go_sem]
    rfl
  have b1 : (n == 1) = false := by simp [h1]
  have e : partK x n = x.c := by simp [partK, h0, h1]
  repeat (first | simp only [go_sem, b0, b1] | refine Unf.h ?_)
  refine hR _ ?_
  simp only [go_sem, e]
theorem find_loop {C : Ctx} {I : Nat → Prop} {Q : Ex → St → Prop} {l : List Bnd} {s : List UInt8} {r : Int} (hl : l.length < 100000)
    (hT : ∀ t, r = -1 → Q (.exit 0) (St.mk t (looko []))) (hF : ∀ t, t 4 = vI r → Q .ret (St.mk t (looko []))) :
    ∀ (m k : Nat), k + m = l.length → findB s (l.drop k) k = r → wpB C I g_ref10_find.l0 (St.mk (look [(0, vBns l), (1, vS s), (5, vI k)]) (looko [])) Q := by
  intro m
  induction m with
  | zero =>
    intro k hk hr
    have hk' : k = l.length := by omega
    subst hk'
    refine g_ref10_find_l0_sh rfl ?_
    repeat (first | simp only [go_sem, List.length_map, Int.lt_irrefl, decide_false] | refine Unf.h ?_)
    exact hT _ (by rw [← hr]; simp [findB])
  | succ m ih =>
    intro k hk hr
    have hlt : k < l.length := by omega
    have he := List.getElem?_eq_getElem hlt
    have hlt' : ((k : Int) < (l.length : Int)) := by omega
    have hw := wrapI (x := (k : Int) + 1) (by omega) (by omega)
    rw [List.drop_eq_getElem_cons hlt, findB] at hr
    refine g_ref10_find_l0_sh rfl ?_
    by_cases hpe : l[k].name = s
    · rw [if_pos hpe] at hr
      have hb : (l[k].name == s) = true := by simp [hpe]
      repeat (first | simp only [go_sem, List.length_map, hlt', decide_true, Int.natCast_nonneg, Int.toNat_natCast, getMap encBn he, encBn, hb] | refine Unf.h ?_)
      exact hF _ (by rw [← hr]; rfl)
    · rw [if_neg hpe] at hr
      have hb : (l[k].name == s) = false := by simp [hpe]
      repeat (first | simp only [go_sem, List.length_map, hlt', decide_true, Int.natCast_nonneg, Int.toNat_natCast, getMap encBn he, encBn, hb, hw] | refine Unf.h ?_)
      exact ih (k + 1) (by omega) hr
theorem r10Find {C : Ctx} (h : okFn C.P C.φ 192 g_ref10_find = true) (l : List Bnd) (s : List UInt8) (hl : l.length < 100000) : SoundAt C 192 ⟨[vBns l, vS s], looko []⟩ ⟨vI (findB s l 0), looko []⟩ := by
  refine SoundAt.of_run h rfl (fun Q hR hN => ?_)
  rw [entry2]
  repeat (first | simp only [go_sem] | refine Unf.h ?_)
  refine find_loop (r := findB s l 0) hl (fun t hr => ?_) (fun t h4 => ?_) l.length 0 (by omega) rfl
  · repeat (first | simp only [go_sem] | refine Unf.h ?_)
    refine hR _ ?_
    simp only [go_sem, hr]
  · repeat (first | simp only [go_sem] | refine Unf.h ?_)
    refine hR _ ?_
    simp only [go_sem, h4]
theorem made_inner {C : Ctx} {I : Nat → Prop} (hI : ∀ n, ¬ I n) {Q : Ex → St → Prop} {B : List V} {x : Xpr} {i : Nat} {root : Int} {r : Option (List Bool)}
    (hM : ∀ x : Xpr, SoundAt C 189 ⟨[vS x.op], looko []⟩ ⟨vI (partsI x).length, looko []⟩) (hP : ∀ (x : Xpr) (n : Int), SoundAt C 190 ⟨[vX x, vI n], looko []⟩ ⟨vI (partK x n), looko []⟩)
    (hT : ∀ t out (b : Option Ob), r = some out → t 1 = vI root → t 2 = .ptr 2 0 → t 6 = .own 22 → t 7 = vI i → Q (.exit 2) (St.mk t (looko [(2, some (.box B)), (8, b), (22, some (.row 1 (out.map encB1)))])))
    (hF : ∀ t (row : Option Ob), r = none → t 4 = .cap0 → t 5 = vB false → Q .ret (St.mk t (looko [(22, row)]))) :
    ∀ (m k : Nat) (out : List Bool), k + m = (partsI x).length → i < out.length → out[i]? = some true → markP ((partsI x).drop k) i out = r →
      wpB C I g_ref10_Made.l1 (St.mk (look [(1, vI root), (2, .ptr 2 0), (6, .own 22), (7, vI i), (8, .ptr 8 0), (9, vI k)]) (looko [(2, some (.box B)), (8, some (.box (xC x))), (22, some (.row 1 (out.map encB1)))])) Q := by
  intro m
  induction m with
  | zero =>
    intro k out hk ho hi hr
    have hk' : k = (partsI x).length := by omega
    subst hk'
    have hm := hM x
    have ho' : ((i : Int) < (out.length : Int)) := by omega
    refine g_ref10_Made_l1_sh rfl ?_
    repeat (first | simp only [go_sem, Int.natCast_nonneg, Int.toNat_natCast, List.length_map, ho', getMap encB1 hi, encB1] | refine Unf.h ?_)
    refine callK_plain hm (fun _ => rfl) ?_
    repeat (first | simp only [go_sem, Int.lt_irrefl, decide_false] | refine Unf.h ?_)
    exact hT _ out _ (by rw [← hr]; simp [markP]) rfl rfl rfl rfl
  | succ m ih =>
    intro k out hk ho hi hr
    have hlt : k < (partsI x).length := by omega
    have hm := hM x
    have hp := hP x k
    have hg := many_get x k hlt
    have ho' : ((i : Int) < (out.length : Int)) := by omega
    have hlt' : ((k : Int) < ((partsI x).length : Int)) := by omega
    have hpl := parts_len x
    have hw := wrapI (x := (k : Int) + 1) (by omega) (by omega)
    have ih' := ih (k + 1)
    rw [List.drop_eq_getElem_cons hlt, markP] at hr
    rw [List.getElem?_eq_getElem hlt, Option.some.injEq] at hg
    rw [hg] at hr
    generalize partK x (k : Int) = q at *
    refine g_ref10_Made_l1_sh rfl ?_
    repeat (first | simp only [go_sem, Int.natCast_nonneg, Int.toNat_natCast, List.length_map, ho', getMap encB1 hi, encB1] | refine Unf.h ?_)
    refine callK_plain hm (fun _ => rfl) ?_
    repeat (first | simp only [go_sem, hlt', decide_true] | refine Unf.h ?_)
    refine callK_plain hp (fun _ => rfl) ?_
    by_cases h0 : q < 0
    · rw [if_neg (by omega)] at hr
      repeat (first | simp only [go_sem, h0, decide_true] | refine Unf.h ?_)
      exact hF _ _ hr.symm rfl rfl
    by_cases h1 : q < (i : Int)
    · rw [if_pos (by omega)] at hr
      have h0' : 0 ≤ q := by omega
      have h1' : q < (out.length : Int) := by omega
      have hq := List.getElem?_eq_getElem (show q.toNat < out.length by omega)
      have hs : (out.map encB1).set q.toNat [D.bool true] = (out.set q.toNat true).map encB1 := by rw [List.map_set]; rfl
      repeat (first | simp only [go_sem, h0, decide_false, ge_iff_le, Int.not_le.2 h1, List.length_map, h0', h1', getMap encB1 hq, encB1, Nat.le_refl, hs, hw] | refine Unf.h ?_)
      exact ih' _ (by omega) (by rw [List.length_set]; exact ho) (by rw [List.getElem?_set_ne (by omega)]; exact hi) hr
    · rw [if_neg (by omega)] at hr
      repeat (first | simp only [go_sem, h0, decide_false, decide_true, ge_iff_le, Int.not_lt.1 h1] | refine Unf.h ?_)
      exact hF _ _ hr.symm rfl rfl
theorem made_body {C : Ctx} {I : Nat → Prop} (hI : ∀ n, ¬ I n) {Q : Ex → St → Prop} {p : Prog} {i : Nat} {root : Int} {out : List Bool} {x : Xpr} (hx : p.exprs[i]? = some x)
    (hM : ∀ x : Xpr, SoundAt C 189 ⟨[vS x.op], looko []⟩ ⟨vI (partsI x).length, looko []⟩) (hP : ∀ (x : Xpr) (n : Int), SoundAt C 190 ⟨[vX x, vI n], looko []⟩ ⟨vI (partK x n), looko []⟩)
    {b : Bool} (hb : out[i]? = some b) {e : List (Nat × V)} (he : e = [] ∨ e = [(30, vB false)])
    (hT : ∀ (t : Nat → V) (out' : List Bool), (if b = true then markP (partsI x) i out else some out) = some out' → t 1 = vI root → t 2 = .ptr 2 0 → t 6 = .own 22 → t 7 = vI i → Q .normal (St.mk (look [(1, t 1), (2, t 2), (6, t 6), (7, t 7)]) (looko [(2, some (.box (pC p))), (22, some (.row 1 (out'.map encB1)))])))
    (hF : ∀ (t : Nat → V) (row : Option Ob), b = true → markP (partsI x) i out = none → t 4 = .cap0 → t 5 = vB false → Q .ret (St.mk t (looko [(22, row)]))) :
    wpB C I g_ref10_Made.c8 (St.mk (look ((1, vI root) :: (2, .ptr 2 0) :: (6, .own 22) :: (7, vI i) :: e)) (looko [(2, some (.box (pC p))), (22, some (.row 1 (out.map encB1)))])) Q := by
  have hi := (List.getElem?_eq_some_iff.1 hx).1
  have hi' : ((i : Int) < (p.exprs.length : Int)) := by omega
  have ho := (List.getElem?_eq_some_iff.1 hb).1
  have ho' : ((i : Int) < (out.length : Int)) := by omega
  rcases he with rfl | rfl
  all_goals
    cases b with
    | true =>
      repeat (first | simp only [go_sem, Int.natCast_nonneg, Int.toNat_natCast, List.length_map, hi', getMap encX hx, encX, hI] | refine Unf.h ?_)
      refine made_inner hI (B := pC p) (x := x) (i := i) (root := root) hM hP (fun t out' b h1 h2 h3 h4 h5 => ?_) (fun t row h1 h4 h5 => ?_) (partsI x).length 0 out (by simp) ho hb rfl
      · have := hT t out' (by rw [if_pos rfl]; exact h1) h2 h3 h4 h5
        repeat (first | simp only [go_sem] | refine Unf.h ?_)
        exact this
      · repeat (first | simp only [go_sem] | refine Unf.h ?_)
        exact hF t row rfl h1 h4 h5
    | false =>
      have := hT (look [(1, vI root), (2, .ptr 2 0), (6, .own 22), (7, vI i)]) out (by simp) rfl rfl rfl rfl
      repeat (first | simp only [go_sem, Int.natCast_nonneg, Int.toNat_natCast, List.length_map, hi', getMap encX hx, encX, hI] | refine Unf.h ?_)
      refine g_ref10_Made_l1_sh rfl ?_
      repeat (first | simp only [go_sem, Int.natCast_nonneg, Int.toNat_natCast, List.length_map, ho', getMap encB1 hb, encB1] | refine Unf.h ?_)
      simpa only [go_sem] using this
theorem made_loop {C : Ctx} {I : Nat → Prop} (hI : ∀ n, ¬ I n) {Q : Ex → St → Prop} {p : Prog} {root : Nat} {r : Option (List Bool)} (hr : root < p.exprs.length) (hE : p.exprs.length < 100000)
    (hM : ∀ x : Xpr, SoundAt C 189 ⟨[vS x.op], looko []⟩ ⟨vI (partsI x).length, looko []⟩) (hP : ∀ (x : Xpr) (n : Int), SoundAt C 190 ⟨[vX x, vI n], looko []⟩ ⟨vI (partK x n), looko []⟩)
    (hT : ∀ t out (b : Option Ob), r = some out → t 6 = .own 22 → Q (.exit 0) (St.mk t (looko [(2, b), (22, some (.row 1 (out.map encB1)))])))
    (hF : ∀ t (row : Option Ob), r = none → t 4 = .cap0 → t 5 = vB false → Q .ret (St.mk t (looko [(22, row)]))) :
    ∀ (n : Nat) (v : Int) (out0 out : List Bool), v = (n : Int) - 1 → n ≤ root + 1 → out0.length = root + 1 → (if n = root + 1 then out0.set root true else out0) = out → needL p.exprs n out = r →
      wpB C I g_ref10_Made.l0 (St.mk (look [(1, vI root), (2, .ptr 2 0), (6, .own 22), (7, vI v)]) (looko [(2, some (.box (pC p))), (22, some (.row 1 (out0.map encB1)))])) Q := by
  intro n
  induction n with
  | zero =>
    intro v out0 out hv hn ho he hr
    obtain rfl : v = -1 := by omega
    rw [if_neg (by omega)] at he
    subst he
    refine g_ref10_Made_l0_sh rfl ?_
    repeat (first | simp only [go_sem, decide_false] | refine Unf.h ?_)
    exact hT _ out0 _ (by rw [← hr]; rfl) rfl
  | succ n ih =>
    intro v out0 out hv hn ho he hr
    obtain rfl : v = (n : Int) := by omega
    have hw := wrapI (x := (n : Int) - 1) (by omega) (by omega)
    have hol : out.length = root + 1 := by rw [← he]; split <;> simp [ho]
    have hx := List.getElem?_eq_getElem (show n < p.exprs.length by omega)
    have hb := List.getElem?_eq_getElem (show n < out.length by omega)
    have main : ∀ e : List (Nat × V), e = [] ∨ e = [(30, vB false)] → wpB C I g_ref10_Made.c8 (St.mk (look ((1, vI root) :: (2, .ptr 2 0) :: (6, .own 22) :: (7, vI n) :: e)) (looko [(2, some (.box (pC p))), (22, some (.row 1 (out.map encB1)))])) (blockK 1 [1, 2, 6, 7] (some [2, 22]) (seqK (fun st => wpB C I g_ref10_Made.c9 st (seqK (fun s => wpB C I g_ref10_Made.l0 s Q) Q)) (seqK (fun s => wpB C I g_ref10_Made.l0 s Q) Q))) := by
      intro e hee
      refine made_body hI (root := root) hx hM hP hb hee (fun t out' h1 h2 h3 h4 h5 => ?_) (fun t row h0 h1 h4 h5 => ?_)
      · have hlen : out'.length = root + 1 := by
          split at h1
          · rw [markP_len _ _ _ _ h1, hol]
          · injection h1 with h1; rw [← h1, hol]
        have hr' : needL p.exprs n out' = r := by
          rw [← hr, needL, hb, hx]
          split at h1
          · rename_i h; rw [h]; simp only; rw [h1]
          · rename_i h; injection h1 with h1; rw [← h1]; cases h2 : out[n] with
            | true => exact absurd h2 h
            | false => rfl
        repeat (first | simp only [go_sem, h2, h3, h4, h5, hw] | refine Unf.h ?_)
        exact ih _ out' out' rfl (by omega) hlen (if_neg (by omega)) hr'
      · have hr' : r = none := by rw [← hr, needL, hb, hx, h0]; simp only; rw [h1]
        repeat (first | simp only [go_sem] | refine Unf.h ?_)
        exact hF t row hr' h4 h5
    refine g_ref10_Made_l0_sh rfl ?_
    by_cases hnr : n = root
    · rw [if_pos (by omega)] at he
      subst hnr
      have hq := List.getElem?_eq_getElem (show n < out0.length by omega)
      have hlt : ((n : Int) < (out0.length : Int)) := by omega
      have hs : (out0.map encB1).set n [D.bool true] = out.map encB1 := by rw [← he, List.map_set]; rfl
      repeat (first | simp only [go_sem, ge_iff_le, Int.natCast_nonneg, decide_true, Int.toNat_natCast, List.length_map, hlt, getMap encB1 hq, encB1, Nat.le_refl, hs] | refine g_ref10_Made_c9_sh.mpr ?_)
      exact main _ (.inl rfl)
    · rw [if_neg (by omega)] at he
      subst he
      have hq : ((n : Int) == (root : Int)) = false := by simp; omega
      repeat (first | simp only [go_sem, ge_iff_le, Int.natCast_nonneg, decide_true, hq] | refine g_ref10_Made_c9_sh.mpr ?_)
      exact main _ (.inr rfl)
theorem r10Made {C : Ctx} (h : okFn C.P C.φ 188 g_ref10_Made = true) (hM : ∀ x : Xpr, SoundAt C 189 ⟨[vS x.op], looko []⟩ ⟨vI (partsI x).length, looko []⟩) (hP : ∀ (x : Xpr) (n : Int), SoundAt C 190 ⟨[vX x, vI n], looko []⟩ ⟨vI (partK x n), looko []⟩)
    (p : Prog) (hE : p.exprs.length < 100000) (root : Int) (hroot : -9223372036854775808 ≤ root ∧ root < 9223372036854775808) :
    SoundAt C 188 ⟨[vProg p, vI root], looko []⟩ ⟨vNeed (needB p.exprs root), looko []⟩ := by
  refine SoundAt.of_run h rfl (fun Q hR hN => ?_)
  rw [entry2]
  by_cases h0 : root < 0
  · have e : needB p.exprs root = none := by unfold needB; rw [if_neg (by omega)]
    rw [e] at hR
    repeat (first | simp only [go_sem, h0, decide_true] | refine Unf.h ?_)
    refine hR _ ?_
    simp only [go_sem, vNeed]
  by_cases h1 : root < (p.exprs.length : Int)
  · have e : needB p.exprs root = needL p.exprs (root.toNat + 1) ((List.replicate (root.toNat + 1) false).set root.toNat true) := by unfold needB; rw [if_pos (by omega)]
    rw [e] at hR
    have hw := wrapI (x := root + 1) (by omega) (by omega)
    obtain ⟨k, rfl⟩ : ∃ k : Nat, root = (k : Int) := ⟨root.toNat, by omega⟩
    repeat (first | simp only [go_sem, h0, decide_false, ge_iff_le, Int.not_le.2 h1, List.length_map, hw] | refine Unf.h ?_)
    have hk1 : ((k : Int) + 1).toNat = k + 1 := by omega
    have hk2 : (k : Int).toNat = k := by omega
    refine ⟨by omega, by omega, by omega, ?_⟩
    rw [hk1, replicate_enc]
    rw [hk2] at hR
    repeat (first | simp only [go_sem] | refine Unf.h ?_)
    have key := fun Q r => @made_loop C (fun _ => False) (fun _ h => h) Q p k r (by omega) hE hM hP
    refine key _ (needL p.exprs (k + 1) ((List.replicate (k + 1) false).set k true)) (fun t o b h1 h6 => ?_) (fun t row h1 h4 h5 => ?_) (k + 1) k (List.replicate (k + 1) false) ((List.replicate (k + 1) false).set k true) (by omega) (Nat.le_refl _) (by simp) (if_pos rfl) rfl
    · rw [h1] at hR
      repeat (first | simp only [go_sem, h6] | refine Unf.h ?_)
      refine hR _ ?_
      simp only [go_sem, vNeed]
    · rw [h1] at hR
      repeat (first | simp only [go_sem] | refine Unf.h ?_)
      refine hR _ ?_
      simp only [go_sem, vNeed, h4, h5]
  · have e : needB p.exprs root = none := by unfold needB; rw [if_neg (by omega)]
    rw [e] at hR
    repeat (first | simp only [go_sem, h0, decide_false, ge_iff_le, Int.not_lt.1 h1, decide_true, List.length_map] | refine Unf.h ?_)
    refine hR _ ?_
    simp only [go_sem, vNeed]
end Pay
