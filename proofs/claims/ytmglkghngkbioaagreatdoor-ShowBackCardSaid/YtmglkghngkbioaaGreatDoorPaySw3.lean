/- The tokens of a tree's text are read to the tree. -/
import Derived.Test.YtmglkghngkbioaaGreatDoorPayC44
import Derived.Test.YtmglkghngkbioaaGreatDoorPayC48
import Derived.Test.YtmglkghngkbioaaGreatDoorPaySw1
import Derived.Test.YtmglkghngkbioaaGreatDoorPaySw2
import Derived.Test.YtmglkghngkbioaaGreatDoorPayTr1
import Derived.Test.YtmglkghngkbioaaGreatDoorPayTr2
import Derived.Test.YtmglkghngkbioaaGreatDoorPayTr3
import Derived.Test.YtmglkghngkbioaaGreatDoorPayTr5
import Derived.Test.YtmglkghngkbioaaGreatDoorPayTr6
set_option linter.unusedSimpArgs false
set_option linter.unusedVariables false
namespace Pay
open Go
theorem toks_app (l m : List Kt) : toks (l ++ m) = toks l ++ toks m := by simp [toks]
theorem toks_cons (k : Int) (u : List UInt8) (l : List Kt) : toks ((k, u) :: l) = ⟨k, u, 0⟩ :: toks l := rfl
theorem toks_nil : toks [] = [] := rfl
theorem chain_none {f : List Tok → TR} {ops : List (List UInt8)} {r : List Tok} (h : takeK ops r = none) : ∀ (n : Nat) (a : Xt), chainK f ops n r a = .ok (a, r)
  | 0, a => rfl
  | n + 1, a => by unfold chainK; rw [h]
theorem take_yes {l : List (List UInt8)} {k : Int} {u : List UInt8} {p : Nat} {r : List Tok} (hk : k = 1 ∨ k = 5) (h : l.contains u = true) : takeK l (⟨k, u, p⟩ :: r) = some (u, r) := by
  unfold takeK
  simp only
  rw [if_pos]
  refine ⟨?_, h⟩
  rcases hk with rfl | rfl <;> rfl
theorem need_yes {en : Nat} {k : Int} {u : List UInt8} {p : Nat} {r : List Tok} (hk : k = 1 ∨ k = 5) : needK en [] r = needK en [] r ∧ needK en u (⟨k, u, p⟩ :: r) = .ok r := by
  refine ⟨rfl, ?_⟩
  unfold needK
  rw [take_yes hk (by simp)]
theorem fac_suf' (en d : Nat) : Suf (facT en d) := (prK_suf en d).1
theorem prod_suf' (en d : Nat) : Suf (prodT (facT en d)) := chain_suf (fac_suf' en d)
/-- One more operand behind. -/
theorem chain_step1 {f : List Tok → TR} (hf : Suf f) {ops : List (List UInt8)} {k : Int} {op : List UInt8} {p : Nat} {a b : Xt} {m r : List Tok} (hk : k = 1 ∨ k = 5) (ho : ops.contains op = true) (hb : f m = .ok (b, r)) :
    chainK f ops (⟨k, op, p⟩ :: m).length (⟨k, op, p⟩ :: m) a = chainK f ops r.length r (.bin op a b) := by
  rw [List.length_cons]
  have e : ∀ n, chainK f ops (n + 1) (⟨k, op, p⟩ :: m) a = match takeK ops (⟨k, op, p⟩ :: m) with
    | none => .ok (a, ⟨k, op, p⟩ :: m)
    | some (op, r) => match f r with
      | .error e => .error e
      | .ok (b, r') => chainK f ops n r' (.bin op a b) := fun _ => rfl
  rw [e, take_yes hk ho]
  simp only [hb]
  have := (hf _ _ _ hb).length_le
  exact chain_fuel hf _ _ _ _ this (Nat.le_refl _)
structure RdT (en : Nat) (t : Xt) : Prop where
  f4 : ∀ d r, ndT t 4 ≤ d → facT en d (toks (tkT t 4) ++ r) = .ok (t, r)
  f3 : ∀ d r, ndT t 3 ≤ d → prodT (facT en d) (toks (tkT t 3) ++ r) = chainK (facT en d) mulL r.length r t
  f2 : ∀ d r, ndT t 2 ≤ d → takeK mulL r = none → sumT (facT en d) (toks (tkT t 2) ++ r) = chainK (prodT (facT en d)) sumL r.length r t
  f0 : ∀ d r, ndT t 0 ≤ d → takeK mulL r = none → takeK sumL r = none → takeK cmpL r = none → exprT en d (toks (tkT t 0) ++ r) = .ok (t, r)
section
variable {en : Nat} {t : Xt}
theorem r3of4 (e : tkT t 3 = tkT t 4) (n : ndT t 3 = ndT t 4) (h : ∀ d r, ndT t 4 ≤ d → facT en d (toks (tkT t 4) ++ r) = .ok (t, r)) : ∀ d r, ndT t 3 ≤ d → prodT (facT en d) (toks (tkT t 3) ++ r) = chainK (facT en d) mulL r.length r t := by
  intro d r hd
  unfold prodT chainT
  rw [e, h d r (by omega)]
theorem r2of3 (e : tkT t 2 = tkT t 3) (n : ndT t 2 = ndT t 3) (h : ∀ d r, ndT t 3 ≤ d → prodT (facT en d) (toks (tkT t 3) ++ r) = chainK (facT en d) mulL r.length r t) : ∀ d r, ndT t 2 ≤ d → takeK mulL r = none → sumT (facT en d) (toks (tkT t 2) ++ r) = chainK (prodT (facT en d)) sumL r.length r t := by
  intro d r hd hr
  unfold sumT chainT
  rw [e, h d r (by omega), chain_none hr]
theorem r0of2 (e : tkT t 0 = tkT t 2) (n : ndT t 0 = ndT t 2) (hi : ∀ r, takeK [wIf] (toks (tkT t 0) ++ r) = none) (hp : 1 ≤ ndT t 0) (h : ∀ d r, ndT t 2 ≤ d → takeK mulL r = none → sumT (facT en d) (toks (tkT t 2) ++ r) = chainK (prodT (facT en d)) sumL r.length r t) :
    ∀ d r, ndT t 0 ≤ d → takeK mulL r = none → takeK sumL r = none → takeK cmpL r = none → exprT en d (toks (tkT t 0) ++ r) = .ok (t, r) := by
  intro d r hd h1 h2 h3
  obtain ⟨d, rfl⟩ : ∃ k, d = k + 1 := ⟨d - 1, by omega⟩
  rw [exprT_succ]
  unfold exprK cmpT
  rw [hi, e, h (d + 1) r (by omega) h1, chain_none h2]
  simp only [bind_ok, h3]
theorem r4of0 (e : tkT t 4 = (5, [40]) :: (tkT t 0 ++ [(5, [41])])) (n : ndT t 4 = ndT t 0 + 1) (h : ∀ d r, ndT t 0 ≤ d → takeK mulL r = none → takeK sumL r = none → takeK cmpL r = none → exprT en d (toks (tkT t 0) ++ r) = .ok (t, r)) :
    ∀ d r, ndT t 4 ≤ d → facT en d (toks (tkT t 4) ++ r) = .ok (t, r) := by
  intro d r hd
  obtain ⟨d, rfl⟩ : ∃ k, d = k + 1 := ⟨d - 1, by omega⟩
  rw [facT_succ, e, toks_cons, toks_app, toks_cons, toks_nil]
  unfold facK
  rw [List.cons_append, take_other (by decide), take_other (by decide), take_yes (.inr rfl) (by decide)]
  simp only [List.append_assoc, List.cons_append, List.nil_append]
  rw [h d _ (by omega) (take_other (by decide) _ _ _) (take_other (by decide) _ _ _) (take_other (by decide) _ _ _)]
  simp only [bind_ok, (need_yes (en := en) (.inr rfl)).2]
end
theorem lf_hd {op nm : List UInt8} {v : Int} (h : LfOk op nm v) (l : List (List UInt8)) (hl : ∀ u ∈ l, u ∈ takenL ∨ u = [45] ∨ u = [40]) (r : List Tok) : takeK l (⟨kdL op, leafW (xLeaf op nm v), 0⟩ :: r) = none := by
  obtain ⟨h1, h2, _⟩ := h
  by_cases hk : kdL op = 1
  · rw [hk] at h1 h2 ⊢
    refine take_other ?_ _ _ _
    cases hc : l.contains (leafW (xLeaf op nm v)) with
    | false => rfl
    | true =>
      exfalso
      rcases hl _ (List.contains_iff_mem.1 hc) with h | h | h
      · unfold leafE at h1
        rw [if_pos rfl] at h1
        split at h1
        · rename_i hn
          unfold namedB at hn
          rw [List.contains_iff_mem.2 h] at hn
          cases hn
        · cases h1
      · rw [h] at h2
        have := h2.self
        exact absurd (congrArg Prod.fst this) (by decide)
      · rw [h] at h2
        have := h2.self
        exact absurd (congrArg Prod.fst this) (by decide)
  · unfold takeK
    simp only
    rw [if_neg]
    rintro ⟨hs, _⟩
    unfold signT at hs
    simp only [Bool.or_eq_true, beq_iff_eq] at hs
    rcases hs with hs | hs
    · exact hk hs
    · unfold kdL at hs
      repeat' split at hs
      all_goals omega
theorem bin_lvl {op : List UInt8} (h : op ∈ binOps) : (mmB op = true ∧ lvlS op = 4) ∨ (mmB op = false ∧ op ∈ mulL ∧ lvlS op = 3) ∨ (mmB op = false ∧ op ∈ sumL ∧ lvlS op = 2) ∨ (mmB op = false ∧ op ∈ cmpL ∧ lvlS op = 1) := by
  rcases bin_list h with rfl | rfl | rfl | rfl | rfl | rfl | rfl | rfl | rfl | rfl | rfl <;> decide
theorem nd_pos : ∀ (t : Xt) (L : Int), 1 ≤ ndT t L
  | .leaf _ _ _, _ => Nat.le_refl _
  | .neg _, _ => by unfold ndT; omega
  | .bin op a b, L => by
    unfold ndT
    have := nd_pos a (max (lvlS op) 2)
    split
    · omega
    · omega
  | .ite _ _ _, _ => by unfold ndT; omega
theorem no_if : ∀ (t : Xt) (L : Int), WfP t → 1 ≤ L ∨ 1 ≤ lvT t → ∀ r, takeK [wIf] (toks (tkT t L) ++ r) = none
  | .leaf op nm v, L, h, _, r => lf_hd h _ (by decide) r
  | .neg e, L, h, _, r => take_other (by decide) _ _ _
  | .bin op a b, L, h, hL, r => by
    obtain ⟨h1, h2, h3⟩ := h
    unfold tkT
    cases hm : mmB op with
    | true =>
      simp only [if_true, hm]
      refine take_other ?_ _ _ _
      rcases mm_op hm with rfl | rfl <;> decide
    | false =>
      simp only [Bool.false_eq_true, if_false, hm]
      cases hd : decide (lvlS op < L) with
      | true => exact take_other (by decide) _ _ _
      | false =>
        show takeK [wIf] (toks (tkT a (max (lvlS op) 2) ++ _) ++ r) = none
        rw [toks_app, List.append_assoc]
        exact no_if a _ h2 (.inl (by omega)) _
  | .ite a b c, L, h, hL, r => by
    unfold tkT
    have : 1 ≤ L := by
      rcases hL with h | h
      · exact h
      · have h : (1 : Int) ≤ 0 := h
        omega
    rw [show decide (0 < L) = true from decide_eq_true (by omega)]
    exact take_other (by decide) _ _ _
theorem tk_neg (e : Xt) (L : Int) : tkT (.neg e) L = (5, [45]) :: tkT e 4 := rfl
theorem tk_mm {op : List UInt8} (hm : mmB op = true) (a b : Xt) (L : Int) : tkT (.bin op a b) L = (1, op) :: (5, [40]) :: (tkT a 0 ++ (5, [44]) :: (tkT b 0 ++ [(5, [41])])) := if_pos hm
theorem nd_mm {op : List UInt8} (hm : mmB op = true) (a b : Xt) (L : Int) : ndT (.bin op a b) L = max (ndT a 0) (ndT b 0) + 1 := if_pos hm
theorem tk_bin {op : List UInt8} (hm : mmB op = false) (a b : Xt) {L : Int} (h : ¬ lvlS op < L) : tkT (.bin op a b) L = tkT a (max (lvlS op) 2) ++ (5, op) :: tkT b (lvlS op + 1) := by
  refine (if_neg (by rw [hm]; simp)).trans ?_
  rw [decide_eq_false h]
  rfl
theorem tk_binp {op : List UInt8} (hm : mmB op = false) (a b : Xt) {L : Int} (h : lvlS op < L) : tkT (.bin op a b) L = (5, [40]) :: ((tkT a (max (lvlS op) 2) ++ (5, op) :: tkT b (lvlS op + 1)) ++ [(5, [41])]) := by
  refine (if_neg (by rw [hm]; simp)).trans ?_
  rw [decide_eq_true h]
  rfl
theorem nd_bin {op : List UInt8} (hm : mmB op = false) (a b : Xt) {L : Int} (h : ¬ lvlS op < L) : ndT (.bin op a b) L = max (ndT a (max (lvlS op) 2)) (ndT b (lvlS op + 1)) := by
  refine (if_neg (by rw [hm]; simp)).trans ?_
  rw [if_neg h]
  rfl
theorem nd_binp {op : List UInt8} (hm : mmB op = false) (a b : Xt) {L : Int} (h : lvlS op < L) : ndT (.bin op a b) L = max (ndT a (max (lvlS op) 2)) (ndT b (lvlS op + 1)) + 1 := by
  refine (if_neg (by rw [hm]; simp)).trans ?_
  rw [if_pos h]
theorem sum_mul : ∀ op ∈ sumL, mulL.contains op = false := by decide
theorem cmp_mul : ∀ op ∈ cmpL, mulL.contains op = false ∧ sumL.contains op = false := by decide
theorem readP (en : Nat) : ∀ (t : Xt), WfP t → RdT en t
  | .leaf op nm v, h => by
    have f4 : ∀ d r, ndT (.leaf op nm v) 4 ≤ d → facT en d (toks (tkT (.leaf op nm v) 4) ++ r) = .ok (.leaf op nm v, r) := by
      intro d r hd
      obtain ⟨d, rfl⟩ : ∃ k, d = k + 1 := ⟨d - 1, by unfold ndT at hd; omega⟩
      rw [facT_succ]
      show facK en _ _ (⟨kdL op, leafW (xLeaf op nm v), 0⟩ :: r) = _
      unfold facK
      rw [lf_hd h _ (by decide), lf_hd h _ (by decide), lf_hd h _ (by decide)]
      show leafK en (_ :: r) = _
      unfold leafK
      simp only [h.1]
    have f3 := r3of4 (en := en) (t := .leaf op nm v) rfl rfl f4
    have f2 := r2of3 (en := en) (t := .leaf op nm v) rfl rfl f3
    exact ⟨f4, f3, f2, r0of2 rfl rfl (no_if _ _ h (.inr (by show (1 : Int) ≤ 4; decide))) (nd_pos _ _) f2⟩
  | .neg e, h => by
    have ih := readP en e h
    have f4 : ∀ d r, ndT (.neg e) 4 ≤ d → facT en d (toks (tkT (.neg e) 4) ++ r) = .ok (.neg e, r) := by
      intro d r hd
      unfold ndT at hd
      obtain ⟨d, rfl⟩ : ∃ k, d = k + 1 := ⟨d - 1, by omega⟩
      rw [facT_succ, tk_neg, toks_cons, List.cons_append]
      unfold facK
      rw [take_yes (.inr rfl) (by decide)]
      simp only [ih.f4 d r (by omega), bind_ok]
    have f3 := r3of4 (en := en) (t := .neg e) rfl rfl f4
    have f2 := r2of3 (en := en) (t := .neg e) rfl rfl f3
    exact ⟨f4, f3, f2, r0of2 rfl rfl (no_if _ _ h (.inr (by show (1 : Int) ≤ 4; decide))) (nd_pos _ _) f2⟩
  | .bin op a b, h => by
    have hw := h
    obtain ⟨h1, h2, h3⟩ := h
    have ia := readP en a h2
    have ib := readP en b h3
    rcases bin_lvl h1 with ⟨hm, hl⟩ | ⟨hm, ho, hl⟩ | ⟨hm, ho, hl⟩ | ⟨hm, ho, hl⟩
    · have f4 : ∀ d r, ndT (.bin op a b) 4 ≤ d → facT en d (toks (tkT (.bin op a b) 4) ++ r) = .ok (.bin op a b, r) := by
        intro d r hd
        rw [nd_mm hm] at hd
        obtain ⟨d, rfl⟩ : ∃ k, d = k + 1 := ⟨d - 1, by omega⟩
        rw [facT_succ, tk_mm hm]
        simp only [toks_cons, toks_app, toks_nil, List.cons_append, List.append_assoc, List.nil_append]
        unfold facK
        rw [take_other (by rcases mm_op hm with rfl | rfl <;> decide), take_yes (.inl rfl) (by rcases mm_op hm with rfl | rfl <;> decide)]
        simp only
        unfold pairK
        rw [(need_yes (en := en) (.inr rfl)).2, bind_ok, ia.f0 d _ (by omega) (take_other (by decide) _ _ _) (take_other (by decide) _ _ _) (take_other (by decide) _ _ _)]
        simp only [bind_ok]
        rw [(need_yes (en := en) (.inr rfl)).2, bind_ok, ib.f0 d _ (by omega) (take_other (by decide) _ _ _) (take_other (by decide) _ _ _) (take_other (by decide) _ _ _)]
        simp only [bind_ok]
        rw [(need_yes (en := en) (.inr rfl)).2, bind_ok]
      have f3 := r3of4 (en := en) (t := .bin op a b) (by rw [tk_mm hm, tk_mm hm]) (by rw [nd_mm hm, nd_mm hm]) f4
      have f2 := r2of3 (en := en) (t := .bin op a b) (by rw [tk_mm hm, tk_mm hm]) (by rw [nd_mm hm, nd_mm hm]) f3
      exact ⟨f4, f3, f2, r0of2 (by rw [tk_mm hm, tk_mm hm]) (by rw [nd_mm hm, nd_mm hm]) (no_if _ _ hw (.inr (by show 1 ≤ lvlS op; omega))) (nd_pos _ _) f2⟩
    · have e3 := tk_bin hm a b (L := 3) (by omega)
      have e2 := tk_bin hm a b (L := 2) (by omega)
      have e0 := tk_bin hm a b (L := 0) (by omega)
      have e4 := tk_binp hm a b (L := 4) (by omega)
      have n3 := nd_bin hm a b (L := 3) (by omega)
      have n2 := nd_bin hm a b (L := 2) (by omega)
      have n0 := nd_bin hm a b (L := 0) (by omega)
      have n4 := nd_binp hm a b (L := 4) (by omega)
      rw [hl] at e0 e2 e3 e4 n0 n2 n3 n4
      have f3 : ∀ d r, ndT (.bin op a b) 3 ≤ d → prodT (facT en d) (toks (tkT (.bin op a b) 3) ++ r) = chainK (facT en d) mulL r.length r (.bin op a b) := by
        intro d r hd
        rw [n3] at hd
        rw [e3, toks_app, toks_cons, List.append_assoc, List.cons_append]
        have : ndT a 3 ≤ d := by have := Nat.le_max_left (ndT a (max 3 2)) (ndT b (3 + 1)); exact Nat.le_trans this hd
        rw [show (max 3 2 : Int) = 3 by decide, ia.f3 d _ this]
        exact chain_step1 (fac_suf' en d) (.inr rfl) (by simpa using ho) (ib.f4 d r (by have := Nat.le_max_right (ndT a (max 3 2)) (ndT b (3 + 1)); exact Nat.le_trans this hd))
      have f2 := r2of3 (en := en) (t := .bin op a b) (by rw [e2, e3]) (by rw [n2, n3]) f3
      have f0 := r0of2 (en := en) (t := .bin op a b) (by rw [e0, e2]) (by rw [n0, n2]) (no_if _ _ hw (.inr (by show 1 ≤ lvlS op; omega))) (nd_pos _ _) f2
      exact ⟨r4of0 (by rw [e4, e0]) (by rw [n4, n0]) f0, f3, f2, f0⟩
    · have e3 := tk_binp hm a b (L := 3) (by omega)
      have e2 := tk_bin hm a b (L := 2) (by omega)
      have e0 := tk_bin hm a b (L := 0) (by omega)
      have e4 := tk_binp hm a b (L := 4) (by omega)
      have n3 := nd_binp hm a b (L := 3) (by omega)
      have n2 := nd_bin hm a b (L := 2) (by omega)
      have n0 := nd_bin hm a b (L := 0) (by omega)
      have n4 := nd_binp hm a b (L := 4) (by omega)
      rw [hl] at e0 e2 e3 e4 n0 n2 n3 n4
      have f2 : ∀ d r, ndT (.bin op a b) 2 ≤ d → takeK mulL r = none → sumT (facT en d) (toks (tkT (.bin op a b) 2) ++ r) = chainK (prodT (facT en d)) sumL r.length r (.bin op a b) := by
        intro d r hd hr
        rw [n2] at hd
        rw [e2, toks_app, toks_cons, List.append_assoc, List.cons_append]
        have : ndT a 2 ≤ d := by have := Nat.le_max_left (ndT a (max 2 2)) (ndT b (2 + 1)); exact Nat.le_trans this hd
        rw [show (max 2 2 : Int) = 2 by decide, ia.f2 d _ this (take_other (sum_mul op ho) _ _ _)]
        refine chain_step1 (prod_suf' en d) (.inr rfl) (by simpa using ho) ?_
        rw [show (2 + 1 : Int) = 3 by decide, ib.f3 d r (by have := Nat.le_max_right (ndT a (max 2 2)) (ndT b (2 + 1)); exact Nat.le_trans this hd), chain_none hr]
      have f0 := r0of2 (en := en) (t := .bin op a b) (by rw [e0, e2]) (by rw [n0, n2]) (no_if _ _ hw (.inr (by show 1 ≤ lvlS op; omega))) (nd_pos _ _) f2
      have f4 := r4of0 (en := en) (t := .bin op a b) (by rw [e4, e0]) (by rw [n4, n0]) f0
      exact ⟨f4, r3of4 (by rw [e3, e4]) (by rw [n3, n4]) f4, f2, f0⟩
    · have e3 := tk_binp hm a b (L := 3) (by omega)
      have e2 := tk_binp hm a b (L := 2) (by omega)
      have e0 := tk_bin hm a b (L := 0) (by omega)
      have e4 := tk_binp hm a b (L := 4) (by omega)
      have n3 := nd_binp hm a b (L := 3) (by omega)
      have n2 := nd_binp hm a b (L := 2) (by omega)
      have n0 := nd_bin hm a b (L := 0) (by omega)
      have n4 := nd_binp hm a b (L := 4) (by omega)
      rw [hl] at e0 e2 e3 e4 n0 n2 n3 n4
      have f0 : ∀ d r, ndT (.bin op a b) 0 ≤ d → takeK mulL r = none → takeK sumL r = none → takeK cmpL r = none → exprT en d (toks (tkT (.bin op a b) 0) ++ r) = .ok (.bin op a b, r) := by
        intro d r hd r1 r2 r3
        have hif := no_if (.bin op a b) 0 hw (.inr (by show 1 ≤ lvlS op; omega)) r
        have hp := nd_pos (.bin op a b) 0
        rw [n0] at hd hp
        obtain ⟨d, rfl⟩ : ∃ k, d = k + 1 := ⟨d - 1, by omega⟩
        rw [exprT_succ]
        unfold exprK cmpT
        rw [hif, e0, toks_app, toks_cons, List.append_assoc, List.cons_append]
        have ha : ndT a 2 ≤ d + 1 := by have := Nat.le_max_left (ndT a (max 1 2)) (ndT b (1 + 1)); exact Nat.le_trans this hd
        have hb : ndT b 2 ≤ d + 1 := by have := Nat.le_max_right (ndT a (max 1 2)) (ndT b (1 + 1)); exact Nat.le_trans this hd
        simp only
        rw [show (max 1 2 : Int) = 2 by decide, show (1 + 1 : Int) = 2 by decide, ia.f2 (d + 1) _ ha (take_other (cmp_mul op ho).1 _ _ _), chain_none (take_other (cmp_mul op ho).2 _ _ _)]
        simp only [bind_ok]
        rw [take_yes (.inr rfl) (by simpa using ho)]
        simp only
        rw [ib.f2 (d + 1) _ hb r1, chain_none r2]
        rfl
      have f4 := r4of0 (en := en) (t := .bin op a b) (by rw [e4, e0]) (by rw [n4, n0]) f0
      have f3 := r3of4 (en := en) (t := .bin op a b) (by rw [e3, e4]) (by rw [n3, n4]) f4
      exact ⟨f4, f3, r2of3 (by rw [e2, e3]) (by rw [n2, n3]) f3, f0⟩
  | .ite a b c, h => by
    obtain ⟨h1, h2, h3⟩ := h
    have ia := readP en a h1
    have ib := readP en b h2
    have ic := readP en c h3
    have f0 : ∀ d r, ndT (.ite a b c) 0 ≤ d → takeK mulL r = none → takeK sumL r = none → takeK cmpL r = none → exprT en d (toks (tkT (.ite a b c) 0) ++ r) = .ok (.ite a b c, r) := by
      intro d r hd r1 r2 r3
      have hd : max (ndT a 0) (max (ndT b 0) (ndT c 0)) + 1 ≤ d := hd
      obtain ⟨d, rfl⟩ : ∃ k, d = k + 1 := ⟨d - 1, by omega⟩
      rw [exprT_succ]
      show exprK en _ _ (toks ((1, wIf) :: (tkT a 0 ++ (1, wThen) :: (tkT b 0 ++ (1, wElse) :: tkT c 0))) ++ r) = _
      simp only [toks_cons, toks_app, List.cons_append, List.append_assoc]
      unfold exprK
      rw [take_yes (.inl rfl) (by decide)]
      simp only
      unfold iteK
      rw [ia.f0 d _ (by omega) (take_other (by decide) _ _ _) (take_other (by decide) _ _ _) (take_other (by decide) _ _ _)]
      simp only [bind_ok]
      rw [(need_yes (en := en) (.inl rfl)).2, bind_ok, ib.f0 d _ (by omega) (take_other (by decide) _ _ _) (take_other (by decide) _ _ _) (take_other (by decide) _ _ _)]
      simp only [bind_ok]
      rw [(need_yes (en := en) (.inl rfl)).2, bind_ok, ic.f0 d _ (by omega) r1 r2 r3]
      rfl
    have f4 := r4of0 (en := en) (t := .ite a b c) rfl rfl f0
    have f3 := r3of4 (en := en) (t := .ite a b c) rfl rfl f4
    exact ⟨f4, f3, r2of3 rfl rfl f3, f0⟩
end Pay
