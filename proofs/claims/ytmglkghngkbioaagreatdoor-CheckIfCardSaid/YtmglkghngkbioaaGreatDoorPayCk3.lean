/- Kinds: one step behind what there is. -/
import Derived.Test.YtmglkghngkbioaaGreatDoorPayC84
import Derived.Test.YtmglkghngkbioaaGreatDoorPayCk1
import Derived.Test.YtmglkghngkbioaaGreatDoorPayCk2
import Derived.Test.YtmglkghngkbioaaGreatDoorPayTr1
set_option linter.unusedSimpArgs false
set_option linter.unusedVariables false
namespace Pay
theorem kvs_range (l : List Bnd) : ∀ (es : List Xpr) (ks : List Int), (∀ k ∈ ks, 0 ≤ k ∧ k ≤ 4) → ∀ k ∈ kvs l es ks, 0 ≤ k ∧ k ≤ 4
  | [], ks, h => h
  | x :: es, ks, h => by
    refine kvs_range l es _ (fun k hk => ?_)
    rcases List.mem_append.1 hk with hk | hk
    · exact h k hk
    · simp only [List.mem_singleton] at hk
      subst hk
      unfold koneB
      split
      · exact kind_range x _ l (getK_range h _) (getK_range h _)
      · omega
theorem kvO_range (es : List Xpr) (l : List Bnd) (p : Int) : 0 ≤ kvO es l p ∧ kvO es l p ≤ 4 := getK_range (kvs_range l es [] (by simp)) p
theorem kvO_kinds {es : List Xpr} {l : List Bnd} {p : Int} (h : kvO es l p ≠ 0) : kvO es l p = 1 ∨ kvO es l p = 2 ∨ kvO es l p = 3 ∨ kvO es l p = 4 := by
  have := kvO_range es l p
  omega
/-- Without an error: it is there, and has its kind. -/
theorem kindP_inv {es : List Xpr} {l : List Bnd} {root : Int} (h : (kindP es root l).2.2 = 0) : 0 ≤ root ∧ root < (es.length : Int) ∧ kvO es l root ≠ 0 ∧ kindP es root l = (kvO es l root, 0, 0) := by
  by_cases hc : 0 ≤ root ∧ root < (es.length : Int) ∧ kvO es l root ≠ 0
  · exact ⟨hc.1, hc.2.1, hc.2.2, kindP_ok hc.1 hc.2.1 hc.2.2⟩
  · exact absurd h (kindP_bad hc).2
theorem kindP_step {es : List Xpr} {l : List Bnd} {r : Nat} {x : Xpr} (hx : es[r]? = some x) (hp : ∀ p ∈ partsI x, 0 ≤ p ∧ p < (r : Int) ∧ kvO es l p ≠ 0) :
    kindP es r l = if kindX x (kvO es l x.a) (kvO es l x.b) (kvO es l x.c) l = 0 then (0, (r : Int), errK x l) else (kindX x (kvO es l x.a) (kvO es l x.b) (kvO es l x.c) l, 0, 0) := by
  split
  · rename_i h; exact kindP_at hx hp h
  · rename_i h
    have hr : r < es.length := (List.getElem?_eq_some_iff.1 hx).1
    have hk := kvO_eq hx hp
    rw [← hk] at h ⊢
    exact kindP_ok (by omega) (by omega) h
theorem app_at {es ext : List Xpr} {j : Nat} : (es ++ ext)[es.length + j]? = ext[j]? := by
  rw [List.getElem?_append_right (by omega)]
  congr 1; omega
def xOp (op : List UInt8) (a b c : Int) : Xpr := ⟨op, [], 0, a, b, c⟩
theorem neg_kind {es ext : List Xpr} {l : List Bnd} {a : Int} {j : Nat} (ha : 0 ≤ a ∧ a < (es.length : Int) ∧ kvO es l a ≠ 0) (hx : ext[j]? = some (xOp wNeg a 0 0)) :
    kindP (es ++ ext) ((es.length + j : Nat) : Int) l = if kvO es l a = 1 ∨ kvO es l a = 3 then (kvO es l a, 0, 0) else (0, ((es.length + j : Nat) : Int), 7) := by
  have e := kvO_app (ext := ext) (l := l) ha.1 ha.2.1
  rw [kindP_step (x := xOp wNeg a 0 0) (by rw [app_at]; exact hx) (fun p hp => by
    have : p = a := by simpa [partsI, xOp, isLeaf] using hp
    subst this
    exact ⟨ha.1, by omega, by rw [e]; exact ha.2.2⟩)]
  have hk : kindX (xOp wNeg a 0 0) (kvO (es ++ ext) l (xOp wNeg a 0 0).a) (kvO (es ++ ext) l (xOp wNeg a 0 0).b) (kvO (es ++ ext) l (xOp wNeg a 0 0).c) l = if kvO es l a = 1 ∨ kvO es l a = 3 then kvO es l a else 0 := by
    simp only [kindX, xOp, e]
    simp
  rw [hk]
  have := ha.2.2
  by_cases h : kvO es l a = 1 ∨ kvO es l a = 3
  · simp only [if_pos h]
    rw [if_neg this]
  · simp only [if_neg h]
    simp [errK, xOp]
theorem two_kind {es ext : List Xpr} {l : List Bnd} {op : List UInt8} (ho : op ∈ [[43], [45], [60], [61], wMin]) {a b : Int} {j : Nat} (ha : 0 ≤ a ∧ a < (es.length : Int) ∧ kvO es l a ≠ 0) (hb : 0 ≤ b ∧ b < (es.length : Int) ∧ kvO es l b ≠ 0) (hx : ext[j]? = some (xOp op a b 0)) :
    kindP (es ++ ext) ((es.length + j : Nat) : Int) l = if twoK op (kvO es l a) (kvO es l b) = 0 then (0, ((es.length + j : Nat) : Int), 7) else (twoK op (kvO es l a) (kvO es l b), 0, 0) := by
  have e := kvO_app (ext := ext) (l := l) ha.1 ha.2.1
  have e' := kvO_app (ext := ext) (l := l) hb.1 hb.2.1
  simp only [List.mem_cons, List.not_mem_nil, or_false] at ho
  have hpt : partsI (xOp op a b 0) = [a, b] := by rcases ho with rfl | rfl | rfl | rfl | rfl <;> rfl
  have hk : ∀ k1 k2 k3, kindX (xOp op a b 0) k1 k2 k3 l = twoK op k1 k2 := by intro k1 k2 k3; rcases ho with rfl | rfl | rfl | rfl | rfl <;> rfl
  have he : errK (xOp op a b 0) l = 7 := by unfold errK; rw [if_neg]; rintro ⟨h, _⟩; rcases ho with rfl | rfl | rfl | rfl | rfl <;> cases h
  rw [kindP_step (x := xOp op a b 0) (by rw [app_at]; exact hx) (fun p hp => by
    rw [hpt] at hp
    simp only [List.mem_cons, List.not_mem_nil, or_false] at hp
    rcases hp with rfl | rfl
    · exact ⟨ha.1, by omega, by rw [e]; exact ha.2.2⟩
    · exact ⟨hb.1, by omega, by rw [e']; exact hb.2.2⟩)]
  rw [hk, he]
  show (if twoK op (kvO (es ++ ext) l a) (kvO (es ++ ext) l b) = 0 then _ else (twoK op (kvO (es ++ ext) l a) (kvO (es ++ ext) l b), _)) = _
  rw [e, e']
theorem if_kind {es : List Xpr} {l : List Bnd} {a b c : Int} {r : Nat} (hx : es[r]? = some (xOp wIf a b c)) (hr : ∀ p ∈ [a, b, c], 0 ≤ p ∧ p < (r : Int) ∧ kvO es l p ≠ 0) :
    kindP es r l = if kvO es l a = 4 ∧ kvO es l b = kvO es l c then (kvO es l b, 0, 0) else (0, (r : Int), 7) := by
  rw [kindP_step hx hr]
  have hk : ∀ k1 k2 k3, kindX (xOp wIf a b c) k1 k2 k3 l = if k1 = 4 ∧ k2 = k3 then k2 else 0 := by intro k1 k2 k3; simp [kindX, xOp]
  have he : errK (xOp wIf a b c) l = 7 := by simp [errK, xOp]
  rw [hk, he]
  show (if (if kvO es l a = 4 ∧ kvO es l b = kvO es l c then kvO es l b else 0) = 0 then _ else ((if kvO es l a = 4 ∧ kvO es l b = kvO es l c then kvO es l b else 0), _)) = _
  by_cases h : kvO es l a = 4 ∧ kvO es l b = kvO es l c
  · simp only [if_pos h]
    rw [if_neg (hr b (by simp)).2.2]
  · simp only [if_neg h]
    rfl
theorem if_bad {es : List Xpr} {l : List Bnd} {a b c : Int} {r : Nat} (hx : es[r]? = some (xOp wIf a b c)) (hr : kvO es l a = 0 ∨ kvO es l b = 0 ∨ kvO es l c = 0) : (kindP es r l).1 = 0 ∧ (kindP es r l).2.2 ≠ 0 := by
  refine kindP_bad (fun h => ?_)
  have := (kvO_parts hx h.2.2).1
  have hpt : partsI (xOp wIf a b c) = [a, b, c] := rfl
  rw [hpt] at this
  rcases hr with h0 | h0 | h0
  · exact (this a (by simp)).2.2 h0
  · exact (this b (by simp)).2.2 h0
  · exact (this c (by simp)).2.2 h0
theorem tkMin11 : twoK wMin 1 1 = 1 := rfl
theorem tkMin22 : twoK wMin 2 2 = 2 := rfl
theorem tkMin33 : twoK wMin 3 3 = 3 := rfl
theorem tkMin44 : twoK wMin 4 4 = 0 := rfl
theorem tkEq11 : twoK [61] 1 1 = 4 := rfl
theorem tkEq22 : twoK [61] 2 2 = 4 := rfl
theorem tkEq33 : twoK [61] 3 3 = 4 := rfl
theorem tkEq44 : twoK [61] 4 4 = 4 := rfl
theorem tkLt11 : twoK [60] 1 1 = 4 := rfl
theorem tkLt12 : twoK [60] 1 2 = 0 := rfl
theorem tkLt13 : twoK [60] 1 3 = 0 := rfl
theorem tkLt14 : twoK [60] 1 4 = 0 := rfl
theorem tkLt21 : twoK [60] 2 1 = 0 := rfl
theorem tkLt22 : twoK [60] 2 2 = 4 := rfl
theorem tkLt23 : twoK [60] 2 3 = 0 := rfl
theorem tkLt24 : twoK [60] 2 4 = 0 := rfl
theorem tkLt31 : twoK [60] 3 1 = 0 := rfl
theorem tkLt32 : twoK [60] 3 2 = 0 := rfl
theorem tkLt33 : twoK [60] 3 3 = 4 := rfl
theorem tkLt34 : twoK [60] 3 4 = 0 := rfl
theorem tkLt41 : twoK [60] 4 1 = 0 := rfl
theorem tkLt42 : twoK [60] 4 2 = 0 := rfl
theorem tkLt43 : twoK [60] 4 3 = 0 := rfl
theorem tkLt44 : twoK [60] 4 4 = 0 := rfl
theorem tkAdd11 : twoK [43] 1 1 = 1 := rfl
theorem tkAdd12 : twoK [43] 1 2 = 0 := rfl
theorem tkAdd13 : twoK [43] 1 3 = 0 := rfl
theorem tkAdd14 : twoK [43] 1 4 = 0 := rfl
theorem tkAdd21 : twoK [43] 2 1 = 0 := rfl
theorem tkAdd22 : twoK [43] 2 2 = 0 := rfl
theorem tkAdd23 : twoK [43] 2 3 = 0 := rfl
theorem tkAdd24 : twoK [43] 2 4 = 0 := rfl
theorem tkAdd31 : twoK [43] 3 1 = 0 := rfl
theorem tkAdd32 : twoK [43] 3 2 = 0 := rfl
theorem tkAdd33 : twoK [43] 3 3 = 3 := rfl
theorem tkAdd34 : twoK [43] 3 4 = 0 := rfl
theorem tkAdd41 : twoK [43] 4 1 = 0 := rfl
theorem tkAdd42 : twoK [43] 4 2 = 0 := rfl
theorem tkAdd43 : twoK [43] 4 3 = 0 := rfl
theorem tkAdd44 : twoK [43] 4 4 = 0 := rfl
end Pay
