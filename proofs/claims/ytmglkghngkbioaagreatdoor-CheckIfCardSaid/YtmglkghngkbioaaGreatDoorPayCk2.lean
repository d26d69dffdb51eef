/- Kinds of expressions, each by those ahead of it: what the answer hangs on. -/
import Derived.Test.YtmglkghngkbioaaGreatDoorPayC61
import Derived.Test.YtmglkghngkbioaaGreatDoorPayC63
import Derived.Test.YtmglkghngkbioaaGreatDoorPayC84
import Derived.Test.YtmglkghngkbioaaGreatDoorPayCk1
import Derived.Test.YtmglkghngkbioaaGreatDoorPayTr1
import Derived.Test.YtmglkghngkbioaaGreatDoorPayTr2
set_option linter.unusedSimpArgs false
set_option linter.unusedVariables false
namespace Pay
def partOk (ks : List Int) (p : Int) : Bool := decide (0 ≤ p) && (decide (p < (ks.length : Int)) && decide (getK ks p ≠ 0))
/-- One's kind by those ahead of it; 0: none. -/
def koneB (x : Xpr) (ks : List Int) (l : List Bnd) : Int :=
  if (partsI x).all (partOk ks) = true then kindX x (getK ks x.a) (getK ks x.b) (getK ks x.c) l else 0
def kvs (l : List Bnd) : List Xpr → List Int → List Int
  | [], ks => ks
  | x :: es, ks => kvs l es (ks ++ [koneB x ks l])
def kvO (es : List Xpr) (l : List Bnd) (p : Int) : Int := getK (kvs l es []) p
theorem kvs_len (l : List Bnd) : ∀ (es : List Xpr) (ks : List Int), (kvs l es ks).length = ks.length + es.length
  | [], ks => rfl
  | x :: es, ks => by rw [kvs, kvs_len l es]; simp; omega
theorem kvs_app (l : List Bnd) : ∀ (es ext : List Xpr) (ks : List Int), kvs l (es ++ ext) ks = kvs l ext (kvs l es ks)
  | [], ext, ks => rfl
  | x :: es, ext, ks => kvs_app l es ext _
theorem kvs_pre (l : List Bnd) : ∀ (es : List Xpr) (ks : List Int), ks <+: kvs l es ks
  | [], ks => List.prefix_refl _
  | x :: es, ks => (List.prefix_append _ _).trans (kvs_pre l es _)
theorem kvs_take (l : List Bnd) (es : List Xpr) {i : Nat} (hi : i ≤ es.length) : (kvs l es []).take i = kvs l (es.take i) [] := by
  have h1 : kvs l es [] = kvs l (es.drop i) (kvs l (es.take i) []) := by rw [← kvs_app, List.take_append_drop]
  have h2 : (kvs l (es.take i) []).length = i := by rw [kvs_len]; simp; omega
  obtain ⟨r, hr⟩ := kvs_pre l (es.drop i) (kvs l (es.take i) [])
  rw [h1, ← hr, List.take_append_of_le_length (by omega), List.take_of_length_le (by omega)]
theorem kvs_at (l : List Bnd) {es : List Xpr} {i : Nat} {x : Xpr} (h : es[i]? = some x) : (kvs l es [])[i]? = some (koneB x ((kvs l es []).take i) l) := by
  have hi : i < es.length := (List.getElem?_eq_some_iff.1 h).1
  have e0 : es.take (i + 1) = es.take i ++ [x] := by rw [List.take_add_one, h]; rfl
  have h1 : kvs l es [] = kvs l (es.drop (i + 1)) (kvs l (es.take i) [] ++ [koneB x (kvs l (es.take i) []) l]) := by
    conv => lhs; rw [← List.take_append_drop (i + 1) es, kvs_app, e0, kvs_app]
    rfl
  have h2 : (kvs l (es.take i) []).length = i := by rw [kvs_len]; simp; omega
  rw [kvs_take l es (by omega)]
  obtain ⟨r, hr⟩ := kvs_pre l (es.drop (i + 1)) (kvs l (es.take i) [] ++ [koneB x (kvs l (es.take i) []) l])
  rw [h1, ← hr, List.append_assoc, List.getElem?_append_right (by omega), h2]
  simp
theorem getK_take {ks : List Int} {i : Nat} {p : Int} (h0 : 0 ≤ p) (h : p < (i : Int)) : getK (ks.take i) p = getK ks p := by
  unfold getK
  rw [List.getElem?_take]
  rw [if_pos (by omega)]
theorem kindX_congr {x : Xpr} {l : List Bnd} {f g : Int → Int} (h : ∀ p ∈ partsI x, f p = g p) : kindX x (f x.a) (f x.b) (f x.c) l = kindX x (g x.a) (g x.b) (g x.c) l := by
  unfold kindX
  by_cases h1 : x.op = wWhole
  · simp [h1]
  by_cases h2 : x.op = wAmount
  · simp [h2]
  by_cases h3 : x.op = wRate
  · simp [h3]
  by_cases h4 : x.op = wName
  · simp [h4]
  have hl : isLeaf x.op = false := by simp [isLeaf, h1, h2, h3, h4]
  unfold partsI at h
  rw [hl] at h
  simp only [Bool.false_eq_true, if_false] at h
  simp only [h1, h2, h3, h4, if_false]
  by_cases h5 : x.op = wNeg
  · simp only [h5, if_true] at h ⊢
    rw [h x.a (by simp)]
  simp only [h5, if_false] at h ⊢
  by_cases h6 : x.op = wIf
  · simp only [h6, if_true] at h ⊢
    rw [h x.a (by simp), h x.b (by simp), h x.c (by simp)]
  simp only [h6, if_false] at h ⊢
  rw [h x.a (by simp), h x.b (by simp)]
theorem markP_mono : ∀ (ps : List Int) (i : Nat) (out o : List Bool), markP ps i out = some o → ∀ j : Nat, out[j]? = some true → o[j]? = some true
  | [], i, out, o, h, j, hj => by cases h; exact hj
  | p :: ps, i, out, o, h, j, hj => by
    unfold markP at h
    split at h
    · refine markP_mono ps i _ o h j ?_
      by_cases e : p.toNat = j
      · subst e
        rw [List.getElem?_set_self (List.getElem?_eq_some_iff.1 hj).1]
      · rw [List.getElem?_set_ne e]; exact hj
    · cases h
theorem markP_in : ∀ (ps : List Int) (i : Nat) (out o : List Bool), i ≤ out.length → markP ps i out = some o → ∀ p ∈ ps, o[p.toNat]? = some true
  | [], i, out, o, _, h, p, hp => by cases hp
  | q :: ps, i, out, o, hi, h, p, hp => by
    unfold markP at h
    split at h
    · rename_i hq
      rcases List.mem_cons.1 hp with rfl | hp
      · exact markP_mono ps i _ o h _ (by rw [List.getElem?_set_self (by omega)])
      · exact markP_in ps i _ o (by rw [List.length_set]; exact hi) h p hp
    · cases h
theorem markP_of {G : Nat → Prop} : ∀ (ps : List Int) (i : Nat) (out : List Bool), (∀ p ∈ ps, 0 ≤ p ∧ p < (i : Int) ∧ G p.toNat) → (∀ j : Nat, out[j]? = some true → G j) → ∃ o, markP ps i out = some o ∧ ∀ j : Nat, o[j]? = some true → G j
  | [], i, out, _, h => ⟨out, rfl, h⟩
  | p :: ps, i, out, hp, h => by
    have h1 := hp p (by simp)
    unfold markP
    rw [if_pos ⟨h1.1, h1.2.1⟩]
    refine markP_of ps i _ (fun q hq => hp q (by simp [hq])) (fun j hj => ?_)
    by_cases e : p.toNat = j
    · subst e; exact h1.2.2
    · rw [List.getElem?_set_ne e] at hj; exact h j hj
def ClosedN (es : List Xpr) (nd : List Bool) : Prop := ∀ (i : Nat) (x : Xpr), nd[i]? = some true → es[i]? = some x → ∀ p ∈ partsI x, 0 ≤ p ∧ p < (i : Int) ∧ nd[p.toNat]? = some true
theorem needL_cl (es : List Xpr) : ∀ (n : Nat) (out nd : List Bool), n ≤ out.length →
    (∀ (i : Nat) (x : Xpr), n ≤ i → out[i]? = some true → es[i]? = some x → ∀ p ∈ partsI x, 0 ≤ p ∧ p < (i : Int) ∧ out[p.toNat]? = some true) → needL es n out = some nd →
    ClosedN es nd ∧ ∀ j : Nat, out[j]? = some true → nd[j]? = some true
  | 0, out, nd, hn, h0, h => by cases h; exact ⟨fun i x => h0 i x (Nat.zero_le _), fun _ h => h⟩
  | n + 1, out, nd, hn, h0, h => by
    unfold needL at h
    split at h
    · rename_i x hx1 hx2
      split at h
      · rename_i o ho
        obtain ⟨m1, m2⟩ := markP_ok _ _ _ _ ho
        have m3 := markP_mono _ _ _ _ ho
        obtain ⟨r1, r2⟩ := needL_cl es n o nd (by rw [markP_len _ _ _ _ ho]; omega) (fun i y hi hy1 hy2 p hp => by
          by_cases e : i = n
          · subst e
            rw [hx2] at hy2
            injection hy2 with hy2
            subst hy2
            exact ⟨(m1 p hp).1, (m1 p hp).2, markP_in _ _ _ _ (by omega) ho p hp⟩
          · obtain ⟨a1, a2, a3⟩ := h0 i y (by omega) (by rw [← m2 i hi]; exact hy1) hy2 p hp
            exact ⟨a1, a2, m3 _ a3⟩) h
        exact ⟨r1, fun j hj => r2 j (m3 j hj)⟩
      · cases h
    · rename_i hno
      refine needL_cl es n out nd (by omega) (fun i y hi hy1 hy2 => ?_) h
      by_cases e : i = n
      · subst e
        exact (hno _ hy1 hy2).elim
      · exact h0 i y (by omega) hy1 hy2
theorem needL_of (es : List Xpr) {G : Nat → Prop} (hG : ∀ (i : Nat) (x : Xpr), G i → es[i]? = some x → ∀ p ∈ partsI x, 0 ≤ p ∧ p < (i : Int) ∧ G p.toNat) : ∀ (n : Nat) (out : List Bool), (∀ j : Nat, out[j]? = some true → G j) → ∃ nd, needL es n out = some nd ∧ ∀ j : Nat, nd[j]? = some true → G j
  | 0, out, h => ⟨out, rfl, h⟩
  | n + 1, out, h => by
    unfold needL
    split
    · rename_i x hx1 hx2
      obtain ⟨o, ho, h2⟩ := markP_of (G := G) (partsI x) n out (hG n x (h n hx1) hx2) h
      rw [ho]
      exact needL_of es hG n o h2
    · exact needL_of es hG n out h
theorem start_true {n r j : Nat} (hr : r < n) : ((List.replicate n false).set r true)[j]? = some true ↔ j = r := by
  by_cases e : r = j
  · subst e; simp [hr]
  · rw [List.getElem?_set_ne e, List.getElem?_replicate]
    constructor
    · intro h; split at h <;> simp at h
    · intro h; exact absurd h.symm e
theorem needB_cl {es : List Xpr} {root : Int} {nd : List Bool} (h : needB es root = some nd) : 0 ≤ root ∧ root < (es.length : Int) ∧ nd.length = root.toNat + 1 ∧ ClosedN es nd ∧ nd[root.toNat]? = some true := by
  obtain ⟨h1, h2, h3, _⟩ := needB_ok h
  unfold needB at h
  rw [if_pos ⟨h1, h2⟩] at h
  obtain ⟨c1, c2⟩ := needL_cl es _ _ _ (by simp) (fun i x hi hx _ _ _ => by
    rw [start_true (by omega)] at hx; omega) h
  exact ⟨h1, h2, h3, c1, c2 _ (by rw [start_true (by omega)])⟩
theorem needB_of {es : List Xpr} {root : Int} (h0 : 0 ≤ root) (h1 : root < (es.length : Int)) {G : Nat → Prop} (hr : G root.toNat) (hG : ∀ (i : Nat) (x : Xpr), G i → es[i]? = some x → ∀ p ∈ partsI x, 0 ≤ p ∧ p < (i : Int) ∧ G p.toNat) :
    ∃ nd, needB es root = some nd ∧ ∀ j : Nat, nd[j]? = some true → G j := by
  unfold needB
  rw [if_pos ⟨h0, h1⟩]
  refine needL_of es hG _ _ (fun j hj => ?_)
  rw [start_true (by omega)] at hj
  subst hj; exact hr
def errK (x : Xpr) (l : List Bnd) : Int := if x.op = wName ∧ bound x.name l = none then 5 else 7
theorem kindsB_kv {es : List Xpr} {l : List Bnd} {nd : List Bool} (hc : ClosedN es nd) (hn : nd.length ≤ es.length) : ∀ (m i : Nat) (ks : List Int), i + m = nd.length → ks.length = nd.length →
    (∀ j : Nat, j < i → nd[j]? = some true → ks[j]? = (kvs l es [])[j]? ∧ (kvs l es [])[j]? ≠ some 0) →
    (∃ ks', kindsB es l (nd.drop i) i ks = .inl ks' ∧ ∀ j : Nat, nd[j]? = some true → ks'[j]? = (kvs l es [])[j]? ∧ (kvs l es [])[j]? ≠ some 0) ∨
    (∃ (j : Nat) (x : Xpr), kindsB es l (nd.drop i) i ks = .inr ((j : Int), errK x l) ∧ nd[j]? = some true ∧ es[j]? = some x ∧ (kvs l es [])[j]? = some 0) := by
  intro m
  induction m with
  | zero =>
    intro i ks hi hk hinv
    have hi' : i = nd.length := by omega
    subst hi'
    rw [List.drop_length]
    exact .inl ⟨ks, rfl, fun j hj => hinv j (List.getElem?_eq_some_iff.1 hj).1 hj⟩
  | succ m ih =>
    intro i ks hi hk hinv
    have hlt : i < nd.length := by omega
    rw [List.drop_eq_getElem_cons hlt]
    have hnd := List.getElem?_eq_getElem hlt
    cases hb : nd[i] with
    | false =>
      rw [hb] at hnd
      refine ih (i + 1) ks (by omega) hk (fun j hj h => ?_)
      by_cases e : j = i
      · subst e; rw [hnd] at h; cases h
      · exact hinv j (by omega) h
    | true =>
      rw [hb] at hnd
      have hx := List.getElem?_eq_getElem (show i < es.length by omega)
      generalize es[i] = x at hx
      unfold kindsB
      rw [hx]
      simp only
      have hcl := hc i x hnd hx
      have hlen := kvs_len l es []
      have hpk : ∀ p ∈ partsI x, getK ks p = getK ((kvs l es []).take i) p ∧ partOk ((kvs l es []).take i) p = true := by
        intro p hp
        obtain ⟨p0, p1, p2⟩ := hcl p hp
        obtain ⟨q1, q2⟩ := hinv p.toNat (by omega) p2
        have hg : (kvs l es [])[p.toNat]? = some ((kvs l es [])[p.toNat]'(by simp at hlen; omega)) := List.getElem?_eq_getElem _
        rw [getK_take p0 p1]
        refine ⟨by unfold getK; rw [q1], ?_⟩
        unfold partOk
        rw [getK_take p0 p1]
        have hne : getK (kvs l es []) p ≠ 0 := by
          unfold getK
          rw [hg]
          intro h
          rw [hg] at q2
          exact q2 (by rw [Option.getD_some] at h; rw [h])
        simp only [Bool.and_eq_true, decide_eq_true_eq]
        refine ⟨p0, ?_, hne⟩
        simp only [List.length_take, hlen, List.length_nil, Nat.zero_add]
        omega
      have hk1 : kindX x (getK ks x.a) (getK ks x.b) (getK ks x.c) l = koneB x ((kvs l es []).take i) l := by
        unfold koneB
        rw [if_pos (List.all_eq_true.2 fun p hp => (hpk p hp).2)]
        exact kindX_congr (f := getK ks) (g := getK ((kvs l es []).take i)) (fun p hp => (hpk p hp).1)
      have hat := kvs_at l hx
      rw [← hk1] at hat
      generalize kindX x (getK ks x.a) (getK ks x.b) (getK ks x.c) l = k at *
      by_cases h0 : k = 0
      · rw [if_pos h0]
        exact .inr ⟨i, x, rfl, hnd, hx, by rw [hat, h0]⟩
      · rw [if_neg h0]
        refine ih (i + 1) (ks.set i k) (by omega) (by rw [List.length_set]; exact hk) (fun j hj h => ?_)
        by_cases e : i = j
        · subst e
          rw [List.getElem?_set_self (by omega), hat]
          exact ⟨rfl, fun h => h0 (Option.some.inj h)⟩
        · rw [List.getElem?_set_ne e]
          exact hinv j (by omega) h
theorem kvs_get {es : List Xpr} {l : List Bnd} {i : Int} (h0 : 0 ≤ i) (h1 : i < (es.length : Int)) : (kvs l es [])[i.toNat]? = some (kvO es l i) := by
  have hlen := kvs_len l es []
  have hg : (kvs l es [])[i.toNat]? = some ((kvs l es [])[i.toNat]'(by simp at hlen; omega)) := List.getElem?_eq_getElem _
  unfold kvO getK
  rw [hg]
  rfl
theorem kvO_parts {es : List Xpr} {l : List Bnd} {i : Nat} {x : Xpr} (hx : es[i]? = some x) (h : kvO es l i ≠ 0) : (∀ p ∈ partsI x, 0 ≤ p ∧ p < (i : Int) ∧ kvO es l p ≠ 0) ∧ kvO es l i = kindX x (kvO es l x.a) (kvO es l x.b) (kvO es l x.c) l := by
  have hi : i < es.length := (List.getElem?_eq_some_iff.1 hx).1
  have hat := kvs_at l hx
  have hg := kvs_get (l := l) (Int.natCast_nonneg i) (show (i : Int) < (es.length : Int) by omega)
  rw [Int.toNat_natCast, hat] at hg
  have hg := Option.some.inj hg
  rw [← hg] at h ⊢
  unfold koneB at h ⊢
  split at h
  · rename_i hall
    rw [if_pos hall]
    have hp : ∀ p ∈ partsI x, 0 ≤ p ∧ p < (i : Int) ∧ getK ((kvs l es []).take i) p ≠ 0 := fun p hp => by
      have := List.all_eq_true.1 hall p hp
      simp only [partOk, Bool.and_eq_true, decide_eq_true_eq, List.length_take] at this
      exact ⟨this.1, by omega, this.2.2⟩
    refine ⟨fun p h => ?_, kindX_congr (f := getK ((kvs l es []).take i)) (g := kvO es l) (fun p h => ?_)⟩
    · obtain ⟨a, b, c⟩ := hp p h
      rw [getK_take a b] at c
      exact ⟨a, b, c⟩
    · obtain ⟨a, b, c⟩ := hp p h
      rw [getK_take a b]; rfl
  · exact absurd rfl h
theorem kvO_eq {es : List Xpr} {l : List Bnd} {i : Nat} {x : Xpr} (hx : es[i]? = some x) (h : ∀ p ∈ partsI x, 0 ≤ p ∧ p < (i : Int) ∧ kvO es l p ≠ 0) : kvO es l i = kindX x (kvO es l x.a) (kvO es l x.b) (kvO es l x.c) l := by
  have hi : i < es.length := (List.getElem?_eq_some_iff.1 hx).1
  have hat := kvs_at l hx
  have hg := kvs_get (l := l) (Int.natCast_nonneg i) (show (i : Int) < (es.length : Int) by omega)
  rw [Int.toNat_natCast, hat] at hg
  have hg := Option.some.inj hg
  have hlen := kvs_len l es []
  rw [← hg]
  unfold koneB
  rw [if_pos (List.all_eq_true.2 fun p hp => by
    obtain ⟨a, b, c⟩ := h p hp
    unfold partOk
    rw [getK_take a b]
    simp only [Bool.and_eq_true, decide_eq_true_eq, List.length_take, hlen, List.length_nil, Nat.zero_add]
    exact ⟨a, by omega, c⟩)]
  refine kindX_congr (f := getK ((kvs l es []).take i)) (g := kvO es l) (fun p hp => ?_)
  obtain ⟨a, b, c⟩ := h p hp
  rw [getK_take a b]; rfl
/-- Where one has a kind, that is the answer. -/
theorem kindP_ok {es : List Xpr} {l : List Bnd} {root : Int} (h0 : 0 ≤ root) (h1 : root < (es.length : Int)) (h : kvO es l root ≠ 0) : kindP es root l = (kvO es l root, 0, 0) := by
  obtain ⟨r, rfl⟩ := Int.eq_ofNat_of_zero_le h0
  obtain ⟨nd, hnd, hG⟩ := needB_of h0 h1 (G := fun i => i < es.length ∧ kvO es l i ≠ 0) ⟨by omega, h⟩ (fun i x hi hx p hp => by
    obtain ⟨a, b, c⟩ := (kvO_parts hx hi.2).1 p hp
    refine ⟨a, b, by omega, ?_⟩
    rwa [show ((p.toNat : Nat) : Int) = p by omega])
  obtain ⟨_, _, c3, c4, c5⟩ := needB_cl hnd
  have hg := kvs_get (l := l) h0 h1
  unfold kindP
  rw [hnd]
  simp only
  rcases kindsB_kv (l := l) c4 (by omega) nd.length 0 (List.replicate nd.length 0) (by omega) (by simp) (fun j hj => by omega) with ⟨ks, k1, k2⟩ | ⟨j, x, k1, k2, k3, k4⟩
  · rw [List.drop_zero] at k1
    rw [k1]
    simp only
    have := (k2 _ c5).1
    rw [hg] at this
    unfold getK
    rw [this]
    rfl
  · exfalso
    obtain ⟨g1, g2⟩ := hG j k2
    have := kvs_get (l := l) (Int.natCast_nonneg j) (show (j : Int) < (es.length : Int) by omega)
    rw [Int.toNat_natCast, k4] at this
    exact g2 (Option.some.inj this).symm
/-- Where it has none there is an error, and no kind. -/
theorem kindP_bad {es : List Xpr} {l : List Bnd} {root : Int} (h : ¬ (0 ≤ root ∧ root < (es.length : Int) ∧ kvO es l root ≠ 0)) : (kindP es root l).1 = 0 ∧ (kindP es root l).2.2 ≠ 0 := by
  unfold kindP
  cases hnd : needB es root with
  | none => exact ⟨rfl, show (1 : Int) ≠ 0 by decide⟩
  | some nd =>
    simp only
    obtain ⟨c1, c2, c3, c4, c5⟩ := needB_cl hnd
    have hg := kvs_get (l := l) c1 c2
    rcases kindsB_kv (l := l) c4 (by omega) nd.length 0 (List.replicate nd.length 0) (by omega) (by simp) (fun j hj => by omega) with ⟨ks, k1, k2⟩ | ⟨j, x, k1, k2, k3, k4⟩
    · exfalso
      have := (k2 _ c5).2
      rw [hg] at this
      exact h ⟨c1, c2, fun h => this (by rw [h])⟩
    · rw [List.drop_zero] at k1
      rw [k1]
      refine ⟨rfl, ?_⟩
      simp only [errK]
      split <;> decide
/-- Where all parts have a kind, and it has none, it is the place. -/
theorem kindP_at {es : List Xpr} {l : List Bnd} {r : Nat} {x : Xpr} (hx : es[r]? = some x) (hp : ∀ p ∈ partsI x, 0 ≤ p ∧ p < (r : Int) ∧ kvO es l p ≠ 0) (h : kindX x (kvO es l x.a) (kvO es l x.b) (kvO es l x.c) l = 0) : kindP es r l = (0, (r : Int), errK x l) := by
  have hr : r < es.length := (List.getElem?_eq_some_iff.1 hx).1
  have hk : kvO es l r = 0 := by rw [kvO_eq hx hp]; exact h
  have h0 : (0 : Int) ≤ (r : Int) := by omega
  have h1 : (r : Int) < (es.length : Int) := by omega
  obtain ⟨nd, hnd, hG⟩ := needB_of h0 h1 (G := fun i => i < es.length ∧ (i = r ∨ kvO es l i ≠ 0)) ⟨by omega, .inl (by omega)⟩ (fun i y hi hy p hpp => by
    rcases hi.2 with e | h2
    · subst e
      rw [hx] at hy
      injection hy with hy
      subst hy
      obtain ⟨a, b, c⟩ := hp p hpp
      refine ⟨a, b, by omega, .inr ?_⟩
      rwa [show ((p.toNat : Nat) : Int) = p by omega]
    · obtain ⟨a, b, c⟩ := (kvO_parts hy h2).1 p hpp
      refine ⟨a, b, by omega, .inr ?_⟩
      rwa [show ((p.toNat : Nat) : Int) = p by omega])
  obtain ⟨_, _, c3, c4, c5⟩ := needB_cl hnd
  have hg := kvs_get (l := l) h0 h1
  unfold kindP
  rw [hnd]
  simp only
  rcases kindsB_kv (l := l) c4 (by omega) nd.length 0 (List.replicate nd.length 0) (by omega) (by simp) (fun j hj => by omega) with ⟨ks, k1, k2⟩ | ⟨j, y, k1, k2, k3, k4⟩
  · exfalso
    have := (k2 _ c5).2
    rw [hg, hk] at this
    exact this rfl
  · rw [List.drop_zero] at k1
    rw [k1]
    obtain ⟨g1, g2⟩ := hG j k2
    have hj : j = r := by
      rcases g2 with e | g2
      · exact e
      · have := kvs_get (l := l) (Int.natCast_nonneg j) (show (j : Int) < (es.length : Int) by omega)
        rw [Int.toNat_natCast, k4] at this
        exact absurd (Option.some.inj this).symm g2
    subst hj
    rw [hx] at k3
    injection k3 with k3
    subst k3
    rfl
theorem kvO_app {es ext : List Xpr} {l : List Bnd} {p : Int} (h0 : 0 ≤ p) (h : p < (es.length : Int)) : kvO (es ++ ext) l p = kvO es l p := by
  unfold kvO
  have e : (kvs l (es ++ ext) []).take es.length = kvs l es [] := by
    rw [kvs_take l (es ++ ext) (by simp), List.take_append_of_le_length (Nat.le_refl _), List.take_length]
  rw [← e, getK_take h0 h]
theorem bound_app {s : List UInt8} {k : Int} : ∀ {l more : List Bnd}, bound s l = some k → bound s (l ++ more) = some k
  | [], more, h => by cases h
  | b :: l, more, h => by
    simp only [List.cons_append, bound] at h ⊢
    split
    · rename_i e; rwa [if_pos e] at h
    · rename_i e; rw [if_neg e] at h; exact bound_app h
theorem nameK_app {s : List UInt8} {l more : List Bnd} (h : nameK s l ≠ 0) : nameK s (l ++ more) = nameK s l := by
  unfold nameK at h ⊢
  cases hb : bound s l with
  | none => rw [hb] at h; exact absurd rfl h
  | some k => rw [bound_app hb]
theorem kindX_app {x : Xpr} {a b c : Int} {l more : List Bnd} (h : kindX x a b c l ≠ 0) : kindX x a b c (l ++ more) = kindX x a b c l := by
  unfold kindX at h ⊢
  repeat' split
  all_goals first | rfl | skip
  rename_i h1 h2 h3 h4
  simp only [h1, h2, h3, h4, if_true, if_false] at h
  exact nameK_app h
theorem kvO_more {es : List Xpr} {l more : List Bnd} : ∀ (n i : Nat), i < n → i < es.length → kvO es l i ≠ 0 → kvO es (l ++ more) i = kvO es l i
  | 0, i, h, _, _ => by omega
  | n + 1, i, h, hi, hk => by
    have hx := List.getElem?_eq_getElem hi
    generalize es[i] = x at hx
    obtain ⟨h1, h2⟩ := kvO_parts hx hk
    have h3 : ∀ p ∈ partsI x, kvO es (l ++ more) p = kvO es l p := fun p hp => by
      obtain ⟨a, b, c⟩ := h1 p hp
      obtain ⟨q, rfl⟩ := Int.eq_ofNat_of_zero_le a
      exact kvO_more n q (by omega) (by omega) c
    rw [kvO_eq hx (fun p hp => by rw [h3 p hp]; exact h1 p hp), kindX_congr (f := kvO es (l ++ more)) (g := kvO es l) h3, h2]
    rw [h2] at hk
    exact kindX_app hk
theorem kindP_app {es : List Xpr} {root : Int} {l : List Bnd} (more : List Bnd) (h : (kindP es root l).2.2 = 0) : kindP es root (l ++ more) = kindP es root l := by
  by_cases hc : 0 ≤ root ∧ root < (es.length : Int) ∧ kvO es l root ≠ 0
  · obtain ⟨h0, h1, h2⟩ := hc
    obtain ⟨r, rfl⟩ := Int.eq_ofNat_of_zero_le h0
    have e := kvO_more (more := more) (r + 1) r (by omega) (by omega) h2
    have e' : kvO es (l ++ more) (r : Int) = kvO es l (r : Int) := e
    rw [kindP_ok h0 h1 h2, kindP_ok h0 h1 (by show kvO es (l ++ more) (r : Int) ≠ 0; rw [e']; exact h2)]
    rw [e']
  · exact absurd h (kindP_bad hc).2
/-- Bindings that tell the same of all names there are. -/
theorem kindsB_congr {es : List Xpr} {l l' : List Bnd} (h : ∀ x ∈ es, bound x.name l = bound x.name l') : ∀ (nd : List Bool) (i : Nat) (ks : List Int), kindsB es l nd i ks = kindsB es l' nd i ks
  | [], i, ks => rfl
  | false :: nd, i, ks => by unfold kindsB; exact kindsB_congr h nd (i + 1) ks
  | true :: nd, i, ks => by
    unfold kindsB
    cases hx : es[i]? with
    | none => rfl
    | some x =>
      simp only
      have hb := h x (List.mem_of_getElem? hx)
      have hk : kindX x (getK ks x.a) (getK ks x.b) (getK ks x.c) l = kindX x (getK ks x.a) (getK ks x.b) (getK ks x.c) l' := by unfold kindX nameK; rw [hb]
      rw [hk, hb, kindsB_congr h nd (i + 1)]
theorem kindP_congr {es : List Xpr} {root : Int} {l l' : List Bnd} (h : ∀ x ∈ es, bound x.name l = bound x.name l') : kindP es root l = kindP es root l' := by
  unfold kindP
  split
  · rfl
  · rw [kindsB_congr h]
end Pay
