/- Plain laws: a token ahead of anything that is no part of it; a sum of numbers, from the left. -/
import Derived.Test.YtcgeldjhobmijaaDoorPayBc0
import Derived.Test.YtcgeldjhobmijaaDoorPayC41
import Derived.Test.YtcgeldjhobmijaaDoorPayC43
import Derived.Test.YtcgeldjhobmijaaDoorPayC44
import Derived.Test.YtcgeldjhobmijaaDoorPayC47
import Derived.Test.YtcgeldjhobmijaaDoorPayC48
import Derived.Test.YtcgeldjhobmijaaDoorPayTr1
import Derived.Test.YtcgeldjhobmijaaDoorPayTr2
import Derived.Test.YtcgeldjhobmijaaDoorPayTr3
import Derived.Test.YtcgeldjhobmijaaDoorPayTr4
set_option linter.unusedSimpArgs false
set_option linter.unusedVariables false
namespace Pay
/-- What stands behind a token is no part of it. -/
def Stop (u r : List UInt8) : Prop := ∀ d u' c r', u = d :: u' → r = c :: r' →
  (letB d = true → wordB c = false) ∧ (digB d = true → numB c = false) ∧ (u' = [] → ¬ ((d = 60 ∧ (c = 61 ∨ c = 62)) ∨ (d = 62 ∧ c = 61)))
theorem run_all {p : UInt8 → Bool} : ∀ {u : List UInt8}, runN p u = u.length → u.all p = true
  | [], _ => rfl
  | c :: u, h => by
    rw [runN, List.takeWhile_cons] at h
    cases hc : p c with
    | false => rw [hc] at h; simp at h
    | true =>
      rw [hc] at h
      simp only [if_true, List.length_cons, Nat.add_right_cancel_iff] at h
      simp only [List.all_cons, hc, Bool.true_and]
      exact run_all (u := u) h
theorem Good.stop {k : Int} {u : List UInt8} (h : Good k u) {r : List UInt8} (hs : Stop u r) : oneS (u ++ r) = (k, u.length) := by
  have e := h.self
  obtain ⟨d, u', rfl⟩ := h.cons
  have hs : ∀ c r', r = c :: r' → _ := fun c r' hr => hs d u' c r' rfl hr
  rw [List.cons_append]
  rw [oneS_cons] at e ⊢
  by_cases h1 : letB d = true
  · rw [if_pos h1] at e ⊢
    by_cases h2 : runN wordB (d :: u') > 12
    · rw [if_pos h2] at e
      exact absurd (congrArg Prod.fst e).symm h.ne
    · rw [if_neg h2] at e
      have hl : runN wordB (d :: u') = (d :: u').length := congrArg Prod.snd e
      have ha := runN_app (p := wordB) (u := d :: u') (r := r) (run_all hl) (fun c r' hr => (hs c r' hr).1 h1)
      rw [List.cons_append] at ha
      rw [ha, if_neg (by omega)]
      rw [← e, hl]
  · rw [if_neg h1] at e ⊢
    by_cases h2 : digB d = true
    · rw [if_pos h2] at e ⊢
      have hl : runN numB (d :: u') = (d :: u').length := congrArg Prod.snd e
      have ha := runN_app (p := numB) (u := d :: u') (r := r) (run_all hl) (fun c r' hr => (hs c r' hr).2.1 h2)
      rw [List.cons_append] at ha
      rw [hl, List.take_length] at e
      rw [ha, ← e, show (d :: (u' ++ r)).take (d :: u').length = d :: u' by rw [← List.cons_append]; simp]
    · rw [if_neg h2] at e ⊢
      by_cases h3 : signN (d :: u') = 0
      · rw [if_pos h3] at e
        exact absurd (congrArg Prod.fst e).symm h.ne
      · rw [if_neg h3] at e
        have hl : signN (d :: u') = (d :: u').length := congrArg Prod.snd e
        have hc : signSet.contains d = true := by
          rw [signN_eq] at h3
          cases hc : signSet.contains d with
          | true => rfl
          | false => rw [hc] at h3; exact absurd rfl h3
        have key : signN (d :: (u' ++ r)) = (d :: u').length := by
          rw [signN_eq, if_pos hc] at hl ⊢
          cases u' with
          | nil =>
            cases r with
            | nil => exact hl
            | cons c r =>
              have := (hs c r rfl).2.2 rfl
              simp only [List.nil_append, signR]
              rw [if_neg this]
              rfl
          | cons c u' => exact hl
        rw [key, if_neg (by simp), ← e, hl]
theorem lex_stop {k : Int} {u : List UInt8} (h : Good k u) {r : List UInt8} (hs : Stop u r) (p : Nat) : lexT p (u ++ r) = lexPut k u p (lexT (p + u.length) r) := by
  have e := h.stop hs
  rw [lexT_tok (by rw [e]; exact h.ne), e]
  simp
theorem stop_nil (u : List UInt8) : Stop u [] := fun _ _ _ _ _ h => by cases h
def dg (k : Nat) : List UInt8 := (if k > 99 then [UInt8.ofNat (48 + k / 100)] else []) ++ (if k > 9 then [UInt8.ofNat (48 + k / 10 % 10)] else []) ++ [UInt8.ofNat (48 + k % 10)]
def dgB (k : Nat) : Bool := oneS (dg k) == (2, (dg k).length) && valW (dg k) == (k : Int) && digB ((dg k).headD 0)
set_option maxRecDepth 100000 in
theorem dg_all : ((List.range 1000).all dgB) = true := by kernel_rfl
theorem dg_one {k : Nat} (h : k < 1000) : oneS (dg k) = (2, (dg k).length) ∧ valW (dg k) = (k : Int) ∧ digB ((dg k).headD 0) = true := by
  have := List.all_eq_true.1 dg_all k (List.mem_range.2 h)
  simp only [dgB, Bool.and_eq_true, beq_iff_eq] at this
  exact ⟨this.1.1, this.1.2, this.2⟩
theorem dg_good {k : Nat} (h : k < 1000) : Good 2 (dg k) := by
  have e := (dg_one h).1
  have := good_of (t := dg k) (by rw [e]; exact (by decide : (2 : Int) ≠ 0))
  rw [e] at this
  simpa using this
theorem dg_stop {k : Nat} (h : k < 1000) {c : UInt8} {r : List UInt8} (hc : numB c = false) : Stop (dg k) (c :: r) := by
  intro d u' c' r' hu hr
  obtain ⟨rfl, rfl⟩ : c = c' ∧ r = r' := by injection hr with a b; exact ⟨a, b⟩
  have hd := (dg_one h).2.2
  rw [hu] at hd
  have hd : digB d = true := hd
  rw [digB_iff] at hd
  refine ⟨fun hl => ?_, fun _ => hc, fun _ h => ?_⟩
  · rw [letB_iff] at hl; omega
  · rcases h with ⟨rfl, _⟩ | ⟨rfl, _⟩ <;> simp at hd
/-- The numbers behind the first one. -/
def restT : List Nat → List UInt8
  | [] => [59]
  | k :: ks => [32, 43, 32] ++ dg k ++ restT ks
def restK : List Nat → List (Int × List UInt8)
  | [] => [(5, [59])]
  | k :: ks => (5, [43]) :: (2, dg k) :: restK ks
theorem plus_good : Good 5 [43] := by
  have := good_of (t := [43]) (by decide)
  exact this
theorem semi_good : Good 5 [59] := by
  have := good_of (t := [59]) (by decide)
  exact this
theorem rest_head : ∀ (ks : List Nat), ∃ c r, restT ks = c :: r ∧ numB c = false
  | [] => ⟨59, [], rfl, by decide⟩
  | k :: ks => ⟨32, _, rfl, by decide⟩
theorem dg_rest {k : Nat} (h : k < 1000) (ks : List Nat) : Stop (dg k) (restT ks) := by
  obtain ⟨c, r, e, hc⟩ := rest_head ks
  rw [e]
  exact dg_stop h hc
theorem rest_lex : ∀ (ks : List Nat), (∀ k ∈ ks, k < 1000) → ∀ p, Same2 (lexT p (restT ks)) (restK ks)
  | [], _, p => by
    have := lex_stop semi_good (stop_nil [59]) p
    rw [List.append_nil] at this
    show Same2 (lexT p [59]) _
    rw [this]
    exact Same2.put (x := lexT (p + 1) []) ⟨rfl, rfl⟩
  | k :: ks, h, p => by
    have hk := h k (by simp)
    show Same2 (lexT p (32 :: ([43] ++ 32 :: (dg k ++ restT ks)))) _
    rw [lexT_blank (.inl rfl), lex_put plus_good _ (sep_cons (.inl rfl)), lexT_blank (.inl rfl), lex_stop (dg_good hk) (dg_rest hk ks)]
    exact ((rest_lex ks (fun x hx => h x (List.mem_cons_of_mem _ hx)) _).put).put
def leftHead : List UInt8 := [108, 101, 116, 32, 97, 32, 61, 32]
def leftT (k : Nat) (ks : List Nat) : List UInt8 := leftHead ++ dg k ++ restT ks
def leftK (k : Nat) (ks : List Nat) : List (Int × List UInt8) := (1, wLet) :: (1, [97]) :: (5, [61]) :: (2, dg k) :: restK ks
theorem left_lex {k : Nat} {ks : List Nat} (hk : k < 1000) (h : ∀ k ∈ ks, k < 1000) : Same2 (lexS (leftT k ks)) (leftK k ks) := by
  have g1 : Good 1 wLet := good_of (t := wLet) (by decide)
  have g2 : Good 1 [97] := good_of (t := [97]) (by decide)
  have g3 : Good 5 [61] := good_of (t := [61]) (by decide)
  rw [lexS_T]
  show Same2 (lexT 0 (wLet ++ 32 :: ([97] ++ 32 :: ([61] ++ 32 :: (dg k ++ restT ks))))) _
  rw [lex_put g1 _ (sep_cons (.inl rfl)), lexT_blank (.inl rfl), lex_put g2 _ (sep_cons (.inl rfl)), lexT_blank (.inl rfl), lex_put g3 _ (sep_cons (.inl rfl)), lexT_blank (.inl rfl), lex_stop (dg_good hk) (dg_rest hk ks)]
  exact ((((rest_lex ks h _).put).put).put).put
def toks (l : List (Int × List UInt8)) : List Tok := l.map fun x => ⟨x.1, x.2, 0⟩
theorem toks_kt (l : List (Int × List UInt8)) : (toks l).map kt = l := by
  unfold toks
  rw [List.map_map]
  conv => rhs; rw [← List.map_id l]
  rfl
def numE (k : Nat) : Xt := .leaf wWhole [] k
def leftE (a : Xt) : List Nat → Xt
  | [] => a
  | k :: ks => leftE (.bin [43] a (numE k)) ks
theorem take_num (l : List (List UInt8)) (u : List UInt8) (p : Nat) (r : List Tok) : takeK l (⟨2, u, p⟩ :: r) = none := by
  unfold takeK
  simp [signT]
theorem fac_num {en d : Nat} {k : Nat} (hk : k < 1000) (r : List Tok) : facT en (d + 1) (⟨2, dg k, 0⟩ :: r) = .ok (numE k, r) := by
  rw [facT_succ]
  unfold facK
  rw [take_num, take_num, take_num]
  simp only
  unfold leafK leafE
  simp [numE, (dg_one hk).2.1]
theorem take_other {l : List (List UInt8)} {s : List UInt8} (h : l.contains s = false) (k : Int) (p : Nat) (r : List Tok) : takeK l (⟨k, s, p⟩ :: r) = none := by
  unfold takeK
  simp only
  rw [if_neg]
  rintro ⟨_, h2⟩
  rw [h] at h2; cases h2
theorem prod_num {en d : Nat} {k : Nat} (hk : k < 1000) (ks : List Nat) : prodT (facT en (d + 1)) (⟨2, dg k, 0⟩ :: toks (restK ks)) = .ok (numE k, toks (restK ks)) := by
  unfold prodT chainT
  rw [fac_num hk]
  simp only
  cases ks with
  | nil => rfl
  | cons j js =>
    show chainK _ _ (_ + 1) _ _ = _
    unfold chainK
    rw [show takeK mulL (toks (restK (j :: js))) = none from take_other (by decide) 5 0 _]
theorem chain_left {en d : Nat} : ∀ (ks : List Nat) (n : Nat) (a : Xt), (∀ k ∈ ks, k < 1000) → (restK ks).length ≤ n → chainK (prodT (facT en (d + 1))) sumL n (toks (restK ks)) a = .ok (leftE a ks, toks [(5, [59])])
  | [], 0, a, _, h => by simp [restK] at h
  | [], n + 1, a, _, _ => by
    unfold chainK
    rw [show takeK sumL (toks (restK [])) = none from take_other (by decide) 5 0 _]
    rfl
  | k :: ks, 0, a, _, h => by simp [restK] at h
  | k :: ks, n + 1, a, hk, h => by
    have ih := chain_left (en := en) (d := d) ks n (.bin [43] a (numE k)) (fun x hx => hk x (List.mem_cons_of_mem _ hx)) (by simp only [restK, List.length_cons] at h; omega)
    unfold chainK
    rw [show takeK sumL (toks (restK (k :: ks))) = some ([43], ⟨2, dg k, 0⟩ :: toks (restK ks)) from rfl]
    simp only
    rw [prod_num (hk k (by simp))]
    exact ih
theorem left_expr {en : Nat} {k : Nat} {ks : List Nat} (hk : k < 1000) (h : ∀ k ∈ ks, k < 1000) : exprT en 20 (⟨2, dg k, 0⟩ :: toks (restK ks)) = .ok (leftE (numE k) ks, toks [(5, [59])]) := by
  rw [show (20 : Nat) = 19 + 1 from rfl, exprT_succ]
  unfold exprK
  rw [take_num]
  simp only
  unfold cmpT
  have e : sumT (facT en (19 + 1)) (⟨2, dg k, 0⟩ :: toks (restK ks)) = .ok (leftE (numE k) ks, toks [(5, [59])]) := by
    unfold sumT chainT
    rw [prod_num hk]
    exact chain_left ks _ _ h (by simp [toks])
  rw [e, bind_ok]
  simp only
  rw [show takeK cmpL (toks [(5, [59])]) = none from take_other (by decide) 5 0 _]
theorem prog_nil {en : Nat} (f n : Nat) : progK en f n [] = .ok [] := by cases f <;> simp [progK]
theorem left_read {en : Nat} {k : Nat} {ks : List Nat} (hk : k < 1000) (h : ∀ k ∈ ks, k < 1000) : readT en (toks (leftK k ks)) = .ok [⟨wLet, [97], leftE (numE k) ks⟩] := by
  unfold readT
  show progK en (_ + 1) 0 _ = _
  unfold progK
  rw [if_neg (by simp [toks, leftK])]
  have e : ruleK en 0 (toks (leftK k ks)) = .ok (⟨wLet, [97], leftE (numE k) ks⟩, []) := by
    unfold ruleK toks leftK
    simp only [List.map_cons]
    rw [if_neg (by simp), if_pos (by decide), if_pos (by decide), need_hd, bind_ok]
    rw [show (List.map (fun x : Int × List UInt8 => (⟨x.1, x.2, 0⟩ : Tok)) (restK ks)) = toks (restK ks) from rfl, left_expr hk h, bind_ok]
    rfl
  rw [e]
  simp only
  rw [prog_nil]
/-- Its expressions. -/
def goX : Nat → List Nat → List Xpr
  | _, [] => []
  | s, k :: ks => xLeaf wWhole [] k :: xNode [43] (s - 1) s 0 :: goX (s + 2) ks
theorem flat_left : ∀ (ks : List Nat) (a : Xt), flat 0 (leftE a ks) = flat 0 a ++ goX a.size ks
  | [], a => by simp [leftE, goX]
  | k :: ks, a => by
    rw [leftE, flat_left ks]
    simp [flat, numE, Xt.size, goX]
theorem goX_len : ∀ (ks : List Nat) (s : Nat), (goX s ks).length = 2 * ks.length
  | [], _ => rfl
  | k :: ks, s => by simp [goX, goX_len ks]; omega
theorem goX_get : ∀ (ks : List Nat) (s j k : Nat), ks[j]? = some k → (goX s ks)[2 * j]? = some (xLeaf wWhole [] k) ∧ (goX s ks)[2 * j + 1]? = some (xNode [43] (s + 2 * j - 1) (s + 2 * j) 0)
  | [], s, j, k, h => by simp at h
  | x :: ks, s, 0, k, h => by
    simp only [List.getElem?_cons_zero, Option.some.injEq] at h
    subst h
    exact ⟨rfl, rfl⟩
  | x :: ks, s, j + 1, k, h => by
    simp only [List.getElem?_cons_succ] at h
    have := goX_get ks (s + 2) j k h
    rw [show 2 * (j + 1) = 2 * j + 1 + 1 by omega]
    simp only [goX, List.getElem?_cons_succ]
    rw [this.1, this.2, show s + 2 + 2 * j = s + (2 * j + 1 + 1) by omega]
    exact ⟨rfl, rfl⟩
theorem left_law {k : Nat} {ks : List Nat} (hk : k < 1000) (h : ∀ k ∈ ks, k < 1000) : (parseP (leftT k ks)).1.exprs = xLeaf wWhole [] k :: goX 1 ks ∧ (parseP (leftT k ks)).2.2 = 0 := by
  have hl := left_lex hk h
  obtain ⟨h1, h2⟩ := hl
  unfold parseP
  cases hx : lexS (leftT k ks) with | mk us o =>
  rw [hx] at h1 h2
  simp only at h1 h2
  subst h1
  simp only
  have e := blanks_law (en := (leftT k ks).length) (en' := 0) (ts := us) (us := toks (leftK k ks)) (by rw [h2, toks_kt])
  rw [e.1, e.2, parseT_eq, left_read hk h]
  refine ⟨?_, rfl⟩
  show exprsOf 0 _ = _
  simp only [exprsOf, List.append_nil]
  rw [flat_left]
  rfl
end Pay
