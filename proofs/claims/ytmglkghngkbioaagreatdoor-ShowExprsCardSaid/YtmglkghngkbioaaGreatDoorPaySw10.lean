/- Each expression of a program is a tree's root; its text, as a rule of its own. -/
import Derived.Test.YtmglkghngkbioaaGreatDoorPayC47
import Derived.Test.YtmglkghngkbioaaGreatDoorPayC48
import Derived.Test.YtmglkghngkbioaaGreatDoorPayC61
import Derived.Test.YtmglkghngkbioaaGreatDoorPayMSw5
import Derived.Test.YtmglkghngkbioaaGreatDoorPayMTr1
set_option linter.unusedSimpArgs false
set_option linter.unusedVariables false
namespace Pay
open Go
/-- A tree that ends at a place. -/
structure SubT (es : List Xpr) (d N j : Nat) (u : Xt) (m : Nat) : Prop where
  wf : WfP u
  nd : ndT u 0 ≤ d
  at_ : At es m (flat m u)
  hi : m + u.size ≤ N
  eq : j = m + u.size - 1
theorem SubT.mono {es : List Xpr} {d d' N N' j m : Nat} {u : Xt} (h : SubT es d N j u m) (hd : d ≤ d') (hN : N ≤ N') : SubT es d' N' j u m :=
  ⟨h.wf, Nat.le_trans h.nd hd, h.at_, Nat.le_trans h.hi hN, h.eq⟩
theorem lvl_nn (op : List UInt8) : 0 ≤ lvlS op := by
  unfold lvlS
  repeat' split
  all_goals omega
theorem sub_tree {es : List Xpr} : ∀ (t : Xt) (n j : Nat), WfP t → At es n (flat n t) → n ≤ j → j < n + t.size → ∃ u m, SubT es (ndT t 0) (n + t.size) j u m
  | .leaf op nm v, n, j, h, ha, h1, h2 => ⟨.leaf op nm v, n, h, Nat.le_refl _, ha, Nat.le_refl _, by simp only [Xt.size] at *; omega⟩
  | .neg e, n, j, h, ha, h1, h2 => by
    have hs : (Xt.neg e).size = e.size + 1 := rfl
    by_cases hj : j = n + e.size
    · exact ⟨.neg e, n, h, Nat.le_refl _, ha, Nat.le_refl _, by rw [hs]; omega⟩
    · obtain ⟨u, m, hu⟩ := sub_tree e n j h ha.left h1 (by omega)
      refine ⟨u, m, hu.mono ?_ (by omega)⟩
      show _ ≤ ndT e 4 + 1
      have := (nd_mono (t := e) (L := 0) (M := 4) (by decide)).1
      omega
  | .bin op a b, n, j, h, ha, h1, h2 => by
    have hs : (Xt.bin op a b).size = a.size + b.size + 1 := rfl
    have hl := lvl_nn op
    have na : ndT a 0 ≤ ndT (.bin op a b) 0 ∧ ndT b 0 ≤ ndT (.bin op a b) 0 := by
      cases hm : mmB op with
      | true => rw [nd_mm hm]; omega
      | false =>
        rw [nd_bin' hm]
        have e1 := (nd_mono (t := a) (L := 0) (M := max (lvlS op) 2) (by omega)).1
        have e2 := (nd_mono (t := b) (L := 0) (M := lvlS op + 1) (by omega)).1
        omega
    by_cases hj : j = n + a.size + b.size
    · exact ⟨.bin op a b, n, h, Nat.le_refl _, ha, Nat.le_refl _, by rw [hs]; omega⟩
    · by_cases hj2 : j < n + a.size
      · obtain ⟨u, m, hu⟩ := sub_tree a n j h.2.1 ha.left.left h1 hj2
        exact ⟨u, m, hu.mono na.1 (by omega)⟩
      · obtain ⟨u, m, hu⟩ := sub_tree b (n + a.size) j h.2.2 (ha.left.right (by rw [flat_len])) (by omega) (by omega)
        exact ⟨u, m, hu.mono na.2 (by omega)⟩
  | .ite a b c, n, j, h, ha, h1, h2 => by
    have hs : (Xt.ite a b c).size = a.size + b.size + c.size + 1 := rfl
    have na : ndT a 0 ≤ ndT (.ite a b c) 0 ∧ ndT b 0 ≤ ndT (.ite a b c) 0 ∧ ndT c 0 ≤ ndT (.ite a b c) 0 := by
      rw [nd_ite]; omega
    by_cases hj : j = n + a.size + b.size + c.size
    · exact ⟨.ite a b c, n, h, Nat.le_refl _, ha, Nat.le_refl _, by rw [hs]; omega⟩
    · by_cases hj2 : j < n + a.size
      · obtain ⟨u, m, hu⟩ := sub_tree a n j h.1 ha.left.left.left h1 hj2
        exact ⟨u, m, hu.mono na.1 (by omega)⟩
      · by_cases hj3 : j < n + a.size + b.size
        · obtain ⟨u, m, hu⟩ := sub_tree b (n + a.size) j h.2.1 (ha.left.left.right (by rw [flat_len])) (by omega) (by omega)
          exact ⟨u, m, hu.mono na.2.1 (by omega)⟩
        · obtain ⟨u, m, hu⟩ := sub_tree c (n + a.size + b.size) j h.2.2 (ha.left.right (by rw [List.length_append, flat_len, flat_len]; omega)) (by omega) (by omega)
          exact ⟨u, m, hu.mono na.2.2 (by omega)⟩
theorem sub_prog {es : List Xpr} : ∀ (l : List RT) (n j : Nat), (∀ q ∈ l, RtOk q) → At es n (exprsOf n l) → n ≤ j → j < n + (exprsOf n l).length → ∃ u m, SubT es 20 (n + (exprsOf n l).length) j u m
  | [], n, j, _, _, h1, h2 => by simp [exprsOf] at h2; omega
  | q :: l, n, j, h, ha, h1, h2 => by
    have e : exprsOf n (q :: l) = flat n q.tree ++ exprsOf (n + q.tree.size) l := rfl
    rw [e] at ha h2 ⊢
    rw [List.length_append, flat_len] at h2 ⊢
    by_cases hj : j < n + q.tree.size
    · obtain ⟨u, m, hu⟩ := sub_tree q.tree n j (h q (by simp)).wf ha.left h1 hj
      exact ⟨u, m, hu.mono (h q (by simp)).nd (by omega)⟩
    · obtain ⟨u, m, hu⟩ := sub_prog l (n + q.tree.size) j (fun x hx => h x (List.mem_cons_of_mem _ hx)) (ha.right (by rw [flat_len])) (by omega) (by omega)
      exact ⟨u, m, hu.mono (Nat.le_refl _) (by omega)⟩
abbrev wX : List UInt8 := [120]
theorem good_x : Good 1 wX := by have := good_of (t := wX) (by decide); exact this
def oneX (u : Xt) : List UInt8 := [108, 101, 116, 32, 120, 32, 61, 32] ++ prT u 0 ++ [59]
theorem one_ok {u : Xt} (h : WfP u) (hd : ndT u 0 ≤ 20) : RtOk ⟨wLet, wX, u⟩ := ⟨(by decide : wLet ∈ kindsL), good_x, (by decide : namedB wX = true), h, hd⟩
theorem one_parse {u : Xt} (h : WfP u) (hd : ndT u 0 ≤ 20) : parseP (oneX u) = (progOf [⟨wLet, wX, u⟩], 0, 0) := by
  refine parse_rd ?_ (fun q hq => by simp only [List.mem_singleton] at hq; subst hq; exact one_ok h hd) (by simp)
  have e1 : Rd [59] [(5, [59])] := by
    have := Rd.put (u := [59]) semi_good (stop_nil _) Rd.nil
    simpa using this
  have e2 := lexP u 0 h _ _ (cl_cons (.inr (.inr (.inr rfl)))) e1
  have e3 := Rd.put (u := [61]) good_61 (stop_sep (sep_cons (.inl rfl))) e2.blank
  have e4 := Rd.put good_x (cl_stop (cl_cons (.inl rfl))) e3.blank
  have e5 := Rd.put (good_kinds (k := wLet) (by decide)) (cl_stop (cl_cons (.inl rfl))) e4.blank
  have e6 : progKt [⟨wLet, wX, u⟩] = lineK ⟨wLet, wX, u⟩ := by simp [progKt]
  rw [e6]
  simpa [oneX, lineK] using e5
end Pay
