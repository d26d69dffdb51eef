/- How long what is written may be; what stands on the stack. -/
import Derived.Test.YtmglkghngkbioaaGreatDoorPayBc0
import Derived.Test.YtmglkghngkbioaaGreatDoorPayC31
import Derived.Test.YtmglkghngkbioaaGreatDoorPayC32
import Derived.Test.YtmglkghngkbioaaGreatDoorPayC34
import Derived.Test.YtmglkghngkbioaaGreatDoorPayC42
import Derived.Test.YtmglkghngkbioaaGreatDoorPayC48
import Derived.Test.YtmglkghngkbioaaGreatDoorPayC61
import Derived.Test.YtmglkghngkbioaaGreatDoorPaySw1
import Derived.Test.YtmglkghngkbioaaGreatDoorPaySw2
import Derived.Test.YtmglkghngkbioaaGreatDoorPayTr1
import Derived.Test.YtmglkghngkbioaaGreatDoorPayTr3
set_option linter.unusedSimpArgs false
set_option linter.unusedVariables false
namespace Pay
open Go
def tl : List It → Nat
  | [] => 0
  | .s u :: r => u.length + tl r
  | .x _ _ :: r => tl r
theorem tl_app : ∀ (a b : List It), tl (a ++ b) = tl a + tl b
  | [], b => by simp [tl]
  | .s u :: a, b => by simp only [List.cons_append, tl, tl_app a b]; omega
  | .x _ _ :: a, b => by simp only [List.cons_append, tl, tl_app a b]
/-- An item that may stand there. -/
def ItOk (n : Nat) : It → Prop
  | .s u => u ≠ []
  | .x i _ => 0 ≤ i ∧ i < (n : Int)
theorem textS_len (n : Int) (h : n ≤ 9223372036854775807) : (textS n).1.length ≤ 62 := by
  by_cases ha : amt n = true
  · rw [textS_eq ha (by omega)]
    have h0 : -9223372036854775807 ≤ n := of_decide_eq_true ha
    show (textR n).length ≤ 62
    unfold textR
    split
    · have := textN_len n.natAbs (by omega)
      simp only [List.length_cons]; omega
    · have := textN_len n.toNat (by omega)
      omega
  · have e : (textS n).1 = [] := by
      unfold textS
      rw [if_neg ha]
    rw [e]; simp
theorem leafW_len {x : Xpr} (hv : IRange x.val) (hn : x.name.length ≤ 12) : (leafW x).length ≤ 64 := by
  unfold leafW
  split
  · have := Lib.itoa_length_le x.val hv.1 hv.2
    omega
  · split
    · have := textS_len x.val hv.2
      omega
    · split
      · unfold rateTextS
        split
        · rename_i h
          have hr := rateR_iff.1 h
          have := textN_len x.val.toNat (by omega)
          show (textR x.val ++ [37]).length ≤ 64
          unfold textR
          rw [if_neg (by omega), List.length_append]
          simp only [List.length_cons, List.length_nil]
          omega
        · simp
      · split
        · omega
        · simp
theorem soundXs_get : ∀ {xs : List Xpr} {n : Nat}, soundXs n xs = true → ∀ (j : Nat) (x : Xpr), xs[j]? = some x → soundX (n + j) x = true
  | [], _, _, j, x, hx => by simp at hx
  | y :: xs, n, h, j, x, hx => by
    rw [soundXs, Bool.and_eq_true] at h
    cases j with
    | zero => simp at hx; subst hx; exact h.1
    | succ j =>
      have := soundXs_get h.2 j x (by simpa using hx)
      rwa [show n + 1 + j = n + (j + 1) by omega] at this
theorem soundX_iff {n : Nat} {x : Xpr} (h : soundX n x = true) : (0 ≤ x.a ∧ x.a < max (n : Int) 1) ∧ (0 ≤ x.b ∧ x.b < max (n : Int) 1) ∧ (0 ≤ x.c ∧ x.c < max (n : Int) 1) ∧ x.op.length ≤ 12 ∧ x.name.length ≤ 12 := by
  simp only [soundX, shPartOk, Bool.and_eq_true] at h
  obtain ⟨⟨⟨⟨⟨h1, h2⟩, h3, h4⟩, h5, h6⟩, h7⟩, h8⟩ := h
  exact ⟨⟨of_decide_eq_true h1, of_decide_eq_true h2⟩, ⟨of_decide_eq_true h3, of_decide_eq_true h4⟩, ⟨of_decide_eq_true h5, of_decide_eq_true h6⟩, of_decide_eq_true h7, of_decide_eq_true h8⟩
theorem parts_ok {n j : Nat} {x : Xpr} (hj : j < n) (h : soundX j x = true) : ∀ it ∈ partsW x, ItOk n it := by
  obtain ⟨⟨a1, a2⟩, ⟨b1, b2⟩, ⟨c1, c2⟩, _, _⟩ := soundX_iff h
  have ha : 0 ≤ x.a ∧ x.a < (n : Int) := by omega
  have hb : 0 ≤ x.b ∧ x.b < (n : Int) := by omega
  have hc : 0 ≤ x.c ∧ x.c < (n : Int) := by omega
  intro it hit
  unfold partsW at hit
  split at hit
  · rename_i hl
    simp only [List.mem_singleton] at hit
    subst hit; exact hl
  · split at hit
    · simp only [List.mem_cons, List.not_mem_nil, or_false] at hit
      rcases hit with rfl | rfl
      · simp [ItOk]
      · exact ha
    · split at hit
      · simp only [List.mem_cons, List.not_mem_nil, or_false] at hit
        rcases hit with rfl | rfl | rfl | rfl | rfl
        · simp [ItOk]
        · exact ha
        · simp [ItOk]
        · exact hb
        · simp [ItOk]
      · split at hit
        · simp only [List.mem_cons, List.not_mem_nil, or_false] at hit
          rcases hit with rfl | rfl | rfl | rfl | rfl | rfl
          · simp [ItOk]
          · exact ha
          · simp [ItOk]
          · exact hb
          · simp [ItOk]
          · exact hc
        · simp only [List.mem_cons, List.not_mem_nil, or_false] at hit
          rcases hit with rfl | rfl | rfl
          · exact ha
          · simp [ItOk]
          · exact hb
theorem open_ok {n j : Nat} {x : Xpr} (hj : j < n) (h : soundX j x = true) (l : Int) : ∀ it ∈ openW x l, ItOk n it := by
  intro it hit
  unfold openW at hit
  split at hit
  · simp only [List.cons_append, List.mem_cons, List.mem_append, List.mem_singleton, List.not_mem_nil, or_false] at hit
    rcases hit with rfl | hit | rfl
    · simp [ItOk]
    · exact parts_ok hj h it hit
    · simp [ItOk]
  · exact parts_ok hj h it hit
theorem parts_size {x : Xpr} (hv : IRange x.val) (ho : x.op.length ≤ 12) (hn : x.name.length ≤ 12) : (partsW x).length ≤ 6 ∧ tl (partsW x) ≤ 400 := by
  have hl := leafW_len hv hn
  unfold partsW
  split
  · simp only [List.length_singleton, tl]; omega
  · split
    · simp [tl]
    · split
      · simp [tl]; omega
      · split
        · simp [tl]
        · simp [tl]; omega
theorem open_size {x : Xpr} (hv : IRange x.val) (ho : x.op.length ≤ 12) (hn : x.name.length ≤ 12) (l : Int) : (openW x l).length ≤ 8 ∧ tl (openW x l) ≤ 512 := by
  have := parts_size hv ho hn
  unfold openW
  split
  · simp only [List.cons_append, List.length_cons, List.length_append, List.length_nil, tl, tl_app]; omega
  · omega
structure OkE (es : List Xpr) : Prop where
  sound : soundXs 0 es = true
  vals : ∀ x ∈ es, IRange x.val
  len : es.length < 100000
theorem wrM_len {es : List Xpr} (h : OkE es) : ∀ (k : Nat) (st : List It), (wrM es k st).length ≤ tl st + 512 * k
  | 0, st => by simp [wrM]
  | k + 1, st => by
    induction st with
    | nil => simp [wrM_nil]
    | cons it st ih =>
      cases it with
      | s u => rw [wrM_s, List.length_append]; simp only [tl]; omega
      | x i l =>
        simp only [wrM, front_x, List.nil_append]
        cases hx : es[i.toNat]? with
        | none => simp
        | some x =>
          have hs := soundX_iff (soundXs_get h.sound _ _ hx)
          have hz := open_size (h.vals x (List.mem_of_getElem? hx)) hs.2.2.2.1 hs.2.2.2.2 l
          have := wrM_len h k (openW x l ++ st)
          rw [tl_app] at this
          simp only [tl]
          omega
theorem writeW_len {es : List Xpr} (h : OkE es) (i : Int) : (writeW es i).length ≤ 512 * (es.length + 1) := by
  have := wrM_len h (es.length + 1) [.x i 0]
  simpa [tl, writeW] using this
theorem encIt_len (l : List It) : ∀ e ∈ (l.map encIt), e.length = 3 := by
  intro e he
  obtain ⟨it, _, rfl⟩ := List.mem_map.1 he
  cases it <;> rfl
end Pay
