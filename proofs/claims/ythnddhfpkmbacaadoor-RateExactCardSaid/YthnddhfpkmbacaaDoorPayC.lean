/- The operations that turn nothing: what the machine does at each is what the abstract machine says. -/
import Derived.Laws.Cells
import Derived.Laws.Rows
import Derived.Test.YthnddhfpkmbacaaDoorPayB
namespace Pay
open Go
theorem add_block (a : Addr) (n : Nat) : (a.add n).block = a.block := by unfold Addr.add; split <;> rfl
theorem add_add' (a : Addr) (i j : Nat) : (a.add i).add j = a.add (i + j) := by
  unfold Addr.add
  by_cases hi : i = 0 <;> by_cases hj : j = 0 <;> simp [hi, hj, Nat.add_assoc]
theorem add_lit (g o n : Nat) : (⟨g, o, none⟩ : Addr).add n = ⟨g, o + n, none⟩ := by unfold Addr.add; split <;> simp_all
section
variable {w : World} {ok : Nat → Prop}
theorem RepD.one {d : D} {u : Value} (h : RepD w ok d u) : u.oneCell' = true := by
  cases d with
  | int k n => simp only [RepD] at h; subst h; rfl
  | bool b => simp only [RepD] at h; subst h; rfl
  | str s => simp only [RepD] at h; subst h; rfl
  | err b =>
    simp only [RepD] at h
    split at h
    · subst h; rfl
    · obtain ⟨t, u, rfl⟩ := h; rfl
  | sl es => obtain ⟨A, cap, sz, rfl, _⟩ := h; rfl
theorem RepCs.get {a : Addr} : ∀ {cs : List D} {off : Nat}, RepCs w ok a off cs → ∀ j c, cs[j]? = some c → ∃ u, w.cell? (a.add (off + j)) = some u ∧ RepD w ok c u
  | [], _, _, j, c, h => by simp at h
  | c0 :: cs, off, r, j, c, h => by
    cases j with
    | zero => simp at h; subst h; exact r.1
    | succ j =>
      obtain ⟨u, hu, hr⟩ := RepCs.get r.2 j c (by simpa using h)
      exact ⟨u, by rw [← hu]; congr 2; omega, hr⟩
theorem RepCs.of_get {a : Addr} : ∀ {cs : List D} {off : Nat}, (∀ j c, cs[j]? = some c → ∃ u, w.cell? (a.add (off + j)) = some u ∧ RepD w ok c u) → RepCs w ok a off cs
  | [], _, _ => trivial
  | c0 :: cs, off, h => ⟨by simpa using h 0 c0 rfl, RepCs.of_get fun j c hj => by
      obtain ⟨u, hu, hr⟩ := h (j + 1) c (by simpa using hj)
      exact ⟨u, by rw [← hu]; congr 2; omega, hr⟩⟩
theorem RepCs.at_ {a : Addr} {cs : List D} {off k : Nat} (h : RepCs w ok a (off + k) cs) : RepCs w ok (a.add off) k cs :=
  RepCs.of_get fun j c hj => by
    obtain ⟨u, hu, hr⟩ := h.get j c hj
    exact ⟨u, by rw [add_add', ← hu]; congr 2; omega, hr⟩
theorem RepCs.drop {a : Addr} {cs : List D} (h : RepCs w ok a 0 cs) (k : Nat) : RepCs w ok (a.add k) 0 (cs.drop k) :=
  RepCs.at_ (RepCs.of_get fun j c hj => by
    rw [List.getElem?_drop] at hj
    obtain ⟨u, hu, hr⟩ := h.get (k + j) c hj
    exact ⟨u, by rw [← hu]; congr 2; omega, hr⟩)
theorem RepEs.get {a : Addr} {sz : Nat} : ∀ {es : List (List D)} {off : Nat}, RepEs w ok a off es → (∀ e ∈ es, e.length = sz) → ∀ i e, es[i]? = some e → RepCs w ok a (off + i * sz) e
  | [], _, _, _, i, e, h => by simp at h
  | e0 :: es, off, r, hs, i, e, h => by
    cases i with
    | zero => simp at h; subst h; simpa using r.1
    | succ i =>
      have := RepEs.get r.2 (fun e he => hs e (by simp [he])) i e (by simpa using h)
      rw [hs e0 (by simp)] at this
      rwa [show off + (i + 1) * sz = off + sz + i * sz by rw [Nat.succ_mul]; omega]
theorem RepEs.of_get {a : Addr} {sz : Nat} : ∀ {es : List (List D)} {off : Nat}, (∀ e ∈ es, e.length = sz) → (∀ i e, es[i]? = some e → RepCs w ok a (off + i * sz) e) → RepEs w ok a off es
  | [], _, _, _ => trivial
  | e0 :: es, off, hs, h => ⟨by simpa using h 0 e0 rfl, RepEs.of_get (fun e he => hs e (by simp [he])) fun i e hi => by
      have := h (i + 1) e (by simpa using hi)
      rw [hs e0 (by simp)]
      rwa [show off + (i + 1) * sz = off + sz + i * sz by rw [Nat.succ_mul]; omega] at this⟩
theorem RepCs.take {a : Addr} {cs : List D} {off : Nat} (h : RepCs w ok a off cs) (k : Nat) : RepCs w ok a off (cs.take k) :=
  RepCs.of_get fun j c hj => by
    rw [List.getElem?_take] at hj
    split at hj
    · exact h.get j c hj
    · cases hj
/-- The cells of a struct that is read whole. -/
theorem RepCs.load (C : Ctx) (γ : Nat → Value) {a : Addr} : ∀ {cs : List D} {off : Nat}, RepCs w ok a off cs → ∃ us : List Value, us.length = cs.length ∧ (∀ (j : Nat) (u : Value), us[j]? = some u → w.cell? (a.add (off + j)) = some u) ∧
    RepVs C w ok γ (cs.map .d) us ∧ ∀ u ∈ us, u.oneCell' = true
  | [], _, _ => ⟨[], rfl, by simp, rfl, by simp⟩
  | c :: cs, off, h => by
    obtain ⟨⟨u, hu, hr⟩, hrest⟩ := h
    obtain ⟨us, hl, hc, hv, h1⟩ := RepCs.load C γ hrest
    refine ⟨u :: us, by simp [hl], fun j x hx => ?_, ⟨u, us, rfl, hr, hv⟩, ?_⟩
    · cases j with
      | zero => simp at hx; subst hx; simpa using hu
      | succ j => rw [← hc j x (by simpa using hx)]; congr 2; omega
    · intro x hx
      rcases List.mem_cons.1 hx with rfl | hx
      · exact hr.one
      · exact h1 x hx
end
section
variable {C : Ctx} {w : World} {ok : Nat → Prop} {γ : Nat → Value}
theorem RepVs.length : ∀ {cs : List V} {us : List Value}, RepVs C w ok γ cs us → us.length = cs.length
  | [], _, h => by simp only [RepVs] at h; subst h; rfl
  | c :: cs, _, h => by
    obtain ⟨u, us, rfl, _, hr⟩ := h
    simp [RepVs.length hr]
theorem RepVs.get : ∀ {cs : List V} {us : List Value}, RepVs C w ok γ cs us → ∀ (i : Nat) (c : V), cs[i]? = some c → ∃ u, us[i]? = some u ∧ RepV C w ok γ c u
  | [], _, _, i, c, hc => by simp at hc
  | c0 :: cs, _, h, i, c, hc => by
    obtain ⟨u, us, rfl, h0, hr⟩ := h
    cases i with
    | zero => simp at hc; subst hc; exact ⟨u, rfl, h0⟩
    | succ i => simpa using RepVs.get hr i c (by simpa using hc)
theorem RepVs.of_get : ∀ {cs : List V} {us : List Value}, us.length = cs.length → (∀ (i : Nat) (c : V) (u : Value), cs[i]? = some c → us[i]? = some u → RepV C w ok γ c u) → RepVs C w ok γ cs us
  | [], us, hl, _ => by simpa [RepVs] using hl
  | c :: cs, [], hl, _ => by simp at hl
  | c :: cs, u :: us, hl, h => ⟨u, us, rfl, h 0 c u rfl rfl, RepVs.of_get (by simpa using hl) fun i c' u' hc hu => h (i + 1) c' u' (by simpa using hc) (by simpa using hu)⟩
theorem RepVs.drop {cs : List V} {us : List Value} (h : RepVs C w ok γ cs us) (k : Nat) : RepVs C w ok γ (cs.drop k) (us.drop k) :=
  RepVs.of_get (by simp [h.length]) fun i c u hc hu => by
    rw [List.getElem?_drop] at hc hu
    obtain ⟨u', hu', hr⟩ := h.get _ c hc
    rw [hu] at hu'; injection hu' with hu'; subst hu'; exact hr
theorem RepVs.take {cs : List V} {us : List Value} (h : RepVs C w ok γ cs us) (k : Nat) : RepVs C w ok γ (cs.take k) (us.take k) :=
  RepVs.of_get (by simp [h.length]) fun i c u hc hu => by
    rw [List.getElem?_take] at hc hu
    split at hc
    · rename_i hlt
      rw [if_pos hlt] at hu
      obtain ⟨u', hu', hr⟩ := h.get _ c hc
      rw [hu] at hu'; injection hu' with hu'; subst hu'; exact hr
    · cases hc
theorem RepVs.append {cs ds : List V} {us vs : List Value} (h : RepVs C w ok γ cs us) (k : RepVs C w ok γ ds vs) : RepVs C w ok γ (cs ++ ds) (us ++ vs) := by
  induction cs generalizing us with
  | nil => simp only [RepVs] at h; subst h; exact k
  | cons c cs ih =>
    obtain ⟨u, us, rfl, h0, hr⟩ := h
    exact ⟨u, us ++ vs, rfl, h0, ih hr⟩
theorem RepCells.get : ∀ {ds : List D} {us : List Value}, RepCells w ok ds us → ∀ (i : Nat) (d : D), ds[i]? = some d → ∃ u, us[i]? = some u ∧ RepD w ok d u
  | [], _, _, i, d, hd => by simp at hd
  | _ :: _, [], h, _, _, _ => h.elim
  | d0 :: ds, u0 :: us, h, i, d, hd => by
    cases i with
    | zero => simp at hd; subst hd; exact ⟨u0, rfl, h.1⟩
    | succ i => simpa using RepCells.get h.2 i d (by simpa using hd)
theorem RepCells.of_get : ∀ {ds : List D} {us : List Value}, (∀ (i : Nat) (d : D), ds[i]? = some d → ∃ u, us[i]? = some u ∧ RepD w ok d u) → RepCells w ok ds us
  | [], _, _ => trivial
  | d :: ds, [], h => by obtain ⟨u, hu, _⟩ := h 0 d rfl; simp at hu
  | d :: ds, u :: us, h => ⟨by obtain ⟨u', hu, hr⟩ := h 0 d rfl; simp at hu; subst hu; exact hr, RepCells.of_get fun i d' hd => by simpa using h (i + 1) d' (by simpa using hd)⟩
end
/-- Where an element of a row stands among its cells. -/
theorem flat_get {α : Type} {sz : Nat} : ∀ {es : List (List α)}, (∀ e ∈ es, e.length = sz) → ∀ (i : Nat) (e : List α) (j : Nat) (c : α), es[i]? = some e → e[j]? = some c → es.flatten[i * sz + j]? = some c
  | [], _, i, e, j, c, h, _ => by simp at h
  | e0 :: es, hs, i, e, j, c, hi, hj => by
    have h0 : e0.length = sz := hs e0 (by simp)
    cases i with
    | zero =>
      simp at hi; subst hi
      have : j < e0.length := (List.getElem?_eq_some_iff.1 hj).1
      simp [List.getElem?_append_left this, hj]
    | succ i =>
      have := flat_get (es := es) (fun e he => hs e (List.mem_cons_of_mem _ he)) i _ j c (by simpa using hi) hj
      rw [List.flatten_cons, List.getElem?_append_right (by rw [h0, Nat.succ_mul]; omega), h0]
      rw [← this]; congr 1; rw [Nat.succ_mul]; omega
theorem flat_length {α : Type} {sz : Nat} : ∀ {es : List (List α)}, (∀ e ∈ es, e.length = sz) → es.flatten.length = es.length * sz
  | [], _ => by simp
  | e :: es, h => by
    rw [List.flatten_cons, List.length_append, flat_length (fun e he => h e (List.mem_cons_of_mem _ he)), h e (by simp), List.length_cons, Nat.succ_mul]; omega
end Pay
