/- Contracts: what a function makes of values and objects; a call keeps the relation. -/
import Derived.Test.YthnddhfpkmbacaaDoorPayJ
set_option linter.unusedSimpArgs false
set_option linter.unusedVariables false
namespace Pay
open Go
structure CS where
  vs : List V
  o : Nat → Option Ob
structure RS where
  r : V
  o : Nat → Option Ob
/-- A function, entered: one with a body runs, one of the model's own answers. -/
def Enters (P : Program) (f : FuncId) (us : Array Value) (w : World) (R : Value → World → Prop) : Prop :=
  match (callFunc f us).run P w with
  | .ok (.value v) w' => R v w'
  | .ok .skip w' => R undef w'
  | .ok (.enter f' us') w' => Calls P f' us' w' (fun e w'' => match e with | .returned v => R v w'' | _ => False)
  | _ => False
theorem Enters.mono {P : Program} {f : FuncId} {us : Array Value} {w : World} {R R' : Value → World → Prop} (h : Enters P f us w R) (hr : ∀ v w', R v w' → R' v w') : Enters P f us w R' := by
  unfold Enters at *
  split at h
  · exact hr _ _ h
  · exact hr _ _ h
  · exact Calls.mono h (fun e w' he => by cases e <;> first | exact hr _ _ he | exact he)
  · exact h.elim
structure Pre (C : Ctx) (w : World) (S M : Nat → Prop) (γ : Nat → Value) (cin : CS) (us : List Value) : Prop where
  env : Env C w S M
  args : RepVs C w (okOf w S γ cin.o w) γ cin.vs us
  objs : ∀ n x, cin.o n = some x → RepO C w (okOf w S γ cin.o w) γ x (γ n)
  sep : ∀ n m x y g, cin.o n = some x → cin.o m = some y → blk (γ n) = some g → blk (γ m) = some g → n = m
  muts : ∀ n x g, cin.o n = some x → blk (γ n) = some g → M g
structure Post (C : Ctx) (w : World) (S M : Nat → Prop) (γ : Nat → Value) (cin : CS) (cout : RS) (v : Value) (w' : World) (γ' : Nat → Value) : Prop where
  res : RepV C w' (okOf w S γ' cout.o w') γ' cout.r v
  objs : ∀ n x, cout.o n = some x → RepO C w' (okOf w S γ' cout.o w') γ' x (γ' n)
  sep : ∀ n m x y g, cout.o n = some x → cout.o m = some y → blk (γ' n) = some g → blk (γ' m) = some g → n = m
  muts : ∀ n x g, cout.o n = some x → blk (γ' n) = some g → M g ∨ w.heap.size ≤ g
  fram : Fram w w' M
  hdr : ∀ n, cin.o n ≠ none → γ' n = γ n
/-- What a function does with these values and objects. -/
def SoundAt (C : Ctx) (f : Nat) (cin : CS) (cout : RS) : Prop :=
  ∀ (w : World) (S M : Nat → Prop) (γ : Nat → Value) (us : List Value), Pre C w S M γ cin us → Enters C.P (C.φ f) ⟨us⟩ w (fun v w' => ∃ γ', Post C w S M γ cin cout v w' γ')
def exO (E : Nat → Bool) (o : Nat → Option Ob) : Nat → Option Ob := fun n => if E n = true then o n else none
/-- What must stand between caller and callee of names. -/
structure Names (I : Nat → Prop) (st : St) (dst : Option Nat) (E : Nat → Bool) (cout : RS) : Prop where
  new : ∀ n, cout.o n ≠ none → (E n = true ∧ st.o n ≠ none) ∨ (¬ I n ∧ Fresh st n dst)
  res : ∀ n, V.refs n cout.r = true → cout.o n ≠ none ∨ (E n = true ∧ st.o n ≠ none)
  obj : ∀ n x, cout.o n = some x → ∀ m, x.refs m = true → cout.o m ≠ none ∨ (E m = true ∧ st.o m ≠ none)
def mixO (E : Nat → Bool) (o o' : Nat → Option Ob) : Nat → Option Ob := fun n => match o' n with | some x => some x | none => if E n = true then none else o n
section
variable {C : Ctx} {w0 : World} {S M : Nat → Prop} {N : Nat} {γ : Nat → Value} {st : St} {a : Act} {w : World}
theorem Rel.env (hr : Rel C w0 S M N γ st a w) (he : Env C w0 S M) : C.gi w := by
  refine C.keep w0 w he.gi (fun g hg => hr.fram.block g (Nat.lt_of_lt_of_le hg he.bs) (fun hM => ?_))
  have := (he.mb g hM).1
  omega
theorem exO_some {E : Nat → Bool} {o : Nat → Option Ob} {n : Nat} {x : Ob} (h : exO E o n = some x) : E n = true ∧ o n = some x := by
  unfold exO at h
  split at h
  · rename_i he; exact ⟨he, h⟩
  · cases h
theorem call_sound (hr : Rel C w0 S M N γ st a w) (he : Env C w0 S M) {dst : Option Nat} (hd : ∀ d, dst = some d → d < N) {I : Nat → Prop} {f : Nat} {xs : List V} {us : List Value} {E : Nat → Bool} {cout : RS}
    (hxs : RepVs C w (okOf w0 S γ st.o w) γ xs us) (hs : SoundAt C f ⟨xs, exO E st.o⟩ cout) (hn : Names I st dst E cout) :
    Enters C.P (C.φ f) ⟨us⟩ w (fun v w' => ∃ γ'', (∀ n, I n → γ'' n = γ n) ∧ Rel C w0 S M N γ'' { s := (st.put dst cout.r).s, o := mixO E st.o cout.o } (a.put dst v) w') := by
  let cin : CS := ⟨xs, exO E st.o⟩
  let Mc : Nat → Prop := fun g => ∃ n x, exO E st.o n = some x ∧ blk (γ n) = some g
  let Sc : Nat → Prop := fun g => okOf w0 S γ st.o w g ∨ Mc g
  have hMc : ∀ g, Mc g → (M g ∨ w0.heap.size ≤ g) ∧ g < w.heap.size := by
    rintro g ⟨n, x, hx, hg⟩
    obtain ⟨_, hx⟩ := exO_some hx
    exact ⟨hr.muts n x g hx hg, blk_lt (hr.objs n x hx) hg⟩
  have henv : Env C w Sc Mc := by
    refine ⟨hr.env he, Nat.le_trans he.bs hr.fram.size, fun g hg => ⟨?_, (hMc g hg).2⟩, fun g hg => ?_, fun g hg => .inr hg⟩
    · rcases (hMc g hg).1 with h | h
      · exact (he.mb g h).1
      · exact Nat.le_trans he.bs h
    · rcases hg with h | h
      · exact h.2.1
      · exact (hMc g h).2
  have hokc : ∀ g, okOf w0 S γ st.o w g → w.heap[g]? = w.heap[g]? ∧ okOf w Sc γ (exO E st.o) w g := fun g hg =>
    ⟨rfl, .inl (.inl hg), hg.2.1, fun n x hx => hg.2.2 n x (exO_some hx).2⟩
  have hpre : Pre C w Sc Mc γ cin us := by
    refine ⟨henv, RepVs.mono hokc _ _ (fun _ _ => rfl) hxs, fun n x hx => ?_, fun n m x y g hx hy => ?_, fun n x g hx hg => ⟨n, x, hx, hg⟩⟩
    · exact RepO.mono hokc (fun _ _ => rfl) (fun _ _ => rfl) (hr.objs n x (exO_some hx).2)
    · exact hr.sep n m x y g (exO_some hx).2 (exO_some hy).2
  refine Enters.mono (hs w Sc Mc γ us hpre) ?_
  rintro v w' ⟨γ', hp⟩
  let γ'' : Nat → Value := fun n => if (cout.o n).isSome = true then γ' n else γ n
  have hcin : ∀ n, E n = true → st.o n ≠ none → γ' n = γ n := fun n h1 h2 => hp.hdr n (by show exO E st.o n ≠ none; unfold exO; rw [if_pos h1]; exact h2)
  have g1 : ∀ n, cout.o n ≠ none → γ'' n = γ' n := fun n h => by
    show (if (cout.o n).isSome = true then γ' n else γ n) = γ' n
    rw [if_pos (Option.isSome_iff_ne_none.2 h)]
  have g2 : ∀ n, (cout.o n ≠ none ∨ (E n = true ∧ st.o n ≠ none)) → γ'' n = γ' n := fun n h => by
    rcases h with h | ⟨h1, h2⟩
    · exact g1 n h
    · show (if (cout.o n).isSome = true then γ' n else γ n) = γ' n
      split
      · rfl
      · exact (hcin n h1 h2).symm
  have g3 : ∀ n, (cout.o n ≠ none → E n = true ∧ st.o n ≠ none) → γ'' n = γ n := fun n h => by
    show (if (cout.o n).isSome = true then γ' n else γ n) = γ n
    split
    · rename_i hsome
      obtain ⟨h1, h2⟩ := h (Option.isSome_iff_ne_none.1 hsome)
      exact hcin n h1 h2
    · rfl
  have mix : ∀ n x, mixO E st.o cout.o n = some x → cout.o n = some x ∨ (cout.o n = none ∧ E n = false ∧ st.o n = some x) := by
    intro n x hx
    unfold mixO at hx
    split at hx
    · rename_i y hy; injection hx with hx; subst hx; exact .inl hy
    · rename_i hy
      split at hx
      · cases hx
      · rename_i hE; exact .inr ⟨hy, by simpa using hE, hx⟩
  have hnM : ∀ n x g, E n = false → st.o n = some x → blk (γ n) = some g → ¬ Mc g := by
    rintro n x g hE hx hg ⟨m, y, hy, hgm⟩
    obtain ⟨hEm, hy⟩ := exO_some hy
    have := hr.sep n m x y g hx hy hg hgm
    subst this
    rw [hE] at hEm; cases hEm
  -- the blocks where data may lie
  have okk : ∀ g, g < w'.heap.size → (S g ∨ w0.heap.size ≤ g) → (∀ n x, E n = false → st.o n = some x → cout.o n = none → blk (γ n) ≠ some g) → (∀ n x, cout.o n = some x → blk (γ' n) ≠ some g) → okOf w0 S γ'' (mixO E st.o cout.o) w' g := by
    intro g h1 h2 h3 h4
    refine ⟨h2, h1, fun n x hx => ?_⟩
    rcases mix n x hx with h | ⟨k1, k2, k3⟩
    · rw [g1 n (by rw [h]; simp)]
      exact h4 n x h
    · rw [g3 n (fun h => absurd k1 h)]
      exact h3 n x k2 k3 k1
  have hold : ∀ g, okOf w0 S γ st.o w g → w'.heap[g]? = w.heap[g]? ∧ okOf w0 S γ'' (mixO E st.o cout.o) w' g := by
    intro g hg
    have hnm : ¬ Mc g := by
      rintro ⟨n, x, hx, hb⟩
      exact hg.2.2 n x (exO_some hx).2 hb
    refine ⟨hp.fram.block g hg.2.1 hnm, okk g (Nat.lt_of_lt_of_le hg.2.1 hp.fram.size) hg.1 (fun n x _ hx _ => hg.2.2 n x hx) (fun n x hx hb => ?_)⟩
    rcases hp.muts n x g hx hb with h | h
    · exact hnm h
    · have := hg.2.1; omega
  have hnew : ∀ g, okOf w Sc γ' cout.o w' g → w'.heap[g]? = w'.heap[g]? ∧ okOf w0 S γ'' (mixO E st.o cout.o) w' g := by
    intro g hg
    refine ⟨rfl, okk g hg.2.1 ?_ (fun n x hE hx hcn hb => ?_) hg.2.2⟩
    · rcases hg.1 with (h | h) | h
      · exact h.1
      · rcases (hMc g h).1 with h | h
        · exact .inl (he.ms g h)
        · exact .inr h
      · exact .inr (Nat.le_trans hr.fram.size h)
    · rcases hg.1 with (h | h) | h
      · exact h.2.2 n x hx hb
      · exact hnM n x g hE hx hb h
      · have := blk_lt (hr.objs n x hx) hb; omega
  refine ⟨γ'', fun n hI => g3 n (fun h => (hn.new n h).resolve_right (fun k => k.1 hI)), ?_⟩
  have hres : RepV C w' (okOf w0 S γ'' (mixO E st.o cout.o) w') γ'' cout.r v := RepV.mono hnew _ _ (fun m hm => g2 m (hn.res m hm)) hp.res
  have hlt : ∀ d, dst = some d → d < a.tmps.size := fun d h => Nat.lt_of_lt_of_le (hd d h) hr.size
  refine ⟨fun t => ?_, fun n x hx => ?_, fun n m x y g hx hy hgn hgm => ?_, fun n x g hx hg => ?_, ?_, by cases dst <;> exact hr.defers, by cases dst <;> simpa [Act.put] using hr.size⟩
  · by_cases ht : dst = some t
    · subst ht
      have := hlt t rfl
      simp only [St.put, Act.put, upd_same]
      simpa [this] using hres
    · have h1 : (st.put dst cout.r).s t = st.s t := by
        cases dst with
        | none => rfl
        | some d => exact upd_other _ _ (fun e => ht (by rw [e]))
      have h2 : (a.put dst v).tmps.getD t undef = a.tmps.getD t undef := by
        cases dst with
        | none => rfl
        | some d => simp [Act.put, Array.getElem?_setIfInBounds_ne (show d ≠ t from fun e => ht (by rw [e]))]
      simp only
      rw [h1, h2]
      refine RepV.mono hold _ _ (fun m hm => g3 m (fun h => ?_)) (hr.slots t)
      rcases hn.new m h with k | ⟨_, k⟩
      · exact k
      · rw [k.1 t ht] at hm; cases hm
  · rcases mix n x hx with h | ⟨k1, k2, k3⟩
    · rw [g1 n (by rw [h]; simp)]
      exact RepO.mono hnew (fun m hm => g2 m (hn.obj n x h m hm)) (fun _ _ => rfl) (hp.objs n x h)
    · rw [g3 n (fun h => absurd k1 h)]
      refine RepO.mono hold (fun m hm => g3 m (fun h => ?_)) (fun g hb => ?_) (hr.objs n x k3)
      · rcases hn.new m h with k | ⟨_, k⟩
        · exact k
        · have hne : n ≠ m := by rintro rfl; exact h k1
          rw [k.2 n x hne k3] at hm; cases hm
      · exact hp.fram.block g (blk_lt (hr.objs n x k3) hb) (hnM n x g k2 k3 hb)
  · rcases mix n x hx with h | ⟨k1, k2, k3⟩
    · rw [g1 n (by rw [h]; simp)] at hgn
      rcases mix m y hy with h' | ⟨k1', k2', k3'⟩
      · rw [g1 m (by rw [h']; simp)] at hgm
        exact hp.sep n m x y g h h' hgn hgm
      · rw [g3 m (fun h => absurd k1' h)] at hgm
        rcases hp.muts n x g h hgn with q | q
        · exact absurd q (hnM m y g k2' k3' hgm)
        · have := blk_lt (hr.objs m y k3') hgm; omega
    · rw [g3 n (fun h => absurd k1 h)] at hgn
      rcases mix m y hy with h' | ⟨k1', k2', k3'⟩
      · rw [g1 m (by rw [h']; simp)] at hgm
        rcases hp.muts m y g h' hgm with q | q
        · exact absurd q (hnM n x g k2 k3 hgn)
        · have := blk_lt (hr.objs n x k3) hgn; omega
      · rw [g3 m (fun h => absurd k1' h)] at hgm
        exact hr.sep n m x y g k3 k3' hgn hgm
  · rcases mix n x hx with h | ⟨k1, k2, k3⟩
    · rw [g1 n (by rw [h]; simp)] at hg
      rcases hp.muts n x g h hg with q | q
      · exact (hMc g q).1
      · exact .inr (Nat.le_trans hr.fram.size q)
    · rw [g3 n (fun h => absurd k1 h)] at hg
      exact hr.muts n x g k3 hg
  · refine ⟨hp.fram.os.trans hr.fram.os, hp.fram.tape.trans hr.fram.tape, hp.fram.output.trans hr.fram.output, Nat.le_trans hr.fram.size hp.fram.size, fun g hg hM => ?_⟩
    rw [← hr.fram.block g hg hM]
    refine hp.fram.block g (Nat.lt_of_lt_of_le hg hr.fram.size) (fun h => ?_)
    rcases (hMc g h).1 with q | q
    · exact hM q
    · omega
end
end Pay
