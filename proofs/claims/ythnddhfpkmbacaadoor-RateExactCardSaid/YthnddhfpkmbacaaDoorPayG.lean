/- States that turn: new objects, stores, appends. What the relation between frame and memory bears. -/
import Derived.Maps.AppendAt
import Derived.Test.YthnddhfpkmbacaaDoorPayF
set_option linter.unusedSimpArgs false
set_option linter.unusedVariables false
namespace Pay
open Go
mutual
def V.refs (m : Nat) : V → Bool
  | .ptr n _ => n == m
  | .own n => n == m
  | .eptr n _ _ _ => n == m
  | .mref n => n == m
  | .fn _ caps => V.refsL m caps
  | .agg cs => V.refsL m cs
  | .tup vs => V.refsL m vs
  | _ => false
def V.refsL (m : Nat) : List V → Bool
  | [] => false
  | v :: vs => V.refs m v || V.refsL m vs
end
mutual
theorem RepV.mono {C : Ctx} {w w' : World} {ok ok' : Nat → Prop} {γ γ' : Nat → Value} (h : ∀ g, ok g → w'.heap[g]? = w.heap[g]? ∧ ok' g) :
    ∀ (x : V) (v : Value), (∀ m, V.refs m x = true → γ' m = γ m) → RepV C w ok γ x v → RepV C w' ok' γ' x v
  | .d x, v, _, r => RepD.mono h x v r
  | .cap0, v, _, r => r
  | .nilp, v, _, r => r
  | .ptr n off, v, hg, r => by
    obtain ⟨g, e, r⟩ := r
    exact ⟨g, by rw [hg n (by simp [V.refs]), e], r⟩
  | .own n, v, hg, r => ⟨by rw [hg n (by simp [V.refs])]; exact r.1, r.2⟩
  | .eptr n sz i off, v, hg, r => by
    obtain ⟨g, l, c, e, r⟩ := r
    exact ⟨g, l, c, by rw [hg n (by simp [V.refs]), e], r⟩
  | .mref n, v, hg, r => ⟨by rw [hg n (by simp [V.refs])]; exact r.1, r.2⟩
  | .cptr cs, v, _, r => by
    obtain ⟨a, e, hok, r⟩ := r
    exact ⟨a, e, (h _ hok).2, RepCs.mono h a hok 0 cs r⟩
  | .fn f caps, v, hg, r => by
    obtain ⟨us, e, r⟩ := r
    exact ⟨us, e, RepVs.mono h caps us (fun m hm => hg m (by simpa [V.refs] using hm)) r⟩
  | .agg cs, v, hg, r => by
    obtain ⟨us, e, r, h1⟩ := r
    exact ⟨us, e, RepVs.mono h cs us (fun m hm => hg m (by simpa [V.refs] using hm)) r, h1⟩
  | .tup cs, v, hg, r => by
    obtain ⟨us, e, r⟩ := r
    exact ⟨us, e, RepVs.mono h cs us (fun m hm => hg m (by simpa [V.refs] using hm)) r⟩
  | .undef, v, _, r => trivial
theorem RepVs.mono {C : Ctx} {w w' : World} {ok ok' : Nat → Prop} {γ γ' : Nat → Value} (h : ∀ g, ok g → w'.heap[g]? = w.heap[g]? ∧ ok' g) :
    ∀ (xs : List V) (vs : List Value), (∀ m, V.refsL m xs = true → γ' m = γ m) → RepVs C w ok γ xs vs → RepVs C w' ok' γ' xs vs
  | [], vs, _, r => r
  | x :: xs, vs, hg, r => by
    obtain ⟨u, us, e, r1, r2⟩ := r
    exact ⟨u, us, e, RepV.mono h x u (fun m hm => hg m (by simp [V.refsL, hm])) r1, RepVs.mono h xs us (fun m hm => hg m (by simp [V.refsL, hm])) r2⟩
end
theorem RepCells.mono {w w' : World} {ok ok' : Nat → Prop} (h : ∀ g, ok g → w'.heap[g]? = w.heap[g]? ∧ ok' g) {ds : List D} {us : List Value} (r : RepCells w ok ds us) : RepCells w' ok' ds us :=
  RepCells.of_get fun i d hd => by
    obtain ⟨u, hu, hr⟩ := r.get i d hd
    exact ⟨u, hu, RepD.mono h d u hr⟩
theorem RepKvs.mono {w w' : World} {ok ok' : Nat → Prop} (h : ∀ g, ok g → w'.heap[g]? = w.heap[g]? ∧ ok' g) : ∀ {kvs : List (D × D)} {es : List MapEntry}, RepKvs w ok kvs es → RepKvs w' ok' kvs es
  | [], _, r => r
  | kv :: kvs, _, r => by
    obtain ⟨e, es, rfl, r1, r2, r3⟩ := r
    exact ⟨e, es, rfl, RepD.mono h _ _ r1, RepD.mono h _ _ r2, RepKvs.mono h r3⟩
def Ob.refs (m : Nat) : Ob → Bool
  | .box cs => V.refsL m cs
  | _ => false
/-- An object lives on where its own block reads as it did. -/
theorem RepO.mono {C : Ctx} {w w' : World} {ok ok' : Nat → Prop} {γ γ' : Nat → Value} (h : ∀ g, ok g → w'.heap[g]? = w.heap[g]? ∧ ok' g) {x : Ob} {v : Value}
    (hg : ∀ m, x.refs m = true → γ' m = γ m) (hb : ∀ g, blk v = some g → w'.heap[g]? = w.heap[g]?) (r : RepO C w ok γ x v) : RepO C w' ok' γ' x v := by
  cases x with
  | box cs =>
    obtain ⟨g, us, ty, rfl, hh, hv, h1⟩ := r
    exact ⟨g, us, ty, rfl, by rw [hb g rfl]; exact hh, RepVs.mono h cs us hg hv, h1⟩
  | row sz es =>
    rcases r with ⟨rfl, A, rfl⟩ | ⟨g, cap, us, ty, rfl, hc, hh, h1, h2, h3, h4, h5, h6⟩
    · exact .inl ⟨rfl, A, rfl⟩
    · exact .inr ⟨g, cap, us, ty, rfl, hc, by rw [hb g (by simp [blk]; omega)]; exact hh, h1, h2, h3, h4, h5.mono h, h6⟩
  | map kvs =>
    obtain ⟨r, es, c, rfl, hh, hk⟩ := r
    exact ⟨r, es, c, rfl, by rw [hb r rfl]; exact hh, hk.mono h⟩
def upd {α : Type} (f : Nat → α) (n : Nat) (x : α) : Nat → α := fun m => if m = n then x else f m
theorem upd_same {α : Type} (f : Nat → α) (n : Nat) (x : α) : upd f n x n = x := by simp [upd]
theorem upd_other {α : Type} (f : Nat → α) {n m : Nat} (x : α) (h : m ≠ n) : upd f n x m = f m := by simp [upd, h]
def St.put (st : St) (dst : Option Nat) (v : V) : St := match dst with | some d => { st with s := upd st.s d v } | none => st
/-- The world has grown: no block that was there has turned. -/
structure Grow (w w' : World) : Prop where
  os : w'.os = w.os
  tape : w'.tape = w.tape
  output : w'.output = w.output
  size : w.heap.size ≤ w'.heap.size
  block : ∀ g, g < w.heap.size → w'.heap[g]? = w.heap[g]?
theorem Grow.refl (w : World) : Grow w w := ⟨rfl, rfl, rfl, Nat.le_refl _, fun _ _ => rfl⟩
theorem Grow.trans {a b c : World} (h : Grow a b) (k : Grow b c) : Grow a c :=
  ⟨k.os.trans h.os, k.tape.trans h.tape, k.output.trans h.output, Nat.le_trans h.size k.size, fun g hg => (k.block g (Nat.lt_of_lt_of_le hg h.size)).trans (h.block g hg)⟩
theorem Grow.alloc (w : World) (o : Obj) : Grow w (w.alloc o) := ⟨rfl, rfl, rfl, by simp, fun g hg => heap_alloc_old w o g hg⟩
theorem Grow.drew (w : World) : Grow w w.drew := ⟨rfl, rfl, rfl, Nat.le_refl _, fun _ _ => rfl⟩
theorem Fram.grow {w0 w w' : World} {M : Nat → Prop} (h : Fram w0 w M) (k : Grow w w') : Fram w0 w' M :=
  ⟨k.os.trans h.os, k.tape.trans h.tape, k.output.trans h.output, Nat.le_trans h.size k.size, fun g hg hm => (k.block g (Nat.lt_of_lt_of_le hg h.size)).trans (h.block g hg hm)⟩
section
variable {C : Ctx} {w0 : World} {S M : Nat → Prop} {N : Nat} {γ : Nat → Value} {st : St} {a : Act} {w : World}
theorem Rel.put (hr : Rel C w0 S M N γ st a w) {dst : Option Nat} (hd : ∀ d, dst = some d → d < N) {v : V} {u : Value} (hv : RepV C w (okOf w0 S γ st.o w) γ v u) : Rel C w0 S M N γ (st.put dst v) (a.put dst u) w := by
  cases dst with
  | none => exact hr
  | some d =>
    have hlt : d < a.tmps.size := Nat.lt_of_lt_of_le (hd d rfl) hr.size
    refine ⟨fun t => ?_, hr.objs, hr.sep, hr.muts, hr.fram, hr.defers, by simpa [Act.put] using hr.size⟩
    simp only [St.put, Act.put]
    by_cases ht : t = d
    · subst ht
      rw [upd_same]
      simpa [hlt] using hv
    · rw [upd_other _ _ ht]
      have := hr.slots t
      simpa [Array.getElem?_setIfInBounds_ne (Ne.symm ht)] using this
theorem blk_lt {w : World} {ok : Nat → Prop} {γ : Nat → Value} {x : Ob} {v : Value} (h : RepO C w ok γ x v) {g : Nat} (hb : blk v = some g) : g < w.heap.size := by
  have key : ∀ {o : Obj}, w.heap[g]? = some o → g < w.heap.size := fun h => (Array.getElem?_eq_some_iff.1 h).1
  cases x with
  | box cs =>
    obtain ⟨g', us, ty, rfl, hh, _⟩ := h
    simp only [blk, Option.some.injEq] at hb
    subst hb
    exact key hh
  | row sz es =>
    rcases h with ⟨rfl, A, rfl⟩ | ⟨g', cap, us, ty, rfl, hc, hh, _⟩
    · cases A <;> simp [blk] at hb
    · simp only [blk, if_neg (show ¬ cap = 0 by omega), Option.some.injEq] at hb
      subst hb
      exact key hh
  | map kvs =>
    obtain ⟨r, es, c, rfl, hh, _⟩ := h
    simp only [blk, Option.some.injEq] at hb
    subst hb
    exact key hh
theorem Rel.grow (hr : Rel C w0 S M N γ st a w) {w' : World} (hg : Grow w w') : Rel C w0 S M N γ st a w' := by
  have hok : ∀ g, okOf w0 S γ st.o w g → w'.heap[g]? = w.heap[g]? ∧ okOf w0 S γ st.o w' g := fun g h => ⟨hg.block g h.2.1, h.1, Nat.lt_of_lt_of_le h.2.1 hg.size, h.2.2⟩
  exact ⟨fun t => RepV.mono hok _ _ (fun _ _ => rfl) (hr.slots t), fun n x hx => RepO.mono hok (fun _ _ => rfl) (fun g hb => hg.block g (blk_lt (hr.objs n x hx) hb)) (hr.objs n x hx),
    hr.sep, hr.muts, hr.fram.grow hg, hr.defers, hr.size⟩
/-- No value but the one that is put names the object. -/
def Fresh (st : St) (nm : Nat) (dst : Option Nat) : Prop := (∀ t, dst ≠ some t → V.refs nm (st.s t) = false) ∧ (∀ m x, m ≠ nm → st.o m = some x → x.refs nm = false)
theorem Rel.new (hr : Rel C w0 S M N γ st a w) {dst : Option Nat} (hd : ∀ d, dst = some d → d < N) {nm : Nat} (hf : Fresh st nm dst) {w' : World} (hg : Grow w w') {ob : Ob} {h : Value}
    (hb : ∀ g, blk h = some g → w.heap.size ≤ g) {v : V} {u : Value}
    (hob : ∀ (ok : Nat → Prop) (γ' : Nat → Value), (∀ g, okOf w0 S γ st.o w g → w'.heap[g]? = w.heap[g]? ∧ ok g) → (∀ m, ob.refs m = true → γ' m = γ m) → RepO C w' ok γ' ob h)
    (hn : ob.refs nm = false) (hv : ∀ (ok : Nat → Prop), RepV C w' ok (upd γ nm h) v u) :
    Rel C w0 S M N (upd γ nm h) { s := (st.put dst v).s, o := upd st.o nm (some ob) } (a.put dst u) w' := by
  have hsep : ∀ n x g, st.o n = some x → blk (γ n) = some g → blk h ≠ some g := by
    intro n x g hx hgn e
    have := blk_lt (hr.objs n x hx) hgn
    have := hb g e
    omega
  have hok : ∀ g, okOf w0 S γ st.o w g → w'.heap[g]? = w.heap[g]? ∧ okOf w0 S (upd γ nm h) (upd st.o nm (some ob)) w' g := by
    intro g hgk
    refine ⟨hg.block g hgk.2.1, hgk.1, Nat.lt_of_lt_of_le hgk.2.1 hg.size, fun n x hx => ?_⟩
    by_cases hn : n = nm
    · subst hn
      rw [upd_same]
      intro e
      have := hb g e
      have := hgk.2.1
      omega
    · rw [upd_other _ _ hn] at hx ⊢
      exact hgk.2.2 n x hx
  have hlt : ∀ d, dst = some d → d < a.tmps.size := fun d h => Nat.lt_of_lt_of_le (hd d h) hr.size
  refine ⟨fun t => ?_, fun n x hx => ?_, ?_, ?_, hr.fram.grow hg, by cases dst <;> exact hr.defers, by cases dst <;> simpa [Act.put] using hr.size⟩
  · by_cases ht : dst = some t
    · subst ht
      have := hlt t rfl
      simp only [St.put, Act.put, upd_same]
      simpa [this] using hv _
    · have h1 : (st.put dst v).s t = st.s t := by
        cases dst with
        | none => rfl
        | some d => exact upd_other _ _ (fun e => ht (by rw [e]))
      have h2 : (a.put dst u).tmps.getD t undef = a.tmps.getD t undef := by
        cases dst with
        | none => rfl
        | some d => simp [Act.put, Array.getElem?_setIfInBounds_ne (show d ≠ t from fun e => ht (by rw [e]))]
      simp only
      rw [h1, h2]
      refine RepV.mono hok _ _ (fun m hm => ?_) (hr.slots t)
      refine upd_other _ _ ?_
      rintro rfl
      rw [hf.1 t ht] at hm
      cases hm
  · by_cases hn' : n = nm
    · subst hn'
      simp only [upd_same] at hx ⊢
      injection hx with hx
      subst hx
      exact hob _ _ hok (fun m hm => upd_other _ _ (by rintro rfl; rw [hn] at hm; cases hm))
    · simp only [upd_other _ _ hn'] at hx ⊢
      refine RepO.mono hok (fun m hm => upd_other _ _ ?_) (fun g hb' => hg.block g (blk_lt (hr.objs n x hx) hb')) (hr.objs n x hx)
      rintro rfl
      rw [hf.2 n x hn' hx] at hm
      cases hm
  · intro n m x y g hx hy hgn hgm
    by_cases h1 : n = nm
    · by_cases h2 : m = nm
      · rw [h1, h2]
      · subst h1
        simp only [upd_same, upd_other _ _ h2] at hx hy hgn hgm
        exact absurd hgn (hsep m y g hy hgm)
    · by_cases h2 : m = nm
      · subst h2
        simp only [upd_same, upd_other _ _ h1] at hx hy hgn hgm
        exact absurd hgm (hsep n x g hx hgn)
      · simp only [upd_other _ _ h1, upd_other _ _ h2] at hx hy hgn hgm
        exact hr.sep n m x y g hx hy hgn hgm
  · intro n x g hx hgn
    by_cases h1 : n = nm
    · subst h1
      simp only [upd_same] at hgn
      exact .inr (Nat.le_trans hr.fram.size (hb g hgn))
    · simp only [upd_other _ _ h1] at hx hgn
      exact hr.muts n x g hx hgn
/-- A value that leads to an object whose place may have changed is dropped. -/
def scrubV (m : Nat) (v : V) : V := if V.refs m v = true then .undef else v
def Ob.scrub (m : Nat) : Ob → Ob
  | .box cs => .box (cs.map (scrubV m))
  | x => x
def St.scrub (st : St) (m : Nat) : St := { s := fun t => scrubV m (st.s t), o := fun n => (st.o n).map (Ob.scrub m) }
theorem scrubV_refs (m k : Nat) (v : V) (h : V.refs k (scrubV m v) = true) : k ≠ m := by
  unfold scrubV at h
  split at h
  · simp [V.refs] at h
  · rename_i hn
    rintro rfl
    exact hn h
theorem refsL_map (m k : Nat) : ∀ (cs : List V), V.refsL k (cs.map (scrubV m)) = true → k ≠ m
  | [], h => by simp [V.refsL] at h
  | c :: cs, h => by
    simp only [List.map_cons, V.refsL, Bool.or_eq_true] at h
    rcases h with h | h
    · exact scrubV_refs m k c h
    · exact refsL_map m k cs h
theorem RepVs.scrub {C : Ctx} {w : World} {ok : Nat → Prop} {γ : Nat → Value} (m : Nat) {cs : List V} {us : List Value} (h : RepVs C w ok γ cs us) : RepVs C w ok γ (cs.map (scrubV m)) us :=
  RepVs.of_get (by simp [h.length]) fun i c u hc hu => by
    rw [List.getElem?_map] at hc
    obtain ⟨c0, hc0, rfl⟩ := Option.map_eq_some_iff.1 hc
    obtain ⟨u', hu', hr⟩ := h.get i c0 hc0
    rw [hu] at hu'; injection hu' with hu'; subst hu'
    unfold scrubV
    split
    · exact trivial
    · exact hr
/-- What a step leaves: only the object's own block has turned. -/
structure Turn (w w' : World) (b : Option Nat) : Prop where
  os : w'.os = w.os
  tape : w'.tape = w.tape
  output : w'.output = w.output
  size : w.heap.size ≤ w'.heap.size
  block : ∀ g, g < w.heap.size → b ≠ some g → w'.heap[g]? = w.heap[g]?
theorem Rel.turnCore (hr : Rel C w0 S M N γ st a w) {m : Nat} {ob : Ob} (hm : st.o m = some ob) {w' : World} (ht : Turn w w' (blk (γ m))) {h' : Value} (hb : ∀ g, blk h' = some g → blk (γ m) = some g ∨ w.heap.size ≤ g) {ob' : Ob} {st' : St}
    (hs : ∀ t, st'.s t = st.s t ∨ st'.s t = .undef) (hsr : ∀ t, V.refs m (st'.s t) = true → h' = γ m)
    (ho : ∀ n, n ≠ m → (st'.o n = st.o n) ∨ (st'.o n = (st.o n).map (Ob.scrub m))) (hor : ∀ n x, n ≠ m → st'.o n = some x → x.refs m = true → h' = γ m) (hom : st'.o m = some ob')
    (hob : ∀ (ok : Nat → Prop), (∀ g, okOf w0 S γ st.o w g → w'.heap[g]? = w.heap[g]? ∧ ok g) → RepO C w' ok (upd γ m h') ob' h') :
    Rel C w0 S M N (upd γ m h') st' a w' ∧ (∀ g, okOf w0 S γ st.o w g → w'.heap[g]? = w.heap[g]? ∧ okOf w0 S (upd γ m h') st'.o w' g) := by
  have hold : ∀ n x, st'.o n = some x → ∃ y, st.o n = some y := by
    intro n x hx
    by_cases hnm : n = m
    · subst hnm; exact ⟨ob, hm⟩
    · rcases ho n hnm with e | e
      · exact ⟨x, by rw [← e]; exact hx⟩
      · rw [e] at hx
        obtain ⟨y, hy, _⟩ := Option.map_eq_some_iff.1 hx
        exact ⟨y, hy⟩
  have hok : ∀ g, okOf w0 S γ st.o w g → w'.heap[g]? = w.heap[g]? ∧ okOf w0 S (upd γ m h') st'.o w' g := by
    intro g hgk
    refine ⟨ht.block g hgk.2.1 (hgk.2.2 m ob hm), hgk.1, Nat.lt_of_lt_of_le hgk.2.1 ht.size, fun n x hx => ?_⟩
    by_cases hnm : n = m
    · subst hnm
      rw [upd_same]
      intro e
      rcases hb g e with h | h
      · exact hgk.2.2 n ob hm h
      · have := hgk.2.1; omega
    · rw [upd_other _ _ hnm]
      obtain ⟨y, hy⟩ := hold n x hx
      exact hgk.2.2 n y hy
  have hframe : Fram w0 w' M := by
    refine ⟨ht.os.trans hr.fram.os, ht.tape.trans hr.fram.tape, ht.output.trans hr.fram.output, Nat.le_trans hr.fram.size ht.size, fun g hg hM => ?_⟩
    rw [← hr.fram.block g hg hM]
    refine ht.block g (Nat.lt_of_lt_of_le hg hr.fram.size) (fun e => ?_)
    rcases hr.muts m ob g hm e with h | h
    · exact hM h
    · omega
  refine ⟨⟨fun t => ?_, fun n x hx => ?_, ?_, ?_, hframe, hr.defers, hr.size⟩, hok⟩
  · rcases hs t with e | e
    · rw [e]
      refine RepV.mono hok _ _ (fun k hk => ?_) (hr.slots t)
      by_cases hkm : k = m
      · subst hkm
        rw [upd_same]
        exact hsr t (by rw [e]; exact hk)
      · exact upd_other _ _ hkm
    · rw [e]; exact trivial
  · by_cases hnm : n = m
    · subst hnm
      rw [hom] at hx
      injection hx with hx
      subst hx
      rw [upd_same]
      exact hob _ hok
    · rw [upd_other _ _ hnm]
      have key : ∀ y, st.o n = some y → ∀ z, (z = y ∨ z = y.scrub m) → (z.refs m = true → h' = γ m) → RepO C w' (okOf w0 S (upd γ m h') st'.o w') (upd γ m h') z (γ n) := by
        intro y hy z hz hzr
        have r0 := hr.objs n y hy
        have r1 : RepO C w (okOf w0 S γ st.o w) γ z (γ n) := by
          rcases hz with rfl | rfl
          · exact r0
          · cases y with
            | box cs =>
              obtain ⟨g, us, ty, e, hh, hv, h1⟩ := r0
              exact ⟨g, us, ty, e, hh, hv.scrub m, h1⟩
            | row sz es => exact r0
            | map kvs => exact r0
        refine RepO.mono hok (fun k hk => ?_) (fun g hb' => ?_) r1
        · by_cases hkm : k = m
          · subst hkm; rw [upd_same]; exact hzr hk
          · exact upd_other _ _ hkm
        · exact ht.block g (blk_lt r0 hb') (fun e => hnm (hr.sep n m y ob g hy hm hb' e))
      rcases ho n hnm with e | e
      · rw [e] at hx
        exact key x hx x (.inl rfl) (fun hk => hor n x hnm (by rw [e]; exact hx) hk)
      · have hx' := hx
        rw [e] at hx
        obtain ⟨y, hy, rfl⟩ := Option.map_eq_some_iff.1 hx
        exact key y hy _ (.inr rfl) (fun hk => hor n _ hnm hx' hk)
  · intro n k x y g hx hy hgn hgk
    obtain ⟨x0, hx0⟩ := hold n x hx
    obtain ⟨y0, hy0⟩ := hold k y hy
    have cross : ∀ n x0, n ≠ m → st.o n = some x0 → blk (γ n) = some g → blk h' = some g → False := by
      intro n x0 hnm hx0 hgn hgh
      rcases hb g hgh with h | h
      · exact hnm (hr.sep n m x0 ob g hx0 hm hgn h)
      · have := blk_lt (hr.objs n x0 hx0) hgn; omega
    by_cases h1 : n = m
    · by_cases h2 : k = m
      · rw [h1, h2]
      · rw [h1, upd_same] at hgn
        rw [upd_other _ _ h2] at hgk
        exact (cross k y0 h2 hy0 hgk hgn).elim
    · by_cases h2 : k = m
      · rw [h2, upd_same] at hgk
        rw [upd_other _ _ h1] at hgn
        exact (cross n x0 h1 hx0 hgn hgk).elim
      · rw [upd_other _ _ h1] at hgn
        rw [upd_other _ _ h2] at hgk
        exact hr.sep n k x0 y0 g hx0 hy0 hgn hgk
  · intro n x g hx hgn
    obtain ⟨x0, hx0⟩ := hold n x hx
    by_cases h1 : n = m
    · rw [h1, upd_same] at hgn
      rcases hb g hgn with h | h
      · exact hr.muts m ob g hm h
      · exact .inr (Nat.le_trans hr.fram.size h)
    · rw [upd_other _ _ h1] at hgn
      exact hr.muts n x0 g hx0 hgn
/-- The object turns where it lies: its place stays. -/
theorem Rel.turnSame (hr : Rel C w0 S M N γ st a w) {m : Nat} {ob : Ob} (hm : st.o m = some ob) {w' : World} (ht : Turn w w' (blk (γ m))) {ob' : Ob}
    (hob : ∀ (ok : Nat → Prop), (∀ g, okOf w0 S γ st.o w g → w'.heap[g]? = w.heap[g]? ∧ ok g) → RepO C w' ok γ ob' (γ m)) :
    Rel C w0 S M N γ { st with o := upd st.o m (some ob') } a w' := by
  have hγ : upd γ m (γ m) = γ := by funext n; unfold upd; split <;> simp_all
  have := hr.turnCore hm ht (h' := γ m) (fun g hg => .inl hg) (ob' := ob') (st' := { st with o := upd st.o m (some ob') }) (fun t => .inl rfl) (fun _ _ => rfl) (fun n hn => .inl (upd_other _ _ hn)) (fun _ _ _ _ _ => rfl) (upd_same _ _ _)
    (by rw [hγ]; exact hob)
  rw [hγ] at this
  exact this.1
/-- The object turns, and may have another place: what led to it is dropped. -/
theorem Rel.turnNew (hr : Rel C w0 S M N γ st a w) {m : Nat} {ob : Ob} (hm : st.o m = some ob) {w' : World} (ht : Turn w w' (blk (γ m))) {h' : Value} (hb : ∀ g, blk h' = some g → blk (γ m) = some g ∨ w.heap.size ≤ g) {ob' : Ob} (hbox : ∀ cs, ob' ≠ .box cs)
    (hob : ∀ (ok : Nat → Prop), (∀ g, okOf w0 S γ st.o w g → w'.heap[g]? = w.heap[g]? ∧ ok g) → RepO C w' ok (upd γ m h') ob' h') :
    Rel C w0 S M N (upd γ m h') { s := (st.scrub m).s, o := upd (st.scrub m).o m (some ob') } a w' := by
  refine (hr.turnCore hm ht hb (ob' := ob') (st' := { s := (st.scrub m).s, o := upd (st.scrub m).o m (some ob') }) (fun t => ?_) (fun t h => absurd rfl (scrubV_refs m m _ h)) (fun n hn => .inr (upd_other _ _ hn)) (fun n x hn hx hxr => ?_) (upd_same _ _ _) hob).1
  · show scrubV m (st.s t) = st.s t ∨ scrubV m (st.s t) = .undef
    unfold scrubV
    split
    · exact .inr rfl
    · exact .inl rfl
  · simp only [upd_other _ _ hn, St.scrub] at hx
    obtain ⟨y, _, rfl⟩ := Option.map_eq_some_iff.1 hx
    cases y with
    | box cs => exact absurd rfl (refsL_map m m cs hxr)
    | row _ _ => simp [Ob.scrub, Ob.refs] at hxr
    | map _ => simp [Ob.scrub, Ob.refs] at hxr
end
end Pay
