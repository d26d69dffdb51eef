/- One step: made rows, appends, cuts, maps; the one theorem on steps. -/
import Derived.MapKept
import Derived.Test.YthnddhfpkmbacaaDoorPayI
set_option linter.unusedSimpArgs false
set_option linter.unusedVariables false
namespace Pay
open Go
section
variable {C : Ctx} {w0 : World} {S M : Nat → Prop} {N : Nat} {γ : Nat → Value} {st : St} {a : Act} {w : World} {o : Oper} {Q : Exit → Act → World → Prop}
theorem okZeroD_run {P : Program} {t : TypeId} {sz bytes : Nat} {zs : List D} (h : okZeroD P t sz bytes zs = true) : ∃ i z, P.info? t = some i ∧ i.zero = some z ∧ okZeros z.cells.toList (zs.map .d) = true ∧ i.size = zs.length ∧ i.size = sz ∧ i.bytes = bytes := by
  unfold okZeroD at h
  split at h
  · rename_i i hi
    split at h
    · rename_i z hz
      simp only [Bool.and_eq_true, beq_iff_eq] at h
      exact ⟨i, z, hi, hz, h.1.1.1, h.1.1.2, h.1.2, h.2⟩
    · cases h
  · cases h
theorem made_rep {ok : Nat → Prop} {zs : List D} {z : List Value} (hz : RepCells w ok zs z) (hl : z.length = zs.length) (h1 : ∀ u ∈ z, u.oneCell' = true) (n : Nat) :
    ((List.replicate n zs).flatten).length = n * zs.length ∧ RepCells w ok (List.replicate n zs).flatten (madeCells ⟨z⟩ (n * zs.length)).toList ∧ ∀ u ∈ (madeCells ⟨z⟩ (n * zs.length)).toList, u.oneCell' = true := by
  have hlen : ((List.replicate n zs).flatten).length = n * zs.length := by simp
  refine ⟨hlen, RepCells.of_get fun i d hd => ?_, fun u hu => ?_⟩
  · have hi : i < n * zs.length := by
      have := (List.getElem?_eq_some_iff.1 hd).1
      omega
    have hp : 0 < zs.length := by
      rcases Nat.eq_zero_or_pos zs.length with h | h
      · rw [h] at hi; omega
      · exact h
    have hm : i % zs.length < zs.length := Nat.mod_lt _ hp
    have hq : i / zs.length < n := by
      refine Nat.div_lt_of_lt_mul ?_
      rw [Nat.mul_comm]; exact hi
    have h2 : (List.replicate n zs)[i / zs.length]? = some zs := by simp [hq]
    have h3 := flat_get (sz := zs.length) (es := List.replicate n zs) (by intro e he; rw [(List.mem_replicate.1 he).2]) (i / zs.length) zs (i % zs.length) (zs[i % zs.length]) h2 (List.getElem?_eq_getElem hm)
    have h4 : i / zs.length * zs.length + i % zs.length = i := by
      have := Nat.div_add_mod i zs.length
      rw [Nat.mul_comm] at this
      exact this
    rw [h4] at h3
    rw [h3] at hd
    injection hd with hd
    subst hd
    obtain ⟨u, hu, hr⟩ := hz.get (i % zs.length) _ (List.getElem?_eq_getElem hm)
    refine ⟨u, ?_, hr⟩
    simp only [madeCells, Array.toList_map, Array.toList_range, List.getElem?_map]
    rw [List.getElem?_range hi]
    simp only [Option.map_some, List.size_toArray, hl]
    rw [getElem!_pos (⟨z⟩ : Array Value) (i % zs.length) (by simpa [hl] using hm)]
    have := (List.getElem?_eq_some_iff.1 hu).2
    simp [this]
  · simp only [madeCells, Array.toList_map, Array.toList_range, List.mem_map, List.mem_range] at hu
    obtain ⟨j, hj, rfl⟩ := hu
    have hp : 0 < z.length := by
      rcases Nat.eq_zero_or_pos zs.length with h | h
      · rw [h] at hj; omega
      · omega
    simp only [List.size_toArray]
    rw [getElem!_pos (⟨z⟩ : Array Value) (j % z.length) (by simpa using Nat.mod_lt _ hp)]
    exact h1 _ (by simp)
theorem ss_mks (hr : Rel C w0 S M N γ st a w) (hd : ∀ d, o.dst = some d → d < N) {own : Option Nat} {sz bytes : Nat} {zero : List D} {x : Opd} {I : Nat → Prop} {K : St → Prop} (hk : okS C.P C.φ o (.mks own sz bytes zero x) = true) (hs : stepS I st o.dst K (.mks own sz bytes zero x)) :
    o.wp C.P a w (Lands C w0 S M N I γ K) Q := by
  obtain ⟨dst, op, ty, pos, aft, gd⟩ := o
  simp only [okS] at hk
  split at hk
  case h_2 => cases hk
  rename_i t x1 x2
  simp only [Bool.and_eq_true] at hk
  obtain ⟨⟨h1, h2⟩, h3⟩ := hk
  split at h3
  case h_2 => cases h3
  rename_i e hel
  simp only [Bool.and_eq_true, bne_iff_ne, ne_eq] at h3
  obtain ⟨h3, h4⟩ := h3
  obtain ⟨i, z, hi, hz, hzs, hsl, hsz, hby⟩ := okZeroD_run h3
  have ht := elemOf_run hel
  have r1 := opd_rep hr h1
  have r2 := opd_rep hr h2
  have hzl : zero.length = sz := by omega
  have key : ∀ (k : IntKind) (n : Int), opd st.s x = .d (.int k n) → 0 ≤ n → n.toNat * bytes ≤ 140737488355328 → n ≤ 140737488355328 →
      (execOp a.eval { dst := dst, op := .makeSlice t x1 x2, type := ty, pos := pos, after := aft, guard := gd }).run C.P w = .ok (.value (.slice (some ⟨w.heap.size, 0, none⟩) n.toNat n.toNat)) (w.alloc (.cells (madeCells z.cells (n.toNat * i.size)) e)) := by
    intro k n hx h0 hb hle
    rw [hx] at r1 r2
    simp only [RepV, RepD] at r1 r2
    have hb2 : (i.bytes : Int) * n ≤ 281474976710656 := by
      have : ((n.toNat * i.bytes : Nat) : Int) ≤ 140737488355328 := by rw [hby]; omega
      rw [Int.natCast_mul, Int.toNat_of_nonneg h0, Int.mul_comm] at this
      omega
    have := run_make (P := C.P) w t e i z ht hi hz k k n n h0 (Int.le_refl _) hb2 (by omega)
    simp [execOp, r1, r2, this]
  have rows : ∀ (n : Nat) (w' : World) (γ' : Nat → Value) (ok : Nat → Prop), RepCells w' ok (List.replicate n zero).flatten (madeCells z.cells (n * i.size)).toList ∧ (∀ u ∈ (madeCells z.cells (n * i.size)).toList, u.oneCell' = true) := by
    intro n w' γ' ok
    obtain ⟨z1, z2⟩ := okZeros_rep (C := C) (w := w') (γ := γ') (ok := ok) hzs
    have := z1.length
    have hm := made_rep z1.cells (by simpa using this) z2 n
    rw [hsl]
    exact hm.2
  have hes : ∀ n, ∀ e ∈ List.replicate n zero, e.length = sz := fun n e he => by rw [(List.mem_replicate.1 he).2]; exact hzl
  cases own with
  | none =>
    simp only [stepS] at hs
    split at hs
    · rename_i k n hx
      obtain ⟨h0, hb, hle, hK⟩ := hs
      refine wp_value (key k n hx h0 hb hle) ⟨γ, _, hK, fun _ _ => rfl, ?_⟩
      refine hr.putGrow hd (Grow.alloc w _) (fun ok hok hnew => ?_)
      have := (rows n.toNat (w.alloc (.cells (madeCells z.cells (n.toNat * i.size)) e)) γ ok).1
      have h := new_sl (w' := w.alloc (.cells (madeCells z.cells (n.toNat * i.size)) e)) (ok := ok) (cap := n.toNat) (es := List.replicate n.toNat zero) (heap_alloc_new w _) (hnew _ (Nat.le_refl _) (by simp)) (by simp) (hes _) this
      rw [List.length_replicate] at h
      exact h
    · exact hs.elim
  | some nm =>
    simp only [stepS] at hs
    split at hs
    · rename_i k n hx
      obtain ⟨h0, hb, hle, hI, hf, hK⟩ := hs
      refine wp_value (key k n hx h0 hb hle) ⟨upd γ nm (.slice (some ⟨w.heap.size, 0, none⟩) n.toNat n.toNat), _, hK, fun n hn => upd_other _ _ (fun e => hI (e ▸ hn)), ?_⟩
      refine hr.new hd hf (Grow.alloc w _) (fun g hg => ?_) (fun ok γ' hok hγ => ?_) rfl (fun ok => ⟨by rw [upd_same], rfl⟩)
      · simp only [blk] at hg
        split at hg
        · cases hg
        · injection hg with hg; exact Nat.le_of_eq hg
      · obtain ⟨q1, q2⟩ := rows n.toNat (w.alloc (.cells (madeCells z.cells (n.toNat * i.size)) e)) γ' ok
        by_cases hz0 : n.toNat = 0
        · refine .inl ⟨by rw [hz0]; rfl, _, by rw [hz0]⟩
        · refine .inr ⟨w.heap.size, n.toNat, (madeCells z.cells (n.toNat * i.size)).toList, e, by simp, by omega, heap_alloc_new w _, by simp, ?_, ?_, hes _, q1, q2⟩
          · simp only [maxLen]; omega
          · have := size_madeCells z.cells (n.toNat * i.size)
            simpa [hsz] using this
    · exact hs.elim
theorem RepCells.of_take {ok : Nat → Prop} {ds : List D} {us : List Value} {k : Nat} (h : RepCells w ok ds (us.take k)) : RepCells w ok ds us :=
  RepCells.of_get fun i d hd => by
    obtain ⟨u, hu, hr⟩ := h.get i d hd
    rw [List.getElem?_take] at hu
    split at hu
    · exact ⟨u, hu, hr⟩
    · cases hu
mutual
theorem RepV.thaw {ok ok' : Nat → Prop} {n : Nat} {es : List (List D)} (hok : ∀ g, ok g → w.heap[g]? = w.heap[g]? ∧ ok' g) (hn : RepD w ok' (.sl es) (γ n)) : ∀ (x : V) (v : Value), RepV C w ok γ x v → RepV C w ok' γ (V.thaw n es x) v
  | .own m, v, r => by
    rw [V.thaw]
    split
    · rename_i h; subst h; rw [r.1]; exact hn
    · exact r
  | .eptr m sz i off, v, r => by
    rw [V.thaw]
    split
    · trivial
    · exact r
  | .mref m, v, r => by
    rw [V.thaw]
    split
    · trivial
    · exact r
  | .ptr m off, v, r => by
    rw [V.thaw]
    split
    · trivial
    · exact r
  | .fn f caps, v, r => by
    obtain ⟨us, e, r⟩ := r
    exact ⟨us, e, RepVs.thaw hok hn caps us r⟩
  | .agg cs, v, r => by
    obtain ⟨us, e, r, h1⟩ := r
    exact ⟨us, e, RepVs.thaw hok hn cs us r, h1⟩
  | .tup cs, v, r => by
    obtain ⟨us, e, r⟩ := r
    exact ⟨us, e, RepVs.thaw hok hn cs us r⟩
  | .d x, v, r => RepD.mono hok x v r
  | .cap0, v, r => r
  | .nilp, v, r => r
  | .cptr cs, v, r => by
    obtain ⟨ad, e, ho, r⟩ := r
    exact ⟨ad, e, (hok _ ho).2, RepCs.mono hok ad ho 0 cs r⟩
  | .undef, v, r => trivial
theorem RepVs.thaw {ok ok' : Nat → Prop} {n : Nat} {es : List (List D)} (hok : ∀ g, ok g → w.heap[g]? = w.heap[g]? ∧ ok' g) (hn : RepD w ok' (.sl es) (γ n)) : ∀ (xs : List V) (vs : List Value), RepVs C w ok γ xs vs → RepVs C w ok' γ (V.thaws n es xs) vs
  | [], vs, r => r
  | x :: xs, vs, r => by
    obtain ⟨u, us, e, r1, r2⟩ := r
    exact ⟨u, us, e, RepV.thaw hok hn x u r1, RepVs.thaw hok hn xs us r2⟩
end
theorem Rel.free (hr : Rel C w0 S M N γ st a w) (he : Env C w0 S M) (n : Nat) : Rel C w0 S M N γ (st.free n) a w := by
  unfold St.free
  split
  case h_2 => exact hr
  rename_i sz es hn
  have hsub : ∀ m x, (if m = n then none else (st.o m).map (Ob.thaw n es)) = some x → m ≠ n ∧ ∃ y, st.o m = some y ∧ x = y.thaw n es := by
    intro m x h
    split at h
    · cases h
    · rename_i hm
      obtain ⟨y, hy, rfl⟩ := Option.map_eq_some_iff.1 h
      exact ⟨hm, y, hy, rfl⟩
  have hok : ∀ g, okOf w0 S γ st.o w g → w.heap[g]? = w.heap[g]? ∧ okOf w0 S γ (fun m => if m = n then none else (st.o m).map (Ob.thaw n es)) w g := fun g hg =>
    ⟨rfl, hg.1, hg.2.1, fun m x hx => by
      obtain ⟨_, y, hy, _⟩ := hsub m x hx
      exact hg.2.2 m y hy⟩
  have hrep : RepD w (okOf w0 S γ (fun m => if m = n then none else (st.o m).map (Ob.thaw n es)) w) (.sl es) (γ n) := by
    have hblt : ∀ g, blk (γ n) = some g → okOf w0 S γ (fun m => if m = n then none else (st.o m).map (Ob.thaw n es)) w g := by
      intro g hg
      refine ⟨?_, blk_lt (hr.objs n _ hn) hg, fun m x hx hb => ?_⟩
      · rcases hr.muts n _ g hn hg with h | h
        · exact .inl (he.ms g h)
        · exact .inr h
      · obtain ⟨hm, y, hy, _⟩ := hsub m x hx
        exact hm (hr.sep m n y _ g hy hn hb hg)
    rcases hr.objs n _ hn with ⟨rfl, A, h⟩ | ⟨g, cap, us, bt, h, hcp, hg, hlc, hcm, hul, hes, hrc, hone⟩
    · rw [h]
      exact ⟨A, 0, 0, rfl, Nat.le_refl _, by simp, fun h => absurd rfl h⟩
    · have hb := hblt g (by rw [h]; simp [blk]; omega)
      rw [h]
      exact new_sl hg hb hlc hes (hrc.mono hok)
  refine ⟨fun t => RepV.thaw hok hrep _ _ (hr.slots t), fun m x hx => ?_, fun m k x y g hx hy => ?_, fun m x g hx hg => ?_, hr.fram, hr.defers, hr.size⟩
  · obtain ⟨hm, y, hy, rfl⟩ := hsub m x hx
    have ho := hr.objs m y hy
    cases y with
    | box cs =>
      obtain ⟨g, us, ty, e, hh, hv, h1⟩ := ho
      exact ⟨g, us, ty, e, hh, RepVs.thaw hok hrep cs us hv, h1⟩
    | row sz' es' => exact RepO.mono hok (fun _ _ => rfl) (fun _ _ => rfl) ho
    | map kvs => exact RepO.mono hok (fun _ _ => rfl) (fun _ _ => rfl) ho
  · obtain ⟨_, x', hx', _⟩ := hsub m x hx
    obtain ⟨_, y', hy', _⟩ := hsub k y hy
    exact hr.sep m k x' y' g hx' hy'
  · obtain ⟨_, x', hx', _⟩ := hsub m x hx
    exact hr.muts m x' g hx' hg
theorem ss_app (hr : Rel C w0 S M N γ st a w) (he : Env C w0 S M) (hd : ∀ d, o.dst = some d → d < N) {own : Option Nat} {sz bytes : Nat} {x y : Opd} {I : Nat → Prop} {K : St → Prop} (hk : okS C.P C.φ o (.app own sz bytes x y) = true) (hs : stepS I st o.dst K (.app own sz bytes x y)) :
    o.wp C.P a w (Lands C w0 S M N I γ K) Q := by
  obtain ⟨dst, op, ty, pos, aft, gd⟩ := o
  simp only [okS] at hk
  split at hk
  case h_2 => cases hk
  rename_i x1 y1 t t1
  simp only [Bool.and_eq_true, beq_iff_eq] at hk
  obtain ⟨⟨⟨rfl, h1⟩, h2⟩, h3⟩ := hk
  split at h3
  case h_2 => cases h3
  rename_i e hel
  obtain ⟨i, z, hi, hz, hz1, hzs, hsz, hby, hne⟩ := okElem_run h3
  subst hsz hby
  have ht := elemOf_run hel
  have r1 := opd_rep hr h1
  have r2 := opd_rep hr h2
  simp only [stepS] at hs
  obtain ⟨ys, hys, hyl, hs⟩ := hs
  obtain ⟨B, c, news, hv2, hnl, hB, hn1, hnr⟩ := readD_rep hr hys r2 hyl
  have land : ∀ {olds : List Value} {n : Nat}, AppPost C.P w t ty i (a.eval x1) n ys.length (.slice B ys.length c) olds news → ∃ v' w', (execOp a.eval { dst := dst, op := .call { callee := .builtin .append, args := ⟨[x1, y1]⟩, argTypes := ⟨[t, t]⟩ }, type := ty, pos := pos, after := aft, guard := gd }).run C.P w = .ok (.value v') w' ∧ Turn w w' (blk (a.eval x1)) ∧ (∀ g, blk v' = some g → blk (a.eval x1) = some g ∨ w.heap.size ≤ g) ∧
      ((n + ys.length = 0 ∧ ∃ A, v' = .slice A 0 0) ∨ ∃ g cap us bt, v' = .slice (some ⟨g, 0, none⟩) (n + ys.length) cap ∧ 0 < cap ∧ w'.heap[g]? = some (.cells ⟨us⟩ bt (0, 0)) ∧ n + ys.length ≤ cap ∧ cap ≤ maxLen ∧ us.length = cap * i.size ∧ us.take ((n + ys.length) * i.size) = olds ++ news ∧ ∀ u ∈ us, u.oneCell' = true) := by
    intro olds n ⟨v', w', q1, q2⟩
    refine ⟨v', w', ?_, q2⟩
    simp only [execOp, resolve, invoke, builtin, Sem.run_bind, Sem.run_pure, Result.andThen_ok, List.map_toArray, List.map_cons, List.map_nil, hv2, q1]
  split at hs
  · -- to a slice that has no room
    rename_i hx
    obtain ⟨hb, hle, hs⟩ := hs
    rw [hx] at r1
    obtain ⟨A, hv1⟩ := r1
    obtain ⟨v', w', hrun, hturn, hblk, hform⟩ := land (run_append_row (P := C.P) (w := w) (ty := ty) ht hi hz hzs hne hz1 (v := a.eval x1) (n := 0) (olds := []) (.inl ⟨rfl, rfl, A, hv1⟩) (c := c) hnl hB hn1 (by simpa using hb) (by simpa using hle))
    have hb0 : blk (a.eval x1) = none := by rw [hv1]; cases A <;> simp [blk]
    rw [hb0] at hturn hblk
    have hgrow : Grow w w' := ⟨hturn.os, hturn.tape, hturn.output, hturn.size, fun g hg => hturn.block g hg (by simp)⟩
    simp only [Nat.zero_add, List.nil_append] at hform
    have hcells : ∀ (ok : Nat → Prop) (us : List Value), (∀ g, okOf w0 S γ st.o w g → w'.heap[g]? = w.heap[g]? ∧ ok g) → us.take (ys.length * i.size) = news → RepCells w' ok ys.flatten us := fun ok us hok he =>
      RepCells.of_take (k := ys.length * i.size) (by rw [he]; exact hnr.mono hok)
    cases own with
    | none =>
      refine wp_value hrun ⟨γ, _, hs, fun _ _ => rfl, ?_⟩
      refine hr.putGrow hd hgrow (fun ok hok hnew => ?_)
      rcases hform with ⟨h0, A', rfl⟩ | ⟨g, cap, us, bt, rfl, hcp, hg, hlc, hcm, hul, htk, hone⟩
      · have : ys = [] := List.eq_nil_of_length_eq_zero h0
        subst this
        exact ⟨A', 0, 0, rfl, Nat.le_refl _, by simp, fun h => absurd rfl h⟩
      · have hlt : g < w'.heap.size := (Array.getElem?_eq_some_iff.1 hg).1
        have hge : w.heap.size ≤ g := by
          rcases hblk g (by simp [blk]; omega) with h | h
          · cases h
          · exact h
        exact new_sl hg (hnew g hge hlt) hlc hyl (hcells ok us hok htk)
    | some nm =>
      obtain ⟨hI, hf, hK⟩ := hs
      refine wp_value hrun ⟨upd γ nm v', _, hK, fun n hn => upd_other _ _ (fun e => hI (e ▸ hn)), ?_⟩
      have hone' : v'.oneCell' = true := by
        rcases hform with ⟨h0, A', rfl⟩ | ⟨g, cap, us, bt, rfl, _⟩ <;> rfl
      refine hr.new hd hf hgrow (fun g hg => ?_) (fun ok γ' hok hγ => ?_) rfl (fun ok => ⟨by rw [upd_same], hone'⟩)
      · rcases hblk g hg with h | h
        · cases h
        · exact h
      · rcases hform with ⟨h0, A', rfl⟩ | ⟨g, cap, us, bt, rfl, hcp, hg, hlc, hcm, hul, htk, hone⟩
        · have : ys = [] := List.eq_nil_of_length_eq_zero h0
          exact .inl ⟨this, A', rfl⟩
        · exact .inr ⟨g, cap, us, bt, rfl, hcp, hg, hlc, hcm, hul, hyl, hcells ok us hok htk, hone⟩
  · -- to a slice of the frame's own
    rename_i m hx
    obtain ⟨es, hI, hm, hb, hle, hK⟩ := hs
    rw [hx] at r1
    obtain ⟨hv1, _⟩ := r1
    have hobj := hr.objs m _ hm
    have hold : ∃ olds, ((es.length = 0 ∧ olds = [] ∧ ∃ A, a.eval x1 = .slice A 0 0) ∨ ∃ g cap us bt, a.eval x1 = .slice (some ⟨g, 0, none⟩) es.length cap ∧ 0 < cap ∧ w.heap[g]? = some (.cells ⟨us⟩ bt (0, 0)) ∧ es.length ≤ cap ∧ cap ≤ maxLen ∧ us.length = cap * i.size ∧ us.take (es.length * i.size) = olds ∧ ∀ u ∈ us, u.oneCell' = true) ∧
        RepCells w (okOf w0 S γ st.o w) es.flatten olds ∧ olds.length = es.length * i.size ∧ ∀ e ∈ es, e.length = i.size := by
      rcases hobj with ⟨rfl, A, h⟩ | ⟨g, cap, us, bt, h, hcp, hg, hlc, hcm, hul, hes, hrc, hone⟩
      · exact ⟨[], .inl ⟨rfl, rfl, A, by rw [hv1, h]⟩, trivial, by simp, by simp⟩
      · have hfl := flat_length hes
        have hmul := Nat.mul_le_mul_right i.size hlc
        have htk := hrc.take (es.length * i.size)
        rw [List.take_of_length_le (by omega)] at htk
        exact ⟨us.take (es.length * i.size), .inr ⟨g, cap, us, bt, by rw [hv1, h], hcp, hg, hlc, hcm, hul, rfl, hone⟩, htk, by rw [List.length_take]; omega, hes⟩
    obtain ⟨olds, hform0, hor, hol, hes⟩ := hold
    obtain ⟨v', w', hrun, hturn, hblk, hform⟩ := land (run_append_row (P := C.P) (w := w) (ty := ty) ht hi hz hzs hne hz1 (v := a.eval x1) (n := es.length) (olds := olds) hform0 (c := c) hnl hB hn1 hb hle)
    rw [hv1] at hturn hblk
    have hone' : v'.oneCell' = true := by
      rcases hform with ⟨h0, A', rfl⟩ | ⟨g, cap, us, bt, rfl, _⟩ <;> rfl
    have fin : Rel C w0 S M N (upd γ m v') { s := ((st.scrub m).put dst (.own m)).s, o := upd (st.scrub m).o m (some (.row i.size (es ++ ys))) } (a.put dst v') w' → ({ dst := dst, op := .call { callee := .builtin .append, args := ⟨[x1, y1]⟩, argTypes := ⟨[t, t]⟩ }, type := ty, pos := pos, after := aft, guard := gd } : Oper).wp C.P a w (Lands C w0 S M N I γ K) Q := by
      intro hrel
      cases own with
      | some _ => exact wp_value hrun ⟨upd γ m v', _, hK, fun n hn => upd_other _ _ (fun e => hI (e ▸ hn)), hrel⟩
      | none => exact wp_value hrun ⟨upd γ m v', _, hK, fun n hn => upd_other _ _ (fun e => hI (e ▸ hn)), hrel.free he m⟩
    refine fin ?_
    have hnew := hr.turnNew hm hturn (h' := v') hblk (ob' := .row i.size (es ++ ys)) (fun cs h => by cases h) (fun ok hok => ?_)
    · have := hnew.put hd (v := .own m) (u := v') ⟨by rw [upd_same], hone'⟩
      cases dst <;> exact this
    · rcases hform with ⟨h0, A', rfl⟩ | ⟨g, cap, us, bt, rfl, hcp, hg, hlc, hcm, hul, htk, hone⟩
      · have e1 : es = [] := List.eq_nil_of_length_eq_zero (by omega)
        have e2 : ys = [] := List.eq_nil_of_length_eq_zero (by omega)
        subst e1 e2
        exact .inl ⟨rfl, A', rfl⟩
      · refine .inr ⟨g, cap, us, bt, by rw [List.length_append], hcp, hg, by rw [List.length_append]; exact hlc, hcm, hul, ?_, ?_, hone⟩
        · intro e he
          rcases List.mem_append.1 he with h | h
          · exact hes e h
          · exact hyl e h
        · rw [List.flatten_append]
          refine RepCells.of_take (k := (es.length + ys.length) * i.size) ?_
          rw [htk]
          exact RepCells.append (by rw [hol, flat_length hes]) (hor.mono hok) (hnr.mono hok)
  · exact hs.elim
theorem ss_nilS (hr : Rel C w0 S M N γ st a w) (hd : ∀ d, o.dst = some d → d < N) {q : Bool} {x : Opd} {I : Nat → Prop} {K : St → Prop} (hk : okS C.P C.φ o (.nilS q x) = true) (hs : stepS I st o.dst K (.nilS q x)) :
    o.wp C.P a w (Lands C w0 S M N I γ K) Q := by
  obtain ⟨dst, op, ty, pos, aft, gd⟩ := o
  simp only [okS] at hk
  split at hk
  case h_2 => cases hk
  rename_i op' t x' yt
  simp only [Bool.and_eq_true, beq_iff_eq] at hk
  obtain ⟨⟨h0, h1⟩, h3⟩ := hk
  obtain ⟨e, hel⟩ := Option.isSome_iff_exists.1 h3
  have ht := elemOf_run hel
  have r1 := opd_rep hr h1
  have hev : a.eval (.const (.slice none 0 0)) = .slice none 0 0 := rfl
  have key : ∀ (A : Option Addr) (l c : Nat), a.eval x' = .slice A l c → (∀ b, (b = if q = true then !A.isNone else A.isNone) → K (st.put dst (.d (.bool b)))) → ({ dst := dst, op := .binOp op' t x' (.const (.slice none 0 0)) yt, type := ty, pos := pos, after := aft, guard := gd } : Oper).wp C.P a w (Lands C w0 S M N I γ K) Q := by
    intro A l c hp hK
    have hg : (eqGuard op' t x' (.const (.slice none 0 0)) (a.eval x') (.slice none 0 0)).run C.P w = .ok () w := eqGuard_run (.inr (.inl (by simp))) (by rw [hp]; simp)
    have hd' : ∀ d : Nat, (Op.equalIn (d + 1) t (.slice A l c) (.slice none 0 0)).run C.P w = .ok A.isNone w := fun d => by
      cases A <;> simp [Op.equalIn, run_underlying ht]
    have hq : (Op.equal t (.slice A l c) (.slice none 0 0)).run C.P w = .ok A.isNone w := hd' 9999
    rw [hp] at hg
    refine wp_value (u := .bool (if q = true then !A.isNone else A.isNone)) (w' := w) ?_ ⟨γ, _, hK _ rfl, fun _ _ => rfl, hr.put hd rfl⟩
    cases q <;> simp only [if_true, Bool.false_eq_true, if_false] at h0 ⊢ <;> subst h0 <;> simp [execOp, hev, hg, hp, binOp, hq]
  simp only [stepS] at hs
  split at hs
  · rename_i hx
    rw [hx] at r1
    obtain ⟨A, cap, sz, hv, _⟩ := r1
    exact key A _ _ hv (fun b _ => hs b)
  · rename_i e0 es hx
    rw [hx] at r1
    obtain ⟨A, cap, sz, hv, _, _, hc⟩ := r1
    obtain ⟨ad, rfl, _⟩ := hc (by simp)
    refine key _ _ _ hv (fun b hb => ?_)
    have : b = q := by rw [hb]; cases q <;> rfl
    rw [this]; exact hs
  · rename_i hx
    rw [hx] at r1
    obtain ⟨A, hv⟩ := r1
    exact key A _ _ hv (fun b _ => hs b)
  · exact hs.elim
def keyT (d : TypeDesc) (str : Bool) : Bool := match d with | .int _ => !str | .string => str | _ => false
theorem keyEq_now {d : TypeDesc} {str : Bool} {k k' : D} {u u' : Value} {ok ok' : Nat → Prop} (hd : keyT d str = true) (hk : keyIs str k = true) {b : Bool} (h : keyEq k k' = some b) (h1 : RepD w ok k u) (h2 : RepD w ok' k' u') :
    Instr.sameNow d u u' = some b := by
  unfold keyEq at h
  split at h
  · rename_i kd x kd' y
    simp only [RepD] at h1 h2
    subst h1 h2
    split at h
    · rename_i hkk
      subst hkk
      injection h with h
      subst h
      cases d <;> simp_all [keyIs, keyT, Instr.sameNow]
    · cases h
  · rename_i x y
    simp only [RepD] at h1 h2
    subst h1 h2
    injection h with h
    subst h
    have : ((⟨x.toArray⟩ : ByteArray) == ⟨y.toArray⟩) = (x == y) := by
      rw [Bool.eq_iff_iff, MapKept.bytes_beq]
      simp
    cases d <;> simp_all [keyIs, keyT, Instr.sameNow]
  · cases h
theorem kvGet_now {d : TypeDesc} {str : Bool} {k : D} {u : Value} {ok : Nat → Prop} (hd : keyT d str = true) (hk : keyIs str k = true) (h1 : RepD w ok k u) :
    ∀ {kvs : List (D × D)} {es : List MapEntry} {r : Option D} (i : Nat), kvGet k kvs = some r → RepKvs w ok kvs es →
      (r = none ∧ Instr.findNow d u es i = some none) ∨ ∃ x v j, r = some x ∧ Instr.findNow d u es i = some (some (i + j, v)) ∧ RepD w ok x v
  | [], es, r, i, h, hr => by
    simp only [kvGet, Option.some.injEq] at h
    simp only [RepKvs] at hr
    subst h hr
    exact .inl ⟨rfl, rfl⟩
  | kv :: kvs, es, r, i, h, hr => by
    obtain ⟨e, es', rfl, q1, q2, q3⟩ := hr
    rw [kvGet] at h
    split at h
    · rename_i he
      injection h with h
      subst h
      exact .inr ⟨kv.2, e.val, 0, rfl, by simp [Instr.findNow, keyEq_now hd hk he h1 q1], q2⟩
    · rename_i he
      rcases kvGet_now hd hk h1 (i + 1) h q3 with ⟨e1, e2⟩ | ⟨x, v, j, e1, e2, e3⟩
      · exact .inl ⟨e1, by simp [Instr.findNow, keyEq_now hd hk he h1 q1, e2]⟩
      · refine .inr ⟨x, v, j + 1, e1, ?_, e3⟩
        simp [Instr.findNow, keyEq_now hd hk he h1 q1, e2]
        omega
    · cases h
theorem kvSet_now {d : TypeDesc} {str : Bool} {k x : D} {u v : Value} {ok : Nat → Prop} (hd : keyT d str = true) (hk : keyIs str k = true) (h1 : RepD w ok k u) (h2 : RepD w ok x v) :
    ∀ {kvs kvs' : List (D × D)} {es : List MapEntry} (i : Nat), kvSet k x kvs = some kvs' → RepKvs w ok kvs es →
      (Instr.findNow d u es i = some none ∧ ∀ n, RepKvs w ok kvs' (es ++ [{ key := u, val := v, born := n }])) ∨
      ∃ j e y, Instr.findNow d u es i = some (some (i + j, y)) ∧ es[j]? = some e ∧ e.key = u ∧ RepKvs w ok kvs' (es.set j { e with key := u, val := v })
  | [], kvs', es, i, h, hr => by
    simp only [kvSet, Option.some.injEq] at h
    simp only [RepKvs] at hr
    subst h hr
    exact .inl ⟨rfl, fun n => ⟨_, [], rfl, h1, h2, rfl⟩⟩
  | kv :: kvs, kvs', es, i, h, hr => by
    obtain ⟨e, es', rfl, q1, q2, q3⟩ := hr
    rw [kvSet] at h
    split at h
    · rename_i he
      injection h with h
      subst h
      refine .inr ⟨0, e, e.val, by simp [Instr.findNow, keyEq_now hd hk he h1 q1], rfl, ?_, ⟨_, es', rfl, h1, h2, q3⟩⟩
      unfold keyEq at he
      split at he
      · rename_i kd x kd' y e1
        rw [e1] at q1
        simp only [RepD] at q1 h1
        split at he
        · rename_i hkk
          injection he with he
          simp only [beq_iff_eq] at he
          rw [q1, h1, hkk, he]
        · cases he
      · rename_i x y e1
        rw [e1] at q1
        simp only [RepD] at q1 h1
        injection he with he
        simp only [beq_iff_eq] at he
        rw [q1, h1, he]
      · cases he
    · rename_i he
      split at h
      · rename_i r' hr'
        injection h with h
        subst h
        rcases kvSet_now hd hk h1 h2 (i + 1) hr' q3 with ⟨e1, e2⟩ | ⟨j, e', y, e1, e2, e3⟩
        · exact .inl ⟨by simp [Instr.findNow, keyEq_now hd hk he h1 q1, e1], fun n => ⟨e, _, rfl, q1, q2, e2 n⟩⟩
        · refine .inr ⟨j + 1, e', y, ?_, by simpa using e2, e3.1, e, _, rfl, q1, q2, e3.2⟩
          simp [Instr.findNow, keyEq_now hd hk he h1 q1, e1]
          omega
      · cases h
    · cases h
theorem okMapT_run {P : Program} {t : TypeId} {str : Bool} {zero : Option D} (h : okMapT P t str zero = true) : ∃ k e d, P.underlying t = some (.map k e) ∧ P.underlying k = some d ∧ keyT d str = true ∧
    ∀ z, zero = some z → ∃ i u, P.info? e = some i ∧ i.zero = some u ∧ okConst u (.d z) = true := by
  unfold okMapT at h
  split at h
  · rename_i k e ht
    simp only [Bool.and_eq_true] at h
    obtain ⟨h1, h2⟩ := h
    have hz : ∀ z, zero = some z → ∃ i u, P.info? e = some i ∧ i.zero = some u ∧ okConst u (.d z) = true := by
      intro z hz
      subst hz
      simp only at h2
      split at h2
      · rename_i i hi
        split at h2
        · rename_i u hu
          exact ⟨i, u, hi, hu, h2⟩
        · cases h2
      · cases h2
    split at h1
    · rename_i kd hk
      exact ⟨k, e, _, ht, hk, h1, hz⟩
    · rename_i hk
      exact ⟨k, e, _, ht, hk, h1, hz⟩
    · cases h1
  · cases h
theorem keyIs_isKey {d : TypeDesc} {str : Bool} {k : D} {u : Value} {ok : Nat → Prop} {P : Program} {kt : TypeId} (hd : P.underlying kt = some d) (hm : keyT d str = true) (hk : keyIs str k = true) (h : RepD w ok k u) (e : Bool) (n : Nat) :
    (Instr.checkKey e (n + 1) kt u).run P w = .ok () w ∧ (∀ m, (Instr.keyThatStays u u).run P m = .ok u m) := by
  cases k with
  | int k x =>
    simp only [RepD] at h
    subst h
    refine ⟨?_, fun m => ?_⟩
    · unfold Instr.checkKey
      simp only [Sem.run_bind, run_underlying hd, Result.andThen]
      cases d <;> simp_all [keyIs, keyT]
    · simp [Instr.keyThatStays, Instr.sameBits]
  | str x =>
    simp only [RepD] at h
    subst h
    refine ⟨?_, fun m => ?_⟩
    · unfold Instr.checkKey
      simp only [Sem.run_bind, run_underlying hd, Result.andThen]
      cases d <;> simp_all [keyIs, keyT]
    · have : ((⟨x.toArray⟩ : ByteArray) == ⟨x.toArray⟩) = true := by rw [MapKept.bytes_beq]
      simp [Instr.keyThatStays, Instr.sameBits, this]
  | _ => simp [keyIs] at hk
theorem ss_mkmap (hr : Rel C w0 S M N γ st a w) (hd : ∀ d, o.dst = some d → d < N) {nm : Nat} {I : Nat → Prop} {K : St → Prop} (hk : okS C.P C.φ o (.mkmap nm) = true) (hs : stepS I st o.dst K (.mkmap nm)) :
    o.wp C.P a w (Lands C w0 S M N I γ K) Q := by
  obtain ⟨dst, op, ty, pos, aft, gd⟩ := o
  simp only [okS] at hk
  split at hk
  case h_2 => cases hk
  rename_i t
  obtain ⟨hI, hf, hK⟩ := hs
  refine wp_value (u := .map (some w.heap.size)) (w' := w.alloc (.map #[] 0)) ?_ ?_
  · simp [execOp, Instr.makeMap]
  · refine ⟨upd γ nm (.map (some w.heap.size)), _, hK, fun n hn => upd_other _ _ (fun e => hI (e ▸ hn)), ?_⟩
    refine hr.new hd hf (Grow.alloc w _) (h := .map (some w.heap.size)) (fun g hg => ?_) (fun ok γ' hok hγ => ?_) rfl (fun ok => ⟨by rw [upd_same], rfl⟩)
    · simp only [blk, Option.some.injEq] at hg; omega
    · exact ⟨w.heap.size, [], 0, rfl, heap_alloc_new w _, rfl⟩
theorem ss_mset (hr : Rel C w0 S M N γ st a w) (hd : ∀ d, o.dst = some d → d < N) {str : Bool} {m k x : Opd} {I : Nat → Prop} {K : St → Prop} (hk : okS C.P C.φ o (.mset str m k x) = true) (hs : stepS I st o.dst K (.mset str m k x)) :
    o.wp C.P a w (Lands C w0 S M N I γ K) Q := by
  obtain ⟨dst, op, ty, pos, aft, gd⟩ := o
  simp only [okS] at hk
  split at hk
  case h_2 => cases hk
  rename_i t m' k' x'
  simp only [Bool.and_eq_true] at hk
  obtain ⟨⟨⟨h0, h1⟩, h2⟩, h3⟩ := hk
  obtain ⟨kt, et, d, ht, hkt, hdm, _⟩ := okMapT_run h0
  have r1 := opd_rep hr h1
  have r2 := opd_rep hr h2
  have r3 := opd_rep hr h3
  simp only [stepS] at hs
  split at hs
  · rename_i n k0 x0 e1 e2 e3
    obtain ⟨kvs, kvs', hki, hm, hset, hK⟩ := hs
    rw [e1] at r1
    obtain ⟨q1, _⟩ := r1
    have q2 := toD_rep e2 r2
    have q3 := toD_rep e3 r3
    obtain ⟨r, es, clock, hg, hh, hkv⟩ := hr.objs n _ hm
    obtain ⟨ck, ks⟩ := keyIs_isKey (P := C.P) hkt hdm hki q2 false 9999
    have go : ∀ (o' : List MapEntry) (c' : Nat), (execOp a.eval { dst := dst, op := .mapUpdate t m' k' x', type := ty, pos := pos, after := aft, guard := gd }).run C.P w = .ok .skip { w with heap := w.heap.setIfInBounds r (.map ⟨o'⟩ c') } →
        RepKvs w (okOf w0 S γ st.o w) kvs' o' → ({ dst := dst, op := .mapUpdate t m' k' x', type := ty, pos := pos, after := aft, guard := gd } : Oper).wp C.P a w (Lands C w0 S M N I γ K) Q := by
      intro o' c' hrun hrep
      refine wp_skip' hrun ⟨γ, _, hK, fun _ _ => rfl, ?_⟩
      refine Rel.put (hr.turnSame hm ?_ ?_) hd trivial
      · rw [hg]
        refine ⟨rfl, rfl, rfl, by simp, fun g _ hne => ?_⟩
        exact (MapKept.heap_set hh).2 g (fun e => hne (by simp [blk, e]))
      · intro ok hok
        exact ⟨r, o', c', hg, (MapKept.heap_set hh).1, hrep.mono hok⟩
    rcases kvSet_now hdm hki q2 q3 0 hset hkv with ⟨f1, f2⟩ | ⟨j, e, y, f1, f2, f3⟩
    · refine go (es ++ [{ key := a.eval k', val := a.eval x', born := clock }]) (clock + 1) ?_ (f2 clock)
      simp [execOp, q1, hg, Instr.mapUpdate, run_underlying ht, MapKept.run_getObj_map hh, ck, MapKept.run_findKey hkt f1, MapKept.run_setObj_map _ hh, Result.andThen]
    · refine go (es.set j { e with key := a.eval k', val := a.eval x' }) clock ?_ f3.2
      have hmod : es.modify j (fun e => { e with key := a.eval k', val := a.eval x' }) = es.set j { e with key := a.eval k', val := a.eval x' } := by
        simp [List.modify_eq_set, f2]
      have hk0 := f3.1
      simp only [Nat.zero_add] at f1
      simp [execOp, q1, hg, Instr.mapUpdate, run_underlying ht, MapKept.run_getObj_map hh, ck, MapKept.run_findKey hkt f1, f2, hk0, ks, MapKept.run_setObj_map _ hh, Result.andThen, hmod]
  · exact hs.elim
theorem ss_mget (hr : Rel C w0 S M N γ st a w) (hd : ∀ d, o.dst = some d → d < N) {str : Bool} {zero : D} {m k : Opd} {okk : Bool} {I : Nat → Prop} {K : St → Prop} (hk : okS C.P C.φ o (.mget str zero m k okk) = true) (hs : stepS I st o.dst K (.mget str zero m k okk)) :
    o.wp C.P a w (Lands C w0 S M N I γ K) Q := by
  obtain ⟨dst, op, ty, pos, aft, gd⟩ := o
  simp only [okS] at hk
  split at hk
  case h_2 => cases hk
  rename_i t m' k' ok'
  simp only [Bool.and_eq_true, beq_iff_eq] at hk
  obtain ⟨⟨⟨rfl, h0⟩, h1⟩, h2⟩ := hk
  obtain ⟨kt, et, d, ht, hkt, hdm, hzz⟩ := okMapT_run h0
  obtain ⟨i, z, hi, hz, hzc⟩ := hzz zero rfl
  have r1 := opd_rep hr h1
  have r2 := opd_rep hr h2
  simp only [stepS] at hs
  split at hs
  · rename_i n k0 e1 e2
    obtain ⟨kvs, r0, hki, hm, hget, hK⟩ := hs
    rw [e1] at r1
    obtain ⟨q1, _⟩ := r1
    have q2 := toD_rep e2 r2
    obtain ⟨r, es, clock, hg, hh, hkv⟩ := hr.objs n _ hm
    obtain ⟨ck, _⟩ := keyIs_isKey (P := C.P) hkt hdm hki q2 (⟨es⟩ : Array MapEntry).isEmpty 9999
    have hzr : RepD w (okOf w0 S γ st.o w) zero z := okConst_rep (C := C) (γ := γ) hzc
    rcases kvGet_now hdm hki q2 0 hget hkv with ⟨rfl, f1⟩ | ⟨x, v, j, rfl, f1, f2⟩
    · refine wp_value (u := if okk = true then .tuple #[z, .bool false] else z) (w' := w) ?_ ⟨γ, _, hK, fun _ _ => rfl, hr.put hd ?_⟩
      · simp at ck
        cases okk <;> simp [execOp, q1, hg, Instr.lookup, run_underlying ht, MapKept.run_getObj_map hh, ck, MapKept.run_findKey hkt f1, zeroValue, typeInfo, hi, hz, Result.andThen]
      · cases okk
        · exact hzr
        · exact ⟨[z, .bool false], rfl, _, _, rfl, hzr, _, _, rfl, rfl, rfl⟩
    · refine wp_value (u := if okk = true then .tuple #[v, .bool true] else v) (w' := w) ?_ ⟨γ, _, hK, fun _ _ => rfl, hr.put hd ?_⟩
      · simp at ck
        simp only [Nat.zero_add] at f1
        cases okk <;> simp [execOp, q1, hg, Instr.lookup, run_underlying ht, MapKept.run_getObj_map hh, ck, MapKept.run_findKey hkt f1, Result.andThen]
      · cases okk
        · exact f2
        · exact ⟨[v, .bool true], rfl, _, _, rfl, f2, _, _, rfl, rfl, rfl⟩
  · exact hs.elim
end
end Pay
