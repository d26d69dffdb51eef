/- The operations that turn nothing, the second half: memory that is read, places, cuts, lengths. -/
import Derived.Test.YthnddhfpkmbacaaDoorPayD
set_option linter.unusedSimpArgs false
set_option linter.unusedVariables false
namespace Pay
open Go
section
variable {C : Ctx} {w0 : World} {S M : Nat → Prop} {N : Nat} {γ : Nat → Value} {st : St} {a : Act} {w : World} {o : Oper} {v : V}
theorem okShape_one {P : Program} {t : TypeId} (h : okShape P t none = true) : (isAgg t).run P w = .ok false w := by
  unfold okShape at h
  split at h
  · simp at h
  · simp at h
  · rename_i d i h1 h2 hs ha
    unfold isAgg
    rw [Sem.run_bind, run_underlying hs w]
    cases d <;> simp_all
  · cases h
theorem okShape_many {P : Program} {t : TypeId} {n : Nat} (h : okShape P t (some n) = true) : (isAgg t).run P w = .ok true w ∧ (Go.sizeOf t).run P w = .ok n w := by
  unfold okShape at h
  split at h
  · rename_i f i hs hi
    simp only [beq_iff_eq, Option.some.injEq] at h
    subst h
    exact ⟨by unfold isAgg; rw [Sem.run_bind, run_underlying hs w]; rfl, by simp [Go.sizeOf, typeInfo, hi]⟩
  · rename_i f e i hs hi
    simp only [beq_iff_eq, Option.some.injEq] at h
    subst h
    exact ⟨by unfold isAgg; rw [Sem.run_bind, run_underlying hs w]; rfl, by simp [Go.sizeOf, typeInfo, hi]⟩
  · simp at h
  · cases h
theorem run_loadVar_one {P : Program} {t : TypeId} {p : Addr} {u : Value} (h : okShape P t none = true) (hc : w.cell? p = some u) : (loadVar t p).run P w = .ok u w := by
  simp [loadVar, okShape_one h, hc]
theorem run_loadVar_many {P : Program} {t : TypeId} {p : Addr} {us : List Value} (h : okShape P t (some us.length) = true) (hc : ∀ (j : Nat) (u : Value), us[j]? = some u → w.cell? (p.add j) = some u) :
    (loadVar t p).run P w = .ok (.agg ⟨us⟩) w := by
  obtain ⟨h1, h2⟩ := okShape_many (w := w) h
  have h3 := run_loadCells_list (P := P) w p us hc
  simp [loadVar, h1, h2, h3]
theorem row_cell {es : List (List D)} {sz : Nat} {u : Value} (h : RepO C w (okOf w0 S γ st.o w) γ (.row sz es) u) {i j : Nat} {e : List D} {c : D} (hi : es[i]? = some e) (hj : e[j]? = some c) :
    ∃ g cap us ty x, u = .slice (some ⟨g, 0, none⟩) es.length cap ∧ w.heap[g]? = some (.cells ⟨us⟩ ty (0, 0)) ∧ us[i * sz + j]? = some x ∧ RepD w (okOf w0 S γ st.o w) c x := by
  rcases h with ⟨rfl, _⟩ | ⟨g, cap, us, ty, rfl, _, hg, _, _, _, hs, hc, _⟩
  · simp at hi
  · obtain ⟨x, hx, hr⟩ := hc.get _ _ (flat_get hs i e j c hi hj)
    exact ⟨g, cap, us, ty, x, rfl, hg, hx, hr⟩
theorem sd_load (hr : Rel C w0 S M N γ st a w) {n : Option Nat} {p : Opd} (hk : okP C.P C.φ o (.load n p) = true) (he : evP st (.load n p) = some v) : Does C w0 S γ st a w o v := by
  obtain ⟨dst, op, ty, pos, aft, gd⟩ := o
  cases op <;> simp [okP] at hk
  rename_i t x'
  obtain ⟨h0, h1⟩ := hk
  have r1 := opd_rep hr h1
  simp only [evP] at he
  unfold loadV at he
  split at he
  · -- one cell of a box
    rename_i nm off e1
    rw [e1] at r1
    obtain ⟨g, hg, r1⟩ := r1
    split at he
    · rename_i cs hb
      obtain ⟨g', us, ty', e2, hh, hv, _⟩ := hr.objs nm _ hb
      rw [hg] at e2
      simp only [Value.pointer.injEq, Option.some.injEq, Addr.mk.injEq, and_true] at e2
      subst e2
      obtain ⟨u, hu, hru⟩ := hv.get _ _ he
      have hc : w.cell? ⟨g, off, none⟩ = some u := by rw [cell_of_row w g off _ _ _ hh]; simpa using hu
      exact ⟨u, by simp [execOp, r1, Instr.loadAt, Instr.sureAddr, run_loadVar_one h0 hc], hru⟩
    · cases he
  · -- a struct in a box
    rename_i k nm off e1
    rw [e1] at r1
    obtain ⟨g, hg, r1⟩ := r1
    split at he
    · rename_i cs hb
      obtain ⟨g', us, ty', e2, hh, hv, hone⟩ := hr.objs nm _ hb
      rw [hg] at e2
      simp only [Value.pointer.injEq, Option.some.injEq, Addr.mk.injEq, and_true] at e2
      subst e2
      split at he
      · rename_i hlen
        simp only [Option.some.injEq] at he
        subst he
        have hl := hv.length
        have hn : ((us.drop off).take k).length = k := by simp; omega
        have hc : ∀ (j : Nat) (u : Value), ((us.drop off).take k)[j]? = some u → w.cell? ((⟨g, off, none⟩ : Addr).add j) = some u := by
          intro j u hu
          rw [List.getElem?_take] at hu
          split at hu
          · rw [List.getElem?_drop] at hu
            rw [add_lit, cell_of_row w g _ _ _ _ hh]
            simpa using hu
          · cases hu
        have := run_loadVar_many (P := C.P) (t := t) (p := ⟨g, off, none⟩) (us := (us.drop off).take k) (by rw [hn]; exact h0) hc
        refine ⟨_, by (simp [execOp, r1, Instr.loadAt, Instr.sureAddr, this]; try rfl), ⟨_, rfl, (hv.drop off).take k, fun u hu => hone u (List.mem_of_mem_drop (List.mem_of_mem_take hu))⟩⟩
      · cases he
    · cases he
  · -- one cell of an element
    rename_i cs e1
    rw [e1] at r1
    obtain ⟨ad, r1, hok, hcs⟩ := r1
    split at he
    · rename_i c cs'
      simp only [Option.some.injEq] at he
      subst he
      obtain ⟨⟨u, hu, hru⟩, _⟩ := hcs
      have hc : w.cell? ad = some u := by simpa [Addr.add] using hu
      exact ⟨u, by simp [execOp, r1, Instr.loadAt, Instr.sureAddr, run_loadVar_one h0 hc], hru⟩
    · cases he
  · rename_i k cs e1
    rw [e1] at r1
    obtain ⟨ad, r1, hok, hcs⟩ := r1
    split at he
    · rename_i hlen
      simp only [Option.some.injEq] at he
      subst he
      obtain ⟨us, hl, hc, hv, hone⟩ := RepCs.load C γ (hcs.take k)
      have hn : us.length = k := by rw [hl, List.length_take]; omega
      subst hn
      have := run_loadVar_many (P := C.P) (t := t) (p := ad) (us := us) h0 (fun j u hu => by simpa using hc j u hu)
      exact ⟨_, by (simp [execOp, r1, Instr.loadAt, Instr.sureAddr, this]; try rfl), ⟨us, rfl, hv, hone⟩⟩
    · cases he
  · -- one cell of a row's element
    rename_i nm sz i off e1
    rw [e1] at r1
    obtain ⟨g, l, c0, hg, r1⟩ := r1
    split at he
    · rename_i sz' es hb
      split at he
      · rename_i hsz
        subst hsz
        split at he
        · rename_i e hi
          split at he
          · rename_i c hj
            simp only [Option.some.injEq] at he
            subst he
            obtain ⟨g', cap, us, ty', x, e2, hh, hx, hrx⟩ := row_cell (hr.objs nm _ hb) hi hj
            rw [hg] at e2
            simp only [Value.slice.injEq, Option.some.injEq, Addr.mk.injEq, and_true] at e2
            obtain ⟨rfl, _⟩ := e2
            have hc : w.cell? ⟨g, i * sz + off, none⟩ = some x := by rw [cell_of_row w g _ _ _ _ hh]; simpa using hx
            exact ⟨x, by simp [execOp, r1, Instr.loadAt, Instr.sureAddr, run_loadVar_one h0 hc], hrx⟩
          · cases he
        · cases he
      · cases he
    · cases he
  · rename_i k nm sz i off e1
    rw [e1] at r1
    obtain ⟨g, l, c0, hg, r1⟩ := r1
    split at he
    · rename_i sz' es hb
      split at he
      · rename_i hsz
        subst hsz
        split at he
        · rename_i e hi
          split at he
          · rename_i hlen
            simp only [Option.some.injEq] at he
            subst he
            have hcs : RepCs w (okOf w0 S γ st.o w) ⟨g, i * sz + off, none⟩ 0 ((e.drop off).take k) := by
              refine RepCs.of_get fun j c hj => ?_
              rw [List.getElem?_take] at hj
              split at hj
              · rw [List.getElem?_drop] at hj
                obtain ⟨g', cap, us, ty', x, e2, hh, hx, hrx⟩ := row_cell (hr.objs nm _ hb) hi hj
                rw [hg] at e2
                simp only [Value.slice.injEq, Option.some.injEq, Addr.mk.injEq, and_true] at e2
                obtain ⟨rfl, _⟩ := e2
                refine ⟨x, ?_, hrx⟩
                rw [add_lit, cell_of_row w g _ _ _ _ hh, ← Array.getElem?_toList, ← hx]
                congr 1; omega
              · cases hj
            obtain ⟨us, hl, hc, hv, hone⟩ := RepCs.load C γ hcs
            have hn : us.length = k := by rw [hl, List.length_take, List.length_drop]; omega
            subst hn
            have := run_loadVar_many (P := C.P) (t := t) (p := ⟨g, i * sz + off, none⟩) (us := us) h0 (fun j u hu => by simpa using hc j u hu)
            exact ⟨_, by (simp [execOp, r1, Instr.loadAt, Instr.sureAddr, this]; try rfl), ⟨us, rfl, hv, hone⟩⟩
          · cases he
        · cases he
      · cases he
    · cases he
  · cases he
theorem okField_run {P : Program} {s : TypeId} {f off : Nat} {n : Option (Option Nat)} (h : okField P s f off n = true) : ∃ fs fl i, P.underlying s = some (.struct fs) ∧ fs[f]? = some fl ∧ fl.offset = off ∧ P.info? fl.type = some i ∧ i.size ≠ 0 ∧
    ∀ k, n = some k → okShape P fl.type k = true := by
  unfold okField at h
  split at h
  · rename_i fs hs
    split at h
    · rename_i fl hf
      simp only [Bool.and_eq_true, beq_iff_eq] at h
      obtain ⟨⟨h1, h2⟩, h3⟩ := h
      split at h2
      · rename_i i hi
        refine ⟨fs, fl, i, hs, hf, h1, hi, by simpa using h2, fun k hk => ?_⟩
        subst hk
        exact h3
      · cases h2
    · cases h
  · cases h
theorem sd_faddr (hr : Rel C w0 S M N γ st a w) {off : Nat} {p : Opd} (hk : okP C.P C.φ o (.faddr off p) = true) (he : evP st (.faddr off p) = some v) : Does C w0 S γ st a w o v := by
  obtain ⟨dst, op, ty, pos, aft, gd⟩ := o
  cases op <;> simp [okP] at hk
  rename_i t x' f
  obtain ⟨h0, h1⟩ := hk
  obtain ⟨fs, fl, i, hs, hf, rfl, hi, hne, _⟩ := okField_run h0
  have r1 := opd_rep hr h1
  have hrun : ∀ p : Addr, (Instr.fieldAt t (.pointer (some p)) f).run C.P w = .ok (.pointer (some (p.add fl.offset))) w := by
    intro p
    simp [Instr.fieldAt, run_underlying hs, hf, Instr.sureAddr, fieldPlace, Go.sizeOf, typeInfo, hi, hne]
  simp only [evP] at he
  unfold faddrV at he
  split at he
  · rename_i nm o1 e1
    rw [e1] at r1
    obtain ⟨g, hg, r1⟩ := r1
    simp only [Option.some.injEq] at he
    subst he
    exact ⟨_, by (simp [execOp, r1, hrun]; try rfl), ⟨g, hg, by rw [add_lit]⟩⟩
  · rename_i cs e1
    rw [e1] at r1
    obtain ⟨ad, r1, hok, hcs⟩ := r1
    simp only [Option.some.injEq] at he
    subst he
    exact ⟨_, by (simp [execOp, r1, hrun]; try rfl), ⟨_, rfl, by rw [add_block]; exact hok, hcs.drop _⟩⟩
  · rename_i nm sz i1 o1 e1
    rw [e1] at r1
    obtain ⟨g, l, c0, hg, r1⟩ := r1
    simp only [Option.some.injEq] at he
    subst he
    exact ⟨_, by (simp [execOp, r1, hrun]; try rfl), ⟨g, l, c0, hg, by rw [add_lit]; simp [Nat.add_assoc]⟩⟩
  · cases he
theorem run_part {P : Program} {t : TypeId} {n : Option Nat} (h : okShape P t n = true) {cs : List V} {us : List Value} {ok : Nat → Prop} (hv : RepVs C w ok γ cs us) (hone : ∀ u ∈ us, u.oneCell' = true) {off : Nat} {v : V} (he : fldV off n (.agg cs) = some v) :
    ∃ u, (part t ⟨us⟩ off).run P w = .ok u w ∧ RepV C w ok γ v u := by
  unfold fldV at he
  split at he
  · rename_i cs' heq
    simp only [V.agg.injEq] at heq
    subst heq
    obtain ⟨u, hu, hru⟩ := hv.get _ _ he
    exact ⟨u, by simp [part, okShape_one h, hu], hru⟩
  · rename_i k cs' heq
    simp only [V.agg.injEq] at heq
    subst heq
    split at he
    · simp only [Option.some.injEq] at he
      subst he
      obtain ⟨h1, h2⟩ := okShape_many (w := w) h
      refine ⟨.agg ⟨(us.drop off).take k⟩, ?_, ⟨_, rfl, (hv.drop off).take k, fun u hu => hone u (List.mem_of_mem_drop (List.mem_of_mem_take hu))⟩⟩
      simp only [part, Sem.run_bind, h1, Result.andThen_ok, if_true, h2, Sem.run_pure]
      congr 2
      apply Array.ext'
      simp [List.drop_take]
    · cases he
  · cases he
theorem sd_fld (hr : Rel C w0 S M N γ st a w) {off : Nat} {n : Option Nat} {x : Opd} (hk : okP C.P C.φ o (.fld off n x) = true) (he : evP st (.fld off n x) = some v) : Does C w0 S γ st a w o v := by
  obtain ⟨dst, op, ty, pos, aft, gd⟩ := o
  cases op <;> simp [okP] at hk
  rename_i t x' f
  obtain ⟨h0, h1⟩ := hk
  obtain ⟨fs, fl, i, hs, hf, rfl, hi, hne, hsh⟩ := okField_run h0
  have r1 := opd_rep hr h1
  simp only [evP] at he
  cases hx : opd st.s x with
  | agg cs =>
    rw [hx] at r1 he
    obtain ⟨us, r1, hv, hone⟩ := r1
    obtain ⟨u, hu, hru⟩ := run_part (P := C.P) (hsh _ rfl) hv hone he
    exact ⟨u, by simp [execOp, r1, Instr.field, run_underlying hs, hf, asAgg, hu], hru⟩
  | _ => rw [hx] at he; cases n <;> simp [fldV] at he
theorem okSlice_run {P : Program} {t : TypeId} {sz : Nat} (h : okSlice P t sz = true) : ∃ e i, P.underlying t = some (.slice e) ∧ P.info? e = some i ∧ i.size = sz ∧ sz ≠ 0 := by
  unfold okSlice at h
  split at h
  · rename_i e hs
    split at h
    · rename_i i hi
      simp only [Bool.and_eq_true, beq_iff_eq, bne_iff_ne] at h
      exact ⟨e, i, hs, hi, h.1, h.2⟩
    · cases h
  · cases h
theorem okArray_run {P : Program} {t : TypeId} {len sz : Nat} {e : TypeId} (h : okArray P t len sz = some e) : ∃ i, P.underlying t = some (.array len e) ∧ P.info? e = some i ∧ i.size = sz := by
  unfold okArray at h
  split at h
  · rename_i n e' hs
    split at h
    · rename_i i hi
      split at h
      · rename_i hh
        simp only [Option.some.injEq] at h
        subst h
        obtain ⟨rfl, rfl⟩ := hh
        exact ⟨i, hs, hi, rfl⟩
      · cases h
    · cases h
  · cases h
theorem sd_iaddr (hr : Rel C w0 S M N γ st a w) {sz : Nat} {x i : Opd} (hk : okP C.P C.φ o (.iaddr sz x i) = true) (he : evP st (.iaddr sz x i) = some v) : Does C w0 S γ st a w o v := by
  obtain ⟨dst, op, ty, pos, aft, gd⟩ := o
  cases op <;> simp [okP] at hk
  rename_i t x' i'
  obtain ⟨⟨h0, h1⟩, h2⟩ := hk
  obtain ⟨e, inf, hs, hi, rfl, hne⟩ := okSlice_run h0
  have r1 := opd_rep hr h1
  have r2 := opd_rep hr h2
  simp only [evP] at he
  unfold iaddrV at he
  split at he
  · rename_i es kd n e1 e2
    rw [e1] at r1
    rw [e2] at r2
    simp only [RepV, RepD] at r2
    obtain ⟨A, cap, sz', hx, hlc, hsz, hc⟩ := r1
    split at he
    · rename_i h0n
      split at he
      · rename_i el hel
        split at he
        · rename_i hlen
          simp only [Option.some.injEq] at he
          subst he
          have hlt : n.toNat < es.length := (List.getElem?_eq_some_iff.1 hel).1
          obtain ⟨ad, rfl, hok, hes⟩ := hc (by intro h; simp [h] at hlt)
          have hsz' : sz' = inf.size := by rw [← hlen]; exact (hsz el (List.mem_of_getElem? hel)).symm
          subst hsz'
          have hcs := hes.get hsz _ _ hel
          refine ⟨.pointer (some (ad.add (n.toNat * inf.size))), ?_, ⟨_, rfl, by rw [add_block]; exact hok, RepCs.at_ (by simpa using hcs)⟩⟩
          have hlt' : n < (es.length : Int) := by omega
          simp [execOp, hx, r2, Instr.indexAt, asIntOf, run_underlying hs, h0n, hlt', Go.sizeOf, typeInfo, hi]
        · cases he
      · cases he
    · cases he
  · rename_i nm kd n e1 e2
    rw [e1] at r1
    rw [e2] at r2
    simp only [RepV, RepD] at r2
    replace r1 := r1.1
    split at he
    · rename_i sz' es hb
      split at he
      · rename_i hh
        obtain ⟨rfl, h0n, hlt⟩ := hh
        simp only [Option.some.injEq] at he
        subst he
        rcases hr.objs nm _ hb with ⟨rfl, _⟩ | ⟨g, cap, us, ty', hgm, _, hh, _⟩
        · simp at hlt; omega
        · refine ⟨.pointer (some ⟨g, n.toNat * inf.size, none⟩), ?_, ⟨g, _, _, hgm, by simp⟩⟩
          rw [hgm] at r1
          simp [execOp, r1, r2, Instr.indexAt, asIntOf, run_underlying hs, h0n, hlt, Go.sizeOf, typeInfo, hi, add_lit]
      · cases he
    · cases he
  · cases he
theorem sd_iaddrA (hr : Rel C w0 S M N γ st a w) {len sz : Nat} {x i : Opd} (hk : okP C.P C.φ o (.iaddrA len sz x i) = true) (he : evP st (.iaddrA len sz x i) = some v) : Does C w0 S γ st a w o v := by
  obtain ⟨dst, op, ty, pos, aft, gd⟩ := o
  cases op <;> simp [okP] at hk
  rename_i t x' i'
  obtain ⟨⟨h0, h1⟩, h2⟩ := hk
  obtain ⟨e, h0⟩ := Option.isSome_iff_exists.1 h0
  obtain ⟨inf, hs, hi, rfl⟩ := okArray_run h0
  have r1 := opd_rep hr h1
  have r2 := opd_rep hr h2
  simp only [evP] at he
  unfold iaddrAV at he
  split at he
  · rename_i nm off kd n e1 e2
    rw [e1] at r1
    rw [e2] at r2
    simp only [RepV, RepD] at r2
    obtain ⟨g, hg, r1⟩ := r1
    split at he
    · rename_i hh
      simp only [Option.some.injEq] at he
      subst he
      refine ⟨.pointer (some ⟨g, off + n.toNat * inf.size, none⟩), ?_, ⟨g, hg, rfl⟩⟩
      simp [execOp, r1, r2, Instr.indexAt, Instr.sureAddr, asIntOf, run_underlying hs, hh.1, hh.2, Go.sizeOf, typeInfo, hi, add_lit]
    · cases he
  · cases he
theorem sd_idx (hr : Rel C w0 S M N γ st a w) {x i : Opd} (hk : okP C.P C.φ o (.idx x i) = true) (he : evP st (.idx x i) = some v) : Does C w0 S γ st a w o v := by
  obtain ⟨dst, op, ty, pos, aft, gd⟩ := o
  cases op <;> simp [okP] at hk
  rename_i t x' i'
  obtain ⟨⟨h0, h1⟩, h2⟩ := hk
  have r1 := opd_rep hr h1
  have r2 := opd_rep hr h2
  unfold strSlice at h0
  split at h0
  case h_2 => cases h0
  rename_i hs
  simp only [evP] at he
  unfold idxV at he
  split at he
  · rename_i s kd n e1 e2
    rw [e1] at r1
    rw [e2] at r2
    simp only [RepV, RepD] at r1 r2
    split at he
    · rename_i h0n
      split at he
      · rename_i b hb
        simp only [Option.some.injEq] at he
        subst he
        refine ⟨.int .u8 b.toNat, ?_, rfl⟩
        have hlt : n.toNat < s.length := (List.getElem?_eq_some_iff.1 hb).1
        have hg : (⟨s.toArray⟩ : ByteArray)[n.toNat]? = some b := by
          have h1 : n.toNat < (⟨s.toArray⟩ : ByteArray).size := by simpa [ByteArray.size] using hlt
          rw [getElem?_pos (⟨s.toArray⟩ : ByteArray) n.toNat h1]
          have : s[n.toNat] = b := (List.getElem?_eq_some_iff.1 hb).2
          rw [← this]
          rfl
        simp [execOp, r1, r2, Instr.index, asIntOf, run_underlying hs, h0n, hg]
      · cases he
    · cases he
  · cases he
theorem sd_idxA (hr : Rel C w0 S M N γ st a w) {len sz : Nat} {k : Option Nat} {x i : Opd} (hk : okP C.P C.φ o (.idxA len sz k x i) = true) (he : evP st (.idxA len sz k x i) = some v) : Does C w0 S γ st a w o v := by
  obtain ⟨dst, op, ty, pos, aft, gd⟩ := o
  cases op <;> simp [okP] at hk
  rename_i t x' i'
  obtain ⟨⟨h0, h1⟩, h2⟩ := hk
  split at h0
  case h_2 => cases h0
  rename_i e he0
  obtain ⟨inf, hs, hi, rfl⟩ := okArray_run he0
  have r1 := opd_rep hr h1
  have r2 := opd_rep hr h2
  simp only [evP] at he
  unfold idxAV at he
  split at he
  · rename_i q kd n e2
    rw [e2] at r2
    simp only [RepV, RepD] at r2
    split at he
    · rename_i hh
      cases hx : opd st.s x with
      | agg cs =>
        rw [hx] at r1 he
        obtain ⟨us, r1, hv, hone⟩ := r1
        obtain ⟨u, hu, hru⟩ := run_part (P := C.P) h0 hv hone he
        refine ⟨u, ?_, hru⟩
        simp [execOp, r1, r2, Instr.index, asIntOf, run_underlying hs, hh.1, hh.2, Go.sizeOf, typeInfo, hi, hu]
      | _ => rw [hx] at he; cases k <;> simp [fldV] at he
    · cases he
  · cases he
theorem extract_list (s : List UInt8) (l h : Nat) : (⟨s.toArray⟩ : ByteArray).extract l h = ⟨((s.take h).drop l).toArray⟩ := by
  apply ByteArray.ext
  apply Array.ext'
  simp [ByteArray.data_extract, List.drop_take]
theorem sd_slcS (hr : Rel C w0 S M N γ st a w) {x : Opd} {lo hi : Option Opd} (hk : okP C.P C.φ o (.slcS x lo hi) = true) (he : evP st (.slcS x lo hi) = some v) : Does C w0 S γ st a w o v := by
  obtain ⟨dst, op, ty, pos, aft, gd⟩ := o
  simp only [okP] at hk
  split at hk
  case h_2 => cases hk
  rename_i t x' lo' hi'
  simp only [Bool.and_eq_true] at hk
  obtain ⟨⟨⟨h0, h1⟩, h2⟩, h3⟩ := hk
  have r1 := opd_rep hr h1
  simp only [evP] at he
  unfold slcSV at he
  split at he
  · rename_i s e1
    rw [e1] at r1
    simp only [RepV, RepD] at r1
    split at he
    · rename_i h hh
      split at he
      · rename_i l hl
        simp only [Option.some.injEq] at he
        subst he
        obtain ⟨hb, _, _⟩ := run_bounds (P := C.P) (φ := C.φ) (isS := false) (cap := s.length) (Nat.le_refl _) hh hl hr h2 h3
        refine ⟨.string ⟨((s.take h).drop l).toArray⟩, ?_, rfl⟩
        unfold strSlice at h0
        split at h0
        · rename_i hs
          have hsz : (⟨s.toArray⟩ : ByteArray).size = s.length := by simp [ByteArray.size]
          simp [execOp, r1, Instr.sliceAt, Instr.slice, run_underlying hs, hsz, hb, extract_list]
        · cases h0
      · cases he
    · cases he
  · cases he
theorem RepEs.cut {ok : Nat → Prop} {ad : Addr} {sz : Nat} {es : List (List D)} (h : RepEs w ok ad 0 es) (hs : ∀ e ∈ es, e.length = sz) (l n : Nat) : RepEs w ok (ad.add (l * sz)) 0 ((es.take n).drop l) := by
  refine RepEs.of_get (sz := sz) (fun e he => hs e (List.mem_of_mem_take (List.mem_of_mem_drop he))) fun i e hi => ?_
  rw [List.getElem?_drop, List.getElem?_take] at hi
  split at hi
  · have := h.get hs _ _ hi
    refine RepCs.at_ ?_
    rw [Nat.add_mul] at this
    rwa [show l * sz + (0 + i * sz) = 0 + (l * sz + i * sz) by omega]
  · cases hi
theorem sd_slc (hr : Rel C w0 S M N γ st a w) {sz : Nat} {x : Opd} {lo hi : Option Opd} (hk : okP C.P C.φ o (.slc sz x lo hi) = true) (he : evP st (.slc sz x lo hi) = some v) : Does C w0 S γ st a w o v := by
  obtain ⟨dst, op, ty, pos, aft, gd⟩ := o
  simp only [okP] at hk
  split at hk
  case h_2 => cases hk
  rename_i t x' lo' hi'
  simp only [Bool.and_eq_true] at hk
  obtain ⟨⟨⟨h0, h1⟩, h2⟩, h3⟩ := hk
  have r1 := opd_rep hr h1
  simp only [evP] at he
  unfold slcV at he
  split at he
  · rename_i es e1
    rw [e1] at r1
    obtain ⟨A, cap, sz', hx, hlc, hsz, hc⟩ := r1
    split at he
    · rename_i h hh
      split at he
      · rename_i l hl
        split at he
        · rename_i hall
          simp only [Option.some.injEq] at he
          subst he
          obtain ⟨hb, hlh, hhl⟩ := run_bounds (P := C.P) (φ := C.φ) (isS := true) (cap := cap) hlc hh hl hr h2 h3
          obtain ⟨e, inf, hs, hi, rfl, hne⟩ := okSlice_run h0
          have hall' : ∀ e ∈ es, e.length = inf.size := by simpa using hall
          refine ⟨.slice (if cap = l then A else A.map (·.add (l * inf.size))) (h - l) (cap - l), ?_, ?_⟩
          · simp [execOp, hx, Instr.sliceAt, Instr.slice, run_underlying hs, hb, Go.sizeOf, typeInfo, hi]
          · refine ⟨if cap = l then A else A.map (·.add (l * inf.size)), cap - l, inf.size, ?_, ?_, fun e he => hall' e (List.mem_of_mem_take (List.mem_of_mem_drop he)), fun hne' => ?_⟩
            · simp; congr 1; omega
            · simp; omega
            · have hpos : 0 < ((es.take h).drop l).length := List.length_pos_iff.2 hne'
              simp at hpos
              obtain ⟨ad, rfl, hok, hes⟩ := hc (by intro h'; simp [h'] at hpos)
              rw [if_neg (by omega)]
              exact ⟨_, rfl, by rw [add_block]; exact hok, hes.cut hall' l h⟩
        · cases he
      · cases he
    · cases he
  · cases he
theorem sd_lenS (hr : Rel C w0 S M N γ st a w) {x : Opd} (hk : okP C.P C.φ o (.lenS x) = true) (he : evP st (.lenS x) = some v) : Does C w0 S γ st a w o v := by
  obtain ⟨dst, op, ty, pos, aft, gd⟩ := o
  simp only [okP] at hk
  split at hk
  case h_2 => cases hk
  rename_i x' t
  simp only [Bool.and_eq_true] at hk
  obtain ⟨h0, h1⟩ := hk
  have r1 := opd_rep hr h1
  unfold strSlice at h0
  split at h0
  case h_2 => cases h0
  rename_i hs
  simp only [evP] at he
  split at he
  · rename_i s e1
    rw [e1] at r1
    simp only [RepV, RepD] at r1
    simp only [Option.some.injEq] at he
    subst he
    refine ⟨goInt s.length, ?_, rfl⟩
    have hsz : (⟨s.toArray⟩ : ByteArray).size = s.length := by simp [ByteArray.size]
    simp [execOp, resolve, invoke, builtin, Builtin.len_, r1, run_underlying hs, hsz]
  · cases he
theorem sd_len (hr : Rel C w0 S M N γ st a w) {x : Opd} (hk : okP C.P C.φ o (.len x) = true) (he : evP st (.len x) = some v) : Does C w0 S γ st a w o v := by
  obtain ⟨dst, op, ty, pos, aft, gd⟩ := o
  simp only [okP] at hk
  split at hk
  case h_2 => cases hk
  rename_i x' t
  simp only [Bool.and_eq_true] at hk
  obtain ⟨h0, h1⟩ := hk
  have r1 := opd_rep hr h1
  split at h0
  case h_2 => cases h0
  rename_i e hs
  have key : ∀ A l c, a.eval x' = .slice A l c → Does C w0 S γ st a w { dst := dst, op := .call { callee := .builtin .len, args := ⟨[x']⟩, argTypes := ⟨[t]⟩ }, type := ty, pos := pos, after := aft, guard := gd } (.d (.int .i64 l)) := by
    intro A l c hx
    refine ⟨goInt l, ?_, rfl⟩
    simp [execOp, resolve, invoke, builtin, Builtin.len_, hx, run_underlying hs]
  simp only [evP] at he
  unfold lenV at he
  split at he
  · rename_i es e1
    rw [e1] at r1
    obtain ⟨A, cap, sz', hx, _⟩ := r1
    simp only [Option.some.injEq] at he
    subst he
    exact key _ _ _ hx
  · rename_i e1
    rw [e1] at r1
    obtain ⟨A, hx⟩ := r1
    simp only [Option.some.injEq] at he
    subst he
    exact key _ _ _ hx
  · rename_i nm e1
    rw [e1] at r1
    replace r1 := r1.1
    split at he
    · rename_i sz es hb
      simp only [Option.some.injEq] at he
      subst he
      rcases hr.objs nm _ hb with ⟨rfl, A, hh⟩ | ⟨g, cap, us, ty', hh, _⟩
      · rw [hh] at r1
        exact key _ _ _ r1
      · rw [hh] at r1
        exact key _ _ _ r1
    · cases he
  · cases he
theorem opds_rep (hr : Rel C w0 S M N γ st a w) : ∀ {xs : List Operand} {ys : List Opd}, okOpds C.φ xs ys = true → RepVs C w (okOf w0 S γ st.o w) γ (ys.map (opd st.s)) (xs.map a.eval)
  | [], [], _ => rfl
  | x :: xs, y :: ys, h => by
    simp only [okOpds, Bool.and_eq_true] at h
    exact ⟨_, _, rfl, opd_rep hr h.1, opds_rep hr h.2⟩
  | [], _ :: _, h => by simp [okOpds] at h
  | _ :: _, [], h => by simp [okOpds] at h
theorem sd_mm (hr : Rel C w0 S M N γ st a w) {mx : Bool} {xs : List Opd} (hk : okP C.P C.φ o (.mm mx xs) = true) (he : evP st (.mm mx xs) = some v) : Does C w0 S γ st a w o v := by
  obtain ⟨dst, op, ty, pos, aft, gd⟩ := o
  have key : ∀ (xs' : List Operand) (ats : Array TypeId) (b : Bool), okOpds C.φ xs' xs = true → mx = b →
      Does C w0 S γ st a w { dst := dst, op := .call { callee := .builtin (if b then .max else .min), args := ⟨xs'⟩, argTypes := ats }, type := ty, pos := pos, after := aft, guard := gd } v := by
    intro xs' ats b hx hb
    subst hb
    have r := opds_rep hr hx
    simp only [evP] at he
    unfold mmV at he
    split at he
    · rename_i k x k' y heq
      rw [heq] at r
      obtain ⟨u1, us, hu, r1, u2, us2, hu2, r2, r3⟩ := r
      simp only [RepVs] at r3
      simp only [RepV, RepD] at r1 r2
      subst r1 r2 r3 hu2
      split at he
      · rename_i hkk
        subst hkk
        simp only [Option.some.injEq] at he
        subst he
        refine ⟨.int k (if mx then (if y > x then y else x) else (if y < x then y else x)), ?_, rfl⟩
        cases mx
        · simp [execOp, resolve, invoke, builtin, hu, Builtin.min_, Builtin.min2]
        · simp [execOp, resolve, invoke, builtin, hu, Builtin.max_, Builtin.max2]
      · cases he
    · rename_i k x k1 y k2 z k3 q heq
      rw [heq] at r
      obtain ⟨u1, us, hu, r1, u2, us2, hu2, r2, u3, us3, hu3, r3, u4, us4, hu4, r4, r5⟩ := r
      simp only [RepVs] at r5
      simp only [RepV, RepD] at r1 r2 r3 r4
      subst r1 r2 r3 r4 r5 hu4 hu3 hu2
      split at he
      · rename_i hkk
        obtain ⟨rfl, rfl, rfl⟩ := hkk
        simp only [Option.some.injEq] at he
        subst he
        refine ⟨_, ?_, rfl⟩
        cases mx
        · simp [execOp, resolve, invoke, builtin, hu, Builtin.min_, Builtin.min2]
        · simp [execOp, resolve, invoke, builtin, hu, Builtin.max_, Builtin.max2]
      · cases he
    · cases he
  simp only [okP] at hk
  split at hk
  · rename_i ats xs'
    simp only [Bool.and_eq_true] at hk
    exact key _ _ true hk.2 hk.1
  · rename_i ats xs'
    simp only [Bool.and_eq_true, Bool.not_eq_true'] at hk
    exact key _ _ false hk.2 hk.1
  · cases hk
theorem sd_fnv (hr : Rel C w0 S M N γ st a w) {f : Nat} {caps : List Opd} (hk : okP C.P C.φ o (.fnv f caps) = true) (he : evP st (.fnv f caps) = some v) : Does C w0 S γ st a w o v := by
  obtain ⟨dst, op, ty, pos, aft, gd⟩ := o
  simp only [okP] at hk
  split at hk
  case h_2 => cases hk
  rename_i g caps'
  simp only [Bool.and_eq_true, beq_iff_eq] at hk
  obtain ⟨rfl, h1⟩ := hk
  have r := opds_rep hr h1
  simp only [evP, Option.some.injEq] at he
  subst he
  refine ⟨_, by (simp [execOp, Instr.makeFunc]; try rfl), ⟨caps'.toList.map a.eval, ?_, r⟩⟩
  congr 1
  apply Array.ext'
  simp
theorem sd_nilc (hr : Rel C w0 S M N γ st a w) {x : Opd} (hk : okP C.P C.φ o (.nilc x) = true) (he : evP st (.nilc x) = some v) : Does C w0 S γ st a w o v := by
  obtain ⟨dst, op, ty, pos, aft, gd⟩ := o
  cases op <;> simp [okP] at hk
  have r1 := opd_rep hr hk
  simp only [evP] at he
  split at he
  · rename_i n off e1
    rw [e1] at r1
    simp only [Option.some.injEq] at he
    subst he
    obtain ⟨g, hg, r1⟩ := r1
    exact ⟨_, by (simp [execOp, r1]; try rfl), ⟨g, hg, rfl⟩⟩
  · rename_i f caps e1
    rw [e1] at r1
    simp only [Option.some.injEq] at he
    subst he
    obtain ⟨us, hu, r1⟩ := r1
    exact ⟨_, by (simp [execOp, hu]; try rfl), ⟨us, rfl, r1⟩⟩
  · cases he
theorem okZeros_rep {ok : Nat → Prop} : ∀ {zs : List Value} {vs : List V}, okZeros zs vs = true → RepVs C w ok γ vs zs ∧ ∀ u ∈ zs, u.oneCell' = true
  | [], [], _ => ⟨rfl, by simp⟩
  | z :: zs, v :: vs, h => by
    simp only [okZeros, Bool.and_eq_true] at h
    obtain ⟨h1, h2⟩ := okZeros_rep h.2
    refine ⟨⟨z, zs, rfl, okConst_rep h.1, h1⟩, fun u hu => ?_⟩
    rcases List.mem_cons.1 hu with rfl | hu
    · have := h.1
      unfold okConst at this
      split at this <;> first | rfl | cases this
    · exact h2 u hu
  | [], _ :: _, h => by simp [okZeros] at h
  | _ :: _, [], h => by simp [okZeros] at h
theorem okZero_run {P : Program} {t : TypeId} {zs : List V} (h : okZero P t zs = true) : ∃ i z, P.info? t = some i ∧ i.zero = some z ∧ okZeros z.cells.toList zs = true ∧ i.size = zs.length := by
  unfold okZero at h
  split at h
  · rename_i i hi
    split at h
    · rename_i z hz
      simp only [Bool.and_eq_true, beq_iff_eq] at h
      exact ⟨i, z, hi, hz, h.1, h.2⟩
    · cases h
  · cases h
theorem fold_set (off : Nat) : ∀ (l : List Value) (k : Nat) (cs : Array Value), off + k + l.length ≤ cs.size →
    ((l.zipIdx k).foldl (fun cs (x : Value × Nat) => cs.setIfInBounds (off + x.2) x.1) cs).toList = cs.toList.take (off + k) ++ l ++ cs.toList.drop (off + k + l.length)
  | [], k, cs, h => by simp
  | v :: l, k, cs, h => by
    simp only [List.length_cons] at h
    rw [List.zipIdx_cons, List.foldl_cons, fold_set off l (k + 1) _ (by simp; omega)]
    simp only [Array.toList_setIfInBounds, List.length_cons]
    have hlt : off + k < cs.toList.length := by simp; omega
    rw [show off + (k + 1) = off + k + 1 by omega, List.drop_set_of_lt (by omega)]
    have : (cs.toList.set (off + k) v).take (off + k + 1) = cs.toList.take (off + k) ++ [v] := by
      rw [List.take_succ_eq_append_getElem (by simpa using hlt)]
      simp [List.take_set_of_le]
    rw [this]
    simp [Nat.add_assoc, Nat.add_comm 1]
theorem cellsV_rep {ok : Nat → Prop} {x : V} {v : Value} {cs : List V} (h : cellsV x = some cs) (hr : RepV C w ok γ x v) : RepVs C w ok γ cs v.cells.toList ∧ ∀ u ∈ v.cells.toList, u.oneCell' = true := by
  have key : ∀ (y : V), RepV C w ok γ y v → v.oneCell' = true → RepVs C w ok γ [y] v.cells.toList ∧ ∀ u ∈ v.cells.toList, u.oneCell' = true := by
    intro y hy h1
    have : v.cells = #[v] := by cases v <;> first | rfl | simp [Value.oneCell'] at h1
    rw [this]
    exact ⟨⟨v, [], rfl, hy, rfl⟩, by simpa using h1⟩
  unfold cellsV at h
  split at h
  · simp only [Option.some.injEq] at h
    subst h
    obtain ⟨us, rfl, h1, h2⟩ := hr
    exact ⟨h1, h2⟩
  · cases h
  · cases h
  · rename_i h1 h2 h3
    simp only [Option.some.injEq] at h
    subst h
    refine key _ hr ?_
    cases x with
    | d x => exact RepD.one hr
    | cap0 => obtain ⟨A, rfl⟩ := hr; rfl
    | nilp => simp only [RepV] at hr; subst hr; rfl
    | agg cs => exact absurd rfl (h1 cs)
    | ptr n off => obtain ⟨g, _, rfl⟩ := hr; rfl
    | own n => exact hr.2
    | eptr n sz i off => obtain ⟨g, l, c, _, rfl⟩ := hr; rfl
    | cptr cs => obtain ⟨a, rfl, _⟩ := hr; rfl
    | fn f caps => obtain ⟨us, rfl, _⟩ := hr; rfl
    | tup vs => exact absurd rfl (h2 vs)
    | mref n => exact hr.2
    | undef => exact absurd rfl h3
theorem fill_rep (hr : Rel C w0 S M N γ st a w) {place : Nat → Option (Nat × Nat)} : ∀ {ps : List (Nat × Operand)} {qs : List (Nat × Nat × Opd)} {cs out : List V} {us : Array Value},
    okParts C.φ place ps qs = true → buildV (opd st.s) cs qs = some out → RepVs C w (okOf w0 S γ st.o w) γ cs us.toList → (∀ u ∈ us.toList, u.oneCell' = true) →
    ∃ vs : List Value, Instr.fill place us (ps.map fun (i, x) => (i, a.eval x)) = some ⟨vs⟩ ∧ RepVs C w (okOf w0 S γ st.o w) γ out vs ∧ ∀ u ∈ vs, u.oneCell' = true
  | [], [], cs, out, us, _, hb, hv, h1 => by
    simp only [buildV, Option.some.injEq] at hb
    subst hb
    exact ⟨us.toList, by simp [Instr.fill], hv, h1⟩
  | (i, x) :: ps, (off, size, y) :: qs, cs, out, us, hk, hb, hv, h1 => by
    simp only [okParts, Bool.and_eq_true, beq_iff_eq] at hk
    obtain ⟨⟨hp, hx⟩, hk⟩ := hk
    simp only [buildV] at hb
    split at hb
    · rename_i new hnew
      split at hb
      · rename_i hh
        obtain ⟨rfl, hle⟩ := hh
        obtain ⟨c1, c2⟩ := cellsV_rep hnew (opd_rep hr hx)
        have hl1 := c1.length
        have hl2 := hv.length
        have hsz : (a.eval x).cells.size = new.length := by simpa using hl1
        have hus : us.size = cs.length := by simpa using hl2
        have hf := fold_set off (a.eval x).cells.toList 0 us (by simp; omega)
        simp only [Nat.add_zero] at hf
        obtain ⟨vs, e1, e2, e3⟩ := fill_rep hr (us := ((a.eval x).cells.toList.zipIdx 0).foldl (fun cs (x : Value × Nat) => cs.setIfInBounds (off + x.2) x.1) us) hk hb
          (by rw [hf]; unfold setRange; rw [← hl1]; exact ((hv.take off).append c1).append (hv.drop _))
          (by
            rw [hf]
            intro u hu
            rcases List.mem_append.1 hu with hu | hu
            · rcases List.mem_append.1 hu with hu | hu
              · exact h1 u (List.mem_of_mem_take hu)
              · exact c2 u hu
            · exact h1 u (List.mem_of_mem_drop hu))
        refine ⟨vs, ?_, e2, e3⟩
        rw [List.map_cons, Instr.fill]
        simp only [hp]
        rw [if_neg (by simp; omega)]
        rw [← e1]
        congr 1
        rw [← Array.foldl_toList]
        simp
      · cases hb
    · cases hb
  | [], _ :: _, _, _, _, h, _, _, _ => by simp [okParts] at h
  | _ :: _, [], _, _, _, h, _, _, _ => by simp [okParts] at h
theorem sd_build (hr : Rel C w0 S M N γ st a w) {zero : List V} {parts : List (Nat × Nat × Opd)} (hk : okP C.P C.φ o (.build zero parts) = true) (he : evP st (.build zero parts) = some v) : Does C w0 S γ st a w o v := by
  obtain ⟨dst, op, ty, pos, aft, gd⟩ := o
  simp only [okP] at hk
  split at hk
  case h_2 => cases hk
  rename_i t ps
  simp only [Bool.and_eq_true] at hk
  obtain ⟨h0, h1⟩ := hk
  obtain ⟨i, z, hi, hz, hzs, hsz⟩ := okZero_run h0
  obtain ⟨z1, z2⟩ := okZeros_rep (C := C) (w := w) (γ := γ) (ok := okOf w0 S γ st.o w) hzs
  simp only [evP, Option.map_eq_some_iff] at he
  obtain ⟨out, hb, rfl⟩ := he
  have hm : ∀ vs : Array Value, C.P.built t (ps.map fun (i, x) => (i, a.eval x)).toList = some vs → (Instr.build t (ps.map fun (i, x) => (i, a.eval x))).run C.P w = .ok (.agg vs) w := fun vs h => run_build w t _ vs h
  have hpl : (ps.map fun (i, x) => (i, a.eval x)).toList = ps.toList.map fun (i, x) => (i, a.eval x) := by simp
  unfold okBuild at h1
  split at h1
  · rename_i fs hs
    split at h1
    · rename_i places hp
      obtain ⟨vs, e1, e2, e3⟩ := fill_rep hr (us := z.cells) h1 hb z1 z2
      have := hm ⟨vs⟩ (by rw [hpl]; unfold Program.built; simp only [hi, hs, hz, hp]; exact e1)
      exact ⟨.agg ⟨vs⟩, by simp [execOp, this], ⟨vs, rfl, e2, e3⟩⟩
    · cases h1
  · rename_i n e hs
    split at h1
    · rename_i ie hie
      obtain ⟨vs, e1, e2, e3⟩ := fill_rep hr (us := z.cells) h1 hb z1 z2
      have := hm ⟨vs⟩ (by rw [hpl]; unfold Program.built; simp only [hi, hs, hz, hie]; exact e1)
      exact ⟨.agg ⟨vs⟩, by simp [execOp, this], ⟨vs, rfl, e2, e3⟩⟩
    · cases h1
  · cases h1
end
end Pay
