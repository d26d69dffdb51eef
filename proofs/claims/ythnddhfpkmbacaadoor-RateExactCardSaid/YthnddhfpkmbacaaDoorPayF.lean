/- '==' of structs, cell by cell; all operations that turn nothing. -/
import Derived.Laws.StructEq
import Derived.Laws.BytesArg
import Derived.Laws.Cells
import Derived.Test.YthnddhfpkmbacaaDoorPayE
set_option linter.unusedSimpArgs false
set_option linter.unusedVariables false
namespace Pay
open Go
theorem eqCells_append : ∀ {k1 k2 : List Nat} {xs ys : List V} {b : Bool}, eqCells (k1 ++ k2) xs ys = some b →
    ∃ b1 b2, eqCells k1 (xs.take k1.length) (ys.take k1.length) = some b1 ∧ eqCells k2 (xs.drop k1.length) (ys.drop k1.length) = some b2 ∧ b = (b1 && b2)
  | [], k2, xs, ys, b, h => ⟨true, b, by simp [eqCells], by simpa using h, by simp⟩
  | k :: k1, k2, xs, ys, b, h => by
    cases xs with
    | nil => simp [eqCells] at h
    | cons x xs =>
      cases ys with
      | nil => cases x <;> simp [eqCells] at h
      | cons y ys =>
        cases x <;> try (simp [eqCells] at h; done)
        rename_i x
        cases y <;> try (simp [eqCells] at h; done)
        rename_i y
        rw [List.cons_append, eqCells] at h
        split at h
        · rename_i c hc
          split at h
          · rename_i c' hc'
            simp only [Option.some.injEq] at h
            subst h
            obtain ⟨b1, b2, e1, e2, rfl⟩ := eqCells_append hc'
            exact ⟨c && b1, b2, by simp [eqCells, hc, e1], by simpa using e2, by simp [Bool.and_assoc]⟩
          · cases h
        · cases h
section
variable {C : Ctx} {w : World} {ok : Nat → Prop} {γ : Nat → Value}
theorem eqOne {P : Program} {f : Field} {d off : Nat} {k : Nat} {xs ys : List V} {us vs : List Value} {b : Bool} (hx : RepVs C w ok γ xs us) (hy : RepVs C w ok γ ys vs)
    (h : eqCells [k] ((xs.drop off).take 1) ((ys.drop off).take 1) = some b) (hk : (k = 0 ∧ ∃ q, P.underlying f.type = some (.int q)) ∨ (k = 1 ∧ P.underlying f.type = some .bool) ∨ (k = 2 ∧ P.underlying f.type = some .string)) :
    ∃ x y, (part f.type ⟨us⟩ off).run P w = .ok x w ∧ (part f.type ⟨vs⟩ off).run P w = .ok y w ∧ (Op.equalIn (d + 1) f.type x y).run P w = .ok b w := by
  have hagg : (isAgg f.type).run P w = .ok false w := by
    unfold isAgg
    rw [Sem.run_bind]
    rcases hk with ⟨_, q, h⟩ | ⟨_, h⟩ | ⟨_, h⟩ <;> rw [run_underlying h w] <;> rfl
  cases hxx : xs.drop off with
  | nil => rw [hxx] at h; simp [eqCells] at h
  | cons x xs' =>
    cases hyy : ys.drop off with
    | nil => rw [hxx, hyy] at h; cases x <;> simp [eqCells] at h
    | cons y ys' =>
      rw [hxx, hyy] at h
      simp only [List.take_succ_cons, List.take_zero] at h
      have hx0 : xs[off]? = some x := by have := congrArg (fun l => l[0]?) hxx; simpa using this
      have hy0 : ys[off]? = some y := by have := congrArg (fun l => l[0]?) hyy; simpa using this
      obtain ⟨u, hu, hru⟩ := hx.get _ _ hx0
      obtain ⟨v, hv, hrv⟩ := hy.get _ _ hy0
      refine ⟨u, v, by simp [part, hagg, hu], by simp [part, hagg, hv], ?_⟩
      cases x <;> try (simp [eqCells] at h; done)
      rename_i x
      cases y <;> try (simp [eqCells] at h; done)
      rename_i y
      simp only [eqCells] at h
      split at h
      · rename_i c hc
        simp only [Option.some.injEq, Bool.and_true] at h
        subst h
        rcases hk with ⟨rfl, q, hq⟩ | ⟨rfl, hq⟩ | ⟨rfl, hq⟩
        · unfold eqD at hc
          split at hc <;> first | cases hc | skip
          · rename_i k1 n1 k2 n2 _
            split at hc
            · rename_i hkk
              subst hkk
              simp only [Option.some.injEq] at hc
              subst hc
              simp only [RepV, RepD] at hru hrv
              subst hru hrv
              exact run_equalIn_int w d _ _ _ _ _ hq
            · cases hc
          all_goals contradiction
        · unfold eqD at hc
          split at hc <;> first | cases hc | skip
          all_goals first | contradiction | skip
          simp only [RepV, RepD] at hru hrv
          subst hru hrv
          exact run_equalIn_bool' w d _ _ _ hq
        · unfold eqD at hc
          split at hc <;> first | cases hc | skip
          all_goals first | contradiction | skip
          simp only [RepV, RepD] at hru hrv
          subst hru hrv
          rw [run_equalIn_string w d _ _ _ hq]
          rw [ByteArray.toList_eq, ByteArray.toList_eq]
      · cases h
theorem eqFields_run {P : Program} : ∀ (fuel : Nat) (fs : List Field) (off : Nat) (ks : List Nat), plainFields P fuel off fs = some ks → ∀ (D : Nat), fuel ≤ D →
    ∀ {xs ys : List V} {us vs : List Value} {b : Bool}, RepVs C w ok γ xs us → RepVs C w ok γ ys vs → (∀ u ∈ us, u.oneCell' = true) → (∀ u ∈ vs, u.oneCell' = true) →
      eqCells ks ((xs.drop off).take ks.length) ((ys.drop off).take ks.length) = some b → off + ks.length ≤ xs.length → off + ks.length ≤ ys.length → (Op.eqFields D ⟨us⟩ ⟨vs⟩ fs).run P w = .ok b w
  | fuel, [], off, ks, h, D, _, xs, ys, us, vs, b, _, _, _, _, he, _, _ => by
    cases fuel <;> simp only [plainFields, Option.some.injEq] at h <;> subst h <;> simp [eqCells] at he <;> subst he <;> simp [Op.eqFields]
  | 0, f :: fs, off, ks, h, _, _, _, _, _, _, _, _, _, _, _, _, _, _ => by simp [plainFields] at h
  | fuel + 1, f :: fs, off, ks, h, D, hD, xs, ys, us, vs, b, hx, hy, h1x, h1y, he, hlx, hly => by
    obtain ⟨D, rfl⟩ : ∃ m, D = m + 1 := ⟨D - 1, by omega⟩
    rw [plainFields] at h
    split at h
    · cases h
    rename_i hn
    have hname : f.name ≠ "_" := fun e => hn (.inl e)
    have hoff : f.offset = off := Classical.byContradiction fun e => hn (.inr e)
    have step : ∀ (k : Nat) (rest : List Nat), ks = k :: rest → plainFields P fuel (off + 1) fs = some rest →
        ((k = 0 ∧ ∃ q, P.underlying f.type = some (.int q)) ∨ (k = 1 ∧ P.underlying f.type = some .bool) ∨ (k = 2 ∧ P.underlying f.type = some .string)) → (Op.eqFields (D + 1) ⟨us⟩ ⟨vs⟩ (f :: fs)).run P w = .ok b w := by
      intro k rest hks hrest hk
      subst hks
      obtain ⟨b1, b2, e1, e2, rfl⟩ := eqCells_append (k1 := [k]) he
      simp only [List.length_cons, List.length_nil, Nat.zero_add] at e1 e2
      rw [List.take_take, List.take_take, show min 1 (rest.length + 1) = 1 by omega] at e1
      obtain ⟨x, y, p1, p2, p3⟩ := eqOne (P := P) (f := f) (d := D) hx hy e1 hk
      rw [Op.eqFields, if_pos hname, hoff]
      simp only [Sem.run_bind, p1, p2, p3, Result.andThen_ok]
      have ih : b1 = true → (Op.eqFields (D + 1) ⟨us⟩ ⟨vs⟩ fs).run P w = .ok b2 w := fun _ =>
        eqFields_run fuel fs (off + 1) rest hrest (D + 1) (by omega) hx hy h1x h1y (by
          rw [← e2]
          congr 1 <;> rw [List.drop_take, List.drop_drop] <;> simp) (by simp at hlx; omega) (by simp at hly; omega)
      cases b1
      · simp
      · simpa using ih rfl
    split at h
    · rename_i hu
      simp only [Option.map_eq_some_iff] at h
      obtain ⟨rest, hr, rfl⟩ := h
      exact step 1 rest rfl hr (.inr (.inl ⟨rfl, hu⟩))
    · rename_i q hu
      simp only [Option.map_eq_some_iff] at h
      obtain ⟨rest, hr, rfl⟩ := h
      exact step 0 rest rfl hr (.inl ⟨rfl, q, hu⟩)
    · rename_i hu
      simp only [Option.map_eq_some_iff] at h
      obtain ⟨rest, hr, rfl⟩ := h
      exact step 2 rest rfl hr (.inr (.inr ⟨rfl, hu⟩))
    · rename_i gs hu
      split at h
      · rename_i k hk
        split at h
        · cases h
        · rename_i hc
          have hp : P.stoodInHeld f.type = false := by
            cases hh : P.stoodInHeld f.type
            · rfl
            · exact absurd (.inl hh) hc
          have hsh : okShape P f.type (some k.length) = true := by
            cases hh : okShape P f.type (some k.length)
            · exact absurd (.inr hh) hc
            · rfl
          simp only [Option.map_eq_some_iff] at h
          obtain ⟨rest, hr, rfl⟩ := h
          simp only [List.length_append] at he hlx hly
          obtain ⟨b1, b2, e1, e2, rfl⟩ := eqCells_append he
          rw [List.take_take, List.take_take, show min k.length (k.length + rest.length) = k.length by omega] at e1
          obtain ⟨s1, s2⟩ := okShape_many (w := w) hsh
          have hp1 : ∀ zs : List Value, (part f.type ⟨zs⟩ off).run P w = .ok (.agg ⟨(zs.drop off).take k.length⟩) w := by
            intro zs
            simp only [part, Sem.run_bind, s1, Result.andThen_ok, if_true, s2, Sem.run_pure]
            congr 2
            apply Array.ext'
            simp [List.drop_take]
          rw [Op.eqFields, if_pos hname, hoff]
          have ih1 : (Op.equalIn (D + 1) f.type (.agg ⟨(us.drop off).take k.length⟩) (.agg ⟨(vs.drop off).take k.length⟩)).run P w = .ok b1 w := by
            have hf : P.fieldsOf f.type = gs := by simp [Program.fieldsOf, hu]
            rw [run_equalIn_struct (P := P) w D f.type _ _ (by rw [hf]; exact hu) hp, hf]
            have hl1 := hx.length
            have hl2 := hy.length
            refine eqFields_run fuel gs.toList 0 k hk D (by omega) ((hx.drop off).take k.length) ((hy.drop off).take k.length) (fun u hu => h1x u (List.mem_of_mem_drop (List.mem_of_mem_take hu))) (fun u hu => h1y u (List.mem_of_mem_drop (List.mem_of_mem_take hu))) ?_ (by simp; omega) (by simp; omega)
            simpa [List.take_take] using e1
          simp only [Sem.run_bind, hp1, ih1, Result.andThen_ok]
          have ih : (Op.eqFields (D + 1) ⟨us⟩ ⟨vs⟩ fs).run P w = .ok b2 w :=
            eqFields_run fuel fs (off + k.length) rest hr (D + 1) (by omega) hx hy h1x h1y (by
              rw [← e2]
              congr 1 <;> rw [List.drop_take, List.drop_drop] <;> simp) (by omega) (by omega)
          cases b1
          · simp
          · simpa using ih
      · cases h
    · cases h
end
section
variable {C : Ctx} {w0 : World} {S M : Nat → Prop} {N : Nat} {γ : Nat → Value} {st : St} {a : Act} {w : World} {o : Oper} {v : V}
theorem eqCells_len : ∀ {ks : List Nat} {xs ys : List V} {b : Bool}, eqCells ks xs ys = some b → xs.length = ks.length ∧ ys.length = ks.length
  | [], xs, ys, b, h => by
    cases xs with
    | nil => cases ys with
      | nil => exact ⟨rfl, rfl⟩
      | cons _ _ => simp [eqCells] at h
    | cons _ _ => simp [eqCells] at h
  | k :: ks, xs, ys, b, h => by
    cases xs with
    | nil => simp [eqCells] at h
    | cons x xs =>
      cases ys with
      | nil => cases x <;> simp [eqCells] at h
      | cons y ys =>
        cases x <;> try (simp [eqCells] at h; done)
        cases y <;> try (simp [eqCells] at h; done)
        rw [eqCells] at h
        split at h
        · split at h
          · rename_i c hc
            obtain ⟨e1, e2⟩ := eqCells_len hc
            exact ⟨by simp [e1], by simp [e2]⟩
          · cases h
        · cases h
theorem eqGuard_plain {P : Program} {w : World} {op : BinOp} {t : TypeId} {x y : Operand} {cs ds : Array Value} (h : P.eqGuardType P.depth t = false) : (eqGuard op t x y (.agg cs) (.agg ds)).run P w = .ok () w := by
  unfold eqGuard
  cases op <;> simp [h]
theorem sd_eqs (hr : Rel C w0 S M N γ st a w) {q : Bool} {ks : List Nat} {x y : Opd} (hk : okP C.P C.φ o (.eqs q ks x y) = true) (he : evP st (.eqs q ks x y) = some v) : Does C w0 S γ st a w o v := by
  obtain ⟨dst, op, ty, pos, aft, gd⟩ := o
  simp only [okP] at hk
  split at hk
  case h_2 => cases hk
  rename_i op' t x' y' yt
  simp only [Bool.and_eq_true, beq_iff_eq, Bool.not_eq_true'] at hk
  obtain ⟨⟨⟨⟨⟨h0, h1⟩, h2⟩, h3⟩, h4⟩, h5⟩ := hk
  have r1 := opd_rep hr h1
  have r2 := opd_rep hr h2
  simp only [evP] at he
  split at he
  case h_2 => cases he
  rename_i xs ys e1 e2
  rw [e1] at r1
  rw [e2] at r2
  obtain ⟨us, r1, hx, h1x⟩ := r1
  obtain ⟨vs, r2, hy, h1y⟩ := r2
  split at he
  case h_2 => cases he
  rename_i b hb
  simp only [Option.some.injEq] at he
  subst he
  obtain ⟨l1, l2⟩ := eqCells_len hb
  unfold okPlain at h5
  split at h5
  case h_2 => cases h5
  rename_i fs hs
  have h5 := beq_iff_eq.1 h5
  have hf : C.P.fieldsOf t = fs := by simp [Program.fieldsOf, hs]
  have hd : ∀ d : Nat, 60 ≤ d → (Op.equalIn (d + 1) t (.agg ⟨us⟩) (.agg ⟨vs⟩)).run C.P w = .ok b w := by
    intro d hd
    rw [run_equalIn_struct (P := C.P) w d t _ _ (by rw [hf]; exact hs) h4, hf]
    exact eqFields_run 60 fs.toList 0 ks h5 d hd hx hy h1x h1y (by rw [← l1]; simp; rw [l1, ← l2]; simpa using hb) (by omega) (by omega)
  have hq : (Op.equal t (.agg ⟨us⟩) (.agg ⟨vs⟩)).run C.P w = .ok b w := hd 9999 (by omega)
  have hg := eqGuard_plain (P := C.P) (w := w) (op := op') (t := t) (x := x') (y := y') (cs := ⟨us⟩) (ds := ⟨vs⟩) h3
  cases q <;> simp only [if_true, Bool.false_eq_true, if_false] at h0 ⊢ <;> subst h0
  · exact ⟨.bool b, by simp [execOp, r1, r2, hg, binOp, hq], rfl⟩
  · exact ⟨.bool (!b), by simp [execOp, r1, r2, hg, binOp, hq], rfl⟩
theorem bytesD_ints : ∀ {es : List (List D)} {l : List UInt8}, bytesD es = some l → ∃ ns : List Int, es = ns.map (fun n => [D.int .u8 n]) ∧ l = ns.map (fun n => UInt8.ofNat n.toNat)
  | [], l, h => by simp only [bytesD, Option.some.injEq] at h; exact ⟨[], rfl, h.symm⟩
  | e :: es, l, h => by
    unfold bytesD at h
    split at h
    · rename_i heq; cases heq
    · rename_i n r heq
      injection heq with h1 h2
      subst h1 h2
      split at h
      · rename_i l' hl
        simp only [Option.some.injEq] at h
        obtain ⟨ns, e1, e2⟩ := bytesD_ints hl
        exact ⟨n :: ns, by rw [e1]; rfl, by rw [← h, e2]; rfl⟩
      · cases h
    · cases h
theorem repEs_ints {ok : Nat → Prop} {ad : Addr} : ∀ (ns : List Int) (off : Nat), RepEs w ok ad off (ns.map fun n => [D.int .u8 n]) → ∀ j v, (ns.map (Value.int .u8))[j]? = some v → w.cell? (ad.add (off + j)) = some v
  | [], _, _, j, v, h => by simp at h
  | n :: ns, off, hr, j, v, h => by
    simp only [List.map_cons, RepEs, RepCs] at hr
    obtain ⟨⟨⟨u, hu, hur⟩, _⟩, hr⟩ := hr
    cases j with
    | zero => simp at h; subst h; simp only [RepD] at hur; subst hur; simpa using hu
    | succ j =>
      have := repEs_ints ns (off + 1) (by simpa using hr) j v (by simpa using h)
      rwa [show off + 1 + j = off + (j + 1) by omega] at this
theorem sd_bstr (hr : Rel C w0 S M N γ st a w) {x : Opd} (hk : okP C.P C.φ o (.bstr x) = true) (he : evP st (.bstr x) = some v) : Does C w0 S γ st a w o v := by
  obtain ⟨dst, op, ty, pos, aft, g⟩ := o
  cases op <;> simp [okP] at hk
  rename_i src dt y
  obtain ⟨⟨h0, h2⟩, h1⟩ := hk
  have r1 := opd_rep hr h1
  simp only [evP, bstrV] at he
  split at he
  case h_2 => cases he
  rename_i es ht
  split at he
  case h_2 => cases he
  rename_i l hl
  simp only [Option.some.injEq] at he
  subst he
  rw [ht] at r1
  simp only [RepV, RepD] at r1
  obtain ⟨A, cap, sz, hv, hcap, hsz, hne⟩ := r1
  unfold strSlice at h2
  split at h2
  case h_2 => cases h2
  rename_i hd
  split at h0
  case h_2 => cases h0
  rename_i e hs
  split at h0
  case h_2 => cases h0
  rename_i heu
  obtain ⟨ns, rfl, rfl⟩ := bytesD_ints hl
  refine ⟨.string ⟨(ns.map fun n : Int => UInt8.ofNat n.toNat).toArray⟩, ?_, by simp only [RepV, RepD]⟩
  have hrun : (convert src dt (a.eval y)).run C.P w = .ok (.string ⟨(ns.map fun n : Int => UInt8.ofNat n.toNat).toArray⟩) w := by
    rw [hv]
    rw [run_convert_bytes_string w src dt e A _ _ hs heu hd]
    cases ns with
    | nil =>
      cases A with
      | none => simp [Conv.bytesToString]; rfl
      | some ad =>
        have hl := run_loadCells_list (P := C.P) w ad [] (fun j v hj => by simp at hj)
        rw [run_bytesToString w ad _ _ [] (by simpa using hl)]
        rfl
    | cons n ns =>
      obtain ⟨ad, rfl, hok, hes⟩ := hne (by simp)
      have hl := run_loadCells_list (P := C.P) w ad ((n :: ns).map (Value.int .u8)) (fun j v hj => by
        have := repEs_ints (n :: ns) 0 hes j v hj
        rwa [Nat.zero_add] at this)
      rw [run_bytesToString w ad _ _ (n :: ns) (by simpa using hl), foldl_push_bytes]
      simp [ByteArray.empty, ByteArray.emptyWithCapacity]
      rfl
  simp [execOp, hrun]
/-- All operations that turn nothing. -/
theorem evP_sound (hr : Rel C w0 S M N γ st a w) {ao : AOp} (hk : okP C.P C.φ o ao = true) (he : evP st ao = some v) : Does C w0 S γ st a w o v := by
  cases ao
  case mv => exact sd_mv hr hk he
  case pick => exact sd_pick hr hk he
  case bin => exact sd_bin hr hk he
  case un => exact sd_un hr hk he
  case conv => exact sd_conv hr hk he
  case same => exact sd_same hr hk he
  case ext => exact sd_ext hr hk he
  case bstr => exact sd_bstr hr hk he
  case load => exact sd_load hr hk he
  case faddr => exact sd_faddr hr hk he
  case fld => exact sd_fld hr hk he
  case iaddr => exact sd_iaddr hr hk he
  case iaddrA => exact sd_iaddrA hr hk he
  case idx => exact sd_idx hr hk he
  case idxA => exact sd_idxA hr hk he
  case slc => exact sd_slc hr hk he
  case slcS => exact sd_slcS hr hk he
  case len => exact sd_len hr hk he
  case lenS => exact sd_lenS hr hk he
  case mm => exact sd_mm hr hk he
  case build => exact sd_build hr hk he
  case fnv => exact sd_fnv hr hk he
  case nilc => exact sd_nilc hr hk he
  case eqs => exact sd_eqs hr hk he
  case beq => exact sd_beq hr hk he
  case nilE => exact sd_nilE hr hk he
  case nilP => exact sd_nilP hr hk he
  all_goals simp [evP] at he
end
end Pay
