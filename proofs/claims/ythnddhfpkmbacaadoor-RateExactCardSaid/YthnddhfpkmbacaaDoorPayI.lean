/- One step: each operation that turns objects, as a relation between states; its check; its soundness. -/
import Derived.Laws.MakeOwn
import Derived.Test.YthnddhfpkmbacaaDoorPayH
set_option linter.unusedSimpArgs false
set_option linter.unusedVariables false
namespace Pay
open Go
def toD : V → Option D
  | .d x => some x
  | .cap0 => some (.sl [])
  | _ => none
def toDs : List V → Option (List D)
  | [] => some []
  | v :: vs => (match toD v with
    | some d => (match toDs vs with | some ds => some (d :: ds) | none => none)
    | none => none)
/-- The elements of a literal. -/
def partsD (sz : Nat) (vs : Opd → V) : List Opd → Option (List (List D))
  | [] => some []
  | x :: xs => (match cellsV (vs x) with
    | some cs => (match toDs cs with
      | some ds => if ds.length = sz then (match partsD sz vs xs with | some es => some (ds :: es) | none => none) else none
      | none => none)
    | none => none)
/-- What a slice that is appended, or read, holds. -/
def readD (o : Nat → Option Ob) : V → Option (List (List D))
  | .d (.sl es) => some es
  | .cap0 => some []
  | .own m => (match o m with | some (.row _ es) => some es | _ => none)
  | _ => none
def keyEq : D → D → Option Bool
  | .int k x, .int k' y => if k = k' then some (x == y) else none
  | .str x, .str y => some (x == y)
  | _, _ => none
def kvGet (k : D) : List (D × D) → Option (Option D)
  | [] => some none
  | kv :: r => (match keyEq k kv.1 with
    | some true => some (some kv.2)
    | some false => kvGet k r
    | none => none)
def kvSet (k x : D) : List (D × D) → Option (List (D × D))
  | [] => some [(k, x)]
  | kv :: r => (match keyEq k kv.1 with
    | some true => some ((k, x) :: r)
    | some false => (match kvSet k x r with | some r' => some (kv :: r') | none => none)
    | none => none)
def keyIs (str : Bool) : D → Bool
  | .int _ _ => !str
  | .str _ => str
  | _ => false
mutual
def V.thaw (n : Nat) (es : List (List D)) : V → V
  | .own m => if m = n then .d (.sl es) else .own m
  | .eptr m sz i off => if m = n then .undef else .eptr m sz i off
  | .mref m => if m = n then .undef else .mref m
  | .ptr m off => if m = n then .undef else .ptr m off
  | .fn f caps => .fn f (V.thaws n es caps)
  | .agg cs => .agg (V.thaws n es cs)
  | .tup cs => .tup (V.thaws n es cs)
  | v => v
def V.thaws (n : Nat) (es : List (List D)) : List V → List V
  | [] => []
  | c :: cs => V.thaw n es c :: V.thaws n es cs
end
def Ob.thaw (n : Nat) (es : List (List D)) : Ob → Ob
  | .box cs => .box (V.thaws n es cs)
  | x => x
def St.free (st : St) (n : Nat) : St := match st.o n with
  | some (.row _ es) => { s := fun t => V.thaw n es (st.s t), o := fun m => if m = n then none else (st.o m).map (Ob.thaw n es) }
  | _ => st
def stepS (I : Nat → Prop) (st : St) (dst : Option Nat) (K : St → Prop) : AOp → Prop
  | .store n p x => (match opd st.s p, cellsV (opd st.s x) with
    | .ptr m off, some new => ∃ cs, st.o m = some (.box cs) ∧ new.length = n ∧ off + n ≤ cs.length ∧ K ({ st with o := upd st.o m (some (.box (setRange cs off new))) }.put dst .undef)
    | .eptr m sz i off, some new => ∃ es e ds, st.o m = some (.row sz es) ∧ es[i]? = some e ∧ toDs new = some ds ∧ ds.length = n ∧ off + n ≤ e.length ∧
        K ({ st with o := upd st.o m (some (.row sz (es.set i (setRange e off ds)))) }.put dst .undef)
    | _, _ => False)
  | .alloc nm zs => ¬ I nm ∧ Fresh st nm dst ∧ V.refsL nm zs = false ∧ K { s := (st.put dst (.ptr nm 0)).s, o := upd st.o nm (some (.box zs)) }
  | .box nm n x => ∃ cs, cellsV (opd st.s x) = some cs ∧ cs.length = n ∧ ¬ I nm ∧ Fresh st nm dst ∧ V.refsL nm cs = false ∧ K { s := (st.put dst (.ptr nm 0)).s, o := upd st.o nm (some (.box cs)) }
  | .bsl none sz _ n parts => ∃ es, partsD sz (opd st.s) (parts.map (·.2)) = some es ∧ K (st.put dst (.d (.sl es)))
  | .bsl (some nm) sz _ n parts => if n = 0 then K (st.put dst .cap0) else ∃ es, partsD sz (opd st.s) (parts.map (·.2)) = some es ∧ ¬ I nm ∧ Fresh st nm dst ∧ K { s := (st.put dst (.own nm)).s, o := upd st.o nm (some (.row sz es)) }
  | .mks none sz bytes zero x => (match opd st.s x with
    | .d (.int _ n) => 0 ≤ n ∧ n.toNat * bytes ≤ 140737488355328 ∧ n ≤ 140737488355328 ∧ K (st.put dst (.d (.sl (List.replicate n.toNat zero))))
    | _ => False)
  | .mks (some nm) sz bytes zero x => (match opd st.s x with
    | .d (.int _ n) => 0 ≤ n ∧ n.toNat * bytes ≤ 140737488355328 ∧ n ≤ 140737488355328 ∧ ¬ I nm ∧ Fresh st nm dst ∧ K { s := (st.put dst (.own nm)).s, o := upd st.o nm (some (.row sz (List.replicate n.toNat zero))) }
    | _ => False)
  | .app own sz bytes x y => ∃ ys, readD st.o (opd st.s y) = some ys ∧ (∀ e ∈ ys, e.length = sz) ∧ (match opd st.s x with
    | .cap0 => (ys.length * bytes ≤ 140737488355328 ∧ ys.length ≤ 140737488355328 ∧ (match own with
      | none => K (st.put dst (.d (.sl ys)))
      | some nm => ¬ I nm ∧ Fresh st nm dst ∧ K { s := (st.put dst (.own nm)).s, o := upd st.o nm (some (.row sz ys)) }))
    | .own m => ∃ es, ¬ I m ∧ st.o m = some (.row sz es) ∧ (es.length + ys.length) * bytes ≤ 140737488355328 ∧ es.length + ys.length ≤ 140737488355328 ∧
        (match own with
        | some _ => K { s := ((st.scrub m).put dst (.own m)).s, o := upd (st.scrub m).o m (some (.row sz (es ++ ys))) }
        | none => K (({ s := ((st.scrub m).put dst (.own m)).s, o := upd (st.scrub m).o m (some (.row sz (es ++ ys))) } : St).free m))
    | _ => False)
  | .cut x hi => (match opd st.s x with
    | .own m => ∃ sz es h, ¬ I m ∧ st.o m = some (.row sz es) ∧ bnd es.length (opd st.s hi) = some h ∧ K { s := ((st.scrub m).put dst (.own m)).s, o := upd (st.scrub m).o m (some (.row sz (es.take h))) }
    | _ => False)
  | .nilS neq x => (match opd st.s x with
    | .d (.sl []) => ∀ b, K (st.put dst (.d (.bool b)))
    | .d (.sl (_ :: _)) => K (st.put dst (.d (.bool neq)))
    | .cap0 => ∀ b, K (st.put dst (.d (.bool b)))
    | _ => False)
  | .mkmap nm => ¬ I nm ∧ Fresh st nm dst ∧ K { s := (st.put dst (.mref nm)).s, o := upd st.o nm (some (.map [])) }
  | .mset str m k x => (match opd st.s m, toD (opd st.s k), toD (opd st.s x) with
    | .mref n, some k, some x => ∃ kvs kvs', keyIs str k = true ∧ st.o n = some (.map kvs) ∧ kvSet k x kvs = some kvs' ∧ K ({ st with o := upd st.o n (some (.map kvs')) }.put dst .undef)
    | _, _, _ => False)
  | .mget str zero m k ok => (match opd st.s m, toD (opd st.s k) with
    | .mref n, some k => ∃ kvs r, keyIs str k = true ∧ st.o n = some (.map kvs) ∧ kvGet k kvs = some r ∧ K (st.put dst (if ok = true then .tup [.d (r.getD zero), .d (.bool r.isSome)] else .d (r.getD zero)))
    | _, _ => False)
  | _ => False
def okZeroD (P : Program) (t : TypeId) (sz bytes : Nat) (zs : List D) : Bool :=
  match P.info? t with
  | some i => (match i.zero with | some z => okZeros z.cells.toList (zs.map .d) && i.size == zs.length && i.size == sz && i.bytes == bytes | none => false)
  | none => false
def okElem (P : Program) (t : TypeId) (sz bytes : Nat) : Bool :=
  match P.info? t with
  | some i => (match i.zero with | some z => z.cells.all (·.oneCell') && z.cells.size == sz && i.size == sz && i.bytes == bytes && sz != 0 | none => false)
  | none => false
def okRow (φ : Nat → FuncId) : Nat → List (Nat × Operand) → List (Nat × Opd) → Bool
  | _, [], [] => true
  | k, (i, x) :: ps, (j, y) :: qs => i == k && j == k && okOpd φ x y && okRow φ (k + 1) ps qs
  | _, _, _ => false
def elemOf' (P : Program) (t : TypeId) : Option TypeId := match P.underlying t with | some (.slice e) => some e | _ => none
def okMapT (P : Program) (t : TypeId) (str : Bool) (zero : Option D) : Bool :=
  match P.underlying t with
  | some (.map k e) => (match P.underlying k with | some (.int _) => !str | some .string => str | _ => false) &&
    (match zero with
     | none => true
     | some z => (match P.info? e with | some i => (match i.zero with | some u => okConst u (.d z) | none => false) | none => false))
  | _ => false
def okS (P : Program) (φ : Nat → FuncId) (o : Oper) : AOp → Bool
  | .store n p x => (match o.op with | .store t p' x' => (P.info? t).isSome && szOf P t == n && okOpd φ p' p && okOpd φ x' x | _ => false)
  | .alloc _ zs => (match o.op with | .alloc t => okZero P t zs | _ => false)
  | .box _ _ x => (match o.op with | .box _ x' => okOpd φ x' x | _ => false)
  | .bsl _ sz zero n parts => (match o.op with | .buildSlice t n' ps => n == n' && decide (n * sz ≤ 16777216) && n == parts.length && okRow φ 0 ps.toList parts && (match elemOf' P t with | some e => okElem P e sz (P.bytesOf e) | none => false) | _ => false)
  | .mks _ sz bytes zero x => (match o.op with | .makeSlice t x' x'' => okOpd φ x' x && okOpd φ x'' x && (match elemOf' P t with | some e => okZeroD P e sz bytes zero && sz != 0 | none => false) | _ => false)
  | .app _ sz bytes x y => (match o.op with | .call { callee := .builtin .append, args := ⟨[x', y']⟩, argTypes := ⟨[t, t']⟩ } => t == t' && okOpd φ x' x && okOpd φ y' y && (match elemOf' P t with | some e => okElem P e sz bytes | none => false) | _ => false)
  | .cut x hi => (match o.op with | .slice t x' none (some hi') none => okOpd φ x' x && okOpd φ hi' hi && (match elemOf' P t with | some e => (P.info? e).isSome | none => false) | _ => false)
  | .nilS neq x => (match o.op with | .binOp op t x' (.const (.slice none 0 0)) _ => op == (if neq then .neq else .eql) && okOpd φ x' x && (elemOf' P t).isSome | _ => false)
  | .mkmap _ => (match o.op with | .makeMap _ none => true | _ => false)
  | .mset str m k x => (match o.op with | .mapUpdate t m' k' x' => okMapT P t str none && okOpd φ m' m && okOpd φ k' k && okOpd φ x' x | _ => false)
  | .mget str zero m k ok => (match o.op with | .lookup t m' k' ok' => ok == ok' && okMapT P t str (some zero) && okOpd φ m' m && okOpd φ k' k | _ => false)
  | _ => false
section
variable {P : Program} {o : Oper} {a : Act} {w w' : World} {K : Act → World → Prop} {Q : Exit → Act → World → Prop}
theorem wp_value {u : Value} (h : (execOp a.eval o).run P w = .ok (.value u) w') (hk : K (a.put o.dst u) w') : o.wp P a w K Q := by
  unfold Oper.wp; rw [h]; exact hk
theorem wp_skip' (h : (execOp a.eval o).run P w = .ok .skip w') (hk : K (a.put o.dst undef) w') : o.wp P a w K Q := by
  unfold Oper.wp; rw [h]; exact hk
end
theorem RepCells.append {w : World} {ok : Nat → Prop} : ∀ {ds es : List D} {us vs : List Value}, us.length = ds.length → RepCells w ok ds us → RepCells w ok es vs → RepCells w ok (ds ++ es) (us ++ vs)
  | [], es, [], vs, _, _, h => h
  | [], _, _ :: _, _, h, _, _ => by simp at h
  | _ :: _, _, [], _, h, _, _ => by simp at h
  | d :: ds, es, u :: us, vs, hl, h, k => ⟨h.1, RepCells.append (by simpa using hl) h.2 k⟩
theorem RepCells.take {w : World} {ok : Nat → Prop} {ds : List D} {us : List Value} (h : RepCells w ok ds us) (k : Nat) : RepCells w ok (ds.take k) (us.take k) :=
  RepCells.of_get fun i d hd => by
    rw [List.getElem?_take] at hd
    split at hd
    · rename_i hi
      obtain ⟨u, hu, hr⟩ := h.get i d hd
      exact ⟨u, by rw [List.getElem?_take, if_pos hi]; exact hu, hr⟩
    · cases hd
theorem RepCells.drop {w : World} {ok : Nat → Prop} {ds : List D} {us : List Value} (h : RepCells w ok ds us) (k : Nat) : RepCells w ok (ds.drop k) (us.drop k) :=
  RepCells.of_get fun i d hd => by
    rw [List.getElem?_drop] at hd
    obtain ⟨u, hu, hr⟩ := h.get _ d hd
    exact ⟨u, by rw [List.getElem?_drop]; exact hu, hr⟩
theorem flat_setRange {α : Type} {sz off : Nat} {ds : List α} : ∀ {es : List (List α)} {i : Nat} {e : List α}, (∀ e ∈ es, e.length = sz) → es[i]? = some e → off + ds.length ≤ sz → (es.set i (setRange e off ds)).flatten = setRange es.flatten (i * sz + off) ds
  | [], i, e, _, h, _ => by simp at h
  | e0 :: es, 0, e, hs, h, hl => by
    simp at h; subst h
    have h0 : e0.length = sz := hs e0 (by simp)
    simp only [List.set_cons_zero, List.flatten_cons, Nat.zero_mul, Nat.zero_add, setRange]
    rw [List.take_append_of_le_length (by omega), List.drop_append_of_le_length (by omega)]
    simp
  | e0 :: es, i + 1, e, hs, h, hl => by
    have h0 : e0.length = sz := hs e0 (by simp)
    have ih := flat_setRange (es := es) (i := i) (e := e) (fun e he => hs e (List.mem_cons_of_mem _ he)) (by simpa using h) hl
    rw [List.set_cons_succ, List.flatten_cons, List.flatten_cons, ih]
    unfold setRange
    rw [show (i + 1) * sz + off = e0.length + (i * sz + off) by rw [h0, Nat.succ_mul]; omega, List.take_length_add_append, Nat.add_assoc e0.length, List.drop_length_add_append]
    simp
section
variable {C : Ctx} {w0 : World} {S M : Nat → Prop} {N : Nat} {γ : Nat → Value} {st : St} {a : Act} {w : World} {o : Oper} {Q : Exit → Act → World → Prop}
/-- What is left behind a step: some state that the continuation takes, and memory that is as it says. -/
def Lands (C : Ctx) (w0 : World) (S M : Nat → Prop) (N : Nat) (I : Nat → Prop) (γ : Nat → Value) (K : St → Prop) (a : Act) (w : World) : Prop :=
  ∃ γ' st', K st' ∧ (∀ n, I n → γ' n = γ n) ∧ Rel C w0 S M N γ' st' a w
theorem toD_rep {ok : Nat → Prop} {x : V} {d : D} {u : Value} (h : toD x = some d) (hr : RepV C w ok γ x u) : RepD w ok d u := by
  unfold toD at h
  split at h
  · injection h with h; subst h; exact hr
  · injection h with h; subst h
    obtain ⟨A, rfl⟩ := hr
    exact ⟨A, 0, 0, rfl, Nat.le_refl _, by simp, fun h => absurd rfl h⟩
  · cases h
theorem toDs_rep {ok : Nat → Prop} : ∀ {xs : List V} {ds : List D} {us : List Value}, toDs xs = some ds → RepVs C w ok γ xs us → us.length = ds.length ∧ RepCells w ok ds us
  | [], ds, us, h, hr => by
    simp only [toDs, Option.some.injEq] at h
    subst h
    simp only [RepVs] at hr
    subst hr
    exact ⟨rfl, trivial⟩
  | x :: xs, ds, us, h, hr => by
    rw [toDs] at h
    split at h
    · rename_i d hd
      split at h
      · rename_i ds' hds
        injection h with h
        subst h
        obtain ⟨u, us', rfl, r1, r2⟩ := hr
        obtain ⟨e1, e2⟩ := toDs_rep hds r2
        exact ⟨by simp [e1], toD_rep hd r1, e2⟩
      · cases h
    · cases h
theorem Rel.putGrow (hr : Rel C w0 S M N γ st a w) {dst : Option Nat} (hd : ∀ d, dst = some d → d < N) {w' : World} (hg : Grow w w') {v : V} {u : Value}
    (hv : ∀ ok : Nat → Prop, (∀ g, okOf w0 S γ st.o w g → w'.heap[g]? = w.heap[g]? ∧ ok g) → (∀ g, w.heap.size ≤ g → g < w'.heap.size → ok g) → RepV C w' ok γ v u) : Rel C w0 S M N γ (st.put dst v) (a.put dst u) w' := by
  refine (hr.grow hg).put hd (hv _ (fun g h => ⟨hg.block g h.2.1, h.1, Nat.lt_of_lt_of_le h.2.1 hg.size, h.2.2⟩) (fun g h1 h2 => ⟨.inr (Nat.le_trans hr.fram.size h1), h2, fun n x hx e => ?_⟩))
  have := blk_lt (hr.objs n x hx) e
  omega
theorem ss_store (hr : Rel C w0 S M N γ st a w) (hd : ∀ d, o.dst = some d → d < N) {n : Nat} {p x : Opd} {I : Nat → Prop} {K : St → Prop} (hk : okS C.P C.φ o (.store n p x) = true) (hs : stepS I st o.dst K (.store n p x)) :
    o.wp C.P a w (Lands C w0 S M N I γ K) Q := by
  obtain ⟨dst, op, ty, pos, aft, gd⟩ := o
  simp only [okS] at hk
  split at hk
  case h_2 => cases hk
  rename_i t p' x'
  simp only [Bool.and_eq_true, beq_iff_eq] at hk
  obtain ⟨⟨⟨h0, h3⟩, h1⟩, h2⟩ := hk
  obtain ⟨inf, hi⟩ := Option.isSome_iff_exists.1 h0
  have hsz : inf.size = n := by simpa [szOf, hi] using h3
  have r1 := opd_rep hr h1
  have r2 := opd_rep hr h2
  simp only [stepS] at hs
  split at hs
  · rename_i m off new e1 e2
    obtain ⟨cs, hb, hl, hle, hK⟩ := hs
    rw [e1] at r1
    obtain ⟨g, hg, r1⟩ := r1
    obtain ⟨c1, c2⟩ := cellsV_rep e2 r2
    have hcl := c1.length
    obtain ⟨g', us, bt, e3, hh, hv, hone⟩ := hr.objs m _ hb
    rw [hg] at e3
    simp only [Value.pointer.injEq, Option.some.injEq, Addr.mk.injEq, and_true] at e3
    subst e3
    have hvl := hv.length
    have hsize : (a.eval x').cells.size = n := by simpa [hl] using hcl
    have hst := run_storeCells_at C.P g off bt (a.eval x').cells.toList 0 ⟨us⟩ w hh (by simp; omega) c2
    simp only [Nat.add_zero] at hst
    refine wp_skip' (w' := w.setRow g (us.take off ++ (a.eval x').cells.toList ++ us.drop (off + (a.eval x').cells.toList.length)).toArray) ?_ ?_
    · simp [execOp, r1, Instr.storeAt, Instr.sureAddr, storeVar, Go.sizeOf, typeInfo, hi, hsz, hsize, hst]
    · refine ⟨γ, _, hK, fun _ _ => rfl, ?_⟩
      refine Rel.put (hr.turnSame hb ?_ ?_) hd trivial
      · rw [hg]
        exact ⟨rfl, rfl, rfl, by simp, fun k _ hk => setRow_other w g k _ (fun e => hk (by simp [blk, e]))⟩
      · intro ok hok
        refine ⟨g, us.take off ++ (a.eval x').cells.toList ++ us.drop (off + (a.eval x').cells.toList.length), bt, hg, by simpa using setRow_heap w g _ _ bt _ hh, ?_, ?_⟩
        · have hv' := RepVs.mono hok cs us (fun _ _ => rfl) hv
          have c1' := RepVs.mono hok new _ (fun _ _ => rfl) c1
          have : (a.eval x').cells.toList.length = new.length := hcl
          unfold setRange
          rw [← this]
          exact ((hv'.take off).append c1').append (hv'.drop _)
        · intro u hu
          rcases List.mem_append.1 hu with hu | hu
          · rcases List.mem_append.1 hu with hu | hu
            · exact hone u (List.mem_of_mem_take hu)
            · exact c2 u hu
          · exact hone u (List.mem_of_mem_drop hu)
  · rename_i m sz i off new e1 e2
    obtain ⟨es, e, ds, hb, hie, hds, hl, hle, hK⟩ := hs
    rw [e1] at r1
    obtain ⟨g, l, c0, hg, r1⟩ := r1
    obtain ⟨c1, c2⟩ := cellsV_rep e2 r2
    obtain ⟨d1, d2⟩ := toDs_rep hds c1
    rcases hr.objs m _ hb with ⟨rfl, _⟩ | ⟨g', cap, us, bt, e3, hcp, hh, hlc, hcm, hul, hsz', hrc, hone⟩
    · simp at hie
    rw [hg] at e3
    simp only [Value.slice.injEq, Option.some.injEq, Addr.mk.injEq, and_true] at e3
    obtain ⟨rfl, e4, rfl⟩ := e3
    have hilt : i < es.length := (List.getElem?_eq_some_iff.1 hie).1
    have hel : e.length = sz := hsz' e (List.mem_of_getElem? hie)
    have hsize : (a.eval x').cells.size = n := by rw [← hl, ← d1]; simp
    have hmul : (i + 1) * sz ≤ c0 * sz := Nat.mul_le_mul_right _ (by omega)
    rw [Nat.succ_mul] at hmul
    have hfit : i * sz + off + (a.eval x').cells.toList.length ≤ us.length := by simp only [Array.length_toList]; omega
    have hst := run_storeCells_at C.P g (i * sz + off) bt (a.eval x').cells.toList 0 ⟨us⟩ w hh (by simpa using hfit) c2
    simp only [Nat.add_zero] at hst
    refine wp_skip' (w' := w.setRow g (us.take (i * sz + off) ++ (a.eval x').cells.toList ++ us.drop (i * sz + off + (a.eval x').cells.toList.length)).toArray) ?_ ?_
    · simp [execOp, r1, Instr.storeAt, Instr.sureAddr, storeVar, Go.sizeOf, typeInfo, hi, hsz, hsize, hst]
    · refine ⟨γ, _, hK, fun _ _ => rfl, ?_⟩
      refine Rel.put (hr.turnSame hb ?_ ?_) hd trivial
      · rw [hg]
        exact ⟨rfl, rfl, rfl, by simp, fun k _ hk => setRow_other w g k _ (fun e => hk (by simp [blk, e]; omega))⟩
      · intro ok hok
        have hsr : (setRange e off ds).length = sz := by unfold setRange; simp; omega
        refine .inr ⟨g, c0, us.take (i * sz + off) ++ (a.eval x').cells.toList ++ us.drop (i * sz + off + (a.eval x').cells.toList.length), bt, by rw [hg]; simp [e4], hcp, by simpa using setRow_heap w g _ _ bt _ hh, by simpa using hlc, hcm, ?_, ?_, ?_, ?_⟩
        · simp only [List.length_append, List.length_take, List.length_drop]; omega
        · intro e' he'
          rcases List.mem_or_eq_of_mem_set he' with h | h
          · exact hsz' e' h
          · rw [h]; exact hsr
        · rw [flat_setRange hsz' hie (by omega)]
          have hfl := flat_length hsz'
          have h1 : (i + 1) * sz ≤ es.length * sz := Nat.mul_le_mul_right _ hilt
          rw [Nat.succ_mul] at h1
          unfold setRange
          rw [← d1]
          have hrc' := hrc.mono hok
          refine RepCells.append (by rw [List.length_append, List.length_append, List.length_take, List.length_take, hfl, d1]; omega) (RepCells.append (by rw [List.length_take, List.length_take, hfl]; omega) (hrc'.take _) (d2.mono hok)) (hrc'.drop _)
        · intro u hu
          rcases List.mem_append.1 hu with hu | hu
          · rcases List.mem_append.1 hu with hu | hu
            · exact hone u (List.mem_of_mem_take hu)
            · exact c2 u hu
          · exact hone u (List.mem_of_mem_drop hu)
  · exact hs.elim
theorem run_newVar' {P : Program} {w : World} (t : TypeId) (v : Value) : (newVar t v).run P w = .ok ⟨w.heap.size, 0, none⟩ (w.alloc (.cells v.cells t)) := by simp [newVar, newRow]
theorem ss_alloc (hr : Rel C w0 S M N γ st a w) (hd : ∀ d, o.dst = some d → d < N) {nm : Nat} {zs : List V} {I : Nat → Prop} {K : St → Prop} (hk : okS C.P C.φ o (.alloc nm zs) = true) (hs : stepS I st o.dst K (.alloc nm zs)) :
    o.wp C.P a w (Lands C w0 S M N I γ K) Q := by
  obtain ⟨dst, op, ty, pos, aft, gd⟩ := o
  simp only [okS] at hk
  split at hk
  case h_2 => cases hk
  rename_i t
  obtain ⟨i, z, hi, hz, hzs, hsz⟩ := okZero_run hk
  obtain ⟨hI, hf, hrf, hK⟩ := hs
  refine wp_value (u := .pointer (some ⟨w.heap.size, 0, none⟩)) (w' := w.alloc (.cells z.cells t)) ?_ ?_
  · simp [execOp, Instr.alloc, zeroValue, typeInfo, hi, hz, run_newVar']
  · refine ⟨upd γ nm (.pointer (some ⟨w.heap.size, 0, none⟩)), _, hK, fun n hn => upd_other _ _ (fun e => hI (e ▸ hn)), ?_⟩
    refine hr.new hd hf (Grow.alloc w _) (h := .pointer (some ⟨w.heap.size, 0, none⟩)) (fun g hg => ?_) (fun ok γ' hok hγ => ?_) hrf (fun ok => ?_)
    · simp only [blk, Option.some.injEq] at hg; omega
    · obtain ⟨z1, z2⟩ := okZeros_rep (C := C) (w := w.alloc (.cells z.cells t)) (γ := γ') (ok := ok) hzs
      exact ⟨w.heap.size, z.cells.toList, t, rfl, heap_alloc_new w _, z1, z2⟩
    · exact ⟨w.heap.size, by rw [upd_same], rfl⟩
theorem ss_box (hr : Rel C w0 S M N γ st a w) (hd : ∀ d, o.dst = some d → d < N) {nm n : Nat} {x : Opd} {I : Nat → Prop} {K : St → Prop} (hk : okS C.P C.φ o (.box nm n x) = true) (hs : stepS I st o.dst K (.box nm n x)) :
    o.wp C.P a w (Lands C w0 S M N I γ K) Q := by
  obtain ⟨dst, op, ty, pos, aft, gd⟩ := o
  simp only [okS] at hk
  split at hk
  case h_2 => cases hk
  rename_i t x'
  have r1 := opd_rep hr hk
  obtain ⟨cs, hc, hl, hI, hf, hrf, hK⟩ := hs
  obtain ⟨c1, c2⟩ := cellsV_rep hc r1
  refine wp_value (u := .pointer (some ⟨w.heap.size, 0, none⟩)) (w' := w.alloc (.cells (a.eval x').cells t)) ?_ ?_
  · simp [execOp, Instr.box, run_newVar']
  · refine ⟨upd γ nm (.pointer (some ⟨w.heap.size, 0, none⟩)), _, hK, fun n hn => upd_other _ _ (fun e => hI (e ▸ hn)), ?_⟩
    refine hr.new hd hf (Grow.alloc w _) (h := .pointer (some ⟨w.heap.size, 0, none⟩)) (fun g hg => ?_) (fun ok γ' hok hγ => ?_) hrf (fun ok => ?_)
    · simp only [blk, Option.some.injEq] at hg; omega
    · exact ⟨w.heap.size, (a.eval x').cells.toList, t, rfl, heap_alloc_new w _, RepVs.mono hok _ _ hγ c1, c2⟩
    · exact ⟨w.heap.size, by rw [upd_same], rfl⟩
theorem okElem_run {P : Program} {e : TypeId} {sz bytes : Nat} (h : okElem P e sz bytes = true) : ∃ i z, P.info? e = some i ∧ i.zero = some z ∧ (∀ u ∈ z.cells.toList, u.oneCell' = true) ∧ z.cells.size = i.size ∧ i.size = sz ∧ i.bytes = bytes ∧ i.size ≠ 0 := by
  unfold okElem at h
  split at h
  · rename_i i hi
    split at h
    · rename_i z hz
      simp only [Bool.and_eq_true, beq_iff_eq, bne_iff_ne, Array.all_eq_true'] at h
      obtain ⟨⟨⟨⟨h1, h2⟩, h3⟩, h4⟩, h5⟩ := h
      exact ⟨i, z, hi, hz, fun u hu => h1 u (by simpa using hu), by omega, h3, h4, by omega⟩
    · cases h
  · cases h
theorem elemOf_run {P : Program} {t e : TypeId} (h : elemOf' P t = some e) : P.underlying t = some (.slice e) := by
  unfold elemOf' at h
  split at h
  · rename_i e' hs; injection h with h; subst h; exact hs
  · cases h
theorem RepCs.append {w : World} {ok : Nat → Prop} {ad : Addr} : ∀ {cs ds : List D} {off : Nat}, RepCs w ok ad off cs → RepCs w ok ad (off + cs.length) ds → RepCs w ok ad off (cs ++ ds)
  | [], ds, off, _, h => by simpa using h
  | c :: cs, ds, off, h, k => ⟨h.1, RepCs.append h.2 (by rw [List.length_cons] at k; rwa [show off + 1 + cs.length = off + (cs.length + 1) by omega])⟩
theorem RepEs.flat {w : World} {ok : Nat → Prop} {ad : Addr} : ∀ {es : List (List D)} {off : Nat}, RepEs w ok ad off es → RepCs w ok ad off es.flatten
  | [], _, _ => trivial
  | e :: es, off, h => RepCs.append h.1 (RepEs.flat h.2)
theorem RepVs.cells {w : World} {ok : Nat → Prop} : ∀ {ds : List D} {us : List Value}, RepVs C w ok γ (ds.map .d) us → RepCells w ok ds us
  | [], _, _ => trivial
  | d :: ds, us, h => by
    obtain ⟨u, us', rfl, h1, h2⟩ := h
    exact ⟨h1, RepVs.cells h2⟩
theorem readD_rep (hr : Rel C w0 S M N γ st a w) {x : V} {ys : List (List D)} {u : Value} (h : readD st.o x = some ys) (hx : RepV C w (okOf w0 S γ st.o w) γ x u) {sz : Nat} (hsz : ∀ e ∈ ys, e.length = sz) :
    ∃ B c news, u = .slice B ys.length c ∧ news.length = ys.length * sz ∧ (0 < ys.length → ∃ ad, B = some ad ∧ ∀ (j : Nat) (v : Value), news[j]? = some v → w.cell? (ad.add j) = some v) ∧ (∀ v ∈ news, v.oneCell' = true) ∧ RepCells w (okOf w0 S γ st.o w) ys.flatten news := by
  unfold readD at h
  split at h
  · rename_i es
    injection h with h
    subst h
    obtain ⟨A, cap, sz', rfl, hlc, hs', hc⟩ := hx
    by_cases hne : es = []
    · subst hne
      exact ⟨A, cap, [], rfl, by simp, by simp, by simp, trivial⟩
    · obtain ⟨ad, rfl, hok, hes⟩ := hc hne
      have hcs := hes.flat
      obtain ⟨us, hl, hcell, hv, hone⟩ := RepCs.load C γ hcs
      refine ⟨_, cap, us, rfl, by rw [hl, flat_length hsz], fun _ => ⟨ad, rfl, fun j v hj => by simpa using hcell j v hj⟩, hone, hv.cells⟩
  · injection h with h
    subst h
    obtain ⟨A, rfl⟩ := hx
    exact ⟨A, 0, [], rfl, by simp, by simp, by simp, trivial⟩
  · rename_i m
    split at h
    · rename_i sz0 es hb
      injection h with h
      subst h
      obtain ⟨rfl, _⟩ := hx
      rcases hr.objs m _ hb with ⟨rfl, A, hh⟩ | ⟨g, cap, us, bt, hh, hcp, hg, hlc, hcm, hul, hs', hrc, hone⟩
      · exact ⟨A, 0, [], by rw [hh]; rfl, by simp, by simp, by simp, trivial⟩
      · have hfl := flat_length hsz
        have hfl' := flat_length hs'
        have hmul := Nat.mul_le_mul_right sz0 hlc
        refine ⟨_, cap, us.take (es.length * sz), hh, ?_, fun hpos => ⟨_, rfl, fun j v hj => ?_⟩, fun v hv => hone v (List.mem_of_mem_take hv), ?_⟩
        · rw [List.length_take]
          omega
        · rw [List.getElem?_take] at hj
          split at hj
          · rw [add_lit, cell_of_row w g _ _ _ _ hg]
            simpa using hj
          · cases hj
        · have := hrc.take (es.length * sz)
          rwa [List.take_of_length_le (by omega)] at this
    · cases h
  · cases h
theorem partsD_rep (hr : Rel C w0 S M N γ st a w) {sz : Nat} : ∀ {ps : List (Nat × Operand)} {qs : List (Nat × Opd)} {k : Nat} {es : List (List D)} {cells : Array Value}, okRow C.φ k ps qs = true → partsD sz (opd st.s) (qs.map (·.2)) = some es →
    cells.size = (k + qs.length) * sz → (∀ u ∈ cells.toList.take (k * sz), u.oneCell' = true) →
    ∃ vs : List Value, Instr.fill (fun i => some (i * sz, sz)) cells (ps.map fun (i, x) => (i, a.eval x)) = some ⟨vs⟩ ∧ vs.length = cells.size ∧ vs.take (k * sz) = cells.toList.take (k * sz) ∧ RepCells w (okOf w0 S γ st.o w) es.flatten (vs.drop (k * sz)) ∧ (∀ e ∈ es, e.length = sz) ∧ es.length = qs.length ∧ ∀ u ∈ vs, u.oneCell' = true
  | [], [], k, es, cells, _, h, hc, h1 => by
    simp only [List.map_nil, partsD, Option.some.injEq] at h
    subst h
    refine ⟨cells.toList, by simp [Instr.fill], by simp, rfl, trivial, by simp, rfl, ?_⟩
    rwa [List.take_of_length_le (by simpa using Nat.le_of_eq hc)] at h1
  | (i, x) :: ps, (j, y) :: qs, k, es, cells, hk, h, hc, h1 => by
    simp only [okRow, Bool.and_eq_true, beq_iff_eq] at hk
    obtain ⟨⟨⟨rfl, rfl⟩, hx⟩, hk⟩ := hk
    simp only [List.map_cons, partsD] at h
    split at h
    · rename_i cs hcs
      split at h
      · rename_i ds hds
        split at h
        · rename_i hl
          split at h
          · rename_i es' hes
            injection h with h
            subst h
            obtain ⟨c1, c2⟩ := cellsV_rep hcs (opd_rep hr hx)
            obtain ⟨d1, d2⟩ := toDs_rep hds c1
            simp only [List.length_cons] at hc
            have hmul : (j + (qs.length + 1)) * sz = j * sz + (qs.length * sz + sz) := by rw [Nat.add_mul, Nat.succ_mul]
            have hsize : (a.eval x).cells.size = sz := by rw [← hl, ← d1]; simp
            have hf := fold_set (j * sz) (a.eval x).cells.toList 0 cells (by simp; omega)
            simp only [Nat.add_zero] at hf
            have hfl : (((a.eval x).cells.toList.zipIdx 0).foldl (fun cs (x : Value × Nat) => cs.setIfInBounds (j * sz + x.2) x.1) cells).size = cells.size := by
              have := congrArg List.length hf
              simp only [Array.length_toList, List.length_append, List.length_take, List.length_drop] at this
              omega
            have hlen0 : (cells.toList.take (j * sz)).length = j * sz := by
              rw [List.length_take, Array.length_toList]
              omega
            have hlen : (cells.toList.take (j * sz) ++ (a.eval x).cells.toList).length = (j + 1) * sz := by
              rw [List.length_append, List.length_take, Nat.succ_mul]
              simp only [Array.length_toList]
              omega
            obtain ⟨vs, e1, e2, e3, e4, e5, e6, e7⟩ := partsD_rep hr (k := j + 1) (cells := ((a.eval x).cells.toList.zipIdx 0).foldl (fun cs (x : Value × Nat) => cs.setIfInBounds (j * sz + x.2) x.1) cells) hk hes
              (by rw [hfl, hc]; congr 1; omega) (by
                rw [hf, List.take_left' hlen]
                intro u hu
                rcases List.mem_append.1 hu with hu | hu
                · exact h1 u hu
                · exact c2 u hu)
            rw [hf, List.take_left' hlen] at e3
            refine ⟨vs, ?_, by rw [e2, hfl], ?_, ?_, ?_, by simp [e6], e7⟩
            · rw [List.map_cons, Instr.fill]
              have hcond : ¬ ((a.eval x).cells.size ≠ sz ∨ j * sz + (a.eval x).cells.size > cells.size) := by
                rw [hc, hmul, hsize]
                omega
              simp only [Bool.or_eq_true, decide_eq_true_eq]
              rw [if_neg hcond, ← e1]
              congr 1
              rw [← Array.foldl_toList]
              simp
            · have := congrArg (List.take (j * sz)) e3
              rw [List.take_take, List.take_append_of_le_length (by simp; omega), List.take_take] at this
              rwa [show min (j * sz) ((j + 1) * sz) = j * sz by rw [Nat.succ_mul]; omega, Nat.min_self] at this
            · have hdr : vs.drop (j * sz) = (a.eval x).cells.toList ++ vs.drop ((j + 1) * sz) := by
                rw [← List.take_append_drop sz (vs.drop (j * sz)), List.drop_drop, show j * sz + sz = (j + 1) * sz by rw [Nat.succ_mul]]
                congr 1
                have := congrArg (List.drop (j * sz)) e3
                rw [List.drop_take, show (j + 1) * sz - j * sz = sz by rw [Nat.succ_mul]; omega] at this
                rw [this, List.drop_left' hlen0]
              rw [hdr, List.flatten_cons]
              exact RepCells.append d1 d2 e4
            · intro e he
              rcases List.mem_cons.1 he with rfl | he
              · exact hl
              · exact e5 e he
          · cases h
        · cases h
      · cases h
    · cases h
  | [], _ :: _, _, _, _, h, _, _, _ => by simp [okRow] at h
  | _ :: _, [], _, _, _, h, _, _, _ => by simp [okRow] at h
theorem RepCs.of_cells {w : World} {ok : Nat → Prop} {g : Nat} {us : List Value} {bt : TypeId} (hg : w.heap[g]? = some (.cells ⟨us⟩ bt (0, 0))) {ds : List D} {k : Nat} (h : RepCells w ok ds (us.drop k)) : RepCs w ok ⟨g, 0, none⟩ k ds :=
  RepCs.of_get fun j c hj => by
    obtain ⟨u, hu, hr⟩ := h.get j c hj
    refine ⟨u, ?_, hr⟩
    rw [add_lit, cell_of_row w g _ _ _ _ hg]
    rw [List.getElem?_drop] at hu
    simpa using hu
theorem RepEs.of_cells {w : World} {ok : Nat → Prop} {g sz : Nat} {us : List Value} {bt : TypeId} (hg : w.heap[g]? = some (.cells ⟨us⟩ bt (0, 0))) : ∀ {es : List (List D)} {k : Nat}, (∀ e ∈ es, e.length = sz) → RepCells w ok es.flatten (us.drop k) → RepEs w ok ⟨g, 0, none⟩ k es
  | [], _, _, _ => trivial
  | e :: es, k, hs, h => by
    rw [List.flatten_cons] at h
    refine ⟨RepCs.of_cells hg (RepCells.of_get fun i d hd => ?_), RepEs.of_cells hg (fun e he => hs e (List.mem_cons_of_mem _ he)) (RepCells.of_get fun i d hd => ?_)⟩
    · exact h.get i d (by rw [List.getElem?_append_left (List.getElem?_eq_some_iff.1 hd).1]; exact hd)
    · obtain ⟨u, hu, hr⟩ := h.get (e.length + i) d (by rw [List.getElem?_append_right (by omega)]; simpa using hd)
      refine ⟨u, ?_, hr⟩
      rw [List.getElem?_drop] at hu ⊢
      rwa [Nat.add_assoc]
/-- A new block of elements, by value. -/
theorem new_sl {w' : World} {ok : Nat → Prop} {us : List Value} {bt : TypeId} {g sz cap : Nat} {es : List (List D)} (hg : w'.heap[g]? = some (.cells ⟨us⟩ bt (0, 0))) (hok : ok g) (hl : es.length ≤ cap) (hs : ∀ e ∈ es, e.length = sz) (h : RepCells w' ok es.flatten us) :
    RepD w' ok (.sl es) (.slice (some ⟨g, 0, none⟩) es.length cap) :=
  ⟨_, cap, sz, rfl, hl, hs, fun _ => ⟨_, rfl, hok, RepEs.of_cells hg hs (by simpa using h)⟩⟩
theorem ss_bsl (hr : Rel C w0 S M N γ st a w) (hd : ∀ d, o.dst = some d → d < N) {own : Option Nat} {sz n : Nat} {zero : List D} {parts : List (Nat × Opd)} {I : Nat → Prop} {K : St → Prop} (hk : okS C.P C.φ o (.bsl own sz zero n parts) = true) (hs : stepS I st o.dst K (.bsl own sz zero n parts)) :
    o.wp C.P a w (Lands C w0 S M N I γ K) Q := by
  obtain ⟨dst, op, ty, pos, aft, gd⟩ := o
  simp only [okS] at hk
  split at hk
  case h_2 => cases hk
  rename_i t n' ps
  simp only [Bool.and_eq_true, beq_iff_eq, decide_eq_true_eq] at hk
  obtain ⟨⟨⟨⟨rfl, hle⟩, hn⟩, hrow⟩, he⟩ := hk
  split at he
  case h_2 => cases he
  rename_i e hel
  obtain ⟨i, z, hi, hz, hz1, hzs, hsz, _, hne⟩ := okElem_run he
  have ht := elemOf_run hel
  have hzpos : 0 < z.cells.size := by omega
  -- what is laid before the parts are put
  have hrun : ∀ vs : List Value, Instr.fill (fun i => some (i * sz, sz)) ((Array.range (n * sz)).map (z.cells[· % z.cells.size]!)) (ps.toList.map fun (i, x) => (i, a.eval x)) = some ⟨vs⟩ →
      (execOp a.eval { dst := dst, op := .buildSlice t n ps, type := ty, pos := pos, after := aft, guard := gd }).run C.P w = .ok (.value (.slice (some ⟨w.heap.size, 0, none⟩) n n)) (w.alloc (.cells ⟨vs⟩ e)) := by
    intro vs hf
    have hpl : (ps.map fun (i, x) => (i, a.eval x)).toList = ps.toList.map fun (i, x) => (i, a.eval x) := by simp
    by_cases h0 : n * sz = 0
    · have : (Array.range (n * sz)).map (z.cells[· % z.cells.size]!) = (Array.range 0).map ((#[] : Array Value)[· % (#[] : Array Value).size]!) := by rw [h0]; simp
      rw [this] at hf
      simp only [execOp, Instr.buildSlice, Sem.run_bind, run_underlying ht, Result.andThen_ok, Go.sizeOf, typeInfo, run_program, hi, Sem.run_pure, hsz, h0, if_neg (show ¬ 0 > 2 ^ 24 by omega), if_true, Sem.run_ite, hpl]
      simp only [hf]
      simp [newRow]
    · simp only [execOp, Instr.buildSlice, Sem.run_bind, run_underlying ht, Result.andThen_ok, Go.sizeOf, typeInfo, run_program, hi, Sem.run_pure, hsz, if_neg h0, if_neg (show ¬ n * sz > 2 ^ 24 by omega), Sem.run_ite, zeroValue, hz, hpl, hf]
      simp [newRow]
  have hz0 : ((Array.range (n * sz)).map (z.cells[· % z.cells.size]!)).size = (0 + parts.length) * sz := by simp [hn]
  cases own with
  | none =>
    obtain ⟨es, hps, hK⟩ := hs
    obtain ⟨vs, e1, e2, _, e4, e5, e6, e7⟩ := partsD_rep hr hrow hps hz0 (by simp)
    refine wp_value (hrun vs e1) ⟨γ, _, hK, fun _ _ => rfl, ?_⟩
    refine hr.putGrow hd (Grow.alloc w _) (fun ok hok hnew => ?_)
    have hes : es.length = n := by rw [e6, hn]
    rw [← hes]
    have e4' : RepCells w (okOf w0 S γ st.o w) es.flatten vs := by simpa using e4
    exact new_sl (heap_alloc_new w _) (hnew _ (Nat.le_refl _) (by simp)) (Nat.le_refl _) e5 (RepCells.mono hok e4')
  | some nm =>
    simp only [stepS] at hs
    split at hs
    · rename_i h0
      subst h0
      have hp0 : parts = [] := List.eq_nil_of_length_eq_zero (by omega)
      subst hp0
      obtain ⟨vs, e1, _⟩ := partsD_rep (sz := sz) hr (es := []) hrow (by simp [partsD]) hz0 (by simp)
      refine wp_value (hrun vs e1) ⟨γ, _, hs, fun _ _ => rfl, ?_⟩
      exact hr.putGrow hd (Grow.alloc w _) (fun ok hok hnew => ⟨_, rfl⟩)
    · rename_i h0
      obtain ⟨es, hps, hI, hf, hK⟩ := hs
      obtain ⟨vs, e1, e2, _, e4, e5, e6, e7⟩ := partsD_rep hr hrow hps hz0 (by simp)
      have hes : es.length = n := by rw [e6, hn]
      have hvl : vs.length = n * sz := by rw [e2]; simp
      refine wp_value (hrun vs e1) ⟨upd γ nm (.slice (some ⟨w.heap.size, 0, none⟩) n n), _, hK, fun n hn => upd_other _ _ (fun e => hI (e ▸ hn)), ?_⟩
      refine hr.new hd hf (Grow.alloc w _) (fun g hg => ?_) (fun ok γ' hok hγ => ?_) rfl (fun ok => ⟨by rw [upd_same], rfl⟩)
      · simp only [blk] at hg
        split at hg
        · cases hg
        · injection hg with hg; exact Nat.le_of_eq hg
      · refine .inr ⟨w.heap.size, n, vs, e, by rw [hes], by omega, heap_alloc_new w _, by omega, ?_, hvl, e5, RepCells.mono hok (show RepCells w (okOf w0 S γ st.o w) es.flatten vs by simpa using e4), e7⟩
        have : n ≤ n * sz := Nat.le_mul_of_pos_right _ (by omega)
        simp only [maxLen]; omega
end
end Pay
