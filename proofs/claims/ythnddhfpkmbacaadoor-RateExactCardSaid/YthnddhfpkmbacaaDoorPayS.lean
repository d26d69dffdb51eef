/- Following a run by simp: each step's equation, with what follows left alone until its state is known. -/
import Derived.Test.YthnddhfpkmbacaaDoorPayR
set_option linter.unusedSimpArgs false
set_option linter.unusedVariables false
namespace Pay
open Go
section
variable {C : Ctx} {I : Nat → Prop} {st st' : St} {Q : Ex → St → Prop} {K : St → Prop} {dst : Option Nat} {tr : Option (List Nat × Option (List Nat))}
def seqK (f : St → Prop) (Q : Ex → St → Prop) : Ex → St → Prop
  | .normal, st => f st
  | .exit id, st => Q (.exit id) st
  | .ret, st => Q .ret st
def blockK (id : Nat) (tr : List Nat) (tro : Option (List Nat)) (Q : Ex → St → Prop) : Ex → St → Prop
  | .normal, st => Q .normal (st.trim tr tro)
  | .exit id', st => if id' = id then Q .normal (st.trim tr tro) else Q (.exit id') st
  | .ret, st => Q .ret st
def condK (v : V) (A B : Prop) : Prop := match v with | .d (.bool t) => if t = true then A else B | _ => False
theorem wp_code_congr {c : ACode} (h : st = st') : wpA C I c st Q = wpA C I c st' Q := by rw [h]
theorem opsA_congr {os : List AOper} (h : st = st') : opsA C I os st K = opsA C I os st' K := by rw [h]
theorem opA_congr {o : AOper} (h : st = st') : opA C I o st K = opA C I o st' K := by rw [h]
theorem seqK_congr {f : St → Prop} {e : Ex} (h : st = st') : seqK f Q e st = seqK f Q e st' := by rw [h]
theorem blockK_congr {id : Nat} {tr : List Nat} {tro : Option (List Nat)} {e : Ex} (h : st = st') : blockK id tr tro Q e st = blockK id tr tro Q e st' := by rw [h]
theorem condK_congr {v v' : V} {A B : Prop} (h : v = v') : condK v A B = condK v' A B := by rw [h]
theorem demand_congr {x y : Option V} {F : V → Prop} (h : x = y) : demand x F = demand y F := by rw [h]
attribute [congr] wp_code_congr opsA_congr opA_congr seqK_congr blockK_congr condK_congr demand_congr
theorem demand_v {v : V} {F : V → Prop} : demand (some v) F = F v := propext Iff.rfl
theorem demand_0 {F : V → Prop} : demand none F = False := propext Iff.rfl
theorem w_seq {a b : ACode} : wpA C I (.seq a b) st Q = wpA C I a st (seqK (fun st => wpA C I b st Q) Q) := by
  show wpA C I a st _ = wpA C I a st _
  congr 1
  funext e st
  cases e <;> rfl
theorem w_cond {c : Opd} {a b : ACode} : wpA C I (.cond c a b) st Q = condK (opd st.s c) (wpA C I a st Q) (wpA C I b st Q) := propext Iff.rfl
theorem w_block {id : Nat} {tr : List Nat} {tro : Option (List Nat)} {c : ACode} : wpA C I (.block id tr tro c) st Q = wpA C I c st (blockK id tr tro Q) := by
  show wpA C I c st _ = wpA C I c st _
  congr 1
  funext e st
  cases e <;> rfl
theorem w_loop {L : ACode} {tr : List Nat} {tro : Option (List Nat)} {c : ACode} (hL : L = .loop tr tro c) (h : wpA C I c (st.trim tr tro) (seqK (fun s => wpA C I L s Q) Q)) : wpA C I L st Q := by
  refine wpA_loop' hL (wpA_mono (fun e st => ?_) h)
  cases e <;> exact fun h => h
theorem seqK_n {f : St → Prop} : seqK f Q .normal st = f st := propext Iff.rfl
theorem seqK_e {f : St → Prop} {id : Nat} : seqK f Q (.exit id) st = Q (.exit id) st := propext Iff.rfl
theorem seqK_r {f : St → Prop} : seqK f Q .ret st = Q .ret st := propext Iff.rfl
theorem blockK_n {id : Nat} {tr : List Nat} {tro : Option (List Nat)} : blockK id tr tro Q .normal st = Q .normal (st.trim tr tro) := propext Iff.rfl
theorem blockK_e {id : Nat} {tr : List Nat} {tro : Option (List Nat)} {id' : Nat} : blockK id tr tro Q (.exit id') st = if id' = id then Q .normal (st.trim tr tro) else Q (.exit id') st := propext Iff.rfl
theorem blockK_r {id : Nat} {tr : List Nat} {tro : Option (List Nat)} : blockK id tr tro Q .ret st = Q .ret st := propext Iff.rfl
theorem condK_b {t : Bool} {A B : Prop} : condK (.d (.bool t)) A B = if t = true then A else B := propext Iff.rfl
/-- A guard. -/
def guardK (v : V) (want : Bool) (A B B0 : Prop) : Prop := match v with | .d (.bool b) => if b = want then A else B | .tup [] => B0 | _ => False
theorem guardK_congr {v v' : V} {want : Bool} {A B B0 : Prop} (h : v = v') : guardK v want A B B0 = guardK v' want A B B0 := by rw [h]
attribute [congr] guardK_congr
theorem guardK_b {b want : Bool} {A B B0 : Prop} : guardK (.d (.bool b)) want A B B0 = if b = want then A else B := propext Iff.rfl
theorem guardK_t {want : Bool} {A B B0 : Prop} : guardK (.tup []) want A B B0 = B0 := propext Iff.rfl
theorem op_if {op : AOp} {frz deps : List Nat} {p g : Nat} {want : Bool} : opA C I ⟨dst, op, frz, deps, some (p, g, want), tr⟩ st K =
    guardK (st.s g) want (opA C I ⟨dst, op, frz, deps, none, tr⟩ (st.put (some g) (.d (.bool want))) K) (K ((st.put (some g) (.d (.bool (!want)))).put dst (.tup []))) (K (st.put dst (.tup []))) := by
  rw [opA_if]
  rfl
def boxK (x : Option Ob) (F : List V → Prop) : Prop := match x with | some (.box cs) => F cs | _ => False
def rowK (x : Option Ob) (F : Nat → List (List D) → Prop) : Prop := match x with | some (.row sz es) => F sz es | _ => False
def lstK {α : Type} (x : Option (List α)) (F : List α → Prop) : Prop := match x with | some cs => F cs | none => False
theorem boxK_congr {x y : Option Ob} {F : List V → Prop} (h : x = y) : boxK x F = boxK y F := by rw [h]
theorem rowK_congr {x y : Option Ob} {F : Nat → List (List D) → Prop} (h : x = y) : rowK x F = rowK y F := by rw [h]
theorem lstK_congr {α : Type} {x y : Option (List α)} {F : List α → Prop} (h : x = y) : lstK x F = lstK y F := by rw [h]
attribute [congr] boxK_congr rowK_congr lstK_congr
theorem boxK_b {cs : List V} {F : List V → Prop} : boxK (some (.box cs)) F = F cs := propext Iff.rfl
theorem rowK_r {sz : Nat} {es : List (List D)} {F : Nat → List (List D) → Prop} : rowK (some (.row sz es)) F = F sz es := propext Iff.rfl
theorem lstK_s {α : Type} {cs : List α} {F : List α → Prop} : lstK (some cs) F = F cs := propext Iff.rfl
/-- a store -/
def storeK (p : V) (new : Option (List V)) (n : Nat) (o : Nat → Option Ob) (F : Nat → Ob → Prop) : Prop := match p with
  | .ptr m off => lstK new (fun new => boxK (o m) (fun cs => new.length = n ∧ off + n ≤ cs.length ∧ F m (.box (setRange cs off new))))
  | .eptr m sz i off => lstK new (fun new => rowK (o m) (fun sz' es => sz' = sz ∧ lstK es[i]? (fun e => lstK (toDs new) (fun ds => ds.length = n ∧ off + n ≤ e.length ∧ F m (.row sz (es.set i (setRange e off ds)))))))
  | _ => False
theorem storeK_congr {p p' : V} {new new' : Option (List V)} {n : Nat} {o o' : Nat → Option Ob} {F : Nat → Ob → Prop} (h1 : p = p') (h2 : new = new') (h3 : o = o') : storeK p new n o F = storeK p' new' n o' F := by rw [h1, h2, h3]
attribute [congr] storeK_congr
theorem storeK_p {m off n : Nat} {new : Option (List V)} {o : Nat → Option Ob} {F : Nat → Ob → Prop} : storeK (.ptr m off) new n o F = lstK new (fun new => boxK (o m) (fun cs => new.length = n ∧ off + n ≤ cs.length ∧ F m (.box (setRange cs off new)))) := propext Iff.rfl
theorem storeK_e {m sz i off n : Nat} {new : Option (List V)} {o : Nat → Option Ob} {F : Nat → Ob → Prop} : storeK (.eptr m sz i off) new n o F = lstK new (fun new => rowK (o m) (fun sz' es => sz' = sz ∧ lstK es[i]? (fun e => lstK (toDs new) (fun ds => ds.length = n ∧ off + n ≤ e.length ∧ F m (.row sz (es.set i (setRange e off ds))))))) := propext Iff.rfl
theorem step_store {n : Nat} {p x : Opd} : stepS I st dst K (.store n p x) = storeK (opd st.s p) (cellsV (opd st.s x)) n st.o (fun m ob => K ({ st with o := upd st.o m (some ob) }.put dst .undef)) := by
  apply propext
  constructor
  · intro h
    simp only [stepS] at h
    split at h
    · rename_i m off new hp hx
      obtain ⟨cs, hb, h1, h2, h3⟩ := h
      rw [hp, hx, storeK_p, lstK_s, hb]
      exact ⟨h1, h2, h3⟩
    · rename_i m sz i off new hp hx
      obtain ⟨es, e, ds, hb, he, hds, h1, h2, h3⟩ := h
      rw [hp, hx, storeK_e, lstK_s, hb, rowK_r, he, lstK_s, hds, lstK_s]
      exact ⟨rfl, h1, h2, h3⟩
    · exact h.elim
  · intro h
    unfold storeK at h
    simp only [stepS]
    split at h
    · rename_i m off hp
      rw [hp]
      cases hx : cellsV (opd st.s x) with
      | none => rw [hx] at h; exact h.elim
      | some new =>
        rw [hx, lstK_s] at h
        unfold boxK at h
        split at h
        · rename_i cs hb; exact ⟨cs, hb, h⟩
        · exact h.elim
    · rename_i m sz i off hp
      rw [hp]
      cases hx : cellsV (opd st.s x) with
      | none => rw [hx] at h; exact h.elim
      | some new =>
        rw [hx, lstK_s] at h
        unfold rowK at h
        split at h
        · rename_i sz' es hb
          obtain ⟨rfl, h⟩ := h
          cases he : es[i]? with
          | none => rw [he] at h; exact h.elim
          | some e =>
            rw [he, lstK_s] at h
            cases hds : toDs new with
            | none => rw [hds] at h; exact h.elim
            | some ds => rw [hds, lstK_s] at h; exact ⟨es, e, ds, hb, he, hds, h⟩
        · exact h.elim
    · exact h.elim
theorem step_box {nm n : Nat} {x : Opd} : stepS I st dst K (.box nm n x) = lstK (cellsV (opd st.s x)) (fun cs => cs.length = n ∧ ¬ I nm ∧ Fresh st nm dst ∧ V.refsL nm cs = false ∧ K { s := (st.put dst (.ptr nm 0)).s, o := upd st.o nm (some (.box cs)) }) := by
  simp only [stepS]
  cases cellsV (opd st.s x) with
  | none => simp [lstK]
  | some cs => simp [lstK]
theorem step_bsl0 {sz n : Nat} {z : List D} {ps : List (Nat × Opd)} : stepS I st dst K (.bsl none sz z n ps) = lstK (partsD sz (opd st.s) (ps.map (·.2))) (fun es => K (st.put dst (.d (.sl es)))) := by
  simp only [stepS]
  cases partsD sz (opd st.s) (ps.map (·.2)) with
  | none => simp [lstK]
  | some cs => simp [lstK]
theorem step_bsl1 {nm sz n : Nat} {z : List D} {ps : List (Nat × Opd)} : stepS I st dst K (.bsl (some nm) sz z n ps) = if n = 0 then K (st.put dst .cap0) else lstK (partsD sz (opd st.s) (ps.map (·.2))) (fun es => ¬ I nm ∧ Fresh st nm dst ∧ K { s := (st.put dst (.own nm)).s, o := upd st.o nm (some (.row sz es)) }) := by
  simp only [stepS]
  split
  · rfl
  · cases partsD sz (opd st.s) (ps.map (·.2)) with
    | none => simp [lstK]
    | some cs => simp [lstK]
def intK (v : V) (F : Int → Prop) : Prop := match v with | .d (.int _ n) => F n | _ => False
theorem intK_congr {v v' : V} {F : Int → Prop} (h : v = v') : intK v F = intK v' F := by rw [h]
attribute [congr] intK_congr
theorem intK_i {k : IntKind} {n : Int} {F : Int → Prop} : intK (.d (.int k n)) F = F n := propext Iff.rfl
def appK (v : V) (F0 : Prop) (F1 : Nat → Prop) : Prop := match v with | .cap0 => F0 | .own m => F1 m | _ => False
theorem appK_congr {v v' : V} {F0 : Prop} {F1 : Nat → Prop} (h : v = v') : appK v F0 F1 = appK v' F0 F1 := by rw [h]
attribute [congr] appK_congr
theorem appK_0 {F0 : Prop} {F1 : Nat → Prop} : appK .cap0 F0 F1 = F0 := propext Iff.rfl
theorem appK_1 {m : Nat} {F0 : Prop} {F1 : Nat → Prop} : appK (.own m) F0 F1 = F1 m := propext Iff.rfl
theorem row_ex {x : Option Ob} {sz : Nat} {F : List (List D) → Prop} : (∃ es, x = some (.row sz es) ∧ F es) = rowK x (fun sz' es => sz' = sz ∧ F es) := by
  apply propext
  constructor
  · rintro ⟨es, rfl, h⟩; exact ⟨rfl, h⟩
  · intro h
    unfold rowK at h
    split at h
    · obtain ⟨rfl, h⟩ := h; exact ⟨_, rfl, h⟩
    · exact h.elim
theorem lst_ex {α : Type} {x : Option (List α)} {F : List α → Prop} : (∃ es, x = some es ∧ F es) = lstK x F := by
  apply propext
  constructor
  · rintro ⟨es, rfl, h⟩; exact h
  · intro h
    unfold lstK at h
    split at h
    · exact ⟨_, rfl, h⟩
    · exact h.elim
theorem step_app0 {sz bytes : Nat} {x y : Opd} : stepS I st dst K (.app none sz bytes x y) = lstK (readD st.o (opd st.s y)) (fun ys => (∀ e ∈ ys, e.length = sz) ∧ appK (opd st.s x)
    (ys.length * bytes ≤ 140737488355328 ∧ ys.length ≤ 140737488355328 ∧ K (st.put dst (.d (.sl ys))))
    (fun m => ¬ I m ∧ rowK (st.o m) (fun sz' es => sz' = sz ∧ (es.length + ys.length) * bytes ≤ 140737488355328 ∧ es.length + ys.length ≤ 140737488355328 ∧
      K (({ s := ((st.scrub m).put dst (.own m)).s, o := upd (st.scrub m).o m (some (.row sz (es ++ ys))) } : St).free m)))) := by
  rw [← lst_ex]
  simp only [stepS]
  congr 1
  funext ys
  congr 2
  cases hx : opd st.s x
  case own m =>
    rw [appK_1, ← row_ex]
    apply propext
    constructor
    · rintro ⟨es, h1, h2, h3, h4, h5⟩; exact ⟨h1, es, h2, h3, h4, h5⟩
    · rintro ⟨h1, es, h2, h3, h4, h5⟩; exact ⟨es, h1, h2, h3, h4, h5⟩
  all_goals rfl
theorem step_app1 {nm sz bytes : Nat} {x y : Opd} : stepS I st dst K (.app (some nm) sz bytes x y) = lstK (readD st.o (opd st.s y)) (fun ys => (∀ e ∈ ys, e.length = sz) ∧ appK (opd st.s x)
    (ys.length * bytes ≤ 140737488355328 ∧ ys.length ≤ 140737488355328 ∧ ¬ I nm ∧ Fresh st nm dst ∧ K { s := (st.put dst (.own nm)).s, o := upd st.o nm (some (.row sz ys)) })
    (fun m => ¬ I m ∧ rowK (st.o m) (fun sz' es => sz' = sz ∧ (es.length + ys.length) * bytes ≤ 140737488355328 ∧ es.length + ys.length ≤ 140737488355328 ∧
      K { s := ((st.scrub m).put dst (.own m)).s, o := upd (st.scrub m).o m (some (.row sz (es ++ ys))) }))) := by
  rw [← lst_ex]
  simp only [stepS]
  congr 1
  funext ys
  congr 2
  cases hx : opd st.s x
  case own m =>
    rw [appK_1, ← row_ex]
    apply propext
    constructor
    · rintro ⟨es, h1, h2, h3, h4, h5⟩; exact ⟨h1, es, h2, h3, h4, h5⟩
    · rintro ⟨h1, es, h2, h3, h4, h5⟩; exact ⟨es, h1, h2, h3, h4, h5⟩
  all_goals rfl
def mapK (m : V) (k : Option D) (o : Nat → Option Ob) (F : Nat → D → List (D × D) → Prop) : Prop := match m, k with | .mref n, some k => (match o n with | some (.map kvs) => F n k kvs | _ => False) | _, _ => False
theorem mapK_congr {m m' : V} {k k' : Option D} {o o' : Nat → Option Ob} {F : Nat → D → List (D × D) → Prop} (h1 : m = m') (h2 : k = k') (h3 : o = o') : mapK m k o F = mapK m' k' o' F := by rw [h1, h2, h3]
attribute [congr] mapK_congr
def kvsK (x : Option Ob) (F : List (D × D) → Prop) : Prop := match x with | some (.map kvs) => F kvs | _ => False
theorem kvsK_congr {x y : Option Ob} {F : List (D × D) → Prop} (h : x = y) : kvsK x F = kvsK y F := by rw [h]
attribute [congr] kvsK_congr
theorem kvsK_m {kvs : List (D × D)} {F : List (D × D) → Prop} : kvsK (some (.map kvs)) F = F kvs := propext Iff.rfl
theorem mapK_m {n : Nat} {k : D} {o : Nat → Option Ob} {F : Nat → D → List (D × D) → Prop} : mapK (.mref n) (some k) o F = kvsK (o n) (F n k) := propext Iff.rfl
def optK {α : Type} (x : Option α) (F : α → Prop) : Prop := match x with | some y => F y | none => False
theorem optK_congr {α : Type} {x y : Option α} {F : α → Prop} (h : x = y) : optK x F = optK y F := by rw [h]
attribute [congr] optK_congr
theorem optK_s {α : Type} {x : α} {F : α → Prop} : optK (some x) F = F x := propext Iff.rfl
theorem step_mset {str : Bool} {m k x : Opd} : stepS I st dst K (.mset str m k x) = mapK (opd st.s m) (toD (opd st.s k)) st.o (fun n k kvs => keyIs str k = true ∧ optK (toD (opd st.s x)) (fun x => lstK (kvSet k x kvs) (fun kvs' => K ({ st with o := upd st.o n (some (.map kvs')) }.put dst .undef)))) := by
  apply propext
  simp only [stepS]
  constructor
  · intro h
    split at h
    · rename_i n k0 x0 e1 e2 e3
      obtain ⟨kvs, kvs', h1, h2, h3, h4⟩ := h
      rw [e1, e2, mapK_m, h2, kvsK_m, e3]
      exact ⟨h1, by rw [optK_s, h3]; exact h4⟩
    · exact h.elim
  · intro h
    unfold mapK at h
    split at h
    · rename_i n k0 e1 e2
      split at h
      · rename_i kvs hb
        obtain ⟨h1, h⟩ := h
        rw [e1, e2]
        cases e3 : toD (opd st.s x) with
        | none => rw [e3] at h; exact h.elim
        | some x0 =>
          rw [e3, optK_s, ← lst_ex] at h
          obtain ⟨kvs', h3, h4⟩ := h
          exact ⟨kvs, kvs', h1, hb, h3, h4⟩
      · exact h.elim
    · exact h.elim
theorem step_mget {str : Bool} {z : D} {m k : Opd} {ok : Bool} : stepS I st dst K (.mget str z m k ok) = mapK (opd st.s m) (toD (opd st.s k)) st.o (fun n k kvs => keyIs str k = true ∧ optK (kvGet k kvs) (fun r => K (st.put dst (if ok = true then .tup [.d (r.getD z), .d (.bool r.isSome)] else .d (r.getD z))))) := by
  apply propext
  simp only [stepS]
  constructor
  · intro h
    split at h
    · rename_i n k0 e1 e2
      obtain ⟨kvs, r, h1, h2, h3, h4⟩ := h
      rw [e1, e2, mapK_m, h2, kvsK_m]
      exact ⟨h1, by rw [h3]; exact h4⟩
    · exact h.elim
  · intro h
    unfold mapK at h
    split at h
    · rename_i n k0 e1 e2
      split at h
      · rename_i kvs hb
        obtain ⟨h1, h⟩ := h
        rw [e1, e2]
        cases e3 : kvGet k0 kvs with
        | none => rw [e3] at h; exact h.elim
        | some r => rw [e3] at h; exact ⟨kvs, r, h1, hb, e3, h⟩
      · exact h.elim
    · exact h.elim
end
section
set_option autoImplicit true
set_option relaxedAutoImplicit true
variable {C : Ctx} {I : Nat → Prop} {st : St} {K : St → Prop} {dst : Option Nat} {tr : Option (List Nat × Option (List Nat))}
end
def freshS (nm : Nat) (dst : Option Nat) : List (Nat × V) → Bool
  | [] => true
  | (k, v) :: l => (dst == some k || !V.refs nm v) && freshS nm dst l
def freshO (nm : Nat) : List (Nat × Option Ob) → Bool
  | [] => true
  | (k, none) :: m => freshO nm m
  | (k, some x) :: m => (k == nm || !x.refs nm) && freshO nm m
theorem fresh_mk {l : List (Nat × V)} {m : List (Nat × Option Ob)} {nm : Nat} {dst : Option Nat} (h1 : freshS nm dst l = true) (h2 : freshO nm m = true) : Fresh (mk l m) nm dst := by
  refine mk_fresh ⟨fun p hp hd => ?_, fun p hp hn x hx => ?_⟩
  · induction l with
    | nil => cases hp
    | cons q l ih =>
      obtain ⟨k, v⟩ := q
      simp only [freshS, Bool.and_eq_true, Bool.or_eq_true, beq_iff_eq, Bool.not_eq_true'] at h1
      rcases List.mem_cons.1 hp with rfl | hp
      · exact h1.1.resolve_left hd
      · exact ih h1.2 hp
  · induction m with
    | nil => cases hp
    | cons q m ih =>
      obtain ⟨k, v⟩ := q
      cases v with
      | none =>
        simp only [freshO] at h2
        rcases List.mem_cons.1 hp with rfl | hp
        · cases hx
        · exact ih h2 hp
      | some y =>
        simp only [freshO, Bool.and_eq_true, Bool.or_eq_true, beq_iff_eq, Bool.not_eq_true'] at h2
        rcases List.mem_cons.1 hp with rfl | hp
        · simp only at hn hx
          injection hx with hx
          subst hx
          exact h2.1.resolve_left hn
        · exact ih h2.2 hp
theorem refsL_d {α : Type} (nm : Nat) (f : α → D) : ∀ (l : List α), V.refsL nm (l.map fun x => .d (f x)) = false
  | [] => rfl
  | x :: l => by
    have := refsL_d nm f l
    simp only [List.map_cons, V.refsL, V.refs, Bool.false_or]; exact this
theorem refsL_dd (nm : Nat) : ∀ (l : List D), V.refsL nm (l.map .d) = false
  | [] => rfl
  | x :: l => by
    have := refsL_dd nm l
    simp only [List.map_cons, V.refsL, V.refs, Bool.false_or]; exact this
theorem ends_eq {I : Nat → Prop} {res : List ARes} {st : St} {r : V} : EndsA I [] [] res st ⟨r, fun _ => none⟩ = lstK (resVs st res) (fun vs => r = tupV vs) := by
  rw [← lst_ex]
  apply propext
  constructor
  · rintro ⟨vs, h1, h2, _⟩; exact ⟨vs, h1, h2⟩
  · rintro ⟨vs, h1, h2⟩; exact ⟨vs, h1, h2, fun n x hx => by cases hx⟩
end Pay
