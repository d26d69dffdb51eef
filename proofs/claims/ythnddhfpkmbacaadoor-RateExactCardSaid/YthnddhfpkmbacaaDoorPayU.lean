/- The run once more, in a form that comes to a nest without slots by computing alone. -/
import Derived.Test.YthnddhfpkmbacaaDoorPayS
set_option linter.unusedSimpArgs false
set_option linter.unusedVariables false
namespace Pay
open Go
def fnK (v : V) (F : Nat → List V → Prop) : Prop := match v with | .fn f caps => F f caps | _ => False
def stepB (C : Ctx) (I : Nat → Prop) (st : St) (dst : Option Nat) (K : St → Prop) : AOp → Prop
  | .store n p x => storeK (opd st.s p) (cellsV (opd st.s x)) n st.o (fun m ob => K ({ st with o := upd st.o m (some ob) }.put dst .undef))
  | .alloc nm zs => ¬ I nm ∧ Fresh st nm dst ∧ V.refsL nm zs = false ∧ K { s := (st.put dst (.ptr nm 0)).s, o := upd st.o nm (some (.box zs)) }
  | .box nm n x => lstK (cellsV (opd st.s x)) (fun cs => cs.length = n ∧ ¬ I nm ∧ Fresh st nm dst ∧ V.refsL nm cs = false ∧ K { s := (st.put dst (.ptr nm 0)).s, o := upd st.o nm (some (.box cs)) })
  | .bsl none sz _ _ ps => lstK (partsD sz (opd st.s) (ps.map (·.2))) (fun es => K (st.put dst (.d (.sl es))))
  | .bsl (some _) _ _ 0 _ => K (st.put dst .cap0)
  | .bsl (some nm) sz _ (_ + 1) ps => lstK (partsD sz (opd st.s) (ps.map (·.2))) (fun es => ¬ I nm ∧ Fresh st nm dst ∧ K { s := (st.put dst (.own nm)).s, o := upd st.o nm (some (.row sz es)) })
  | .mks none _ bytes z x => intK (opd st.s x) (fun n => 0 ≤ n ∧ n.toNat * bytes ≤ 140737488355328 ∧ n ≤ 140737488355328 ∧ K (st.put dst (.d (.sl (List.replicate n.toNat z)))))
  | .mks (some nm) sz bytes z x => intK (opd st.s x) (fun n => 0 ≤ n ∧ n.toNat * bytes ≤ 140737488355328 ∧ n ≤ 140737488355328 ∧ ¬ I nm ∧ Fresh st nm dst ∧ K { s := (st.put dst (.own nm)).s, o := upd st.o nm (some (.row sz (List.replicate n.toNat z))) })
  | .app none sz bytes x y => lstK (readD st.o (opd st.s y)) (fun ys => (∀ e ∈ ys, e.length = sz) ∧ appK (opd st.s x)
      (ys.length * bytes ≤ 140737488355328 ∧ ys.length ≤ 140737488355328 ∧ K (st.put dst (.d (.sl ys))))
      (fun m => ¬ I m ∧ rowK (st.o m) (fun sz' es => sz' = sz ∧ (es.length + ys.length) * bytes ≤ 140737488355328 ∧ es.length + ys.length ≤ 140737488355328 ∧
        K (({ s := ((st.scrub m).put dst (.own m)).s, o := upd (st.scrub m).o m (some (.row sz (es ++ ys))) } : St).free m))))
  | .app (some nm) sz bytes x y => lstK (readD st.o (opd st.s y)) (fun ys => (∀ e ∈ ys, e.length = sz) ∧ appK (opd st.s x)
      (ys.length * bytes ≤ 140737488355328 ∧ ys.length ≤ 140737488355328 ∧ ¬ I nm ∧ Fresh st nm dst ∧ K { s := (st.put dst (.own nm)).s, o := upd st.o nm (some (.row sz ys)) })
      (fun m => ¬ I m ∧ rowK (st.o m) (fun sz' es => sz' = sz ∧ (es.length + ys.length) * bytes ≤ 140737488355328 ∧ es.length + ys.length ≤ 140737488355328 ∧
        K { s := ((st.scrub m).put dst (.own m)).s, o := upd (st.scrub m).o m (some (.row sz (es ++ ys))) })))
  | .mkmap nm => ¬ I nm ∧ Fresh st nm dst ∧ K { s := (st.put dst (.mref nm)).s, o := upd st.o nm (some (.map [])) }
  | .mset str m k x => mapK (opd st.s m) (toD (opd st.s k)) st.o (fun n k kvs => keyIs str k = true ∧ optK (toD (opd st.s x)) (fun x => lstK (kvSet k x kvs) (fun kvs' => K ({ st with o := upd st.o n (some (.map kvs')) }.put dst .undef))))
  | .mget str z m k ok => mapK (opd st.s m) (toD (opd st.s k)) st.o (fun n k kvs => keyIs str k = true ∧ optK (kvGet k kvs) (fun r => K (st.put dst (if ok = true then .tup [.d (r.getD z), .d (.bool r.isSome)] else .d (r.getD z)))))
  | .nilS neq x => stepS I st dst K (.nilS neq x)
  | .call f args => callA C I st dst K f (args.map (opd st.s))
  | .callv x args => fnK (opd st.s x) (fun f caps => callA C I st dst K f (args.map (opd st.s) ++ caps))
  | .cut _ _ => False
  | op => demand (evP st op) (fun v => K (st.put dst v))
section
variable {C : Ctx} {I : Nat → Prop} {st : St} {K : St → Prop} {dst : Option Nat}
theorem stepB_A {op : AOp} (h : stepB C I st dst K op) : stepA C I st dst K op := by
  cases op
  case store n p x => show stepS I st dst K (.store n p x); rw [step_store]; exact h
  case alloc => exact h
  case box nm n x => show stepS I st dst K (.box nm n x); rw [step_box]; exact h
  case bsl own sz z n ps =>
    show stepS I st dst K (.bsl own sz z n ps)
    cases own with
    | none => rw [step_bsl0]; exact h
    | some nm =>
      rw [step_bsl1]
      cases n with
      | zero => exact h
      | succ n => rw [if_neg (by omega)]; exact h
  case mks own _ _ _ _ => cases own <;> exact h
  case app own sz b x y =>
    show stepS I st dst K (.app own sz b x y)
    cases own with
    | none => rw [step_app0]; exact h
    | some nm => rw [step_app1]; exact h
  case mkmap => exact h
  case mset str m k x => show stepS I st dst K (.mset str m k x); rw [step_mset]; exact h
  case mget str z m k ok => show stepS I st dst K (.mget str z m k ok); rw [step_mget]; exact h
  case nilS => exact h
  case call => exact h
  case callv x args =>
    have h : fnK (opd st.s x) (fun f caps => callA C I st dst K f (args.map (opd st.s) ++ caps)) := h
    show match opd st.s x with | .fn f caps => callA C I st dst K f (args.map (opd st.s) ++ caps) | _ => False
    unfold fnK at h
    exact h
  case cut => exact h.elim
  case mv => exact h
  case fnv => exact h
  all_goals exact h
def opB (C : Ctx) (I : Nat → Prop) (o : AOper) (st : St) (K : St → Prop) : Prop :=
  match o.guard with
  | none => stepB C I (st.frz o.frz) o.dst K o.op
  | some (_, g, want) => guardK (st.s g) want (stepB C I ((st.put (some g) (.d (.bool want))).frz o.frz) o.dst K o.op) (K ((st.put (some g) (.d (.bool (!want)))).put o.dst (.tup []))) (K ((st.put (some g) (.tup [])).put o.dst (.tup [])))
theorem opB_A {o : AOper} (h : opB C I o st K) : opA C I o st K := by
  obtain ⟨d, op, fz, deps, gd, tr⟩ := o
  cases gd with
  | none => exact stepB_A h
  | some x =>
    obtain ⟨p, g, want⟩ := x
    rw [op_if]
    have h : guardK (st.s g) want (stepB C I ((st.put (some g) (.d (.bool want))).frz fz) d K op) (K ((st.put (some g) (.d (.bool (!want)))).put d (.tup []))) (K ((st.put (some g) (.tup [])).put d (.tup []))) := h
    revert h
    generalize hg : st.s g = u
    intro h
    unfold guardK at h ⊢
    split
    · rename_i b
      simp only at h
      split
      · rename_i hw; rw [if_pos hw] at h; exact stepB_A h
      · rename_i hw; rw [if_neg hw] at h; exact h
    · rw [put_same hg] at h; exact h
    · rename_i h1 h2
      split at h
      · exact absurd rfl (h1 _)
      · exact absurd rfl h2
      · exact h
def opsB (C : Ctx) (I : Nat → Prop) : List AOper → St → (St → Prop) → Prop
  | [], st, K => K st
  | o :: os, st, K => opB C I o st (fun st => opsB C I os (st.trimO o.tr) K)
theorem opsB_A : ∀ {os : List AOper} {st : St} {K : St → Prop}, opsB C I os st K → opsA C I os st K
  | [], _, _, h => h
  | _ :: _, _, _, h => opA_mono (fun _ h => opsB_A h) (opB_A h)
def pureB (C : Ctx) (st : St) (F : V → Prop) : AOp → Prop
  | .call f args => ∃ v, SoundAt C f ⟨args.map (opd st.s), fun _ => none⟩ ⟨v, fun _ => none⟩ ∧ (∀ n, V.refs n v = false) ∧ F v
  | .bsl none sz _ _ ps => lstK (partsD sz (opd st.s) (ps.map (·.2))) (fun es => F (.d (.sl es)))
  | .bsl (some _) _ _ n _ => n = 0 ∧ F .cap0
  | .store .. | .alloc .. | .box .. | .mks .. | .app .. | .cut .. | .mkmap .. | .mset .. | .mget .. | .nilS .. | .callv .. => False
  | op => demand (evP st op) F
theorem pureB_A {F : V → Prop} {op : AOp} (h : pureB C st F op) : ∃ v, pureA C st op v ∧ F v := by
  have dem : ∀ {op : AOp}, isP op = true → demand (evP st op) F → ∃ v, (isP op = true ∧ evP st op = some v) ∧ F v := by
    intro op hp h
    unfold demand at h
    split at h
    · rename_i v hv; exact ⟨v, ⟨hp, hv⟩, h⟩
    · exact h.elim
  cases op
  case call f args => obtain ⟨v, h1, h2, h3⟩ := h; exact ⟨v, ⟨h1, h2⟩, h3⟩
  case bsl own sz z n ps =>
    cases own with
    | none =>
      have h : lstK (partsD sz (opd st.s) (ps.map (·.2))) (fun es => F (.d (.sl es))) := h
      rw [← lst_ex] at h
      obtain ⟨es, h1, h2⟩ := h
      exact ⟨_, ⟨es, h1, rfl⟩, h2⟩
    | some nm => exact ⟨_, ⟨h.1, rfl⟩, h.2⟩
  case store | alloc | box | mks | app | cut | mkmap | mset | mget | nilS | callv => exact h.elim
  all_goals exact dem rfl h
def firstB (C : Ctx) (st : St) (o : AOper) (F : V → Prop) : Prop :=
  match o.guard with
  | none => pureB C st F o.op
  | some (_, g, want) => guardK (st.s g) want (pureB C st F o.op) (F (.tup [])) (F (.tup []))
theorem firstB_A {F : V → Prop} {o : AOper} (h : firstB C st o F) : ∃ v, Yields C st o v ∧ F v := by
  obtain ⟨d, op, fz, deps, gd, tr⟩ := o
  cases gd with
  | none => exact pureB_A h
  | some x =>
    obtain ⟨p, g, want⟩ := x
    have h : guardK (st.s g) want (pureB C st F op) (F (.tup [])) (F (.tup [])) := h
    have goal : (∃ v, (match st.s g with
      | .d (.bool b) => if b = want then pureA C st op v else v = .tup []
      | .tup [] => v = .tup []
      | _ => False) ∧ F v) := by
      revert h
      generalize st.s g = u
      intro h
      unfold guardK at h
      split at h
      · rename_i b
        split at h
        · rename_i hw
          obtain ⟨v, h1, h2⟩ := pureB_A h
          exact ⟨v, by simp only [hw, if_true]; exact h1, h2⟩
        · rename_i hw
          exact ⟨_, by simp only [hw, if_false], h⟩
      · exact ⟨_, rfl, h⟩
      · exact h.elim
    exact goal
/-- No row that there is is named by any of these. -/
def quietV (o : Nat → Option Ob) (vs : List V) : Prop := ∀ m sz es, o m = some (.row sz es) → V.refsL m vs = false
theorem refsL_mem {m : Nat} : ∀ {vs : List V}, V.refsL m vs = false → ∀ v ∈ vs, V.refs m v = false
  | [], _, v, hv => by cases hv
  | x :: xs, h, v, hv => by
    simp only [V.refsL, Bool.or_eq_false_iff] at h
    rcases List.mem_cons.1 hv with rfl | hv
    · exact h.1
    · exact refsL_mem h.2 v hv
theorem quietV_A {o : AOper} {v : V} (h : quietV st.o (v :: o.op.opds.map (opd st.s))) : Quiet st o v := fun m sz es hm =>
  ⟨refsL_mem (h m sz es hm) v (by simp), fun x hx => refsL_mem (h m sz es hm) _ (List.mem_cons_of_mem _ (List.mem_map_of_mem hx))⟩
def stepE (C : Ctx) (I : Nat → Prop) (st : St) (dst : Option Nat) (K : St → Prop) : AOp → Prop
  | .call f args => ∃ cout, SoundAt C f ⟨args.map (opd st.s), fun _ => none⟩ cout ∧ Names I st dst (fun _ => false) cout ∧ K { s := (st.put dst cout.r).s, o := mixO (fun _ => false) st.o cout.o }
  | .callv _ _ => False
  | .app own sz bytes x y => stepB C I st dst K (.app own sz bytes x y) ∧ ∀ m, opd st.s x = .own m → ∀ n cs, st.o n = some (.box cs) → V.refsL m cs = false
  | op => stepB C I st dst K op
theorem stepE_D {op : AOp} (h : stepE C I st dst K op) : stepD C I st dst K op := by
  cases op
  case call => exact h
  case callv => exact h.elim
  case app own sz b x y => exact ⟨stepB_A (C := C) (op := .app own sz b x y) h.1, h.2⟩
  case cut => exact h.elim
  case store n p x => exact stepB_A (C := C) (op := .store n p x) h
  case alloc nm zs => exact stepB_A (C := C) (op := .alloc nm zs) h
  case box nm n x => exact stepB_A (C := C) (op := .box nm n x) h
  case bsl own sz z n ps => exact stepB_A (C := C) (op := .bsl own sz z n ps) h
  case mks own sz b z x => exact stepB_A (C := C) (op := .mks own sz b z x) h
  case mkmap nm => exact stepB_A (C := C) (op := .mkmap nm) h
  case mset str m k x => exact stepB_A (C := C) (op := .mset str m k x) h
  case mget str z m k ok => exact stepB_A (C := C) (op := .mget str z m k ok) h
  case nilS q x => exact stepB_A (C := C) (op := .nilS q x) h
  all_goals exact h
def opE (C : Ctx) (I : Nat → Prop) (o : AOper) (st : St) (K : St → Prop) : Prop :=
  o.frz = [] ∧ match o.guard with
  | none => stepE C I st o.dst K o.op
  | some (_, g, want) => guardK (st.s g) want (stepE C I st o.dst K o.op) (K (st.put o.dst (.tup []))) (K (st.put o.dst (.tup [])))
theorem opE_D {o : AOper} (h : opE C I o st K) : opD C I o st K := by
  obtain ⟨d, op, fz, deps, gd, tr⟩ := o
  obtain ⟨h0, h⟩ := h
  refine ⟨h0, ?_⟩
  cases gd with
  | none => exact stepE_D h
  | some x =>
    obtain ⟨p, g, want⟩ := x
    have h : guardK (st.s g) want (stepE C I st d K op) (K (st.put d (.tup []))) (K (st.put d (.tup []))) := h
    show match st.s g with
      | .d (.bool b) => if b = want then stepD C I st d K op else K (st.put d (.tup []))
      | .tup [] => K (st.put d (.tup []))
      | _ => False
    revert h
    generalize st.s g = u
    intro h
    unfold guardK at h
    split at h
    · rename_i b
      split at h
      · rename_i hw; simp only [hw, if_true]; exact stepE_D h
      · rename_i hw; simp only [hw, if_false]; exact h
    · exact h
    · exact h.elim
def treeB (C : Ctx) (I : Nat → Prop) (aos : List AOper) : Tr → St → (St → Prop) → Prop
  | .done, st, K => K st
  | .one i t, st, K => (match aos[i]? with | some ao => opE C I ao st (fun st => treeB C I aos t st K) | none => False)
  | .two i t r, st, K => (match aos[i]? with | some ao => opE C I ao st (fun st => treeB C I aos t st K) | none => False) ∧ treeB C I aos r st K
theorem treeB_A {aos : List AOper} : ∀ {t : Tr} {st : St} {K : St → Prop}, treeB C I aos t st K → treeA C I aos t st K
  | .done, _, _, h => h
  | .one i t, st, K, h => by
    unfold treeB at h
    unfold treeA
    split
    · rename_i ao hao; rw [hao] at h; exact opD_mono (fun _ h => treeB_A h) (opE_D h)
    · rename_i hao; rw [hao] at h; exact h
  | .two i t r, st, K, h => by
    unfold treeB at h
    unfold treeA
    refine ⟨?_, treeB_A h.2⟩
    have h := h.1
    split
    · rename_i ao hao; rw [hao] at h; exact opD_mono (fun _ h => treeB_A h) (opE_D h)
    · rename_i hao; rw [hao] at h; exact h
def drawB (C : Ctx) (I : Nat → Prop) (aos : List AOper) : List Nat → Tr → St → (St → Prop) → Prop
  | [], t, st, K => treeB C I aos t st K
  | i :: is, t, st, K => (match aos[i]? with
    | some oi => (match oi.dst with
      | some d => st.s d = .undef ∧ firstB C st oi (fun v => quietV st.o (v :: oi.op.opds.map (opd st.s)) ∧ drawB C I aos is t (st.put (some d) v) K)
      | none => False)
    | none => False)
theorem drawB_A {aos : List AOper} : ∀ {is : List Nat} {t : Tr} {st : St} {K : St → Prop}, drawB C I aos is t st K → drawA C I aos is t st K
  | [], _, _, _, h => treeB_A h
  | i :: is, t, st, K, h => by
    unfold drawB at h
    unfold drawA
    cases hi : aos[i]? with
    | none => rw [hi] at h; exact h
    | some oi =>
      rw [hi] at h
      simp only at h ⊢
      cases hd : oi.dst with
      | none => rw [hd] at h; exact h
      | some d =>
        rw [hd] at h
        obtain ⟨h1, h2⟩ := h
        obtain ⟨v, h3, h4, h5⟩ := firstB_A h2
        exact ⟨h1, v, h3, quietV_A h4, drawB_A h5⟩
def wpB (C : Ctx) (I : Nat → Prop) : ACode → St → (Ex → St → Prop) → Prop
  | .skip, st, Q => Q .normal st
  | .region tr tro none ops, st, Q => opsB C I ops st (fun st => Q .normal (st.trim tr tro))
  | .region tr tro (some (is, t)) ops, st, Q => drawB C I ops is t st (fun st => Q .normal (st.trim tr tro))
  | .seq a b, st, Q => wpB C I a st (seqK (fun st => wpB C I b st Q) Q)
  | .cond c a b, st, Q => condK (opd st.s c) (wpB C I a st Q) (wpB C I b st Q)
  | .block id tr tro c, st, Q => wpB C I c st (blockK id tr tro Q)
  | .loop tr tro c, st, Q => wpA C I (.loop tr tro c) st Q
  | .exit id, st, Q => Q (.exit id) st
  | .ret, st, Q => Q .ret st
  | .scope l tr tro first rest, st, Q => wpB C I first st (jumpK l (fun s => wpA C I (.scope l tr tro rest rest) (s.trim tr tro) Q) Q)
theorem wpB_A : ∀ {c : ACode} {st : St} {Q : Ex → St → Prop}, wpB C I c st Q → wpA C I c st Q := by
  intro c
  induction c with
  | skip => intro st Q h; exact h
  | region tr tro draw ops =>
    intro st Q h
    rcases draw with _ | ⟨is, t⟩
    · exact opsB_A h
    · exact drawB_A h
  | seq a b iha ihb =>
    intro st Q h
    rw [w_seq]
    refine wpA_mono (fun e st h => ?_) (iha h)
    cases e with
    | normal => exact ihb h
    | exit k => exact h
    | ret => exact h
  | cond c a b iha ihb =>
    intro st Q h
    rw [w_cond]
    have h : condK (opd st.s c) (wpB C I a st Q) (wpB C I b st Q) := h
    unfold condK at h ⊢
    split at h
    · split at h
      · rename_i ht; simp only [ht, if_true]; exact iha h
      · rename_i ht; simp only [ht]; exact ihb h
    · exact h.elim
  | block id tr tro c ih =>
    intro st Q h
    rw [w_block]
    exact ih h
  | loop tr tro c ih => intro st Q h; exact h
  | exit id => intro st Q h; exact h
  | ret => intro st Q h; exact h
  | scope l tr tro first rest ihf ihr => intro st Q h; exact wpA_scope (ihf h)
theorem w_loopB {L : ACode} {tr : List Nat} {tro : Option (List Nat)} {c : ACode} {Q : Ex → St → Prop} (hL : L = .loop tr tro c) (h : wpB C I c (st.trim tr tro) (seqK (fun s => wpA C I L s Q) Q)) : wpA C I L st Q :=
  w_loop hL (wpB_A h)
theorem w_loopC {L : ACode} {tr : List Nat} {tro : Option (List Nat)} {c : ACode} {Q : Ex → St → Prop} (hL : L = .loop tr tro c) (h : wpB C I c (st.trim tr tro) (seqK (fun s => wpB C I L s Q) Q)) : wpB C I L st Q := by
  subst hL
  exact w_loopB rfl h
end
theorem SoundAt.of_codeB {C : Ctx} {fn : AFn} {f N : Nat} {res : List ARes} {own : List (Nat × Nat × Nat)} {frz : List Nat} {code : ACode} (hk : okFn C.P C.φ f fn = true) (hfn : fn = ⟨N, res, own, frz, code⟩) {cin : CS} {cout : RS}
    (h : wpB C (fun n => cin.o n ≠ none) code cin.entry (fun e st => (e = .ret ∨ e = .normal) ∧ EndsA (fun n => cin.o n ≠ none) own frz res st cout)) : SoundAt C f cin cout :=
  SoundAt.of_code' hk hfn (wpB_A h)
def pickV (c a b : V) : Option V := match c with | .d (.bool t) => some (if t = true then a else b) | _ => none
def convV (k : IntKind) (x : V) : Option V := match x with | .d (.int _ n) => some (.d (.int k (k.wrap n))) | _ => none
def sameV (x : V) : Option V := match x with | .d (.str s) => some (.d (.str s)) | _ => none
def extV (x : V) (i : Nat) : Option V := match x with | .tup vs => vs[i]? | _ => none
def lenSV (x : V) : Option V := match x with | .d (.str s) => some (.d (.int .i64 s.length)) | _ => none
def nilcV (x : V) : Option V := match x with | .ptr n off => some (.ptr n off) | .fn f caps => some (.fn f caps) | _ => none
def eqsV (neq : Bool) (ks : List Nat) (x y : V) : Option V := match x, y with
  | .agg xs, .agg ys => (match eqCells ks xs ys with | some b => some (.d (.bool (if neq = true then !b else b))) | none => none)
  | _, _ => none
def beqV (neq : Bool) (x y : V) : Option V := match x, y with
  | .d (.bool b), .d (.bool c) => some (.d (.bool (if neq = true then !(b == c) else b == c)))
  | _, _ => none
def nilEV (neq : Bool) (x : V) : Option V := match x with | .d (.err b) => some (.d (.bool (if neq = true then !b else b))) | _ => none
def nilPV (neq : Bool) (x : V) : Option V := match x with
  | .ptr _ _ => some (.d (.bool neq))
  | .nilp => some (.d (.bool (!neq)))
  | _ => none
def nilSK (neq : Bool) (v : V) (F : V → Prop) : Prop := match v with
  | .d (.sl []) => ∀ b, F (.d (.bool b))
  | .d (.sl (_ :: _)) => F (.d (.bool neq))
  | .cap0 => ∀ b, F (.d (.bool b))
  | _ => False
def buildN : List V → List (Nat × Nat × V) → Option (List V)
  | cs, [] => some cs
  | cs, (off, size, x) :: rest => (match cellsV x with
    | some new => if new.length = size ∧ off + size ≤ cs.length then buildN (setRange cs off new) rest else none
    | none => none)
def partsN (sz : Nat) : List V → Option (List (List D))
  | [] => some []
  | x :: xs => (match cellsV x with
    | some cs => (match toDs cs with
      | some ds => if ds.length = sz then (match partsN sz xs with | some es => some (ds :: es) | none => none) else none
      | none => none)
    | none => none)
def freeK (st : St) (n : Nat) (F : St → Prop) : Prop := F (st.free n)
def frzK (st : St) (ts : List Nat) (F : St → Prop) : Prop := F (st.frz ts)
def shareK {α : Sort _} (F : α) (G : α → Prop) : Prop := G F
def callK (C : Ctx) (I : Nat → Prop) (st : St) (dst : Option Nat) (f : Nat) (xs : List V) (F : V → (Nat → Option Ob) → Prop) : Prop :=
  ∃ E cout, SoundAt C f ⟨xs, exO E st.o⟩ cout ∧ Names I st dst E cout ∧ F cout.r (mixO E st.o cout.o)
def callE (C : Ctx) (I : Nat → Prop) (st : St) (dst : Option Nat) (f : Nat) (xs : List V) (F : V → (Nat → Option Ob) → Prop) : Prop :=
  ∃ cout, SoundAt C f ⟨xs, fun _ => none⟩ cout ∧ Names I st dst (fun _ => false) cout ∧ F cout.r (mixO (fun _ => false) st.o cout.o)
end Pay
