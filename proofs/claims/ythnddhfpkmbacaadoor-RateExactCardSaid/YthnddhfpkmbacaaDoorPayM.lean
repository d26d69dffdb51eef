/- Regions in the order of the text; code; functions. -/
import Derived.Test.YthnddhfpkmbacaaDoorPayL
set_option linter.unusedSimpArgs false
set_option linter.unusedVariables false
namespace Pay
open Go
def look : List (Nat × V) → Nat → V
  | [], _ => .undef
  | (k, v) :: l, n => if n = k then v else look l n
def looko : List (Nat × Option Ob) → Nat → Option Ob
  | [], _ => none
  | (k, v) :: l, n => if n = k then v else looko l n
theorem look_map (ks : List Nat) (f : Nat → V) (n : Nat) : look (ks.map fun k => (k, f k)) n = if ks.contains n = true then f n else .undef := by
  induction ks with
  | nil => rfl
  | cons k ks ih =>
    simp only [List.map_cons, look, ih, List.contains_cons, Bool.or_eq_true, beq_iff_eq]
    by_cases h : n = k
    · simp [h]
    · simp [h]
theorem looko_map (ks : List Nat) (f : Nat → Option Ob) (n : Nat) : looko (ks.map fun k => (k, f k)) n = if ks.contains n = true then f n else none := by
  induction ks with
  | nil => rfl
  | cons k ks ih =>
    simp only [List.map_cons, looko, ih, List.contains_cons, Bool.or_eq_true, beq_iff_eq]
    by_cases h : n = k
    · simp [h]
    · simp [h]
/-- Slots, and objects, that nothing looks at any more are forgotten. -/
def St.trim (st : St) (tr : List Nat) (tro : Option (List Nat)) : St :=
  { s := look (tr.map fun k => (k, st.s k)), o := match tro with | none => st.o | some ns => looko (ns.map fun n => (n, st.o n)) }
theorem Rel.trim {C : Ctx} {w0 : World} {S M : Nat → Prop} {N : Nat} {γ : Nat → Value} {st : St} {a : Act} {w : World} (hr : Rel C w0 S M N γ st a w) (tr : List Nat) (tro : Option (List Nat)) : Rel C w0 S M N γ (st.trim tr tro) a w := by
  have hsub : ∀ n x, (st.trim tr tro).o n = some x → st.o n = some x := by
    intro n x h
    simp only [St.trim] at h
    split at h
    · exact h
    · rw [looko_map] at h
      split at h
      · exact h
      · cases h
  have hok : ∀ g, okOf w0 S γ st.o w g → w.heap[g]? = w.heap[g]? ∧ okOf w0 S γ (st.trim tr tro).o w g := fun g hg => ⟨rfl, hg.1, hg.2.1, fun n x hx => hg.2.2 n x (hsub n x hx)⟩
  refine ⟨fun t => ?_, fun n x hx => RepO.mono hok (fun _ _ => rfl) (fun _ _ => rfl) (hr.objs n x (hsub n x hx)), fun n m x y g hx hy => hr.sep n m x y g (hsub n x hx) (hsub m y hy), fun n x g hx => hr.muts n x g (hsub n x hx), hr.fram, hr.defers, hr.size⟩
  show RepV C w _ γ (look (tr.map fun k => (k, st.s k)) t) _
  rw [look_map]
  split
  · exact RepV.mono hok _ _ (fun _ _ => rfl) (hr.slots t)
  · exact trivial
/-- Behind an operation slots may be forgotten. -/
def St.trimO (st : St) : Option (List Nat × Option (List Nat)) → St
  | none => st
  | some (tr, tro) => st.trim tr tro
theorem Rel.trimO {C : Ctx} {w0 : World} {S M : Nat → Prop} {N : Nat} {γ : Nat → Value} {st : St} {a : Act} {w : World} (hr : Rel C w0 S M N γ st a w) (t : Option (List Nat × Option (List Nat))) : Rel C w0 S M N γ (st.trimO t) a w := by
  rcases t with _ | ⟨tr, tro⟩
  · exact hr
  · exact hr.trim tr tro
def opA (C : Ctx) (I : Nat → Prop) (o : AOper) (st : St) (K : St → Prop) : Prop :=
  match o.guard with
  | none => stepA C I (st.frz o.frz) o.dst K o.op
  | some (_, g, want) => (match st.s g with
    | .d (.bool b) => if b = want then stepA C I (st.frz o.frz) o.dst K o.op else K (st.put o.dst (.tup []))
    | .tup [] => K (st.put o.dst (.tup []))
    | _ => False)
def opsA (C : Ctx) (I : Nat → Prop) : List AOper → St → (St → Prop) → Prop
  | [], st, K => K st
  | o :: os, st, K => opA C I o st (fun st => opsA C I os (st.trimO o.tr) K)
def okG (ops : Array Oper) : Option (Nat × Bool) → Option (Nat × Nat × Bool) → Bool
  | none, none => true
  | some (j, w), some (p, g, w') => j == p && w == w' && (ops[j]?).bind (·.dst) == some g
  | _, _ => false
def okOper (P : Program) (φ : Nat → FuncId) (N : Nat) (ops : Array Oper) (o : Oper) (ao : AOper) : Bool :=
  o.dst == ao.dst && (match o.dst with | some d => decide (d < N) | none => true) && okG ops o.guard ao.guard && okA P φ o ao.op
def okOpers (P : Program) (φ : Nat → FuncId) (N : Nat) (ops : Array Oper) : List Oper → List AOper → Bool
  | [], [] => true
  | o :: os, ao :: aos => okOper P φ N ops o ao && okOpers P φ N ops os aos
  | _, _ => false
section
variable {C : Ctx} {w0 : World} {S M : Nat → Prop} {N : Nat} {γ γ0 : Nat → Value} {st : St} {a : Act} {w : World} {Q : Exit → Act → World → Prop}
theorem yield_bool (hr : Rel C w0 S M N γ st a w) {ops : Array Oper} {j g : Nat} (hj : (ops[j]?).bind (·.dst) = some g) {b : Bool} (hg : st.s g = .d (.bool b)) : yielded ops a.tmps j = some b := by
  have h := hr.slots g
  rw [hg] at h
  simp only [RepV, RepD] at h
  unfold yielded
  rw [hj]
  simp only [Option.bind_some]
  cases hs : a.tmps[g]? with
  | none => simp [hs, undef] at h
  | some u => simp [hs] at h; subst h; rfl
theorem yield_none (hr : Rel C w0 S M N γ st a w) {ops : Array Oper} {j g : Nat} (hj : (ops[j]?).bind (·.dst) = some g) (hg : st.s g = .tup []) : yielded ops a.tmps j = none := by
  have h := hr.slots g
  rw [hg] at h
  obtain ⟨us, h, hus⟩ := h
  simp only [RepVs] at hus
  subst hus
  unfold yielded
  rw [hj]
  simp only [Option.bind_some]
  cases hs : a.tmps[g]? with
  | none => rfl
  | some u => simp [hs] at h; subst h; rfl
theorem okOper_spec {P : Program} {φ : Nat → FuncId} {ops : Array Oper} {o : Oper} {ao : AOper} (h : okOper P φ N ops o ao = true) : o.dst = ao.dst ∧ (∀ d, o.dst = some d → d < N) ∧ okG ops o.guard ao.guard = true ∧ okA P φ o ao.op = true := by
  simp only [okOper, Bool.and_eq_true, beq_iff_eq] at h
  obtain ⟨⟨⟨h1, h2⟩, h3⟩, h4⟩ := h
  refine ⟨h1, fun d hd => ?_, h3, h4⟩
  rw [hd] at h2
  simpa using h2
theorem opA_sound (hr : Rel C w0 S M N γ st a w) (he : Env C w0 S M) {I : Nat → Prop} (hγ : ∀ n, I n → γ n = γ0 n) {ops : Array Oper} {i : Nat} {o : Oper} (hi : ops[i]? = some o) {ao : AOper} (hk : okOper C.P C.φ N ops o ao = true)
    {K : St → Prop} (hs : opA C I ao st K) : wpOp C.P ops Q i (fun a' w' => ∃ γ' st', K st' ∧ (∀ n, I n → γ' n = γ0 n) ∧ Rel C w0 S M N γ' st' a' w') a w := by
  obtain ⟨hdst, hd, hg, ha⟩ := okOper_spec hk
  have run : stepA C I (st.frz ao.frz) ao.dst K ao.op → o.wp C.P a w (fun a' w' => ∃ γ' st', K st' ∧ (∀ n, I n → γ' n = γ0 n) ∧ Rel C w0 S M N γ' st' a' w') Q := by
    intro h
    rw [← hdst] at h
    refine Oper.wp_mono ?_ (stepA_sound (Rel.frz he ao.frz hr) he hd ha h)
    rintro a' w' ⟨γ', st', h1, h2, h3⟩
    exact ⟨γ', st', h1, fun n hn => (h2 n hn).trans (hγ n hn), h3⟩
  have skip : K (st.put ao.dst (.tup [])) → ∃ γ' st', K st' ∧ (∀ n, I n → γ' n = γ0 n) ∧ Rel C w0 S M N γ' st' (a.put o.dst undef) w := by
    intro h
    exact ⟨γ, _, h, hγ, by rw [← hdst]; exact hr.put hd ⟨[], rfl, rfl⟩⟩
  unfold wpOp
  simp only [hi]
  unfold opA at hs
  cases hgo : o.guard with
  | none =>
    rw [hgo] at hg
    cases hga : ao.guard with
    | some x => rw [hga] at hg; simp [okG] at hg
    | none =>
      rw [hga] at hs
      simp only [Region.wanted, hgo, if_true]
      exact .inl (run hs)
  | some jw =>
    obtain ⟨j, want⟩ := jw
    rw [hgo] at hg
    cases hga : ao.guard with
    | none => rw [hga] at hg; simp [okG] at hg
    | some x =>
      obtain ⟨p, g, want'⟩ := x
      rw [hga] at hg hs
      simp only [okG, Bool.and_eq_true, beq_iff_eq] at hg
      obtain ⟨⟨rfl, rfl⟩, hj⟩ := hg
      simp only at hs
      split at hs
      · rename_i b hb
        have hy := yield_bool hr hj hb
        simp only [Region.wanted, hgo, hy]
        split at hs
        · rename_i hbw
          subst hbw
          simp only [beq_self_eq_true, if_true]
          exact .inl (run hs)
        · rename_i hbw
          rw [if_neg (by simpa using hbw)]
          exact skip hs
      · rename_i hb
        have hy := yield_none hr hj hb
        simp only [Region.wanted, hgo, hy]
        rw [if_neg (by simp)]
        exact skip hs
      · exact hs.elim
theorem opsA_sound (he : Env C w0 S M) {I : Nat → Prop} {ops : Array Oper} {K : St → Prop} (hQ : ∀ γ' st' a' w', K st' → (∀ n, I n → γ' n = γ0 n) → Rel C w0 S M N γ' st' a' w' → Q .normal a' w') :
    ∀ (aos : List AOper) (os : List Oper) (k : Nat), (∀ i o, os[i]? = some o → ops[k + i]? = some o) → okOpers C.P C.φ N ops os aos = true → ∀ {γ : Nat → Value} {st : St} {a : Act} {w : World}, Rel C w0 S M N γ st a w → (∀ n, I n → γ n = γ0 n) →
      opsA C I aos st K → wpOps C.P ops Q (List.range' k os.length) a w
  | [], [], k, _, _, γ, st, a, w, hr, hγ, hs => hQ γ st a w hs hγ hr
  | ao :: aos, o :: os, k, hi, hk, γ, st, a, w, hr, hγ, hs => by
    simp only [okOpers, Bool.and_eq_true] at hk
    rw [List.length_cons, List.range'_succ, wpOps_cons]
    refine wpOp_mono ?_ (opA_sound hr he hγ (by simpa using hi 0 o rfl) hk.1 hs)
    rintro a' w' ⟨γ', st', h1, h2, h3⟩
    exact opsA_sound he hQ aos os (k + 1) (fun i o' ho => by rw [show k + 1 + i = k + (i + 1) by omega]; exact hi (i + 1) o' (by simpa using ho)) hk.2 (h3.trimO ao.tr) h2 h1
  | [], _ :: _, _, _, hk, _, _, _, _, _, _, _ => by simp [okOpers] at hk
  | _ :: _, [], _, _, hk, _, _, _, _, _, _, _ => by simp [okOpers] at hk
end
inductive Ex where
  | normal
  | exit (id : Nat)
  | ret
  deriving DecidableEq
def Ex.go : Ex → Exit
  | .normal => .normal
  | .exit id => if id < 1000000 then .exit id else .goto (id - 1000000)
  | .ret => .ret
/-- Each order of what is left of a region: which operation is next, and then. -/
inductive Tr where
  | done
  | one (i : Nat) (t : Tr)
  | two (i : Nat) (t : Tr) (r : Tr)   -- this one next, or as 'r' says
inductive ACode where
  | skip
  | region (tr : List Nat) (tro : Option (List Nat)) (draw : Option (List Nat × Tr)) (ops : List AOper)
  | seq (a b : ACode)
  | cond (c : Opd) (a b : ACode)
  | block (id : Nat) (tr : List Nat) (tro : Option (List Nat)) (c : ACode)
  | loop (tr : List Nat) (tro : Option (List Nat)) (c : ACode)
  | exit (id : Nat)
  | ret
  -- a scope with one label: what runs first, what runs from the label on; a goto to it is the exit 1000000 + label
  | scope (l : Nat) (tr : List Nat) (tro : Option (List Nat)) (first rest : ACode)
/-- What a goto to the label of a scope does; none leaves it. -/
def jumpK (l : Nat) (J : St → Prop) (Q : Ex → St → Prop) : Ex → St → Prop
  | .normal, st => Q .normal st
  | .exit k, st => if k < 1000000 then Q (.exit k) st else k = 1000000 + l ∧ J st
  | .ret, st => Q .ret st
theorem Ex.go_exit {id : Nat} (h : id < 1000000) : Ex.go (.exit id) = .exit id := if_pos h
theorem Ex.go_goto {id : Nat} (h : ¬ id < 1000000) : Ex.go (.exit id) = .goto (id - 1000000) := if_neg h
end Pay
