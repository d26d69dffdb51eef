/- Functions: what the code computes is a contract. -/
import Derived.Test.YthnddhfpkmbacaaDoorPayP
set_option linter.unusedSimpArgs false
set_option linter.unusedVariables false
namespace Pay
open Go
inductive ARes where
  | slot (t : Nat)
  | cell (t : Nat) (n : Option Nat)
structure AFn where
  N : Nat
  res : List ARes
  own : List (Nat × Nat × Nat) := []
  frz : List Nat := []
  code : ACode
def resVs (st : St) : List ARes → Option (List V)
  | [] => some []
  | .slot t :: r => (match resVs st r with | some vs => some (st.s t :: vs) | none => none)
  | .cell t n :: r => (match loadV st.o n (st.s t) with
    | some v => (match resVs st r with | some vs => some (v :: vs) | none => none)
    | none => none)
def tupV : List V → V
  | [v] => v
  | vs => .tup vs
def okRes (P : Program) : List ResultVar → List ARes → Bool
  | [], [] => true
  | .tmp t :: r, .slot t' :: r' => t == t' && okRes P r r'
  | .cell a ty :: r, .cell t n :: r' => a == t && okShape P ty n && okRes P r r'
  | _, _ => false
def okFn (P : Program) (φ : Nat → FuncId) (f : Nat) (fn : AFn) : Bool :=
  match P.funcs[φ f]? with
  | some g => g.name != "runtime.NumGoroutine" && g.ntmps == fn.N && okRes P g.results.toList fn.res && (match g.body with | some c => okC P φ fn.N c fn.code | none => false)
  | none => false
def CS.entry (cin : CS) : St := { s := fun t => (cin.vs[t]?).getD .undef, o := cin.o }
/-- An empty slice without room may be told to be the frame's own: slot, name, an element's size. -/
def ownify (I : Nat → Prop) : List (Nat × Nat × Nat) → St → (St → Prop) → Prop
  | [], st, K => K st
  | (t, nm, sz) :: r, st, K => (match st.s t with
    | .cap0 => ¬ I nm ∧ Fresh st nm (some t) ∧ ownify I r { s := upd st.s t (.own nm), o := upd st.o nm (some (.row sz [])) } K
    | _ => ownify I r st K)
def Ends0 (fn : AFn) (cout : RS) (st : St) : Prop :=
  ∃ vs, resVs (st.frz fn.frz) fn.res = some vs ∧ cout.r = tupV vs ∧ ∀ n x, cout.o n = some x → (st.frz fn.frz).o n = some x
def Ends (I : Nat → Prop) (fn : AFn) (st : St) (cout : RS) : Prop := ownify I fn.own st (Ends0 fn cout)
section
variable {C : Ctx} {w0 : World} {S M : Nat → Prop} {N : Nat} {γ : Nat → Value} {st : St} {a : Act} {w : World}
def resOne (tmps : Array Value) (r : ResultVar) : Sem Value :=
  match r with
  | .tmp t => pure (tmps.getD t undef)
  | .cell x t => do loadVar t (← asAddr (tmps.getD x undef))
theorem results_eq (fn : Func) (tmps : Array Value) : results fn tmps = (fn.results.mapM (resOne tmps) >>= fun vs => pure (if h : vs.size = 1 then vs[0] else .tuple vs)) := rfl
theorem resVs_run (hr : Rel C w0 S M N γ st a w) : ∀ {rs : List ResultVar} {ars : List ARes} {vs : List V}, okRes C.P rs ars = true → resVs st ars = some vs →
    ∃ us : List Value, (rs.mapM (resOne a.tmps)).run C.P w = .ok us w ∧ RepVs C w (okOf w0 S γ st.o w) γ vs us
  | [], [], vs, _, h => by
    simp only [resVs, Option.some.injEq] at h
    subst h
    exact ⟨[], by simp, rfl⟩
  | .tmp t :: rs, .slot t' :: ars, vs, hk, h => by
    simp only [okRes, Bool.and_eq_true, beq_iff_eq] at hk
    obtain ⟨rfl, hk⟩ := hk
    simp only [resVs] at h
    split at h
    · rename_i vs' hvs
      injection h with h
      subst h
      obtain ⟨us, h1, h2⟩ := resVs_run hr hk hvs
      exact ⟨a.tmps.getD t undef :: us, by rw [List.mapM_cons]; simp [resOne, h1], _, _, rfl, hr.slots t, h2⟩
    · cases h
  | .cell x ty :: rs, .cell t n :: ars, vs, hk, h => by
    simp only [okRes, Bool.and_eq_true, beq_iff_eq] at hk
    obtain ⟨⟨rfl, hsh⟩, hk⟩ := hk
    simp only [resVs] at h
    split at h
    · rename_i v hv
      split at h
      · rename_i vs' hvs
        injection h with h
        subst h
        obtain ⟨us, h1, h2⟩ := resVs_run hr hk hvs
        obtain ⟨u, hu, hur⟩ := evP_sound (o := { dst := none, op := .load ty (.tmp x), type := ty, pos := "", after := #[], guard := none }) hr (ao := .load n (.t x)) (by simp [okP, hsh, okOpd]) (v := v) (by simpa [evP, opd] using hv)
        have hl : (resOne a.tmps (.cell x ty)).run C.P w = .ok u w := by
          unfold resOne
          simp only [execOp, Instr.loadAt, Act.eval] at hu
          revert hu
          cases hp : a.tmps.getD x undef with
          | pointer p =>
            cases p with
            | some ad => simp [Instr.sureAddr, asAddr, Result.andThen]; split <;> simp_all
            | none => simp [Instr.sureAddr, Result.andThen]
          | _ => simp [Instr.sureAddr, Result.andThen]
        refine ⟨u :: us, ?_, _, _, rfl, hur, h2⟩
        rw [List.mapM_cons]
        rw [Sem.run_bind, hl]
        simp only [Result.andThen_ok]
        rw [Sem.run_bind, h1]
        simp
      · cases h
    · cases h
  | [], _ :: _, _, hk, _ => by simp [okRes] at hk
  | .tmp _ :: _, [], _, hk, _ => by simp [okRes] at hk
  | .cell _ _ :: _, [], _, hk, _ => by simp [okRes] at hk
  | .tmp _ :: _, .cell _ _ :: _, _, hk, _ => by simp [okRes] at hk
  | .cell _ _ :: _, .slot _ :: _, _, hk, _ => by simp [okRes] at hk
theorem results_run (hr : Rel C w0 S M N γ st a w) {fn : Func} {ars : List ARes} {vs : List V} (hk : okRes C.P fn.results.toList ars = true) (h : resVs st ars = some vs) :
    ∃ u, (results fn a.tmps).run C.P w = .ok u w ∧ RepV C w (okOf w0 S γ st.o w) γ (tupV vs) u := by
  obtain ⟨us, h1, h2⟩ := resVs_run hr hk h
  have hl := h2.length
  refine ⟨if h : us.toArray.size = 1 then us.toArray[0] else .tuple us.toArray, ?_, ?_⟩
  · rw [results_eq, Array.mapM_eq_mapM_toList]
    simp only [map_eq_pure_bind, bind_assoc, pure_bind]
    rw [Sem.run_bind, h1]
    simp
  · match vs, us, h2, hl with
    | [], [], h2, _ => exact ⟨[], rfl, rfl⟩
    | [v], [u], h2, _ =>
      obtain ⟨u', us', e, r1, r2⟩ := h2
      injection e with e1 e2
      subst e1
      simpa [tupV] using r1
    | v :: v' :: vs, u :: u' :: us, h2, _ =>
      simp only [tupV, List.size_toArray, List.length_cons]
      rw [dif_neg (by omega)]
      exact ⟨_, rfl, h2⟩
    | [v], [], _, hl => simp at hl
    | [], _ :: _, _, hl => simp at hl
    | [_], _ :: _ :: _, _, hl => simp at hl
    | _ :: _ :: _, [], _, hl => simp at hl
    | _ :: _ :: _, [_], _, hl => simp at hl
end
theorem put_self {a : Act} {t : Nat} (h : t < a.tmps.size) : a.put (some t) (a.tmps.getD t undef) = a := by
  obtain ⟨tm, df⟩ := a
  simp only [Act.put]
  congr 1
  apply Array.ext
  · simp
  · intro i h1 h2
    by_cases e : t = i
    · subst e; simp [Array.getElem_setIfInBounds, Array.getD, h2]
    · rw [Array.getElem_setIfInBounds_ne _ e]
theorem ownify_sound {C : Ctx} {w0 : World} {S M : Nat → Prop} {N : Nat} {γ0 : Nat → Value} {a : Act} {w : World} {I : Nat → Prop} {K : St → Prop} : ∀ (l : List (Nat × Nat × Nat)) {γ : Nat → Value} {st : St}, Rel C w0 S M N γ st a w → (∀ n, I n → γ n = γ0 n) → ownify I l st K →
    ∃ γ' st', (∀ n, I n → γ' n = γ0 n) ∧ Rel C w0 S M N γ' st' a w ∧ K st'
  | [], γ, st, hr, hγ, h => ⟨γ, st, hγ, hr, h⟩
  | (t, nm, sz) :: r, γ, st, hr, hγ, h => by
    unfold ownify at h
    split at h
    · rename_i ht
      obtain ⟨hI, hf, h⟩ := h
      have hs := hr.slots t
      rw [ht] at hs
      obtain ⟨A, hv⟩ := hs
      have hlt : t < a.tmps.size := by
        rcases Nat.lt_or_ge t a.tmps.size with h' | h'
        · exact h'
        · simp [Array.getD, Nat.not_lt.2 h', undef] at hv
      let hr' : Rel C w0 S M a.tmps.size γ st a w := ⟨hr.slots, hr.objs, hr.sep, hr.muts, hr.fram, hr.defers, Nat.le_refl _⟩
      have hn := hr'.new (dst := some t) (fun d hd => by injection hd with hd; subst hd; exact hlt) hf (Grow.refl w) (ob := .row sz []) (h := .slice A 0 0) (fun g hg => by cases A <;> simp [blk] at hg) (v := .own nm) (u := a.tmps.getD t undef)
        (fun ok γ' _ _ => .inl ⟨rfl, A, rfl⟩) rfl (fun ok => ⟨by rw [upd_same, hv], by rw [hv]; rfl⟩)
      rw [put_self hlt] at hn
      have hn' : Rel C w0 S M N (upd γ nm (.slice A 0 0)) { s := upd st.s t (.own nm), o := upd st.o nm (some (.row sz [])) } a w := ⟨hn.slots, hn.objs, hn.sep, hn.muts, hn.fram, hn.defers, hr.size⟩
      exact ownify_sound r hn' (fun n hn => by
        have hne : n ≠ nm := fun e => hI (by rw [← e]; exact hn)
        rw [upd_other _ _ hne]; exact hγ n hn) h
    · exact ownify_sound r hr hγ h
theorem SoundAt.of_code {C : Ctx} {fn : AFn} {f : Nat} (hk : okFn C.P C.φ f fn = true) {cin : CS} {cout : RS}
    (h : wpA C (fun n => cin.o n ≠ none) fn.code cin.entry (fun e st => (e = .ret ∨ e = .normal) ∧ Ends (fun n => cin.o n ≠ none) fn st cout)) : SoundAt C f cin cout := by
  intro w S M γ us hp
  unfold okFn at hk
  split at hk
  case h_2 => cases hk
  rename_i g hg
  simp only [Bool.and_eq_true, bne_iff_ne, ne_eq, beq_iff_eq] at hk
  obtain ⟨⟨⟨hname, hN⟩, hres⟩, hb⟩ := hk
  split at hb
  case h_2 => cases hb
  rename_i c hbody
  have hrun : (callFunc (C.φ f) ⟨us⟩).run C.P w = .ok (.enter (C.φ f) ⟨us⟩) w := by
    simp [callFunc, hg, hname, hbody]
  unfold Enters
  rw [hrun]
  simp only
  refine calls_of_wp hg hbody ?_
  have hul := hp.args.length
  have hrel : Rel C w S M fn.N γ cin.entry { tmps := (⟨us⟩ : Array Value) ++ Array.replicate (g.ntmps - (⟨us⟩ : Array Value).size) undef, defers := [] } w := by
    refine ⟨fun t => ?_, hp.objs, hp.sep, fun n x g hx hg => .inl (hp.muts n x g hx hg), ⟨rfl, rfl, rfl, Nat.le_refl _, fun _ _ _ => rfl⟩, rfl, by simp; omega⟩
    simp only [CS.entry]
    cases hv : cin.vs[t]? with
    | none => exact trivial
    | some v =>
      obtain ⟨u, hu, hr⟩ := hp.args.get t v hv
      have hlt : t < us.length := (List.getElem?_eq_some_iff.1 hu).1
      have e : ((⟨us⟩ : Array Value) ++ Array.replicate (g.ntmps - (⟨us⟩ : Array Value).size) undef).getD t undef = u := by
        rw [← Array.getElem?_toList] at *
        simp [Array.getD_eq_getD_getElem?, Array.getElem?_append, hlt]
        have := (List.getElem?_eq_some_iff.1 hu).2
        exact this
      simp only [Option.getD_some]
      rw [e]
      exact hr
  refine wpA_sound (γ0 := γ) hp.env hb ?_ hrel (fun _ _ => rfl) h
  rintro e γ1 st1 a' w' ⟨he, hends⟩ hγ1 hr1
  obtain ⟨γ', st', hγ, hr, vs, h1, h2, h3⟩ := ownify_sound fn.own hr1 hγ1 hends
  have hr2 := Rel.frz hp.env fn.frz hr
  obtain ⟨u, hu, hur⟩ := results_run hr2 hres h1
  have hsub : ∀ g, okOf w S γ' (st'.frz fn.frz).o w' g → w'.heap[g]? = w'.heap[g]? ∧ okOf w S γ' cout.o w' g := fun g hg => ⟨rfl, hg.1, hg.2.1, fun n x hx => hg.2.2 n x (h3 n x hx)⟩
  have post : ∃ γ', Post C w S M γ cin cout u w' γ' := ⟨γ', ⟨by rw [h2]; exact RepV.mono hsub _ _ (fun _ _ => rfl) hur, fun n x hx => RepO.mono hsub (fun _ _ => rfl) (fun _ _ => rfl) (hr2.objs n x (h3 n x hx)),
    fun n m x y g hx hy => hr2.sep n m x y g (h3 n x hx) (h3 m y hy), fun n x g hx => hr2.muts n x g (h3 n x hx), hr2.fram, hγ⟩⟩
  rcases he with rfl | rfl
  · exact ⟨hr2.defers, u, hu, post⟩
  · exact ⟨hr2.defers, u, hu, post⟩
end Pay
