/- One operation, whichever; slices that are given up; regions in the order of the text. -/
import Derived.Test.YthnddhfpkmbacaaDoorPayK
set_option linter.unusedSimpArgs false
set_option linter.unusedVariables false
namespace Pay
open Go
/-- The slices that a value has. -/
def V.owns : V → List Nat
  | .own n => [n]
  | .agg cs => ownsL cs
  | .tup cs => ownsL cs
  | _ => []
where ownsL : List V → List Nat
  | [] => []
  | c :: cs => V.owns c ++ ownsL cs
def St.frees (st : St) : List Nat → St
  | [] => st
  | n :: ns => St.frees (st.free n) ns
/-- The slices that a slot's value has, or the variable that it points to. -/
def St.ownsAt (st : St) (t : Nat) : List Nat := match st.s t with
  | .ptr n _ => (match st.o n with | some (.box cs) => V.owns.ownsL cs | _ => [])
  | v => V.owns v
def St.frz (st : St) : List Nat → St
  | [] => st
  | t :: ts => St.frz (st.frees (st.ownsAt t)) ts
section
variable {C : Ctx} {w0 : World} {S M : Nat → Prop} {N : Nat} {γ : Nat → Value} {st : St} {a : Act} {w : World}
theorem Rel.frees (he : Env C w0 S M) : ∀ (ns : List Nat) {st : St}, Rel C w0 S M N γ st a w → Rel C w0 S M N γ (st.frees ns) a w
  | [], _, hr => hr
  | n :: ns, _, hr => Rel.frees he ns (hr.free he n)
theorem Rel.frz (he : Env C w0 S M) : ∀ (ts : List Nat) {st : St}, Rel C w0 S M N γ st a w → Rel C w0 S M N γ (st.frz ts) a w
  | [], _, hr => hr
  | t :: ts, _, hr => Rel.frz he ts (Rel.frees he _ hr)
end
def isP : AOp → Bool
  | .store .. | .alloc .. | .box .. | .bsl .. | .mks .. | .app .. | .cut .. | .mkmap .. | .mset .. | .mget .. | .nilS .. | .call .. | .callv .. => false
  | _ => true
def demand (x : Option V) (K : V → Prop) : Prop := match x with | some v => K v | none => False
def callA (C : Ctx) (I : Nat → Prop) (st : St) (dst : Option Nat) (K : St → Prop) (f : Nat) (xs : List V) : Prop :=
  ∃ E cout, SoundAt C f ⟨xs, exO E st.o⟩ cout ∧ Names I st dst E cout ∧ K { s := (st.put dst cout.r).s, o := mixO E st.o cout.o }
def stepA (C : Ctx) (I : Nat → Prop) (st : St) (dst : Option Nat) (K : St → Prop) (op : AOp) : Prop :=
  match op with
  | .call f args => callA C I st dst K f (args.map (opd st.s))
  | .callv x args => (match opd st.s x with | .fn f caps => callA C I st dst K f (args.map (opd st.s) ++ caps) | _ => False)
  | .cut _ _ => False
  | op => if isP op = true then demand (evP st op) (fun v => K (st.put dst v)) else stepS I st dst K op
def okA (P : Program) (φ : Nat → FuncId) (o : Oper) (op : AOp) : Bool :=
  match op with
  | .call f args => (match o.op with | .call { callee := .value fo, args := ⟨as⟩, .. } => okOpd φ fo (.f f) && okOpds φ as args | _ => false)
  | .callv x args => (match o.op with | .call { callee := .value fo, args := ⟨as⟩, .. } => okOpd φ fo x && okOpds φ as args | _ => false)
  | op => if isP op = true then okP P φ o op else okS P φ o op
section
variable {C : Ctx} {w0 : World} {S M : Nat → Prop} {N : Nat} {γ : Nat → Value} {st : St} {a : Act} {w : World} {o : Oper} {Q : Exit → Act → World → Prop}
theorem wp_enters {f : FuncId} {us : Array Value} {K : Act → World → Prop} (hrun : (execOp a.eval o).run C.P w = (callFunc f us).run C.P w) (h : Enters C.P f us w (fun v w' => K (a.put o.dst v) w')) : o.wp C.P a w K Q := by
  unfold Oper.wp
  rw [hrun]
  unfold Enters at h
  split at h
  · rename_i e; rw [e]; exact h
  · rename_i e; rw [e]; exact h
  · rename_i e
    rw [e]
    exact Calls.mono h (fun e w' he => by cases e <;> first | exact he | exact he.elim)
  · exact h.elim
theorem stepA_sound (hr : Rel C w0 S M N γ st a w) (he : Env C w0 S M) (hd : ∀ d, o.dst = some d → d < N) {I : Nat → Prop} {op : AOp} {K : St → Prop} (hk : okA C.P C.φ o op = true) (hs : stepA C I st o.dst K op) :
    o.wp C.P a w (Lands C w0 S M N I γ K) Q := by
  have pure : isP op = true → okP C.P C.φ o op = true → demand (evP st op) (fun v => K (st.put o.dst v)) → o.wp C.P a w (Lands C w0 S M N I γ K) Q := by
    intro _ h1 h2
    unfold demand at h2
    split at h2
    · rename_i v hv
      obtain ⟨u, hrun, hrep⟩ := evP_sound hr h1 hv
      exact wp_value hrun ⟨γ, _, h2, fun _ _ => rfl, hr.put hd hrep⟩
    · exact h2.elim
  have call : ∀ (f : Nat) (xs : List V) (us : List Value), RepVs C w (okOf w0 S γ st.o w) γ xs us → (execOp a.eval o).run C.P w = (callFunc (C.φ f) ⟨us⟩).run C.P w → callA C I st o.dst K f xs → o.wp C.P a w (Lands C w0 S M N I γ K) Q := by
    intro f xs us hxs hrun ⟨E, cout, h1, h2, h3⟩
    refine wp_enters hrun ?_
    refine Enters.mono (call_sound hr he hd hxs h1 h2) ?_
    rintro v w' ⟨γ'', hI, hr'⟩
    exact ⟨γ'', _, h3, hI, hr'⟩
  cases op
  case call f args =>
    obtain ⟨dst, op, ty, pos, aft, gd⟩ := o
    simp only [okA] at hk
    split at hk
    case h_2 => cases hk
    rename_i fo as _
    simp only [Bool.and_eq_true] at hk
    obtain ⟨h1, h2⟩ := hk
    obtain ⟨us, hf, hus⟩ := opd_rep hr h1
    simp only [RepVs] at hus
    subst hus
    refine call f _ _ (opds_rep hr h2) ?_ hs
    simp [execOp, resolve, Deferred.ofValue, hf, invoke]
  case callv x args =>
    obtain ⟨dst, op, ty, pos, aft, gd⟩ := o
    simp only [okA] at hk
    split at hk
    case h_2 => cases hk
    rename_i fo as _
    simp only [Bool.and_eq_true] at hk
    obtain ⟨h1, h2⟩ := hk
    have hrx := opd_rep hr h1
    simp only [stepA] at hs
    split at hs
    · rename_i f caps hx
      rw [hx] at hrx
      obtain ⟨us, hf, hus⟩ := hrx
      refine call f _ _ ((opds_rep hr h2).append hus) ?_ hs
      simp [execOp, resolve, Deferred.ofValue, hf, invoke]
    · exact hs.elim
  case cut => exact hs.elim
  case store => exact ss_store hr hd hk hs
  case alloc => exact ss_alloc hr hd hk hs
  case box => exact ss_box hr hd hk hs
  case bsl => exact ss_bsl hr hd hk hs
  case mks => exact ss_mks hr hd hk hs
  case app => exact ss_app hr he hd hk hs
  case mkmap => exact ss_mkmap hr hd hk hs
  case nilS => exact ss_nilS hr hd hk hs
  case mset => exact ss_mset hr hd hk hs
  case mget => exact ss_mget hr hd hk hs
  all_goals exact pure rfl hk hs
end
end Pay
