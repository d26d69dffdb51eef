/- The operations that turn nothing: what the machine does at each is what the abstract machine says. -/
import Derived.Laws.Strings
import Derived.Laws.Concat
import Derived.Test.YthnddhfpkmbacaaDoorPayC
set_option linter.unusedSimpArgs false
set_option linter.unusedVariables false
namespace Pay
open Go
section
variable {C : Ctx} {w0 : World} {S M : Nat → Prop} {N : Nat} {γ : Nat → Value} {st : St} {a : Act} {w : World} {o : Oper} {v : V}
/-- The operation hands back a value that is as the abstract machine says, and turns nothing. -/
def Does (C : Ctx) (w0 : World) (S : Nat → Prop) (γ : Nat → Value) (st : St) (a : Act) (w : World) (o : Oper) (v : V) : Prop :=
  ∃ u, (execOp a.eval o).run C.P w = .ok (.value u) w ∧ RepV C w (okOf w0 S γ st.o w) γ v u
theorem sd_mv (hr : Rel C w0 S M N γ st a w) {x : Opd} (hk : okP C.P C.φ o (.mv x) = true) (he : evP st (.mv x) = some v) : Does C w0 S γ st a w o v := by
  obtain ⟨dst, op, ty, pos, aft, g⟩ := o
  simp only [evP, Option.some.injEq] at he
  subst he
  cases op <;> simp [okP] at hk
  all_goals exact ⟨_, rfl, opd_rep hr hk⟩
theorem sd_pick (hr : Rel C w0 S M N γ st a w) {x y z : Opd} (hk : okP C.P C.φ o (.pick x y z) = true) (he : evP st (.pick x y z) = some v) : Does C w0 S γ st a w o v := by
  obtain ⟨dst, op, ty, pos, aft, g⟩ := o
  cases op <;> simp [okP] at hk
  obtain ⟨⟨h1, h2⟩, h3⟩ := hk
  have r1 := opd_rep hr h1
  have r2 := opd_rep hr h2
  have r3 := opd_rep hr h3
  simp only [evP] at he
  split at he
  · rename_i t ht
    rw [ht] at r1
    simp only [RepV, RepD] at r1
    simp only [Option.some.injEq] at he
    subst he
    cases t
    · exact ⟨_, by (simp [execOp, r1, asBool]; try rfl), by simpa using r3⟩
    · exact ⟨_, by (simp [execOp, r1, asBool]; try rfl), by simpa using r2⟩
  · cases he
theorem sd_ext (hr : Rel C w0 S M N γ st a w) {x : Opd} {i : Nat} (hk : okP C.P C.φ o (.ext x i) = true) (he : evP st (.ext x i) = some v) : Does C w0 S γ st a w o v := by
  obtain ⟨dst, op, ty, pos, aft, g⟩ := o
  cases op <;> simp [okP] at hk
  obtain ⟨rfl, h1⟩ := hk
  have r1 := opd_rep hr h1
  simp only [evP] at he
  split at he
  · rename_i vs ht
    rw [ht] at r1
    obtain ⟨us, hu, hv⟩ := r1
    obtain ⟨u, hu', hr'⟩ := hv.get _ _ he
    exact ⟨u, by simp [execOp, hu, Instr.extract, hu'], hr'⟩
  · cases he
theorem sd_un (hr : Rel C w0 S M N γ st a w) {q : UnOp} {x : Opd} (hk : okP C.P C.φ o (.un q x) = true) (he : evP st (.un q x) = some v) : Does C w0 S γ st a w o v := by
  obtain ⟨dst, op, ty, pos, aft, g⟩ := o
  cases op <;> simp [okP] at hk
  obtain ⟨rfl, h1⟩ := hk
  have r1 := opd_rep hr h1
  simp only [evP] at he
  unfold unV at he
  split at he
  · rename_i k n ht
    rw [ht] at r1
    simp only [RepV, RepD] at r1
    split at he
    · simp only [Option.some.injEq] at he
      subst he
      exact ⟨_, by simp [execOp, r1, Op.unary, Op.intArith], rfl⟩
    · cases he
  · rename_i b ht
    rw [ht] at r1
    simp only [RepV, RepD] at r1
    split at he
    · simp only [Option.some.injEq] at he
      subst he
      exact ⟨_, by simp [execOp, r1, Op.unary], rfl⟩
    · cases he
  · cases he
theorem sd_conv (hr : Rel C w0 S M N γ st a w) {k : IntKind} {x : Opd} (hk : okP C.P C.φ o (.conv k x) = true) (he : evP st (.conv k x) = some v) : Does C w0 S γ st a w o v := by
  obtain ⟨dst, op, ty, pos, aft, g⟩ := o
  cases op <;> simp [okP] at hk
  rename_i src dt y
  obtain ⟨⟨h0, h2⟩, h1⟩ := hk
  have r1 := opd_rep hr h1
  simp only [evP] at he
  split at he
  · rename_i k' n ht
    rw [ht] at r1
    simp only [RepV, RepD] at r1
    simp only [Option.some.injEq] at he
    subst he
    obtain ⟨d, hd⟩ := Option.isSome_iff_exists.1 h0
    split at h2
    · rename_i k2 h3
      have h2 := beq_iff_eq.1 h2
      subst h2
      exact ⟨_, by simp [execOp, r1, convert, run_underlying hd, run_underlying h3, Conv.intToInt], rfl⟩
    · cases h2
  · cases he
theorem sd_same (hr : Rel C w0 S M N γ st a w) {x : Opd} (hk : okP C.P C.φ o (.same x) = true) (he : evP st (.same x) = some v) : Does C w0 S γ st a w o v := by
  obtain ⟨dst, op, ty, pos, aft, g⟩ := o
  cases op <;> simp [okP] at hk
  rename_i src dt y
  obtain ⟨⟨⟨h0, h2⟩, h1⟩, h4⟩ := hk
  have r1 := opd_rep hr h1
  simp only [evP] at he
  split at he
  · rename_i s ht
    rw [ht] at r1
    simp only [RepV, RepD] at r1
    simp only [Option.some.injEq] at he
    subst he
    obtain ⟨d, hd⟩ := Option.isSome_iff_exists.1 h0
    unfold strSlice at h2
    split at h2
    · rename_i h3
      refine ⟨_, ?_, rfl⟩
      rw [hd] at h4
      cases d <;> simp at h4 <;> simp [execOp, r1, convert, run_underlying hd, run_underlying h3]
    · cases h2
  · cases he
theorem sd_bin (hr : Rel C w0 S M N γ st a w) {q : BinOp} {x y : Opd} (hk : okP C.P C.φ o (.bin q x y) = true) (he : evP st (.bin q x y) = some v) : Does C w0 S γ st a w o v := by
  obtain ⟨dst, op, ty, pos, aft, g⟩ := o
  cases op <;> simp [okP] at hk
  rename_i q' xt x' y' yt
  obtain ⟨⟨rfl, h1⟩, h2⟩ := hk
  have r1 := opd_rep hr h1
  have r2 := opd_rep hr h2
  simp only [evP] at he
  unfold binV at he
  split at he
  · rename_i k n k' m e1 e2
    rw [e1] at r1
    rw [e2] at r2
    simp only [RepV, RepD] at r1 r2
    have hg : (eqGuard q xt x' y' (a.eval x') (a.eval y')).run C.P w = .ok () w := eqGuard_run (by rw [r1]; exact .inl (by simp)) (by rw [r1]; simp)
    rw [r1, r2] at hg
    cases q
    case shl | shr =>
      simp only [Option.map_eq_some_iff] at he
      obtain ⟨d, hd, rfl⟩ := he
      unfold shInt at hd
      split at hd
      · cases hd
      · rename_i hn
        simp only [Option.some.injEq] at hd
        subst hd
        exact ⟨_, by (simp [execOp, hg, r1, r2, binOp, Op.shift, hn]; try rfl), rfl⟩
    all_goals
      simp only at he
      split at he
      · rename_i hkk
        subst hkk
        simp only [Option.map_eq_some_iff] at he
        obtain ⟨d, hd, rfl⟩ := he
        simp only [binInt] at hd
        first
          | (simp only [Option.some.injEq] at hd
             subst hd
             exact ⟨_, by (simp [execOp, hg, r1, r2, binOp, Op.intArith, Op.intCmp, Op.intBits, andI, orI]; try rfl), rfl⟩)
          | (split at hd
             · cases hd
             · rename_i hn
               simp only [Option.some.injEq] at hd
               subst hd
               exact ⟨_, by (simp [execOp, hg, r1, r2, binOp, Op.intDiv, hn]; try rfl), rfl⟩)
          | cases hd
      · cases he
  · rename_i s1 s2 e1 e2
    rw [e1] at r1
    rw [e2] at r2
    simp only [RepV, RepD] at r1 r2
    have hg : (eqGuard q xt x' y' (a.eval x') (a.eval y')).run C.P w = .ok () w := eqGuard_run (by rw [r1]; exact .inl (by simp)) (by rw [r1]; simp)
    rw [r1, r2] at hg
    simp only [Option.map_eq_some_iff] at he
    obtain ⟨d, hd, rfl⟩ := he
    have e3 : ∀ l : List UInt8, (ByteArray.mk l.toArray).toList = l := fun l => by rw [ByteArray.toList_eq]
    cases q <;> simp only [binStr] at hd
    case add =>
      split at hd
      · rename_i hl
        simp only [Option.some.injEq] at hd
        subst hd
        refine ⟨.string ⟨(s1 ++ s2).toArray⟩, ?_, rfl⟩
        have := run_string_add_sum (P := C.P) (w := w) ⟨s1.toArray⟩ ⟨s2.toArray⟩ (by simpa [ByteArray.size] using hl)
        simp only [execOp, hg, r1, r2, binOp, Sem.run_bind, Result.andThen_ok, this, ByteArray.mk_append_mk, Sem.run_pure]
      · cases hd
    case eql | neq =>
      simp only [Option.some.injEq] at hd
      subst hd
      exact ⟨_, by (simp [execOp, hg, r1, r2, binOp, Op.stringOp, e3]; try rfl), rfl⟩
    all_goals cases hd
  · cases he
theorem sd_beq (hr : Rel C w0 S M N γ st a w) {q : Bool} {x y : Opd} (hk : okP C.P C.φ o (.beq q x y) = true) (he : evP st (.beq q x y) = some v) : Does C w0 S γ st a w o v := by
  obtain ⟨dst, op, ty, pos, aft, g⟩ := o
  cases op <;> simp [okP] at hk
  rename_i op' xt x' y' yt
  obtain ⟨⟨⟨h0, h1⟩, h2⟩, h3⟩ := hk
  have r1 := opd_rep hr h1
  have r2 := opd_rep hr h2
  simp only [evP] at he
  split at he
  · rename_i b c e1 e2
    rw [e1] at r1
    rw [e2] at r2
    simp only [RepV, RepD] at r1 r2
    have hg : (eqGuard op' xt x' y' (a.eval x') (a.eval y')).run C.P w = .ok () w := eqGuard_run (by rw [r1]; exact .inl (by simp)) (by rw [r1]; simp)
    split at h3
    · rename_i hu3
      have hd : ∀ d : Nat, (Op.equalIn (d + 1) xt (.bool b) (.bool c)).run C.P w = .ok (b == c) w := fun d => by simp [Op.equalIn, run_underlying hu3]
      have hq : (Op.equal xt (.bool b) (.bool c)).run C.P w = .ok (b == c) w := hd 9999
      rw [r1, r2] at hg
      simp only [Option.some.injEq] at he
      subst he
      cases q <;> simp only [if_true, Bool.false_eq_true, if_false] at h0 ⊢ <;> subst h0
      · exact ⟨.bool (b == c), by simp [execOp, hg, r1, r2, binOp, hq], rfl⟩
      · exact ⟨.bool (!(b == c)), by simp [execOp, hg, r1, r2, binOp, hq], rfl⟩
    · cases h3
  · cases he
theorem sd_nilE (hr : Rel C w0 S M N γ st a w) {q : Bool} {x : Opd} (hk : okP C.P C.φ o (.nilE q x) = true) (he : evP st (.nilE q x) = some v) : Does C w0 S γ st a w o v := by
  obtain ⟨dst, op, ty, pos, aft, g⟩ := o
  simp only [evP] at he
  split at he
  case h_2 => cases he
  rename_i b e1
  simp only [Option.some.injEq] at he
  subst he
  simp only [okP] at hk
  split at hk
  case h_2 => cases hk
  rename_i op' xt x' yt
  simp only [Bool.and_eq_true, beq_iff_eq] at hk
  obtain ⟨⟨h0, h1⟩, h3⟩ := hk
  have r1 := opd_rep hr h1
  split at h3
  case h_2 => cases h3
  rename_i ms hu3
  rw [e1] at r1
  simp only [RepV, RepD] at r1
  have hg : (eqGuard op' xt x' (.const .nilIface) (a.eval x') .nilIface).run C.P w = .ok () w := by
    refine eqGuard_run (.inr (.inr ⟨_, rfl⟩)) ?_
    intro cs hcs
    rw [hcs] at r1
    split at r1
    · cases r1
    · obtain ⟨t, u, h⟩ := r1
      cases h
  have hq : (Op.equal xt (a.eval x') .nilIface).run C.P w = .ok b w := by
    have hd : ∀ d : Nat, (Op.equalIn (d + 1) xt (a.eval x') .nilIface).run C.P w = .ok b w := by
      intro d
      split at r1
      · rename_i hx
        rw [r1, hx]
        simp [Op.equalIn, run_underlying hu3]
      · rename_i hx
        obtain ⟨t, u, r1⟩ := r1
        rw [r1]
        simp [Op.equalIn, run_underlying hu3, hx]
    exact hd 9999
  have hev : a.eval (.const .nilIface) = .nilIface := rfl
  have hb1 : (binOp .eql xt (a.eval x') .nilIface).run C.P w = .ok (.bool b) w := by
    split at r1
    · rw [r1] at hq ⊢; simp [binOp, hq]
    · obtain ⟨t, u, r1⟩ := r1; rw [r1] at hq ⊢; simp [binOp, hq]
  have hb2 : (binOp .neq xt (a.eval x') .nilIface).run C.P w = .ok (.bool (!b)) w := by
    split at r1
    · rw [r1] at hq ⊢; simp [binOp, hq]
    · obtain ⟨t, u, r1⟩ := r1; rw [r1] at hq ⊢; simp [binOp, hq]
  cases q <;> simp only [if_true, Bool.false_eq_true, if_false] at h0 ⊢ <;> subst h0
  · exact ⟨.bool b, by simp [execOp, hev, hg, hb1], rfl⟩
  · exact ⟨.bool (!b), by simp [execOp, hev, hg, hb2], rfl⟩
theorem sd_nilP (hr : Rel C w0 S M N γ st a w) {q : Bool} {x : Opd} (hk : okP C.P C.φ o (.nilP q x) = true) (he : evP st (.nilP q x) = some v) : Does C w0 S γ st a w o v := by
  obtain ⟨dst, op, ty, pos, aft, g⟩ := o
  simp only [okP] at hk
  split at hk
  case h_2 => cases hk
  rename_i op' xt x' yt
  simp only [Bool.and_eq_true, beq_iff_eq] at hk
  obtain ⟨⟨h0, h1⟩, h3⟩ := hk
  have r1 := opd_rep hr h1
  split at h3
  case h_2 => cases h3
  rename_i ms hu3
  have hev : a.eval (.const (.pointer none)) = .pointer none := rfl
  have key : ∀ p : Option Addr, a.eval x' = .pointer p → Does C w0 S γ st a w { dst := dst, op := .binOp op' xt x' (.const (.pointer none)) yt, type := ty, pos := pos, after := aft, guard := g } (.d (.bool (if q = true then !p.isNone else p.isNone))) := by
    intro p hp
    have hg : (eqGuard op' xt x' (.const (.pointer none)) (a.eval x') (.pointer none)).run C.P w = .ok () w := eqGuard_run (.inr (.inl (by simp))) (by rw [hp]; simp)
    have hd : ∀ d : Nat, (Op.equalIn (d + 1) xt (.pointer p) (.pointer none)).run C.P w = .ok p.isNone w := fun d => by
      cases p <;> simp [Op.equalIn, run_underlying hu3]
    have hq : (Op.equal xt (.pointer p) (.pointer none)).run C.P w = .ok p.isNone w := hd 9999
    rw [hp] at hg
    cases q <;> simp only [if_true, Bool.false_eq_true, if_false] at h0 ⊢ <;> subst h0
    · exact ⟨.bool p.isNone, by simp [execOp, hev, hg, hp, binOp, hq], rfl⟩
    · exact ⟨.bool (!p.isNone), by simp [execOp, hev, hg, hp, binOp, hq], rfl⟩
  simp only [evP] at he
  split at he
  · rename_i n off e1
    rw [e1] at r1
    obtain ⟨g', _, r1⟩ := r1
    simp only [Option.some.injEq] at he
    subst he
    have := key _ r1
    cases q <;> simpa using this
  · rename_i e1
    rw [e1] at r1
    simp only [RepV] at r1
    simp only [Option.some.injEq] at he
    subst he
    have := key _ r1
    cases q <;> simpa using this
  · cases he
theorem bnd_some {mx : Nat} {x : V} {k : Nat} {u : Value} {ok : Nat → Prop} (h : bnd mx x = some k) (hr : RepV C w ok γ x u) : ∃ kd i, u = .int kd i ∧ 0 ≤ i ∧ i ≤ (mx : Int) ∧ i.toNat = k := by
  unfold bnd at h
  split at h
  · rename_i kd i
    split at h
    · rename_i hi
      simp only [Option.some.injEq] at h
      simp only [RepV, RepD] at hr
      exact ⟨kd, i, hr, hi.1, hi.2, h⟩
    · cases h
  · cases h
theorem run_bnd {P : Program} {kd : IntKind} {i : Int} {y : Nat} {code : BoundsCode} (h0 : 0 ≤ i) (h1 : i ≤ (y : Int)) : (Instr.sliceBound (.int kd i) y code).run P w = .ok i.toNat w := by
  simp [Instr.sliceBound, asIntOf, h0, h1]
/-- The bounds of a cut, as the machine works them out. -/
theorem run_bounds {P : Program} {φ : Nat → FuncId} {isS : Bool} {len cap : Nat} {lo hi : Option Opd} {lo' hi' : Option Operand} {h l : Nat} (hlc : len ≤ cap)
    (hh : bndO len len (hi.map (opd st.s)) = some h) (hl : bndO 0 h (lo.map (opd st.s)) = some l) (hr : Rel C w0 S M N γ st a w)
    (k1 : okOpdO C.φ lo' lo = true) (k2 : okOpdO C.φ hi' hi = true) :
    (Instr.sliceBounds isS len cap (lo'.map a.eval) (hi'.map a.eval) none).run C.P w = .ok (l, h, cap) w ∧ l ≤ h ∧ h ≤ len := by
  have e1 : h ≤ len := by
    cases hi with
    | none => simp [bndO] at hh; omega
    | some v =>
      simp only [Option.map_some, bndO] at hh
      unfold bnd at hh
      split at hh
      · split at hh
        · simp only [Option.some.injEq] at hh; omega
        · cases hh
      · cases hh
  have e2 : l ≤ h := by
    cases lo with
    | none => simp [bndO] at hl; omega
    | some v =>
      simp only [Option.map_some, bndO] at hl
      unfold bnd at hl
      split at hl
      · split at hl
        · simp only [Option.some.injEq] at hl; omega
        · cases hl
      · cases hl
  refine ⟨?_, e2, e1⟩
  have hhi : ∀ code, (match hi'.map a.eval with | some v => Instr.sliceBound v cap code | none => pure len : Sem Nat).run C.P w = .ok h w := by
    intro code
    cases hi with
    | none =>
      cases hi' with
      | none => simp [bndO] at hh; simp [hh]
      | some _ => simp [okOpdO] at k2
    | some v =>
      cases hi' with
      | none => simp [okOpdO] at k2
      | some x =>
        simp only [okOpdO] at k2
        simp only [Option.map_some, bndO] at hh
        obtain ⟨kd, i, hu, h0, h1, rfl⟩ := bnd_some hh (opd_rep hr k2)
        simp only [Option.map_some, hu]
        exact run_bnd h0 (by omega)
  have hlo : ∀ code, (match lo'.map a.eval with | some v => Instr.sliceBound v h code | none => pure 0 : Sem Nat).run C.P w = .ok l w := by
    intro code
    cases lo with
    | none =>
      cases lo' with
      | none => simp [bndO] at hl; simp [← hl]
      | some _ => simp [okOpdO] at k1
    | some v =>
      cases lo' with
      | none => simp [okOpdO] at k1
      | some x =>
        simp only [okOpdO] at k1
        simp only [Option.map_some, bndO] at hl
        obtain ⟨kd, i, hu, h0, h1, rfl⟩ := bnd_some hl (opd_rep hr k1)
        simp only [Option.map_some, hu]
        exact run_bnd h0 h1
  unfold Instr.sliceBounds
  cases hq : hi'.map a.eval with
  | none =>
    have h1 := hhi .sliceAlen
    rw [hq] at h1
    simp only at h1
    cases hp : lo'.map a.eval with
    | none =>
      have h2 := hlo .sliceB
      rw [hp] at h2
      simp_all
    | some v =>
      have h2 := hlo .sliceB
      rw [hp] at h2
      simp only at h2
      simp_all
  | some v =>
    have h1 := hhi (if isS then .sliceAcap else .sliceAlen)
    rw [hq] at h1
    simp only at h1
    cases hp : lo'.map a.eval with
    | none =>
      have h2 := hlo .sliceB
      rw [hp] at h2
      simp_all
    | some v =>
      have h2 := hlo .sliceB
      rw [hp] at h2
      simp only at h2
      simp_all
end
end Pay
