/- Code and functions: an abstract run is a run. -/
import Derived.ScopeJumps
import Derived.Test.YthnddhfpkmbacaaDoorPayO
set_option linter.unusedSimpArgs false
set_option linter.unusedVariables false
namespace Pay
open Go
def wpA (C : Ctx) (I : Nat → Prop) : ACode → St → (Ex → St → Prop) → Prop
  | .skip, st, Q => Q .normal st
  | .region tr tro none ops, st, Q => opsA C I ops st (fun st => Q .normal (st.trim tr tro))
  | .region tr tro (some (is, t)) ops, st, Q => drawA C I ops is t st (fun st => Q .normal (st.trim tr tro))
  | .seq a b, st, Q => wpA C I a st (fun e st => match e with | .normal => wpA C I b st Q | e => Q e st)
  | .cond c a b, st, Q => (match opd st.s c with | .d (.bool t) => if t = true then wpA C I a st Q else wpA C I b st Q | _ => False)
  | .block id tr tro c, st, Q => wpA C I c st (fun e st => match e with | .normal => Q .normal (st.trim tr tro) | .exit id' => if id' = id then Q .normal (st.trim tr tro) else Q (.exit id') st | .ret => Q .ret st)
  | .loop tr tro c, st, Q => ∀ X : St → Prop, (∀ s, wpA C I c (s.trim tr tro) (fun e s' => match e with | .normal => X s' | e => Q e s') → X s) → X st
  | .exit id, st, Q => Q (.exit id) st
  | .ret, st, Q => Q .ret st
  | .scope l tr tro first rest, st, Q => ∀ X : St → Prop, (∀ s, wpA C I rest (s.trim tr tro) (jumpK l X Q) → X s) → wpA C I first st (jumpK l X Q)
/-- The edges that bind in whichever order. -/
def bindsOf (o : Oper) : List Nat := (o.after.toList.filter (Region.binds .any)).map (·.on)
def okDeps : List Oper → List AOper → Bool
  | [], [] => true
  | o :: os, ao :: aos => bindsOf o == ao.deps && okDeps os aos
  | _, _ => false
def okC (P : Program) (φ : Nat → FuncId) (N : Nat) : Code → ACode → Bool
  | .skip, .skip => true
  | .region _ ops draw, .region _ _ none aos => !draw && okOpers P φ N ops ops.toList aos
  | .region _ ops draw, .region _ _ (some (is, t)) aos => draw && okOpers P φ N ops ops.toList aos && okDeps ops.toList aos && okDraw aos is (aos.length - is.length) t [] && decide (is.length ≤ aos.length)
  | .seq a b, .seq c d => okC P φ N a c && okC P φ N b d
  | .cond x a b, .cond y c d => okOpd φ x y && okC P φ N a c && okC P φ N b d
  | .block i a, .block j _ _ c => i == j && decide (i < 1000000) && okC P φ N a c
  | .loop a, .loop _ _ c => okC P φ N a c
  | .exit i, .exit j => i == j && decide (i < 1000000)
  | .ret, .ret => true
  | .label _, .skip => true
  | .goto l, .exit j => j == 1000000 + l
  | .scope a, .scope l _ _ c d => okC P φ N a c && (match findLabel a l with | some r => okC P φ N r d | none => false)
  | _, _ => false
theorem okOpers_len {P : Program} {φ : Nat → FuncId} {N : Nat} {ops : Array Oper} : ∀ {os : List Oper} {aos : List AOper}, okOpers P φ N ops os aos = true → os.length = aos.length ∧ ∀ (i : Nat) (o : Oper) (ao : AOper), os[i]? = some o → aos[i]? = some ao → okOper P φ N ops o ao = true
  | [], [], _ => ⟨rfl, by simp⟩
  | o :: os, ao :: aos, h => by
    simp only [okOpers, Bool.and_eq_true] at h
    obtain ⟨h1, h2⟩ := okOpers_len h.2
    refine ⟨by simp [h1], fun i o' ao' ho hao => ?_⟩
    cases i with
    | zero => simp at ho hao; subst ho hao; exact h.1
    | succ i => exact h2 i o' ao' (by simpa using ho) (by simpa using hao)
  | [], _ :: _, h => by simp [okOpers] at h
  | _ :: _, [], h => by simp [okOpers] at h
theorem okDeps_spec : ∀ {os : List Oper} {aos : List AOper}, okDeps os aos = true → ∀ (i : Nat) (o : Oper) (ao : AOper), os[i]? = some o → aos[i]? = some ao → bindsOf o = ao.deps
  | [], [], _ => by simp
  | o :: os, ao :: aos, h => by
    simp only [okDeps, Bool.and_eq_true, beq_iff_eq] at h
    intro i o' ao' ho hao
    cases i with
    | zero => simp at ho hao; subst ho hao; exact h.1
    | succ i => exact okDeps_spec h.2 i o' ao' (by simpa using ho) (by simpa using hao)
  | [], _ :: _, h => by simp [okDeps] at h
  | _ :: _, [], h => by simp [okDeps] at h
section
variable {C : Ctx} {w0 : World} {S M : Nat → Prop} {N : Nat} {γ γ0 : Nat → Value} {st : St} {a : Act} {w : World} {Q : Exit → Act → World → Prop}
theorem ready_agree {ops : Array Oper} {aos : List AOper} (hl : ops.toList.length = aos.length) (hd : okDeps ops.toList aos = true) {L : Array Bool} {l : List Nat} (hL : ∀ j, j < ops.size → L.getD j true = l.contains j) (hs : L.size = ops.size) (hb : ∀ j, l.contains j = true → j < ops.size) :
    Region.ready .any ops L = readyA aos l := by
  unfold Region.ready readyA
  rw [show ops.size = aos.length by simpa using hl]
  refine List.filter_congr fun i hi => ?_
  have hi : i < ops.size := by have := List.mem_range.1 hi; simp at hl; omega
  rw [hL i hi]
  congr 1
  have hao : i < aos.length := by simp at hl; omega
  have e1 : ops[i]? = some ops[i] := Array.getElem?_eq_getElem hi
  have e2 : aos[i]? = some aos[i] := List.getElem?_eq_getElem hao
  rw [e1, e2]
  simp only [Option.map_some, Option.getD_some]
  have hdep := okDeps_spec hd i ops[i] aos[i] (by simp [hi]) e2
  rw [← hdep]
  unfold bindsOf
  rw [Bool.eq_iff_iff]
  simp only [Array.all_eq_true_iff_forall_mem, List.all_map, List.all_eq_true, List.mem_filter, Bool.or_eq_true, Bool.not_eq_true', Function.comp, and_imp]
  have key : ∀ j, L.getD j false = true ↔ l.contains j = true := by
    intro j
    rcases Nat.lt_or_ge j ops.size with h | h
    · have := hL j h
      rw [← this]
      simp [Array.getD, hs, h]
    · constructor
      · intro h'
        simp [Array.getD, hs, Nat.not_lt.2 h] at h'
      · intro h'
        have := hb j h'
        omega
  constructor
  · intro h e he hbe
    rcases h e (Array.mem_toList_iff.1 he) with h' | h'
    · rw [hbe] at h'; cases h'
    · exact (key _).1 h'
  · intro h e he
    cases hbe : Region.binds .any e with
    | false => exact .inl rfl
    | true => exact .inr ((key _).2 (h e (Array.mem_toList_iff.2 he) hbe))
theorem anyA_sound (he : Env C w0 S M) {I : Nat → Prop} {ops : Array Oper} {aos : List AOper} {K : St → Prop} (hQ : ∀ γ' st' a' w', K st' → (∀ n, I n → γ' n = γ0 n) → Rel C w0 S M N γ' st' a' w' → Q .normal a' w')
    (hk : okOpers C.P C.φ N ops ops.toList aos = true) (hd : okDeps ops.toList aos = true) : ∀ (n : Nat) {L : Array Bool} {l : List Nat}, (∀ j, j < ops.size → L.getD j true = l.contains j) → L.size = ops.size → (∀ j, l.contains j = true → j < ops.size) →
      ∀ {γ : Nat → Value} {st : St} {a : Act} {w : World}, Rel C w0 S M N γ st a w → (∀ n, I n → γ n = γ0 n) → anyA C I aos n l st K → wpAny C.P .any ops Q n L a w
  | 0, L, l, hL, hs, hb, γ, st, a, w, hr, hγ, h => ⟨by rw [ready_agree (okOpers_len hk).1 hd hL hs hb]; exact h.1, hQ γ st a w h.2 hγ hr⟩
  | n + 1, L, l, hL, hs, hb, γ, st, a, w, hr, hγ, h => by
    have hra := ready_agree (okOpers_len hk).1 hd hL hs hb
    refine ⟨fun e => hQ γ st a w (h.1 (by rw [← hra]; exact e)) hγ hr, fun i hi => ?_⟩
    rw [hra] at hi
    obtain ⟨ao, hao, h1⟩ := h.2 i hi
    have hlen := (okOpers_len hk).1
    have hilt : i < ops.size := by
      have := (List.getElem?_eq_some_iff.1 hao).1
      simp at hlen; omega
    have ho : ops[i]? = some ops[i] := Array.getElem?_eq_getElem hilt
    have hok := (okOpers_len hk).2 i ops[i] ao (by simp [hilt]) hao
    refine wpOp_mono ?_ (opA_sound hr he hγ ho hok (opD_A h1))
    rintro a' w' ⟨γ', st', k1, k2, k3⟩
    refine anyA_sound he hQ hk hd n (fun j hj => ?_) (by simp [hs]) (fun j hj => ?_) k3 k2 k1
    · rw [List.contains_cons]
      by_cases e : i = j
      · subst e
        simp [hs, hj]
      · rw [getD_set_ne true e, hL j hj]
        have : (j == i) = false := by simpa using fun h => e h.symm
        rw [this, Bool.false_or]
    · rw [List.contains_cons] at hj
      simp only [Bool.or_eq_true, beq_iff_eq] at hj
      rcases hj with rfl | hj
      · exact hilt
      · exact hb j hj
theorem wp_loop_A {P : Program} {c : Code} (W : Act → World → Prop) (hW : ∀ a w, W a w → ∀ (b : Frame) (k : List Item) (cs : List Frame), ∃ e a' w', Q e a' w' ∧ Arrives P (lone (b.at a (.code c :: .inLoop c :: k)) cs w) b k cs e a' w') (h : W a w) : (Code.loop c).wp P Q a w := by
  intro b k cs
  obtain ⟨e, a', w', hq, harr⟩ := hW a w h b k cs
  exact ⟨e, a', w', hq, .of_steps (.one step_loop) harr⟩
theorem loop_round {P : Program} {c : Code} {W : Act → World → Prop} (hW : ∀ a w, W a w → ∀ (b : Frame) (k : List Item) (cs : List Frame), ∃ e a' w', Q e a' w' ∧ Arrives P (lone (b.at a (.code c :: .inLoop c :: k)) cs w) b k cs e a' w')
    (h : c.wp P (Exit.then W Q) a w) (b : Frame) (k : List Item) (cs : List Frame) : ∃ e a' w', Q e a' w' ∧ Arrives P (lone (b.at a (.code c :: .inLoop c :: k)) cs w) b k cs e a' w' := by
  obtain ⟨e, a₁, w₁, hq, harr⟩ := h b (.inLoop c :: k) cs
  cases e with
  | normal =>
    obtain ⟨e₂, a₂, w₂, hq₂, harr₂⟩ := hW a₁ w₁ hq b k cs
    exact ⟨e₂, a₂, w₂, hq₂, .of_steps (Steps.trans harr (.one step_inLoop)) harr₂⟩
  | exit id => exact ⟨_, a₁, w₁, hq, .pass (x := .inLoop c) rfl (fun _ _ => .inl (by simp)) harr⟩
  | goto l => exact ⟨_, a₁, w₁, hq, .pass (x := .inLoop c) rfl (fun _ _ => .inl (by simp)) harr⟩
  | ret => exact ⟨_, a₁, w₁, hq, .pass (x := .inLoop c) rfl (fun _ _ => .inl (by simp)) harr⟩
  | panic ch => exact ⟨_, a₁, w₁, hq, .pass (x := .inLoop c) rfl (fun _ _ => .inl (by simp)) harr⟩
  | outgrown => exact ⟨_, a₁, w₁, hq, .pass (x := .inLoop c) rfl (fun _ _ => .inl (by simp)) harr⟩
theorem wpA_sound (he : Env C w0 S M) {I : Nat → Prop} : ∀ {c : Code} {ac : ACode} {γ : Nat → Value} {st : St} {a : Act} {w : World} {QA : Ex → St → Prop} {Q : Exit → Act → World → Prop}, okC C.P C.φ N c ac = true →
    (∀ e γ' st' a' w', QA e st' → (∀ n, I n → γ' n = γ0 n) → Rel C w0 S M N γ' st' a' w' → Q e.go a' w') → Rel C w0 S M N γ st a w → (∀ n, I n → γ n = γ0 n) → wpA C I ac st QA → c.wp C.P Q a w := by
  intro c ac
  induction ac generalizing c with
  | skip =>
    intro γ st a w QA Q hk hQ hr hγ h
    cases c <;> simp [okC] at hk
    · exact wp_skip (hQ .normal γ st a w h hγ hr)
    · exact wp_label (hQ .normal γ st a w h hγ hr)
  | region tr tro draw aos =>
    intro γ st a w QA Q hk hQ hr hγ h
    cases c <;> rcases draw with _ | ⟨is, t⟩ <;> simp [okC] at hk
    · rename_i id ops draws
      obtain ⟨rfl, hk⟩ := hk
      refine wp_region ?_
      have := opsA_sound (Q := Q) he (K := fun st => QA .normal (st.trim tr tro)) (fun γ' st' a' w' h1 h2 h3 => hQ .normal γ' _ a' w' h1 h2 (h3.trim tr tro)) aos ops.toList 0 (fun i o ho => by simpa using ho) hk hr hγ h
      rw [List.range_eq_range']
      simpa using this
    · rename_i id ops draws
      obtain ⟨⟨⟨⟨rfl, hk⟩, hd⟩, hf⟩, hle⟩ := hk
      refine wp_region_any C.mixed ?_
      have hlen := (okOpers_len hk).1
      have h2 := drawA_any hf h
      rw [Nat.sub_add_cancel hle] at h2
      have := anyA_sound (Q := Q) he (K := fun st => QA .normal (st.trim tr tro)) (fun γ' st' a' w' h1 h2 h3 => hQ .normal γ' _ a' w' h1 h2 (h3.trim tr tro)) hk hd aos.length (L := Array.replicate ops.size false) (l := []) (fun j hj => by simp [hj]) (by simp) (by simp) (hr.grow (Grow.drew w)) hγ h2
      rw [show ops.size = aos.length by simpa using hlen] at this ⊢
      exact this
  | seq x y ihx ihy =>
    intro γ st a w QA Q hk hQ hr hγ h
    cases c <;> simp [okC] at hk
    refine wp_seq (ihx hk.1 (QA := fun e st => match e with | .normal => wpA C I y st QA | e => QA e st) ?_ hr hγ h)
    intro e γ' st' a' w' h1 h2 h3
    cases e with
    | normal => exact ihy hk.2 hQ h3 h2 h1
    | exit id =>
      have := hQ (.exit id) γ' st' a' w' h1 h2 h3
      by_cases hid : id < 1000000
      · rw [Ex.go_exit hid] at this ⊢; exact this
      · rw [Ex.go_goto hid] at this ⊢; exact this
    | ret => exact hQ .ret γ' st' a' w' h1 h2 h3
  | cond x y z ihy ihz =>
    intro γ st a w QA Q hk hQ hr hγ h
    cases c <;> simp [okC] at hk
    rename_i x' y' z'
    obtain ⟨⟨h1, h2⟩, h3⟩ := hk
    have hx := opd_rep hr h1
    simp only [wpA] at h
    split at h
    · rename_i t ht
      rw [ht] at hx
      refine wp_cond (t := t) hx ?_
      split at h
      · rename_i htt; subst htt; exact ihy h2 hQ hr hγ h
      · rename_i htt
        have : t = false := by simpa using htt
        subst this
        exact ihz h3 hQ hr hγ h
    · exact h.elim
  | block id tr tro x ih =>
    intro γ st a w QA Q hk hQ hr hγ h
    cases c <;> simp [okC] at hk
    obtain ⟨⟨rfl, hlt⟩, hk⟩ := hk
    refine wp_block (ih hk (QA := fun e st => match e with | .normal => QA .normal (st.trim tr tro) | .exit id' => if id' = _ then QA .normal (st.trim tr tro) else QA (.exit id') st | .ret => QA .ret st) ?_ hr hγ h)
    intro e γ' st' a' w' h1 h2 h3
    cases e with
    | normal => exact hQ .normal γ' _ a' w' h1 h2 (h3.trim tr tro)
    | exit id' =>
      simp only at h1
      by_cases hid : id' < 1000000
      · rw [Ex.go_exit hid]
        simp only [Exit.inBlock]
        split at h1
        · rename_i e; rw [if_pos e]; exact hQ .normal γ' _ a' w' h1 h2 (h3.trim tr tro)
        · rename_i e; rw [if_neg e]
          have := hQ (.exit id') γ' st' a' w' h1 h2 h3
          rwa [Ex.go_exit hid] at this
      · rw [Ex.go_goto hid]
        rw [if_neg (by omega)] at h1
        have := hQ (.exit id') γ' st' a' w' h1 h2 h3
        rwa [Ex.go_goto hid] at this
    | ret => exact hQ .ret γ' st' a' w' h1 h2 h3
  | loop tr tro x ih =>
    intro γ st a w QA Q hk hQ hr hγ h
    cases c <;> simp [okC] at hk
    rename_i body
    let X : St → Prop := fun s => ∀ γ' a w, (∀ n, I n → γ' n = γ0 n) → Rel C w0 S M N γ' s a w → ∀ (b : Frame) (k : List Item) (cs : List Frame), ∃ e a' w', Q e a' w' ∧ Arrives C.P (lone (b.at a (.code body :: .inLoop body :: k)) cs w) b k cs e a' w'
    have hX : X st := by
      refine h X (fun s hs γ' a w hγ' hr' => ?_)
      refine loop_round (W := fun a w => ∃ s γ'', X s ∧ (∀ n, I n → γ'' n = γ0 n) ∧ Rel C w0 S M N γ'' s a w) (fun a w hw => ?_) ?_
      · obtain ⟨s, γ'', h1, h2, h3⟩ := hw
        exact h1 γ'' a w h2 h3
      · refine ih hk (QA := fun e s' => match e with | .normal => X s' | e => QA e s') ?_ (hr'.trim tr tro) hγ' hs
        intro e γ'' st' a' w' h1 h2 h3
        cases e with
        | normal => exact ⟨st', γ'', h1, h2, h3⟩
        | exit id =>
          have := hQ (.exit id) γ'' st' a' w' h1 h2 h3
          by_cases hid : id < 1000000
          · rw [Ex.go_exit hid] at this ⊢; exact this
          · rw [Ex.go_goto hid] at this ⊢; exact this
        | ret => exact hQ .ret γ'' st' a' w' h1 h2 h3
    exact wp_loop_A (fun a w => ∃ s γ'', X s ∧ (∀ n, I n → γ'' n = γ0 n) ∧ Rel C w0 S M N γ'' s a w) (fun a w hw => by
      obtain ⟨s, γ'', h1, h2, h3⟩ := hw
      exact h1 γ'' a w h2 h3) ⟨st, γ, hX, hγ, hr⟩
  | exit id =>
    intro γ st a w QA Q hk hQ hr hγ h
    cases c <;> simp [okC] at hk
    · obtain ⟨rfl, hlt⟩ := hk
      refine wp_exit ?_
      have := hQ (.exit _) γ st a w h hγ hr
      rwa [Ex.go_exit hlt] at this
    · subst hk
      refine wp_goto ?_
      have := hQ (.exit _) γ st a w h hγ hr
      rw [Ex.go_goto (by omega)] at this
      simpa using this
  | ret =>
    intro γ st a w QA Q hk hQ hr hγ h
    cases c <;> simp [okC] at hk
    exact wp_ret (hQ .ret γ st a w h hγ hr)
  | scope l tr tro first rest ihf ihr =>
    intro γ st a w QA Q hk hQ hr hγ h
    cases c <;> simp [okC] at hk
    rename_i body
    obtain ⟨hk1, hk2⟩ := hk
    split at hk2
    case h_2 => cases hk2
    rename_i r hf
    let X : St → Prop := fun s => ∀ γ' a w, (∀ n, I n → γ' n = γ0 n) → Rel C w0 S M N γ' s a w → ∀ (b : Frame) (k : List Item) (cs : List Frame), ∃ e a' w', Q e a' w' ∧ Arrives C.P (lone (b.at a (.code r :: .inScope body :: k)) cs w) b k cs e a' w'
    have hpost : ∀ e γ' st' a' w', jumpK l X QA e st' → (∀ n, I n → γ' n = γ0 n) → Rel C w0 S M N γ' st' a' w' → Exit.jump l (fun a w => ∃ s γ', X s ∧ (∀ n, I n → γ' n = γ0 n) ∧ Rel C w0 S M N γ' s a w) Q e.go a' w' := by
      intro e γ' st' a' w' h1 h2 h3
      cases e with
      | normal => exact hQ .normal γ' st' a' w' h1 h2 h3
      | ret => exact hQ .ret γ' st' a' w' h1 h2 h3
      | exit id =>
        simp only [jumpK] at h1
        by_cases hid : id < 1000000
        · rw [if_pos hid] at h1
          have := hQ (.exit id) γ' st' a' w' h1 h2 h3
          rw [Ex.go_exit hid] at this ⊢; exact this
        · rw [if_neg hid] at h1
          rw [Ex.go_goto hid]
          exact ⟨by omega, st', γ', h1.2, h2, h3⟩
    have hg : ∀ (b : Frame) (k : List Item) (cs : List Frame), gotoIn l (.inScope body :: k) = some (.code r :: .inScope body :: k) := fun b k cs => by simp [gotoIn, hf]
    have run : ∀ {c' : Code} {a : Act} {w : World}, c'.wp C.P (Exit.jump l (fun a w => ∃ s γ', X s ∧ (∀ n, I n → γ' n = γ0 n) ∧ Rel C w0 S M N γ' s a w) Q) a w → ∀ (b : Frame) (k : List Item) (cs : List Frame),
        ∃ e a' w', Q e a' w' ∧ Arrives C.P (lone (b.at a (.code c' :: .inScope body :: k)) cs w) b k cs e a' w' := by
      intro c' a w hw b k cs
      obtain ⟨e, a₁, w₁, hq, harr⟩ := hw b (.inScope body :: k) cs
      cases e with
      | normal => exact ⟨.normal, a₁, w₁, hq, Steps.trans harr (.one step_inScope)⟩
      | exit id => exact ⟨.exit id, a₁, w₁, hq, fun k' hk => harr k' (by simp [exitTo, hk])⟩
      | goto l' =>
        obtain ⟨rfl, s, γ', hX, h2, h3⟩ := hq
        obtain ⟨e₂, a₂, w₂, hq₂, harr₂⟩ := hX γ' a₁ w₁ h2 h3 b k cs
        exact ⟨e₂, a₂, w₂, hq₂, .of_steps (harr _ (hg b k cs)) harr₂⟩
      | ret => exact ⟨_, a₁, w₁, hq, harr⟩
      | panic ch => exact ⟨_, a₁, w₁, hq, harr⟩
      | outgrown => exact ⟨_, a₁, w₁, hq, harr⟩
    have hX := h X (fun s hs γ' a w hγ' hr' => run (ihr hk2 hpost (hr'.trim tr tro) hγ' hs))
    have hw := ihf hk1 hpost hr hγ hX
    intro b k cs
    obtain ⟨e, a', w', hq, harr⟩ := run hw b k cs
    exact ⟨e, a', w', hq, .of_steps (.one step_scope) harr⟩
end
theorem stepA_mono {C : Ctx} {I : Nat → Prop} {st : St} {dst : Option Nat} {K K' : St → Prop} {op : AOp} (h : ∀ st, K st → K' st) (hs : stepA C I st dst K op) : stepA C I st dst K' op := by
  have call : ∀ f xs, callA C I st dst K f xs → callA C I st dst K' f xs := by
    rintro f xs ⟨E, cout, h1, h2, h3⟩
    exact ⟨E, cout, h1, h2, h _ h3⟩
  cases op
  case call => exact call _ _ hs
  case callv x args =>
    simp only [stepA] at hs ⊢
    split at hs
    · exact call _ _ hs
    · exact hs.elim
  case cut | never => exact hs.elim
  case store | alloc | box | bsl | mks | app | mkmap | mset | mget | nilS =>
    simp only [stepA, isP, Bool.false_eq_true, if_false] at hs ⊢
    exact stepS_mono h hs
  case mv x => exact h _ hs
  case fnv f xs => exact h _ hs
  all_goals exact demand_mono (K := fun v => K (st.put dst v)) (K' := fun v => K' (st.put dst v)) (fun v => h _) hs
theorem opA_mono {C : Ctx} {I : Nat → Prop} {st : St} {K K' : St → Prop} {o : AOper} (h : ∀ st, K st → K' st) (hs : opA C I o st K) : opA C I o st K' := by
  unfold opA at hs ⊢
  cases hg : o.guard with
  | none => rw [hg] at hs; exact stepA_mono h hs
  | some x =>
    obtain ⟨p, g, want⟩ := x
    rw [hg] at hs
    have hs : match st.s g with
      | .d (.bool b) => if b = want then stepA C I (st.frz o.frz) o.dst K o.op else K (st.put o.dst (.tup []))
      | .tup [] => K (st.put o.dst (.tup []))
      | _ => False := hs
    show match st.s g with
      | .d (.bool b) => if b = want then stepA C I (st.frz o.frz) o.dst K' o.op else K' (st.put o.dst (.tup []))
      | .tup [] => K' (st.put o.dst (.tup []))
      | _ => False
    split at hs
    · split at hs
      · rename_i hw; rw [if_pos hw]; exact stepA_mono h hs
      · rename_i hw; rw [if_neg hw]; exact h _ hs
    · exact h _ hs
    · exact hs.elim
theorem opsA_mono {C : Ctx} {I : Nat → Prop} {K K' : St → Prop} (h : ∀ st, K st → K' st) : ∀ {os : List AOper} {st : St}, opsA C I os st K → opsA C I os st K'
  | [], _, hs => h _ hs
  | _ :: _, _, hs => opA_mono (fun _ => opsA_mono h) hs
theorem treeA_mono {C : Ctx} {I : Nat → Prop} {aos : List AOper} {K K' : St → Prop} (h : ∀ st, K st → K' st) : ∀ {t : Tr} {st : St}, treeA C I aos t st K → treeA C I aos t st K'
  | .done, _, hs => h _ hs
  | .one i t, st, hs => by
    unfold treeA at hs ⊢
    split
    · rename_i ao hao; rw [hao] at hs; exact opD_mono (fun st => treeA_mono h) hs
    · rename_i hao; rw [hao] at hs; exact hs
  | .two i t r, st, hs => by
    unfold treeA at hs ⊢
    refine ⟨?_, treeA_mono h hs.2⟩
    have hs := hs.1
    split
    · rename_i ao hao; rw [hao] at hs; exact opD_mono (fun st => treeA_mono h) hs
    · rename_i hao; rw [hao] at hs; exact hs
theorem drawA_mono {C : Ctx} {I : Nat → Prop} {aos : List AOper} {K K' : St → Prop} (h : ∀ st, K st → K' st) : ∀ {is : List Nat} {t : Tr} {st : St}, drawA C I aos is t st K → drawA C I aos is t st K'
  | [], _, _, hs => treeA_mono h hs
  | i :: is, t, st, hs => by
    unfold drawA at hs ⊢
    split
    · rename_i oi hi
      rw [hi] at hs
      have hs : match oi.dst with
        | some d => st.s d = .undef ∧ ∃ v, Yields C st oi v ∧ Quiet st oi v ∧ drawA C I aos is t (st.put (some d) v) K
        | none => False := hs
      split
      · rename_i d hd
        rw [hd] at hs
        obtain ⟨h1, v, h2, h3, h4⟩ := hs
        exact ⟨h1, v, h2, h3, drawA_mono h h4⟩
      · rename_i hd
        rw [hd] at hs
        exact hs
    · rename_i hi
      rw [hi] at hs
      exact hs
theorem wpA_mono {C : Ctx} {I : Nat → Prop} : ∀ {c : ACode} {st : St} {Q Q' : Ex → St → Prop}, (∀ e st, Q e st → Q' e st) → wpA C I c st Q → wpA C I c st Q' := by
  intro c
  induction c with
  | skip => intro st Q Q' h hs; exact h _ _ hs
  | region tr tro draw ops =>
    intro st Q Q' h hs
    cases draw with
    | none => exact opsA_mono (fun st => h _ _) hs
    | some is => exact drawA_mono (fun st => h _ _) hs
  | seq a b iha ihb =>
    intro st Q Q' h hs
    refine iha (fun e st => ?_) hs
    cases e with
    | normal => exact ihb h
    | exit id => exact h _ _
    | ret => exact h _ _
  | cond c a b iha ihb =>
    intro st Q Q' h hs
    simp only [wpA] at hs ⊢
    split at hs
    · split at hs
      · rename_i ht; rw [if_pos ht]; exact iha h hs
      · rename_i ht; rw [if_neg ht]; exact ihb h hs
    · exact hs.elim
  | block id tr tro c ih =>
    intro st Q Q' h hs
    refine ih (fun e st => ?_) hs
    cases e with
    | normal => exact h _ _
    | exit id' =>
      simp only
      split
      · exact h _ _
      · exact h _ _
    | ret => exact h _ _
  | loop tr tro c ih =>
    intro st Q Q' h hs X hX
    refine hs X (fun s hsX => hX s (ih (fun e st => ?_) hsX))
    cases e with
    | normal => exact id
    | exit id' => exact h _ _
    | ret => exact h _ _
  | exit id => intro st Q Q' h hs; exact h _ _ hs
  | ret => intro st Q Q' h hs; exact h _ _ hs
  | scope l tr tro first rest ihf ihr =>
    intro st Q Q' h hs X hX
    have hj : ∀ e s, jumpK l X Q e s → jumpK l X Q' e s := by
      intro e s
      cases e with
      | normal => exact h _ _
      | ret => exact h _ _
      | exit k =>
        simp only [jumpK]
        split
        · exact h _ _
        · exact id
    exact ihf hj (hs X (fun s hsX => hX s (ihr hj hsX)))
/-- A scope: what runs first; at its label, the scope again from there. -/
theorem wpA_scope {C : Ctx} {I : Nat → Prop} {l : Nat} {tr : List Nat} {tro : Option (List Nat)} {first rest : ACode} {st : St} {Q : Ex → St → Prop}
    (h : wpA C I first st (jumpK l (fun s => wpA C I (.scope l tr tro rest rest) (s.trim tr tro) Q) Q)) : wpA C I (.scope l tr tro first rest) st Q := by
  intro X hX
  refine wpA_mono (fun e s => ?_) h
  cases e with
  | normal => exact id
  | ret => exact id
  | exit k =>
    simp only [jumpK]
    split
    · exact id
    · rintro ⟨h1, h2⟩
      exact ⟨h1, hX s (h2 X hX)⟩
/-- A loop: one round, then the loop again. -/
theorem wpA_loop {C : Ctx} {I : Nat → Prop} {tr : List Nat} {tro : Option (List Nat)} {c : ACode} {st : St} {Q : Ex → St → Prop}
    (h : wpA C I c (st.trim tr tro) (fun e s' => match e with | .normal => wpA C I (.loop tr tro c) s' Q | e => Q e s')) : wpA C I (.loop tr tro c) st Q := by
  intro X hX
  refine hX st (wpA_mono (fun e s' => ?_) h)
  cases e with
  | normal => intro h'; exact h' X hX
  | exit k => exact id
  | ret => exact id
end Pay
