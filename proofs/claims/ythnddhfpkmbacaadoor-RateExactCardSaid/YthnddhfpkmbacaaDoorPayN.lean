/- Regions that draw their order: what turns nothing may be taken first; what is left is followed in each order. -/
import Derived.Test.YthnddhfpkmbacaaDoorPayM
set_option linter.unusedSimpArgs false
set_option linter.unusedVariables false
namespace Pay
open Go
def Opd.slot : Opd → List Nat
  | .t n => [n]
  | _ => []
def Opd.plain : Opd → Bool
  | .t _ | .f _ | .c (.d _) | .c .cap0 | .c .nilp => true
  | _ => false
def AOp.opds : AOp → List Opd
  | .mv x | .un _ x | .conv _ x | .same x | .bstr x | .ext x _ | .load _ x | .faddr _ x | .fld _ _ x | .len x | .lenS x | .nilc x | .nilE _ x | .nilP _ x | .nilS _ x | .box _ _ x | .mks _ _ _ _ x => [x]
  | .pick c a b => [c, a, b]
  | .bin _ x y | .iaddr _ x y | .iaddrA _ _ x y | .idx x y | .idxA _ _ _ x y | .eqs _ _ x y | .beq _ x y | .store _ x y | .app _ _ _ x y | .cut x y | .mget _ _ x y _ => [x, y]
  | .slc _ x lo hi | .slcS x lo hi => x :: (lo.toList ++ hi.toList)
  | .mm _ xs | .fnv _ xs | .call _ xs => xs
  | .callv x xs => x :: xs
  | .build _ ps => ps.map (·.2.2)
  | .bsl _ _ _ _ ps => ps.map (·.2)
  | .mset _ m k x => [m, k, x]
  | .alloc _ _ | .mkmap _ | .never => []
def AOper.uses (o : AOper) : List Nat := o.op.opds.flatMap Opd.slot ++ (match o.guard with | some (_, g, _) => [g] | none => [])
theorem loadV_congr {o o' : Nat → Option Ob} {k : Option Nat} {x : V} (h : ∀ n, V.refs n x = true → o' n = o n) : loadV o' k x = loadV o k x := by
  cases x <;> cases k <;> simp only [loadV] <;> (try rw [h _ (by simp [V.refs])])
theorem iaddrV_congr {o o' : Nat → Option Ob} {sz : Nat} {x i : V} (h : ∀ n, V.refs n x = true → o' n = o n) : iaddrV o' sz x i = iaddrV o sz x i := by
  cases x
  case own n =>
    have e := h n (by simp [V.refs])
    cases i
    case d y => cases y <;> simp only [iaddrV, e]
    all_goals rfl
  case d x =>
    cases x
    case sl es =>
      cases i
      case d y => cases y <;> rfl
      all_goals rfl
    all_goals (cases i <;> rfl)
  all_goals (cases i <;> rfl)
theorem lenV_congr {o o' : Nat → Option Ob} {x : V} (h : ∀ n, V.refs n x = true → o' n = o n) : lenV o' x = lenV o x := by
  cases x
  case own n => simp only [lenV, h n (by simp [V.refs])]
  case d x => cases x <;> rfl
  all_goals rfl
theorem buildV_congr {f g : Opd → V} : ∀ {ps : List (Nat × Nat × Opd)} {cs : List V}, (∀ x ∈ ps.map (·.2.2), g x = f x) → buildV g cs ps = buildV f cs ps
  | [], _, _ => rfl
  | (off, sz, x) :: ps, cs, h => by
    simp only [buildV, h x (by simp)]
    split
    · split
      · exact buildV_congr (fun y hy => h y (by simp only [List.map_cons, List.mem_cons]; exact .inr hy))
      · rfl
    · rfl
theorem partsD_congr {f g : Opd → V} {sz : Nat} : ∀ {ps : List Opd}, (∀ x ∈ ps, g x = f x) → partsD sz g ps = partsD sz f ps
  | [], _ => rfl
  | x :: ps, h => by
    simp only [partsD, h x (by simp)]
    rw [partsD_congr (fun y hy => h y (by simp [hy]))]
theorem map_congr' {f g : Opd → V} {xs : List Opd} (h : ∀ x ∈ xs, g x = f x) : xs.map g = xs.map f := List.map_congr_left h
theorem evP_congr {st st' : St} {op : AOp} (h1 : ∀ x ∈ op.opds, opd st'.s x = opd st.s x) (h2 : ∀ x ∈ op.opds, ∀ n, V.refs n (opd st.s x) = true → st'.o n = st.o n) : evP st' op = evP st op := by
  cases op
  case load n p => simp only [evP, h1 p (by simp [AOp.opds])]; exact loadV_congr (h2 p (by simp [AOp.opds]))
  case iaddr sz x i => simp only [evP, h1 x (by simp [AOp.opds]), h1 i (by simp [AOp.opds])]; exact iaddrV_congr (h2 x (by simp [AOp.opds]))
  case len x => simp only [evP, h1 x (by simp [AOp.opds])]; exact lenV_congr (h2 x (by simp [AOp.opds]))
  case mm mx xs => simp only [evP]; rw [map_congr' (f := opd st.s) (g := opd st'.s) (xs := xs) (fun x hx => h1 x hx)]
  case fnv f xs => simp only [evP]; rw [map_congr' (f := opd st.s) (g := opd st'.s) (xs := xs) (fun x hx => h1 x hx)]
  case build z ps => simp only [evP]; rw [buildV_congr (fun x hx => h1 x hx)]
  case slc sz x lo hi =>
    cases lo <;> cases hi <;> simp only [evP, Option.map_none, Option.map_some] <;> simp only [h1 x (by simp [AOp.opds])] <;> (try rw [h1 _ (by simp [AOp.opds])]) <;> (try rw [h1 _ (by simp [AOp.opds])])
  case slcS x lo hi =>
    cases lo <;> cases hi <;> simp only [evP, Option.map_none, Option.map_some] <;> simp only [h1 x (by simp [AOp.opds])] <;> (try rw [h1 _ (by simp [AOp.opds])]) <;> (try rw [h1 _ (by simp [AOp.opds])])
  all_goals first
    | rfl
    | (rename_i x y z; simp only [evP, h1 x (by simp [AOp.opds]), h1 y (by simp [AOp.opds]), h1 z (by simp [AOp.opds])]; done)
    | (rename_i x y; simp only [evP, h1 x (by simp [AOp.opds]), h1 y (by simp [AOp.opds])]; done)
    | (rename_i x; simp only [evP, h1 x (by simp [AOp.opds])]; done)
    | (rename_i x _; simp only [evP, h1 x (by simp [AOp.opds])]; done)
def pureA (C : Ctx) (st : St) (op : AOp) (v : V) : Prop :=
  match op with
  | .call f args => SoundAt C f ⟨args.map (opd st.s), fun _ => none⟩ ⟨v, fun _ => none⟩ ∧ ∀ n, V.refs n v = false
  | .bsl none sz _ _ ps => ∃ es, partsD sz (opd st.s) (ps.map (·.2)) = some es ∧ v = .d (.sl es)
  | .bsl (some _) _ _ n _ => n = 0 ∧ v = .cap0
  | op => isP op = true ∧ evP st op = some v
def stepD (C : Ctx) (I : Nat → Prop) (st : St) (dst : Option Nat) (K : St → Prop) (op : AOp) : Prop :=
  match op with
  | .call f args => ∃ cout, SoundAt C f ⟨args.map (opd st.s), fun _ => none⟩ cout ∧ Names I st dst (fun _ => false) cout ∧ K { s := (st.put dst cout.r).s, o := mixO (fun _ => false) st.o cout.o }
  | .callv _ _ => False
  | .cut _ _ => False
  | .app own sz bytes x y => stepS I st dst K (.app own sz bytes x y) ∧ ∀ m, opd st.s x = .own m → ∀ n cs, st.o n = some (.box cs) → V.refsL m cs = false
  | op => if isP op = true then demand (evP st op) (fun v => K (st.put dst v)) else stepS I st dst K op
theorem exO_none (o : Nat → Option Ob) : exO (fun _ => false) o = fun _ => none := by funext n; simp [exO]
theorem stepD_A {C : Ctx} {I : Nat → Prop} {st : St} {dst : Option Nat} {K : St → Prop} {op : AOp} (h : stepD C I st dst K op) : stepA C I st dst K op := by
  cases op
  case call f args =>
    obtain ⟨cout, h1, h2, h3⟩ := h
    exact ⟨fun _ => false, cout, by rw [exO_none]; exact h1, h2, h3⟩
  case app => exact h.1
  case callv => exact h.elim
  case cut => exact h.elim
  all_goals exact h
def opD (C : Ctx) (I : Nat → Prop) (o : AOper) (st : St) (K : St → Prop) : Prop :=
  o.frz = [] ∧ match o.guard with
  | none => stepD C I st o.dst K o.op
  | some (_, g, want) => (match st.s g with
    | .d (.bool b) => if b = want then stepD C I st o.dst K o.op else K (st.put o.dst (.tup []))
    | .tup [] => K (st.put o.dst (.tup []))
    | _ => False)
theorem opD_A {C : Ctx} {I : Nat → Prop} {st : St} {K : St → Prop} {o : AOper} (h : opD C I o st K) : opA C I o st K := by
  obtain ⟨h0, h⟩ := h
  unfold opA
  split
  · rename_i hg
    rw [hg] at h
    rw [h0]
    exact stepD_A h
  · rename_i g want hg
    rw [hg] at h
    simp only at h
    split at h
    · rename_i b hb
      simp only [hb]
      split at h
      · rename_i hw; rw [if_pos hw, h0]; exact stepD_A h
      · rename_i hw; rw [if_neg hw]; exact h
    · rename_i hb; simp only [hb]; exact h
    · exact h.elim
def readyA (aos : List AOper) (l : List Nat) : List Nat :=
  (List.range aos.length).filter fun i => !l.contains i && ((aos[i]?).map (fun o => o.deps.all (fun j => l.contains j))).getD false
def anyA (C : Ctx) (I : Nat → Prop) (aos : List AOper) : Nat → List Nat → St → (St → Prop) → Prop
  | 0, l, st, K => readyA aos l = [] ∧ K st
  | n + 1, l, st, K => (readyA aos l = [] → K st) ∧ ∀ i ∈ readyA aos l, ∃ ao, aos[i]? = some ao ∧ opD C I ao st (fun st => anyA C I aos n (i :: l) st K)
theorem stepS_mono {I : Nat → Prop} {st : St} {dst : Option Nat} {K K' : St → Prop} {op : AOp} (h : ∀ st, K st → K' st) (hs : stepS I st dst K op) : stepS I st dst K' op := by
  cases op
  case store => 
    simp only [stepS] at hs ⊢
    split at hs
    · obtain ⟨cs, h1, h2, h3, h4⟩ := hs; exact ⟨cs, h1, h2, h3, h _ h4⟩
    · obtain ⟨es, e, ds, h1, h2, h3, h4, h5, h6⟩ := hs; exact ⟨es, e, ds, h1, h2, h3, h4, h5, h _ h6⟩
    · exact hs.elim
  case alloc => obtain ⟨h1, h2, h3, h4⟩ := hs; exact ⟨h1, h2, h3, h _ h4⟩
  case box => obtain ⟨cs, h1, h2, h3, h4, h5, h6⟩ := hs; exact ⟨cs, h1, h2, h3, h4, h5, h _ h6⟩
  case bsl own sz z n ps =>
    cases own
    · obtain ⟨es, h1, h2⟩ := hs; exact ⟨es, h1, h _ h2⟩
    · simp only [stepS] at hs ⊢
      split
      · rename_i hn; rw [if_pos hn] at hs; exact h _ hs
      · rename_i hn; rw [if_neg hn] at hs
        obtain ⟨es, h1, h2, h3, h4⟩ := hs; exact ⟨es, h1, h2, h3, h _ h4⟩
  case mks own sz b z x =>
    cases own <;> simp only [stepS] at hs ⊢ <;> split at hs
    · obtain ⟨h1, h2, h3, h4⟩ := hs; exact ⟨h1, h2, h3, h _ h4⟩
    · exact hs.elim
    · obtain ⟨h1, h2, h3, h4, h5, h6⟩ := hs; exact ⟨h1, h2, h3, h4, h5, h _ h6⟩
    · exact hs.elim
  case app own sz b x y =>
    simp only [stepS] at hs ⊢
    obtain ⟨ys, h1, h2, hs⟩ := hs
    refine ⟨ys, h1, h2, ?_⟩
    split at hs
    · obtain ⟨h3, h4, hs⟩ := hs
      refine ⟨h3, h4, ?_⟩
      split at hs
      · exact h _ hs
      · exact ⟨hs.1, hs.2.1, h _ hs.2.2⟩
    · obtain ⟨es, h3, h4, h5, h6, h7⟩ := hs
      refine ⟨es, h3, h4, h5, h6, ?_⟩
      cases own <;> exact h _ h7
    · exact hs.elim
  case cut x hi =>
    simp only [stepS] at hs ⊢
    split at hs
    · obtain ⟨sz, es, k, h1, h2, h3, h4⟩ := hs; exact ⟨sz, es, k, h1, h2, h3, h _ h4⟩
    · exact hs.elim
  case mkmap => obtain ⟨h1, h2, h3⟩ := hs; exact ⟨h1, h2, h _ h3⟩
  case nilS =>
    simp only [stepS] at hs ⊢
    split at hs
    · exact fun b => h _ (hs b)
    · exact h _ hs
    · exact fun b => h _ (hs b)
    · exact hs.elim
  case mset =>
    simp only [stepS] at hs ⊢
    split at hs
    · obtain ⟨kvs, kvs', h1, h2, h3, h4⟩ := hs; exact ⟨kvs, kvs', h1, h2, h3, h _ h4⟩
    · exact hs.elim
  case mget =>
    simp only [stepS] at hs ⊢
    split at hs
    · obtain ⟨kvs, r, h1, h2, h3, h4⟩ := hs; exact ⟨kvs, r, h1, h2, h3, h _ h4⟩
    · exact hs.elim
  all_goals exact hs.elim
theorem demand_mono {x : Option V} {K K' : V → Prop} (h : ∀ v, K v → K' v) (hs : demand x K) : demand x K' := by
  cases x with
  | none => exact hs
  | some v => exact h v hs
theorem stepD_mono {C : Ctx} {I : Nat → Prop} {st : St} {dst : Option Nat} {K K' : St → Prop} {op : AOp} (h : ∀ st, K st → K' st) (hs : stepD C I st dst K op) : stepD C I st dst K' op := by
  cases op
  case call => obtain ⟨cout, h1, h2, h3⟩ := hs; exact ⟨cout, h1, h2, h _ h3⟩
  case callv => exact hs.elim
  case cut | never => exact hs.elim
  case app => exact ⟨stepS_mono h hs.1, hs.2⟩
  case store | alloc | box | bsl | mks | mkmap | mset | mget | nilS =>
    simp only [stepD, isP, Bool.false_eq_true, if_false] at hs ⊢
    exact stepS_mono h hs
  case mv x => exact h _ hs
  case fnv f xs => exact h _ hs
  all_goals exact demand_mono (K := fun v => K (st.put dst v)) (K' := fun v => K' (st.put dst v)) (fun v => h _) hs
theorem opD_mono {C : Ctx} {I : Nat → Prop} {st : St} {K K' : St → Prop} {o : AOper} (h : ∀ st, K st → K' st) (hs : opD C I o st K) : opD C I o st K' := by
  obtain ⟨h0, hs⟩ := hs
  refine ⟨h0, ?_⟩
  cases hg : o.guard with
  | none =>
    rw [hg] at hs
    exact stepD_mono h hs
  | some x =>
    obtain ⟨p, g, want⟩ := x
    rw [hg] at hs
    have hs : match st.s g with
      | .d (.bool b) => if b = want then stepD C I st o.dst K o.op else K (st.put o.dst (.tup []))
      | .tup [] => K (st.put o.dst (.tup []))
      | _ => False := hs
    show match st.s g with
      | .d (.bool b) => if b = want then stepD C I st o.dst K' o.op else K' (st.put o.dst (.tup []))
      | .tup [] => K' (st.put o.dst (.tup []))
      | _ => False
    split at hs
    · split at hs
      · rename_i hw; rw [if_pos hw]; exact stepD_mono h hs
      · rename_i hw; rw [if_neg hw]; exact h _ hs
    · exact h _ hs
    · exact hs.elim
end Pay
namespace Pay
open Go
/-- What an operation leaves of what another one looks at. -/
def Kept (st st' : St) (dj : Option Nat) (v : V) : Prop :=
  ∃ X : Nat → Prop, (∀ n, ¬ X n → st'.o n = st.o n) ∧ (∀ n, X n → (∃ sz es, st.o n = some (.row sz es)) ∨ ((∀ t, dj ≠ some t → V.refs n (st.s t) = false) ∧ V.refs n v = false)) ∧
    ∀ t, dj ≠ some t → st'.s t = st.s t ∨ ∃ m, X m ∧ V.refs m (st.s t) = true
section
variable {C : Ctx} {I : Nat → Prop} {st : St} {d : Nat} {v : V} {dj : Option Nat} {K : St → Prop}
theorem put_comm {dj : Option Nat} (h : dj ≠ some d) (u : V) : (st.put (some d) v).put dj u = (st.put dj u).put (some d) v := by
  cases dj with
  | none => rfl
  | some e =>
    have hne : e ≠ d := fun x => h (by rw [x])
    simp only [St.put]
    congr 1
    funext t
    simp only [upd]
    by_cases h1 : t = e <;> by_cases h2 : t = d <;> simp_all
theorem put_s {t : Nat} {dj : Option Nat} {u : V} (h : dj ≠ some t) : (st.put dj u).s t = st.s t := by
  cases dj with
  | none => rfl
  | some e => exact upd_other _ _ (fun x => h (by rw [x]))
theorem put_o {dj : Option Nat} {u : V} : (st.put dj u).o = st.o := by cases dj <;> rfl
theorem Kept.put (u : V) : Kept st (st.put dj u) dj v := ⟨fun _ => False, fun n _ => by rw [put_o], fun n h => h.elim, fun t ht => .inl (put_s ht)⟩
theorem fresh_back {nm : Nat} (hu : st.s d = .undef) (hj : dj ≠ some d) (h : Fresh (st.put (some d) v) nm dj) : Fresh st nm dj ∧ V.refs nm v = false := by
  refine ⟨⟨fun t ht => ?_, fun m x hm hx => h.2 m x hm (by rw [put_o]; exact hx)⟩, ?_⟩
  · by_cases e : t = d
    · subst e; rw [hu]; rfl
    · rw [← h.1 t ht, put_s (fun x => e (by injection x with x; exact x.symm))]
  · rw [← h.1 d hj]; simp [St.put, upd]
theorem newK {nm : Nat} {u : V} {ob : Ob} (hu : st.s d = .undef) (hj : dj ≠ some d) (hf : Fresh (st.put (some d) v) nm dj) (hK : K { s := ((st.put (some d) v).put dj u).s, o := upd (st.put (some d) v).o nm (some ob) }) :
    Fresh st nm dj ∧ (Kept st { s := (st.put dj u).s, o := upd st.o nm (some ob) } dj v ∧ (st.put dj u).s d = .undef ∧ K (({ s := (st.put dj u).s, o := upd st.o nm (some ob) } : St).put (some d) v)) := by
  obtain ⟨h1, h2⟩ := fresh_back hu hj hf
  refine ⟨h1, ⟨fun n => n = nm, fun n hn => upd_other _ _ hn, fun n hn => .inr (by subst hn; exact ⟨h1.1, h2⟩), fun t ht => .inl (put_s ht)⟩, by rw [put_s hj, hu], ?_⟩
  rw [put_comm hj] at hK
  simpa [St.put] using hK
theorem opd_put {x : Opd} (h : d ∉ x.slot) : opd (st.put (some d) v).s x = opd st.s x := by
  cases x with
  | t n => exact put_s (fun e => h (by simp [Opd.slot]; injection e))
  | c _ => rfl
  | f _ => rfl
def kindJ : AOp → Bool
  | .store .. | .mset .. | .cut .. | .callv .. => false
  | _ => true
theorem scrub_id {m : Nat} : ∀ {cs : List V}, V.refsL m cs = false → cs.map (scrubV m) = cs
  | [], _ => rfl
  | c :: cs, h => by
    simp only [V.refsL, Bool.or_eq_false_iff] at h
    rw [List.map_cons, scrub_id h.2]
    unfold scrubV
    rw [h.1]; rfl
mutual
theorem thaw_id {m : Nat} {es : List (List D)} : ∀ (v : V) (u : Unit), V.refs m v = false → V.thaw m es v = v
  | .own n, _, h => by simp only [V.refs, beq_eq_false_iff_ne] at h; simp [V.thaw, h]
  | .eptr n _ _ _, _, h => by simp only [V.refs, beq_eq_false_iff_ne] at h; simp [V.thaw, h]
  | .mref n, _, h => by simp only [V.refs, beq_eq_false_iff_ne] at h; simp [V.thaw, h]
  | .ptr n _, _, h => by simp only [V.refs, beq_eq_false_iff_ne] at h; simp [V.thaw, h]
  | .fn f caps, u, h => by rw [V.thaw, thaws_id caps u (by simpa [V.refs] using h)]
  | .agg cs, u, h => by rw [V.thaw, thaws_id cs u (by simpa [V.refs] using h)]
  | .tup cs, u, h => by rw [V.thaw, thaws_id cs u (by simpa [V.refs] using h)]
  | .d _, _, _ => rfl
  | .cap0, _, _ => rfl
  | .nilp, _, _ => rfl
  | .cptr _, _, _ => rfl
  | .undef, _, _ => rfl
theorem thaws_id {m : Nat} {es : List (List D)} : ∀ (cs : List V) (u : Unit), V.refsL m cs = false → V.thaws m es cs = cs
  | [], _, _ => rfl
  | c :: cs, u, h => by
    simp only [V.refsL, Bool.or_eq_false_iff] at h
    rw [V.thaws, thaw_id c u h.1, thaws_id cs u h.2]
end
theorem stepD_put {op : AOp} (hk : kindJ op = true) (hu : st.s d = .undef) (hj : dj ≠ some d) (hd : d ∉ op.opds.flatMap Opd.slot) (hq : ∀ m sz es, st.o m = some (.row sz es) → V.refs m v = false)
    (hs : stepD C I (st.put (some d) v) dj K op) : stepD C I st dj (fun st' => Kept st st' dj v ∧ st'.s d = .undef ∧ K (st'.put (some d) v)) op := by
  have ho : ∀ x ∈ op.opds, opd (st.put (some d) v).s x = opd st.s x := fun x hx => opd_put (fun h => hd (List.mem_flatMap.2 ⟨x, hx, h⟩))
  have hpo : (st.put (some d) v).o = st.o := rfl
  have putK : ∀ u, K ((st.put (some d) v).put dj u) → Kept st (st.put dj u) dj v ∧ (st.put dj u).s d = .undef ∧ K ((st.put dj u).put (some d) v) := fun u h =>
    ⟨Kept.put u, by rw [put_s hj, hu], by rw [← put_comm hj]; exact h⟩
  have pure : evP (st.put (some d) v) op = evP st op := evP_congr ho (fun _ _ _ _ => rfl)
  have dem : demand (evP (st.put (some d) v) op) (fun u => K ((st.put (some d) v).put dj u)) → demand (evP st op) (fun u => Kept st (st.put dj u) dj v ∧ (st.put dj u).s d = .undef ∧ K ((st.put dj u).put (some d) v)) := by
    intro h
    rw [pure] at h
    exact demand_mono putK h
  cases op
  case call f args =>
    obtain ⟨cout, h1, h2, h3⟩ := hs
    have e : args.map (opd (st.put (some d) v).s) = args.map (opd st.s) := map_congr' ho
    rw [e] at h1
    have hf : ∀ n, cout.o n ≠ none → ¬ I n ∧ Fresh st n dj ∧ V.refs n v = false := by
      intro n hn
      rcases h2.new n hn with h | ⟨h, h'⟩
      · exact absurd h.1 (by simp)
      · exact ⟨h, fresh_back hu hj h'⟩
    refine ⟨cout, h1, ⟨fun n hn => .inr ⟨(hf n hn).1, (hf n hn).2.1⟩, h2.res, h2.obj⟩, ⟨fun n => cout.o n ≠ none, fun n hn => ?_, fun n hn => .inr ⟨(hf n hn).2.1.1, (hf n hn).2.2⟩, fun t ht => .inl (put_s ht)⟩, by rw [put_s hj, hu], ?_⟩
    · simp only [ne_eq, Decidable.not_not] at hn
      simp [mixO, hn]
    · have e2 : ({ s := ((st.put (some d) v).put dj cout.r).s, o := mixO (fun _ => false) (st.put (some d) v).o cout.o } : St) = ({ s := (st.put dj cout.r).s, o := mixO (fun _ => false) st.o cout.o } : St).put (some d) v := by
        rw [put_comm hj]
        simp [St.put]
      rw [e2] at h3
      exact h3
  case callv => simp [kindJ] at hk
  case cut => simp [kindJ] at hk
  case store => simp [kindJ] at hk
  case mset => simp [kindJ] at hk
  case alloc nm zs =>
    obtain ⟨h1, h2, h3, h4⟩ := hs
    obtain ⟨k1, k2⟩ := newK hu hj h2 h4
    exact ⟨h1, k1, h3, k2⟩
  case box nm n x =>
    obtain ⟨cs, h0, h00, h1, h2, h3, h4⟩ := hs
    rw [ho x (by simp [AOp.opds])] at h0
    obtain ⟨k1, k2⟩ := newK hu hj h2 h4
    exact ⟨cs, h0, h00, h1, k1, h3, k2⟩
  case bsl own sz z n ps =>
    have hp : partsD sz (opd (st.put (some d) v).s) (ps.map (·.2)) = partsD sz (opd st.s) (ps.map (·.2)) := partsD_congr (fun x hx => ho x hx)
    cases own with
    | none =>
      obtain ⟨es, h1, h2⟩ := hs
      rw [hp] at h1
      exact ⟨es, h1, putK _ h2⟩
    | some nm =>
      simp only [stepD, isP, Bool.false_eq_true, if_false, stepS] at hs ⊢
      split
      · rename_i hn
        rw [if_pos hn] at hs
        exact putK _ hs
      · rename_i hn
        rw [if_neg hn] at hs
        obtain ⟨es, h1, h2, h3, h4⟩ := hs
        rw [hp] at h1
        obtain ⟨k1, k2⟩ := newK hu hj h3 h4
        exact ⟨es, h1, h2, k1, k2⟩
  case mks own sz b z x =>
    cases own with
    | none =>
      simp only [stepD, isP, Bool.false_eq_true, if_false, stepS] at hs ⊢
      rw [ho x (by simp [AOp.opds])] at hs
      split at hs
      · obtain ⟨h1, h2, h3, h4⟩ := hs
        exact ⟨h1, h2, h3, putK _ h4⟩
      · exact hs.elim
    | some nm =>
      simp only [stepD, isP, Bool.false_eq_true, if_false, stepS] at hs ⊢
      rw [ho x (by simp [AOp.opds])] at hs
      split at hs
      · obtain ⟨h1, h2, h3, h4, h5, h6⟩ := hs
        obtain ⟨k1, k2⟩ := newK hu hj h5 h6
        exact ⟨h1, h2, h3, h4, k1, k2⟩
      · exact hs.elim
  case mkmap nm =>
    obtain ⟨h1, h2, h3⟩ := hs
    obtain ⟨k1, k2⟩ := newK hu hj h2 h3
    exact ⟨h1, k1, k2⟩
  case nilS q x =>
    simp only [stepD, isP, Bool.false_eq_true, if_false, stepS] at hs ⊢
    rw [ho x (by simp [AOp.opds])] at hs
    split at hs
    · exact fun b => putK _ (hs b)
    · exact putK _ hs
    · exact fun b => putK _ (hs b)
    · exact hs.elim
  case mget str z m k okk =>
    simp only [stepD, isP, Bool.false_eq_true, if_false, stepS] at hs ⊢
    rw [ho m (by simp [AOp.opds]), ho k (by simp [AOp.opds])] at hs
    split at hs
    · obtain ⟨kvs, r, h1, h2, h3, h4⟩ := hs
      exact ⟨kvs, r, h1, h2, h3, putK _ h4⟩
    · exact hs.elim
  case app own sz b x y =>
    obtain ⟨hs, hbox⟩ := hs
    rw [ho x (by simp [AOp.opds])] at hbox
    refine ⟨?_, hbox⟩
    simp only [stepS] at hs ⊢
    rw [ho x (by simp [AOp.opds]), ho y (by simp [AOp.opds])] at hs
    obtain ⟨ys, h1, h2, hs⟩ := hs
    refine ⟨ys, h1, h2, ?_⟩
    split at hs
    · obtain ⟨h3, h4, hs⟩ := hs
      refine ⟨h3, h4, ?_⟩
      split at hs
      · exact putK _ hs
      · obtain ⟨h5, h6, h7⟩ := hs
        obtain ⟨k1, k2⟩ := newK hu hj h6 h7
        exact ⟨h5, k1, k2⟩
    · rename_i m hm
      obtain ⟨es, h3, h4, h5, h6, h7⟩ := hs
      have hv : scrubV m v = v := by unfold scrubV; rw [hq m _ _ h4]; rfl
      have e0 : (st.put (some d) v).scrub m = (st.scrub m).put (some d) v := by
        simp only [St.scrub, St.put]
        congr 1
        funext t
        simp only [upd]
        split
        · exact hv
        · rfl
      let T : St := { s := ((st.scrub m).put dj (.own m)).s, o := upd (st.scrub m).o m (some (.row sz (es ++ ys))) }
      have e1 : ({ s := (((st.put (some d) v).scrub m).put dj (.own m)).s, o := upd ((st.put (some d) v).scrub m).o m (some (.row sz (es ++ ys))) } : St) = T.put (some d) v := by
        rw [e0, put_comm hj]
        simp [St.put, T]
      have hbox' : ∀ n cs, st.o n = some (.box cs) → V.refsL m cs = false := hbox m hm
      have hTo : ∀ n, n ≠ m → T.o n = st.o n := by
        intro n hn
        show upd (st.scrub m).o m _ n = st.o n
        rw [upd_other _ _ hn]
        simp only [St.scrub]
        cases hx : st.o n with
        | none => rfl
        | some ob =>
          cases ob with
          | box cs =>
            simp only [Option.map_some, Ob.scrub]
            rw [scrub_id (hbox' n cs hx)]
          | row _ _ => rfl
          | map _ => rfl
      have hTs : ∀ t, dj ≠ some t → T.s t = scrubV m (st.s t) := fun t ht => put_s ht
      have hTd : T.s d = .undef := by rw [hTs d hj, hu]; rfl
      have kT : Kept st T dj v := by
        refine ⟨fun n => n = m, fun n hn => hTo n hn, fun n hn => .inl (by subst hn; exact ⟨_, _, h4⟩), fun t ht => ?_⟩
        rw [hTs t ht]
        unfold scrubV
        split
        · rename_i hr; exact .inr ⟨m, rfl, hr⟩
        · exact .inl rfl
      refine ⟨es, h3, h4, h5, h6, ?_⟩
      rw [e1] at h7
      cases own with
      | some _ => exact ⟨kT, hTd, h7⟩
      | none =>
        have hTm : T.o m = some (.row sz (es ++ ys)) := upd_same _ _ _
        have hfree : T.free m = { s := fun t => V.thaw m (es ++ ys) (T.s t), o := fun n => if n = m then none else (T.o n).map (Ob.thaw m (es ++ ys)) } := by
          unfold St.free; rw [hTm]
        have hfree2 : (T.put (some d) v).free m = (T.free m).put (some d) v := by
          rw [hfree]
          unfold St.free
          rw [put_o, hTm]
          simp only [St.put]
          congr 1
          funext t
          simp only [upd]
          split
          · exact thaw_id _ () (hq m _ _ h4)
          · rfl
        have hid : ∀ t, dj ≠ some t → (T.free m).s t = T.s t := by
          intro t ht
          rw [hfree]
          show V.thaw m _ (T.s t) = T.s t
          refine thaw_id _ () ?_
          rw [hTs t ht]
          cases hh : V.refs m (scrubV m (st.s t)) with
          | false => rfl
          | true => exact absurd rfl (scrubV_refs m m _ hh)
        rw [hfree2] at h7
        refine ⟨?_, by rw [hid d hj]; exact hTd, h7⟩
        obtain ⟨X, k1, k2, k3⟩ := kT
        refine ⟨fun n => n = m, fun n hn => ?_, fun n hn => .inl (by subst hn; exact ⟨_, _, h4⟩), fun t ht => ?_⟩
        · rw [hfree]
          show (if n = m then none else (T.o n).map (Ob.thaw m (es ++ ys))) = st.o n
          rw [if_neg hn, hTo n hn]
          cases hx : st.o n with
          | none => rfl
          | some ob =>
            cases ob with
            | box cs =>
              simp only [Option.map_some, Ob.thaw]
              rw [thaws_id _ () (hbox' n cs hx)]
            | row _ _ => rfl
            | map _ => rfl
        · rw [hid t ht, hTs t ht]
          unfold scrubV
          split
          · rename_i hr; exact .inr ⟨m, rfl, hr⟩
          · exact .inl rfl
    · exact hs.elim
  all_goals exact dem hs
end
end Pay
