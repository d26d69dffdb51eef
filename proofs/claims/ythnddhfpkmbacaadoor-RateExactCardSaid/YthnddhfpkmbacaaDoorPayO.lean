/- Drawn orders: what is taken first; each order of what is left. -/
import Derived.Test.YthnddhfpkmbacaaDoorPayN
set_option linter.unusedSimpArgs false
set_option linter.unusedVariables false
namespace Pay
open Go
def Yields (C : Ctx) (st : St) (o : AOper) (v : V) : Prop :=
  match o.guard with
  | none => pureA C st o.op v
  | some (_, g, want) => (match st.s g with
    | .d (.bool b) => if b = want then pureA C st o.op v else v = .tup []
    | .tup [] => v = .tup []
    | _ => False)
def Quiet (st : St) (o : AOper) (v : V) : Prop := ∀ m sz es, st.o m = some (.row sz es) → V.refs m v = false ∧ ∀ x ∈ o.op.opds, V.refs m (opd st.s x) = false
theorem opd_plain {s : Nat → V} {x : Opd} (hp : x.plain = true) (hn : x.slot = []) (n : Nat) : V.refs n (opd s x) = false := by
  cases x with
  | t k => simp [Opd.slot] at hn
  | f g => simp [opd, V.refs, V.refsL]
  | c v => cases v <;> simp_all [Opd.plain, opd, V.refs]
section
variable {C : Ctx} {I : Nat → Prop} {st st' : St} {o : AOper} {v : V} {dj : Option Nat}
theorem mixO_none (o : Nat → Option Ob) : mixO (fun _ => false) o (fun _ => none) = o := by funext n; simp [mixO]
theorem pureA_D {K : St → Prop} {op : AOp} {dst : Option Nat} (h : pureA C st op v) (hK : K (st.put dst v)) : stepD C I st dst K op := by
  cases op
  case call f args =>
    obtain ⟨h1, h2⟩ := h
    refine ⟨_, h1, ⟨fun n hn => absurd rfl hn, fun n hn => ?_, fun n x hx => by cases hx⟩, ?_⟩
    · rw [h2 n] at hn; cases hn
    · rw [mixO_none, ← put_o (st := st) (dj := dst) (u := v)]; exact hK
  case bsl own sz z n ps =>
    cases own with
    | none =>
      obtain ⟨es, h1, rfl⟩ := h
      exact ⟨es, h1, hK⟩
    | some nm =>
      obtain ⟨rfl, rfl⟩ := h
      simp only [stepD, isP, Bool.false_eq_true, if_false, stepS, if_true]
      exact hK
  case store | alloc | box | mks | app | cut | mkmap | mset | mget | nilS | callv => exact absurd h.1 (by simp [isP])
  case never => exact absurd h.2 (by simp [evP])
  case mv x =>
    obtain ⟨_, h⟩ := h
    simp only [evP, Option.some.injEq] at h
    subst h
    exact hK
  case fnv f xs =>
    obtain ⟨_, h⟩ := h
    simp only [evP, Option.some.injEq] at h
    subst h
    exact hK
  all_goals (
    obtain ⟨_, h⟩ := h
    show demand _ _
    rw [h]
    exact hK)
theorem Yields.opD {K : St → Prop} (hf : o.frz = []) (h : Yields C st o v) (hK : K (st.put o.dst v)) : opD C I o st K := by
  refine ⟨hf, ?_⟩
  unfold Yields at h
  cases hg : o.guard with
  | none => rw [hg] at h; exact pureA_D h hK
  | some x =>
    obtain ⟨p, g, want⟩ := x
    rw [hg] at h
    have h : match st.s g with
      | .d (.bool b) => if b = want then pureA C st o.op v else v = .tup []
      | .tup [] => v = .tup []
      | _ => False := h
    show match st.s g with
      | .d (.bool b) => if b = want then stepD C I st o.dst K o.op else K (st.put o.dst (.tup []))
      | .tup [] => K (st.put o.dst (.tup []))
      | _ => False
    split at h
    · split at h
      · rename_i hw; rw [if_pos hw]; exact pureA_D h hK
      · rename_i hw; rw [if_neg hw]; rw [← h]; exact hK
    · rw [← h]; exact hK
    · exact h.elim
/-- What an operation yields, and that it is quiet, lives on behind another one. -/
theorem kept_yields (hk : Kept st st' dj v) (hp : ∀ x ∈ o.op.opds, x.plain = true) (hd : ∀ t, dj = some t → t ∉ o.uses) (hq : Quiet st o v) (hy : Yields C st o v) : Yields C st' o v ∧ Quiet st' o v := by
  obtain ⟨X, k1, k2, k3⟩ := hk
  have hslot : ∀ x ∈ o.op.opds, ∀ t, x = .t t → dj ≠ some t := by
    intro x hx t hxt e
    subst hxt
    refine hd t e ?_
    simp only [AOper.uses, List.mem_append, List.mem_flatMap]
    exact .inl ⟨_, hx, by simp [Opd.slot]⟩
  have hX : ∀ m, X m → ∀ x ∈ o.op.opds, V.refs m (opd st.s x) = false := by
    intro m hm x hx
    rcases k2 m hm with ⟨sz, es, h⟩ | ⟨h, _⟩
    · exact (hq m sz es h).2 x hx
    · cases x with
      | t n => exact h n (hslot _ hx n rfl)
      | c u => exact opd_plain (hp _ hx) rfl m
      | f g => exact opd_plain (hp _ hx) rfl m
  have ho : ∀ x ∈ o.op.opds, opd st'.s x = opd st.s x := by
    intro x hx
    cases x with
    | t n =>
      rcases k3 n (hslot _ hx n rfl) with h | ⟨m, hm, hr⟩
      · exact h
      · have := hX m hm _ hx
        simp only [opd] at this
        rw [this] at hr; cases hr
    | c u => rfl
    | f g => rfl
  have hoo : ∀ x ∈ o.op.opds, ∀ n, V.refs n (opd st.s x) = true → st'.o n = st.o n := by
    intro x hx n hn
    by_cases h : X n
    · rw [hX n h x hx] at hn; cases hn
    · exact k1 n h
  have hpure : pureA C st o.op v → pureA C st' o.op v := by
    intro h
    have hev : evP st' o.op = evP st o.op := evP_congr ho hoo
    cases hop : o.op
    case call f args =>
      rw [hop] at h ho
      obtain ⟨h1, h2⟩ := h
      exact ⟨by rw [map_congr' (f := opd st.s) (g := opd st'.s) (xs := args) ho]; exact h1, h2⟩
    case bsl own sz z n ps =>
      rw [hop] at h ho
      cases own with
      | none =>
        obtain ⟨es, h1, h2⟩ := h
        have ho' : ∀ x ∈ ps.map (fun x => x.snd), opd st'.s x = opd st.s x := ho
        exact ⟨es, by rw [partsD_congr ho']; exact h1, h2⟩
      | some nm => exact h
    all_goals (
      rw [hop] at h hev
      exact ⟨h.1, by rw [hev]; exact h.2⟩)
  refine ⟨?_, ?_⟩
  · unfold Yields at hy ⊢
    cases hg : o.guard with
    | none => rw [hg] at hy; exact hpure hy
    | some y =>
      obtain ⟨p, g, want⟩ := y
      rw [hg] at hy
      have hgs : ∀ u, st.s g = u → (∀ n, V.refs n u = false) → st'.s g = u := by
        intro u hu hr
        have hne : dj ≠ some g := fun e => hd g e (by simp [AOper.uses, hg])
        rcases k3 g hne with h | ⟨m, _, h⟩
        · rw [h, hu]
        · rw [hu, hr m] at h; cases h
      have hy : match st.s g with
        | .d (.bool b) => if b = want then pureA C st o.op v else v = .tup []
        | .tup [] => v = .tup []
        | _ => False := hy
      show match st'.s g with
        | .d (.bool b) => if b = want then pureA C st' o.op v else v = .tup []
        | .tup [] => v = .tup []
        | _ => False
      split at hy
      · rename_i b hb
        rw [hgs _ hb (fun _ => rfl)]
        simp only
        split at hy
        · rename_i hw; rw [if_pos hw]; exact hpure hy
        · rename_i hw; rw [if_neg hw]; exact hy
      · rename_i hb
        rw [hgs _ hb (fun _ => rfl)]
        exact hy
      · exact hy.elim
  · intro m sz es hm
    by_cases h : X m
    · refine ⟨?_, fun x hx => by rw [ho x hx]; exact hX m h x hx⟩
      rcases k2 m h with ⟨sz', es', h'⟩ | ⟨_, h'⟩
      · exact (hq m sz' es' h').1
      · exact h'
    · rw [k1 m h] at hm
      exact ⟨(hq m sz es hm).1, fun x hx => by rw [ho x hx]; exact (hq m sz es hm).2 x hx⟩
end
theorem readyA_congr {aos : List AOper} {l l' : List Nat} (h : ∀ x, l.contains x = l'.contains x) : readyA aos l = readyA aos l' := by
  unfold readyA
  refine List.filter_congr fun i _ => ?_
  rw [h i]
  congr 2
  cases aos[i]? with
  | none => rfl
  | some o =>
    simp only [Option.map_some]
    congr 1
    have : (fun j => l.contains j) = (fun j => l'.contains j) := funext h
    rw [this]
theorem anyA_congr {C : Ctx} {I : Nat → Prop} {aos : List AOper} {K : St → Prop} : ∀ {n : Nat} {l l' : List Nat} {st : St}, (∀ x, l.contains x = l'.contains x) → anyA C I aos n l st K → anyA C I aos n l' st K
  | 0, l, l', st, h, hs => ⟨by rw [← readyA_congr h]; exact hs.1, hs.2⟩
  | n + 1, l, l', st, h, hs => by
    refine ⟨by rw [← readyA_congr h]; exact hs.1, fun i hi => ?_⟩
    rw [← readyA_congr h] at hi
    obtain ⟨ao, h1, h2⟩ := hs.2 i hi
    exact ⟨ao, h1, opD_mono (fun st => anyA_congr (fun x => by simp only [List.contains_cons, h x])) h2⟩
theorem mem_readyA {aos : List AOper} {l : List Nat} {i : Nat} : i ∈ readyA aos l ↔ l.contains i = false ∧ ∃ o, aos[i]? = some o ∧ ∀ j ∈ o.deps, l.contains j = true := by
  unfold readyA
  rw [List.mem_filter, List.mem_range]
  cases ho : aos[i]? with
  | none => simp
  | some o =>
    have hlt : i < aos.length := (List.getElem?_eq_some_iff.1 ho).1
    simp [hlt]
theorem readyA_mono {aos : List AOper} {l : List Nat} {i j : Nat} (hj : j ∈ readyA aos l) (hne : j ≠ i) : j ∈ readyA aos (i :: l) := by
  rw [mem_readyA] at *
  obtain ⟨h0, o, ho, hall⟩ := hj
  refine ⟨?_, o, ho, fun k hk => ?_⟩
  · rw [List.contains_cons, h0]
    simp only [Bool.or_false, beq_eq_false_iff_ne]
    exact hne
  · rw [List.contains_cons, hall k hk, Bool.or_true]
/-- An operation that turns nothing, and that each other one that is left does without, may be taken first. -/
theorem anyA_first {C : Ctx} {I : Nat → Prop} {aos : List AOper} {K : St → Prop} {i d : Nat} {oi : AOper} {v : V} (hi : aos[i]? = some oi) (hdst : oi.dst = some d) (hfz : oi.frz = []) (hpl : ∀ x ∈ oi.op.opds, x.plain = true) :
    ∀ (B : List Nat), (∀ j ∈ B, j ≠ i ∧ ∃ oj, aos[j]? = some oj ∧ ∃ k ∈ oj.deps, k = i ∨ k ∈ B) → ∀ (n : Nat) (l : List Nat) (st : St), (∀ j ∈ B, l.contains j = false) → (∀ j oj, aos[j]? = some oj → j ≠ i → l.contains j = false → j ∉ B → d ∉ oj.uses ∧ oj.dst ≠ some d ∧ (∀ t, oj.dst = some t → t ∉ oi.uses) ∧ kindJ oj.op = true) →
      i ∈ readyA aos l → st.s d = .undef → Yields C st oi v → Quiet st oi v → anyA C I aos n (i :: l) (st.put (some d) v) K → anyA C I aos (n + 1) l st K := by
  intro B hB n
  induction n with
  | zero =>
    intro l st hBl hfree hr hu hy hq H
    refine ⟨fun h => (by rw [h] at hr; cases hr), fun j hj => ?_⟩
    by_cases hji : j = i
    · subst hji
      exact ⟨oi, hi, hy.opD hfz (by rw [hdst]; exact H)⟩
    · have := readyA_mono hj hji
      rw [H.1] at this
      cases this
  | succ n ih =>
    intro l st hBl hfree hr hu hy hq H
    refine ⟨fun h => (by rw [h] at hr; cases hr), fun j hj => ?_⟩
    by_cases hji : j = i
    · subst hji
      exact ⟨oi, hi, hy.opD hfz (by rw [hdst]; exact H)⟩
    · obtain ⟨oj, hoj, h1⟩ := H.2 j (readyA_mono hj hji)
      obtain ⟨hjl, oj', hoj', hall⟩ := mem_readyA.1 hj
      rw [hoj] at hoj'
      injection hoj' with hoj'
      subst hoj'
      have hnot : j ∉ B := fun h => by
        obtain ⟨_, o2, ho2, k, hk, hki⟩ := hB j h
        rw [hoj] at ho2
        injection ho2 with ho2
        subst ho2
        have h2 := hall k hk
        rcases hki with rfl | hkB
        · rw [(mem_readyA.1 hr).1] at h2; cases h2
        · rw [hBl k hkB] at h2; cases h2
      obtain ⟨f1, f2, f3, f4⟩ := hfree j oj hoj hji hjl hnot
      refine ⟨oj, hoj, ?_⟩
      have hops : d ∉ oj.op.opds.flatMap Opd.slot := fun h => f1 (by simp only [AOper.uses, List.mem_append]; exact .inl h)
      have cont : ∀ st', Kept st st' oj.dst v ∧ st'.s d = .undef ∧ anyA C I aos n (j :: i :: l) (st'.put (some d) v) K → anyA C I aos (n + 1) (j :: l) st' K := by
        rintro st' ⟨k1, k2, k3⟩
        obtain ⟨y1, y2⟩ := kept_yields k1 hpl f3 hq hy
        refine ih (j :: l) st' (fun k hk => ?_) (fun k ok hk hki hkl hno => hfree k ok hk hki ?_ hno) (readyA_mono hr (Ne.symm hji)) k2 y1 y2 (anyA_congr (fun x => ?_) k3)
        · rw [List.contains_cons, hBl k hk, Bool.or_false, beq_eq_false_iff_ne]
          intro e; subst e; exact hnot hk
        · simp only [List.contains_cons, Bool.or_eq_false_iff] at hkl
          exact hkl.2
        · simp only [List.contains_cons]
          cases (x == j) <;> cases (x == i) <;> simp
      obtain ⟨h0, h1⟩ := h1
      refine ⟨h0, ?_⟩
      cases hg : oj.guard with
      | none =>
        rw [hg] at h1
        exact stepD_mono cont (stepD_put f4 hu f2 hops (fun m sz es hm => (hq m sz es hm).1) h1)
      | some x =>
        obtain ⟨p, g, want⟩ := x
        rw [hg] at h1
        have hgd : (st.put (some d) v).s g = st.s g := put_s (fun e => f1 (by injection e with e; subst e; simp [AOper.uses, hg]))
        have h1 : match (st.put (some d) v).s g with
          | .d (.bool b) => if b = want then stepD C I (st.put (some d) v) oj.dst (fun st => anyA C I aos n (j :: i :: l) st K) oj.op else anyA C I aos n (j :: i :: l) ((st.put (some d) v).put oj.dst (.tup [])) K
          | .tup [] => anyA C I aos n (j :: i :: l) ((st.put (some d) v).put oj.dst (.tup [])) K
          | _ => False := h1
        show match st.s g with
          | .d (.bool b) => if b = want then stepD C I st oj.dst (fun st => anyA C I aos (n + 1) (j :: l) st K) oj.op else anyA C I aos (n + 1) (j :: l) (st.put oj.dst (.tup [])) K
          | .tup [] => anyA C I aos (n + 1) (j :: l) (st.put oj.dst (.tup [])) K
          | _ => False
        rw [hgd] at h1
        have skip : anyA C I aos n (j :: i :: l) ((st.put (some d) v).put oj.dst (.tup [])) K → anyA C I aos (n + 1) (j :: l) (st.put oj.dst (.tup [])) K := fun h =>
          cont _ ⟨Kept.put _, by rw [put_s f2, hu], by rw [← put_comm f2]; exact h⟩
        split at h1
        · split at h1
          · rename_i hw
            rw [if_pos hw]
            exact stepD_mono cont (stepD_put f4 hu f2 hops (fun m sz es hm => (hq m sz es hm).1) h1)
          · rename_i hw
            rw [if_neg hw]
            exact skip h1
        · exact skip h1
        · exact h1.elim
/-- Each order of what is left. -/
def treeA (C : Ctx) (I : Nat → Prop) (aos : List AOper) : Tr → St → (St → Prop) → Prop
  | .done, st, K => K st
  | .one i t, st, K => (match aos[i]? with | some ao => opD C I ao st (fun st => treeA C I aos t st K) | none => False)
  | .two i t r, st, K => (match aos[i]? with | some ao => opD C I ao st (fun st => treeA C I aos t st K) | none => False) ∧ treeA C I aos r st K
/-- The operations that a tree has next. -/
def Tr.tops : Tr → List Nat
  | .done => []
  | .one i _ => [i]
  | .two i _ r => i :: Tr.tops r
def okTree (aos : List AOper) : Nat → Tr → List Nat → Bool → Bool
  | n, .done, l, _ => readyA aos l == []
  | 0, _, _, _ => false
  | n + 1, .one i t, l, top => (!top || readyA aos l == [i]) && okTree aos n t (i :: l) true
  | n + 1, .two i t r, l, top => (!top || readyA aos l == i :: r.tops) && okTree aos n t (i :: l) true && r.tops != [] && okTree aos (n + 1) r l false
theorem treeA_at {C : Ctx} {I : Nat → Prop} {aos : List AOper} {K : St → Prop} : ∀ (t : Tr) (n : Nat) (l : List Nat) (top : Bool), okTree aos (n + 1) t l top = true → ∀ {st : St}, treeA C I aos t st K → ∀ i ∈ t.tops, ∃ ao t', aos[i]? = some ao ∧ okTree aos n t' (i :: l) true = true ∧ opD C I ao st (fun st => treeA C I aos t' st K)
  | .done, n, l, top, hk, st, h, i, hi => by simp [Tr.tops] at hi
  | .one j t, n, l, top, hk, st, h, i, hi => by
    simp only [Tr.tops, List.mem_singleton] at hi
    subst hi
    simp only [okTree, Bool.and_eq_true] at hk
    unfold treeA at h
    split at h
    · rename_i ao hao; exact ⟨ao, t, hao, hk.2, h⟩
    · exact h.elim
  | .two j t r, n, l, top, hk, st, h, i, hi => by
    simp only [Tr.tops, List.mem_cons] at hi
    simp only [okTree, Bool.and_eq_true] at hk
    obtain ⟨⟨⟨_, hk1⟩, _⟩, hk2⟩ := hk
    obtain ⟨h1, h2⟩ := h
    rcases hi with rfl | hi
    · split at h1
      · rename_i ao hao; exact ⟨ao, t, hao, hk1, h1⟩
      · exact h1.elim
    · exact treeA_at r n l false hk2 h2 i hi
theorem treeA_any {C : Ctx} {I : Nat → Prop} {aos : List AOper} {K : St → Prop} : ∀ (n : Nat) (t : Tr) (l : List Nat) {st : St}, okTree aos n t l true = true → treeA C I aos t st K → anyA C I aos n l st K := by
  intro n
  induction n with
  | zero =>
    intro t l st hk h
    cases t with
    | done => exact ⟨by simpa [okTree] using hk, h⟩
    | one i t => simp [okTree] at hk
    | two i t r => simp [okTree] at hk
  | succ n ih =>
    intro t l st hk h
    have htops : readyA aos l = t.tops := by
      cases t with
      | done => simpa [okTree, Tr.tops] using hk
      | one i t => simp only [okTree, Bool.not_true, Bool.false_or, Bool.and_eq_true, beq_iff_eq] at hk; exact hk.1
      | two i t r => simp only [okTree, Bool.not_true, Bool.false_or, Bool.and_eq_true, beq_iff_eq] at hk; exact hk.1.1.1
    refine ⟨fun he => ?_, fun i hi => ?_⟩
    · rw [htops] at he
      cases t with
      | done => exact h
      | one i t => simp [Tr.tops] at he
      | two i t r => simp [Tr.tops] at he
    · rw [htops] at hi
      obtain ⟨ao, t', h1, h2, h3⟩ := treeA_at t n l true hk h i hi
      exact ⟨ao, h1, opD_mono (fun st hst => ih t' (i :: l) h2 hst) h3⟩
/-- What is taken first, then each order of what is left. -/
def drawA (C : Ctx) (I : Nat → Prop) (aos : List AOper) : List Nat → Tr → St → (St → Prop) → Prop
  | [], t, st, K => treeA C I aos t st K
  | i :: is, t, st, K => (match aos[i]? with
    | some oi => (match oi.dst with
      | some d => st.s d = .undef ∧ ∃ v, Yields C st oi v ∧ Quiet st oi v ∧ drawA C I aos is t (st.put (some d) v) K
      | none => False)
    | none => False)
/-- The operations that wait for this one, through others too. -/
def waits (aos : List AOper) (i : Nat) : List Nat :=
  (List.range aos.length).foldl (fun acc j => match aos[j]? with
    | some oj => if j != i && oj.deps.any (fun k => k == i || acc.contains k) then j :: acc else acc
    | none => acc) []
def okFirst (aos : List AOper) (l : List Nat) (i : Nat) : Bool :=
  match aos[i]? with
  | some oi => (readyA aos l).contains i && oi.frz.isEmpty && oi.op.opds.all Opd.plain && (match oi.dst with
    | some d => (waits aos i).all (fun j => j != i && !l.contains j && (match aos[j]? with | some oj => oj.deps.any (fun k => k == i || (waits aos i).contains k) | none => false)) &&
      (List.range aos.length).all (fun j => j == i || l.contains j || (match aos[j]? with
      | some oj => (waits aos i).contains j || (!oj.uses.contains d && oj.dst != some d && (match oj.dst with | some t => !oi.uses.contains t | none => true) && kindJ oj.op)
      | none => true))
    | none => false)
  | none => false
def okDraw (aos : List AOper) : List Nat → Nat → Tr → List Nat → Bool
  | [], n, t, l => okTree aos n t l true
  | i :: is, n, t, l => okFirst aos l i && okDraw aos is n t (i :: l)
theorem drawA_any {C : Ctx} {I : Nat → Prop} {aos : List AOper} {K : St → Prop} : ∀ {is : List Nat} {n : Nat} {t : Tr} {l : List Nat} {st : St}, okDraw aos is n t l = true → drawA C I aos is t st K → anyA C I aos (n + is.length) l st K
  | [], n, t, l, st, hk, h => treeA_any n t l hk h
  | i :: is, n, tr, l, st, hk, h => by
    simp only [okDraw, Bool.and_eq_true] at hk
    obtain ⟨hk1, hk2⟩ := hk
    unfold drawA at h
    split at h
    · rename_i oi hi
      split at h
      · rename_i d hd
        obtain ⟨hu, v, hy, hq, hrest⟩ := h
        simp only [okFirst, hi, hd, Bool.and_eq_true] at hk1
        obtain ⟨⟨⟨c1, c2⟩, c3⟩, c5, c4⟩ := hk1
        have hB : ∀ j ∈ waits aos i, (j ≠ i ∧ ∃ oj, aos[j]? = some oj ∧ ∃ k ∈ oj.deps, k = i ∨ k ∈ waits aos i) ∧ l.contains j = false := by
          intro j hj
          have h1 := List.all_eq_true.1 c5 j hj
          cases hoj : aos[j]? with
          | none => rw [hoj] at h1; simp at h1
          | some oj =>
            rw [hoj] at h1
            simp only [Bool.and_eq_true, bne_iff_ne, ne_eq, Bool.not_eq_true', List.any_eq_true, Bool.or_eq_true, beq_iff_eq, List.contains_iff_mem] at h1
            obtain ⟨⟨a1, a2⟩, k, a3, a4⟩ := h1
            exact ⟨⟨a1, oj, rfl, k, a3, a4⟩, a2⟩
        refine anyA_first hi hd (by simpa using c2) (fun x hx => by simpa using List.all_eq_true.1 c3 x hx) (waits aos i) (fun j hj => (hB j hj).1) (n + is.length) l st (fun j hj => (hB j hj).2) (fun j oj hj hne hl hno => ?_) (by simpa using c1) hu hy hq (drawA_any hk2 hrest)
        have hlt : j < aos.length := (List.getElem?_eq_some_iff.1 hj).1
        have := List.all_eq_true.1 c4 j (List.mem_range.2 hlt)
        rw [hj] at this
        simp only [Bool.or_eq_true, beq_iff_eq, hne, false_or, hl, Bool.false_eq_true] at this
        rcases this with h | h
        · exact absurd (by simpa using h) hno
        · simp only [Bool.and_eq_true, Bool.not_eq_true', bne_iff_ne, ne_eq] at h
          obtain ⟨⟨⟨h1, h2⟩, h3⟩, h4⟩ := h
          refine ⟨fun hm => ?_, h2, fun t ht hm => ?_, h4⟩
          · rw [List.contains_iff_mem.2 hm] at h1; cases h1
          · rw [ht] at h3
            simp only at h3
            rw [List.contains_iff_mem.2 hm] at h3; simp at h3
      · exact h.elim
    · exact h.elim
end Pay
