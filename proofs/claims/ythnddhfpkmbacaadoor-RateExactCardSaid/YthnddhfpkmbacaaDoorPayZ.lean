/- What came in, as data: every type made of whole numbers, bools, strings, slices and structs. -/
import Derived.WideShapes
import Derived.ChangeArms
import Derived.Test.YthnddhfpkmbacaaDoorPayY
set_option linter.unusedSimpArgs false
set_option linter.unusedVariables false
namespace Pay
open Go
inductive Sh where
  | int (k : IntKind)
  | bool
  | str
  | sl (ss : List Sh)
mutual
def Conf : D → Sh → Prop
  | .int k n, .int k' => k = k' ∧ (Lit.int k n).wf = true
  | .bool _, .bool => True
  | .str s, .str => s.length ≤ maxLen
  | .sl es, .sl ss => ConfE es ss
  | _, _ => False
def ConfE : List (List D) → List Sh → Prop
  | [], _ => True
  | e :: es, ss => ConfC e ss ∧ ConfE es ss
def ConfC : List D → List Sh → Prop
  | [], [] => True
  | d :: ds, s :: ss => Conf d s ∧ ConfC ds ss
  | _, _ => False
end
def shapeF (P : Program) (r : TypeId → Option (List Sh)) : Nat → List Field → Option (List Sh)
  | _, [] => some []
  | off, f :: fs => if f.offset = off then (match r f.type with
    | some ss => if P.cellsOf f.type = ss.length then (match shapeF P r (off + ss.length) fs with | some rest => some (ss ++ rest) | none => none) else none
    | none => none) else none
def shapes (P : Program) : Nat → TypeId → Option (List Sh)
  | 0, _ => none
  | n + 1, t => match P.underlying t with
    | some (.int k) => some [.int k]
    | some .bool => some [.bool]
    | some .string => some [.str]
    | some (.slice e) => (match shapes P n e with | some ss => if P.cellsOf e = ss.length ∧ 0 < ss.length then some [.sl ss] else none | none => none)
    | some (.struct fs) => (match shapeF P (shapes P n) 0 fs.toList with | some ss => if P.cellsOf t = ss.length then some ss else none | none => none)
    | _ => none
theorem ConfC.length : ∀ {ds : List D} {ss : List Sh}, ConfC ds ss → ds.length = ss.length
  | [], [], _ => rfl
  | d :: ds, s :: ss, h => by simp [ConfC.length h.2]
  | [], _ :: _, h => h.elim
  | _ :: _, [], h => h.elim
theorem ConfC.append : ∀ {ds ds' : List D} {ss ss' : List Sh}, ConfC ds ss → ConfC ds' ss' → ConfC (ds ++ ds') (ss ++ ss')
  | [], _, [], _, _, h => h
  | d :: ds, _, s :: ss, _, h, h' => ⟨h.1, ConfC.append h.2 h'⟩
  | [], _, _ :: _, _, h, _ => h.elim
  | _ :: _, _, [], _, h, _ => h.elim
theorem RepCells.app2 {w : World} {ok : Nat → Prop} : ∀ {ds ds' : List D} {us us' : List Value}, ds.length = us.length → RepCells w ok ds us → RepCells w ok ds' us' → RepCells w ok (ds ++ ds') (us ++ us')
  | [], _, [], _, _, _, h => h
  | d :: ds, _, u :: us, _, hl, h, h' => ⟨h.1, RepCells.app2 (by simpa using hl) h.2 h'⟩
  | [], _, _ :: _, _, hl, _, _ => by simp at hl
  | _ :: _, _, [], _, hl, _, _ => by simp at hl
theorem mapM_get {α β : Type} {f : α → Option β} : ∀ {l : List α} {r : List β}, l.mapM f = some r → r.length = l.length ∧ ∀ (i : Nat) (x : α), l[i]? = some x → f x = r[i]?
  | [], r, h => by
    simp at h; subst h
    exact ⟨rfl, fun i x hx => by simp at hx⟩
  | x :: l, r, h => by
    rw [List.mapM_cons] at h
    cases hx : f x with
    | none => simp [hx] at h
    | some y =>
      cases hl : l.mapM f with
      | none => simp [hx, hl] at h
      | some r' =>
        simp [hx, hl] at h
        subst h
        obtain ⟨h1, h2⟩ := mapM_get hl
        refine ⟨by simp [h1], fun i z hz => ?_⟩
        cases i with
        | zero => simp at hz; subst hz; simpa using hx
        | succ i => simpa using h2 i z (by simpa using hz)
section
variable {H : Type} {enc : TypeId × Value → H} {P : Program} {W : World} {spare : Nat → Bool} {held : Bool}
theorem fields_open {m : Nat} {cs : List Value} {r : TypeId → Option (List Sh)} (ih : ∀ t ss, r t = some ss → ∀ cs x, DataW.trod enc P W 0 spare held m t cs = some x → ∃ ds, ConfC ds ss ∧ cs.length = ss.length ∧ RepCells W (okW W) ds cs) :
    ∀ (l : List Field) (off : Nat) (ss : List Sh), shapeF P r off l = some ss → off + ss.length ≤ cs.length → (∀ f ∈ l, ∃ y, DataW.trod enc P W 0 spare held m f.type ((cs.drop f.offset).take (P.cellsOf f.type)) = some y) →
      ∃ ds, ConfC ds ss ∧ RepCells W (okW W) ds ((cs.drop off).take ss.length)
  | [], off, ss, h, _, _ => by
    simp only [shapeF, Option.some.injEq] at h
    subst h
    exact ⟨[], trivial, trivial⟩
  | f :: l, off, ss, h, hl, hf => by
    simp only [shapeF] at h
    split at h
    case isFalse => cases h
    rename_i hoff
    split at h
    case h_2 => cases h
    rename_i s1 hs1
    split at h
    case isFalse => cases h
    rename_i hc
    split at h
    case h_2 => cases h
    rename_i s2 hs2
    injection h with h
    subst h
    obtain ⟨y, hy⟩ := hf f (by simp)
    rw [hoff, hc] at hy
    obtain ⟨d1, c1, l1, r1⟩ := ih _ _ hs1 _ _ hy
    simp only [List.length_append] at hl
    obtain ⟨d2, c2, r2⟩ := fields_open ih l (off + s1.length) s2 hs2 (by omega) (fun g hg => hf g (by simp [hg]))
    refine ⟨d1 ++ d2, c1.append c2, ?_⟩
    have e : (cs.drop off).take (s1 ++ s2).length = (cs.drop off).take s1.length ++ (cs.drop (off + s1.length)).take s2.length := by
      rw [List.length_append, List.take_add, List.drop_drop]
    rw [e]
    exact RepCells.app2 (by rw [l1]; exact c1.length) r1 r2
theorem cells_rep {a : Addr} {ds : List D} {cs : List Value} {off sz : Nat} (hc : W.cells? 0 (a.add off) sz = some cs) (hl : ds.length = sz) (hr : RepCells W (okW W) ds cs) : RepCs W (okW W) a off ds := by
  unfold World.cells? at hc
  rw [if_pos (Nat.zero_le _)] at hc
  obtain ⟨h1, h2⟩ := mapM_get hc
  have key : ∀ (ds : List D) (k : Nat) (us : List Value), (∀ i u, us[i]? = some u → W.cell? (a.add (off + (k + i))) = some u) → ds.length ≤ us.length → RepCells W (okW W) ds us → RepCs W (okW W) a (off + k) ds := by
    intro ds
    induction ds with
    | nil => intro k us _ _ _; trivial
    | cons d ds ih =>
      intro k us hu hl hr
      cases us with
      | nil => exact hr.elim
      | cons u us =>
        refine ⟨⟨u, by simpa using hu 0 u rfl, hr.1⟩, ?_⟩
        have := ih (k + 1) us (fun i v hv => by
          have := hu (i + 1) v (by simpa using hv)
          rwa [show k + (i + 1) = k + 1 + i by omega] at this) (by simpa using hl) hr.2
        rwa [show off + (k + 1) = off + k + 1 by omega] at this
  have := key ds 0 cs (fun i u hu => by
    have hi : i < sz := by
      have := (List.getElem?_eq_some_iff.1 hu).1
      simp at h1; omega
    have := h2 i i (by simp [hi])
    rw [hu] at this
    rw [Nat.zero_add, ← add_add']
    exact this) (by simp at h1; omega) hr
  simpa using this
theorem trod_open : ∀ (n : Nat) (t : TypeId) (ss : List Sh), shapes P n t = some ss → ∀ (fuel : Nat) (cs : List Value) (x : DataW H × List MemPlace), DataW.trod enc P W 0 spare held fuel t cs = some x →
    ∃ ds, ConfC ds ss ∧ cs.length = ss.length ∧ RepCells W (okW W) ds cs
  | 0, t, ss, h, _, _, _, _ => by simp [shapes] at h
  | n + 1, t, ss, h, fuel, cs, x, ht => by
    simp only [shapes] at h
    split at h
    case h_1 k hu =>
      injection h with h; subst h
      obtain ⟨m, rfl, _, hw⟩ := DataW.trod_int hu ht
      exact ⟨[.int k m], ⟨⟨rfl, hw⟩, trivial⟩, rfl, rfl, trivial⟩
    case h_2 hu =>
      injection h with h; subst h
      obtain ⟨b, rfl, _⟩ := DataW.trod_bool hu ht
      exact ⟨[.bool b], ⟨trivial, trivial⟩, rfl, rfl, trivial⟩
    case h_3 hu =>
      injection h with h; subst h
      obtain ⟨s, rfl, _, hs⟩ := DataW.trod_string hu ht
      refine ⟨[.str s.data.toList], ⟨?_, trivial⟩, rfl, rfl, trivial⟩
      show s.data.toList.length ≤ maxLen
      simpa using hs
    case h_4 e hu =>
      split at h
      case h_2 => cases h
      rename_i s1 hs1
      split at h
      case isFalse => cases h
      rename_i hc
      injection h with h; subst h
      rcases DataW.trod_slice hu ht with ⟨rfl, _⟩ | ⟨a, len, cap, elems, rest, m, _, rfl, _, _, hlc, _, hel, hget, _, _⟩
      · exact ⟨[.sl []], ⟨trivial, trivial⟩, rfl, ⟨none, 0, 0, rfl, Nat.le_refl _, fun e he => (by cases he), fun h => absurd rfl h⟩, trivial⟩
      have one : ∀ i, i < len → ∃ ci di, W.cells? 0 (a.add (i * s1.length)) s1.length = some ci ∧ ConfC di s1 ∧ RepCells W (okW W) di ci := by
        intro i hi
        have h1 := hget i hi
        rw [List.getElem?_eq_getElem (by omega), hc.1] at h1
        cases hci : W.cells? 0 (a.add (i * s1.length)) s1.length with
        | none => rw [hci] at h1; simp at h1
        | some ci =>
          rw [hci] at h1
          simp only [Option.bind_some] at h1
          obtain ⟨di, c, _, r⟩ := trod_open n e s1 hs1 m ci _ h1
          exact ⟨ci, di, rfl, c, r⟩
      have all : ∀ k j, j + k = len → ∃ es : List (List D), es.length = k ∧ ConfE es s1 ∧ RepEs W (okW W) a (j * s1.length) es ∧ ∀ e ∈ es, e.length = s1.length := by
        intro k
        induction k with
        | zero => intro j _; exact ⟨[], rfl, trivial, trivial, fun e he => by cases he⟩
        | succ k ih =>
          intro j hj
          obtain ⟨ci, di, h1, h2, h3⟩ := one j (by omega)
          obtain ⟨es, e1, e2, e3, e4⟩ := ih (j + 1) (by omega)
          refine ⟨di :: es, by simp [e1], ⟨h2, e2⟩, ⟨cells_rep h1 h2.length h3, ?_⟩, fun e he => ?_⟩
          · rw [h2.length]
            rwa [Nat.add_mul, Nat.one_mul] at e3
          · rcases List.mem_cons.1 he with rfl | he
            · exact h2.length
            · exact e4 e he
      obtain ⟨es, e1, e2, e3, e4⟩ := all len 0 (by omega)
      refine ⟨[.sl es], ⟨e2, trivial⟩, rfl, ⟨some a, cap, s1.length, by rw [e1], by omega, e4, fun hne => ⟨a, rfl, ?_, by simpa using e3⟩⟩, trivial⟩
      have hlen : 0 < len := by
        rcases Nat.eq_zero_or_pos len with h0 | h0
        · exact absurd (List.length_eq_zero_iff.1 (by omega)) hne
        · exact h0
      obtain ⟨ci, di, h1, _, _⟩ := one 0 hlen
      unfold World.cells? at h1
      rw [if_pos (Nat.zero_le _)] at h1
      obtain ⟨h4, h5⟩ := mapM_get h1
      have h6 := h5 0 0 (by simp [hc.2])
      rw [List.getElem?_eq_getElem (by simp at h4; omega)] at h6
      have := block_lt h6
      rwa [add_block, add_block] at this
    case h_5 fs hu =>
      split at h
      case h_2 => cases h
      rename_i s1 hs1
      split at h
      case isFalse => cases h
      rename_i hc
      injection h with h; subst h
      obtain ⟨xs, m, rfl, _, hlen, hxl, hget⟩ := DataW.trod_struct hu ht
      obtain ⟨ds, c, r⟩ := fields_open (cs := cs) (m := m) (r := shapes P n) (fun t ss hs cs x hx => trod_open n t ss hs m cs x hx) fs.toList 0 s1 hs1 (by omega) (fun f hf => by
        obtain ⟨i, hi, rfl⟩ := List.getElem_of_mem hf
        have h1 := hget i _ (by simpa using Array.getElem?_eq_getElem (xs := fs) (i := i) (by simpa using hi))
        have hi' : i < xs.length := by simp at hi; omega
        rw [List.getElem?_eq_getElem hi'] at h1
        exact ⟨_, by simpa using h1⟩)
      refine ⟨ds, c, by omega, ?_⟩
      rw [List.drop_zero, List.take_of_length_le (by omega)] at r
      exact r
    case h_6 => cases h
theorem repVs_of {C : Ctx} {w : World} {ok : Nat → Prop} {γ : Nat → Value} : ∀ {ds : List D} {us : List Value}, ds.length = us.length → RepCells w ok ds us → RepVs C w ok γ (ds.map V.d) us ∧ ∀ u ∈ us, u.oneCell' = true
  | [], [], _, _ => ⟨rfl, fun u hu => by cases hu⟩
  | d :: ds, u :: us, hl, h => by
    obtain ⟨h1, h2⟩ := repVs_of (C := C) (γ := γ) (by simpa using hl) h.2
    refine ⟨⟨u, us, rfl, h.1, h1⟩, fun x hx => ?_⟩
    rcases List.mem_cons.1 hx with rfl | hx
    · exact h.1.one
    · exact h2 x hx
  | [], _ :: _, hl, _ => by simp at hl
  | _ :: _, [], hl, _ => by simp at hl
/-- A struct that came in. -/
theorem arg_struct {C : Ctx} {γ : Nat → Value} {r : Reach} {base n : Nat} {t : TypeId} {fs : Array Field} {ss : List Sh} {v : Value} {d : DataW H} {ps : List MemPlace} (hu : P.underlying t = some (.struct fs)) (hs : shapes P n t = some ss)
    (hv : Value.okWide P W r base t v) (h : DataW.Trod enc P W 0 spare held t v d ps) : ∃ ds, ConfC ds ss ∧ RepV C W (okW W) γ (.agg (ds.map V.d)) v := by
  obtain ⟨cs, rfl, _⟩ := WideShapes.okWide_struct hu hv
  obtain ⟨fuel, hf⟩ := h
  obtain ⟨ds, c, hl, hr⟩ := trod_open n t ss hs fuel _ _ hf
  have e : (Value.agg cs).cells.toList = cs.toList := by simp [Value.cells]
  rw [e] at hl hr
  obtain ⟨h1, h2⟩ := repVs_of (C := C) (γ := γ) (by rw [c.length, hl]) hr
  exact ⟨ds, c, cs.toList, by simp, h1, h2⟩
/-- A cell that came in. -/
theorem arg_cell {n : Nat} {t : TypeId} {s : Sh} {v : Value} {d : DataW H} {ps : List MemPlace} (hs : shapes P n t = some [s]) (hc : v.cells = #[v]) (h : DataW.Trod enc P W 0 spare held t v d ps) : ∃ x, Conf x s ∧ RepD W (okW W) x v := by
  obtain ⟨fuel, hf⟩ := h
  obtain ⟨ds, c, hl, hr⟩ := trod_open n t [s] hs fuel _ _ hf
  rw [hc] at hr
  match ds, c, hr with
  | [x], c, hr => exact ⟨x, c.1, hr.1⟩
end
theorem conf_int {d : D} {k : IntKind} (h : Conf d (.int k)) : ∃ n, d = .int k n ∧ (Lit.int k n).wf = true := by
  cases d with
  | int k' n => exact ⟨n, by rw [h.1], by rw [← h.1]; exact h.2⟩
  | _ => exact h.elim
theorem confC_cons {ds : List D} {s : Sh} {ss : List Sh} (h : ConfC ds (s :: ss)) : ∃ d r, ds = d :: r ∧ Conf d s ∧ ConfC r ss := by
  cases ds with
  | nil => exact h.elim
  | cons d r => exact ⟨d, r, rfl, h.1, h.2⟩
theorem confC_nil {ds : List D} (h : ConfC ds []) : ds = [] := by
  cases ds with
  | nil => rfl
  | cons d r => exact h.elim
end Pay
