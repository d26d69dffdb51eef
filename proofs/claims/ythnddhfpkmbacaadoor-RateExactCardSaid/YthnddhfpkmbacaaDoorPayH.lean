/- The operations that turn objects: stores, new variables, slices that grow. -/
import Derived.Test.YthnddhfpkmbacaaDoorPayG
set_option linter.unusedSimpArgs false
set_option linter.unusedVariables false
namespace Pay
open Go
section
variable {P : Program} {w : World}
theorem run_append_zero {t e ty : TypeId} {i : TypeInfo} (ht : P.underlying t = some (.slice e)) (hi : P.info? e = some i) {A B : Option Addr} {n cap c : Nat} (hn : n ≤ cap) :
    (Builtin.append_ #[t, t] ty #[.slice A n cap, .slice B 0 c]).run P w = .ok (.slice A n cap) w := by
  cases A <;> cases B <;> simp [Builtin.append_, run_underlying ht, Go.sizeOf, typeInfo, hi, Builtin.lenOf, Builtin.firstCells, loadCells, loadCellsFrom, storeCells, hn]
theorem run_append_room' {t e ty bt : TypeId} {i : TypeInfo} (ht : P.underlying t = some (.slice e)) (hi : P.info? e = some i) {g n cap : Nat} {cur : Array Value} (hg : w.heap[g]? = some (.cells cur bt (0, 0)))
    {ad : Addr} {m c : Nat} {news : List Value} (hl : news.length = m * i.size) (hnews : ∀ (j : Nat) (u : Value), news[j]? = some u → w.cell? (ad.add j) = some u) (h1 : ∀ u ∈ news, u.oneCell' = true)
    (hroom : n + m ≤ cap) (hfit : n * i.size + news.length ≤ cur.size) :
    (Builtin.append_ #[t, t] ty #[.slice (some ⟨g, 0, none⟩) n cap, .slice (some ad) m c]).run P w =
      .ok (.slice (some ⟨g, 0, none⟩) (n + m) cap) (w.setRow g (cur.toList.take (n * i.size) ++ news ++ cur.toList.drop (n * i.size + news.length)).toArray) := by
  have hf := run_firstCells_some (P := P) w i.size m ad m c news hl hnews
  have hst := run_storeCells_at P g (n * i.size) bt news 0 cur w hg (by simpa using hfit) h1
  simp only [Nat.add_zero] at hst
  simp [Builtin.append_, run_underlying ht, Go.sizeOf, typeInfo, hi, Builtin.lenOf, hroom, hf, Addr.add_lit, hst]
def AppPost (P : Program) (w : World) (t ty : TypeId) (i : TypeInfo) (v : Value) (n m : Nat) (x : Value) (olds news : List Value) : Prop :=
  ∃ v' w', (Builtin.append_ #[t, t] ty #[v, x]).run P w = .ok v' w' ∧ Turn w w' (blk v) ∧ (∀ g, blk v' = some g → blk v = some g ∨ w.heap.size ≤ g) ∧
      ((n + m = 0 ∧ ∃ A, v' = .slice A 0 0) ∨ ∃ g cap us bt, v' = .slice (some ⟨g, 0, none⟩) (n + m) cap ∧ 0 < cap ∧ w'.heap[g]? = some (.cells ⟨us⟩ bt (0, 0)) ∧ n + m ≤ cap ∧ cap ≤ maxLen ∧ us.length = cap * i.size ∧ us.take ((n + m) * i.size) = olds ++ news ∧ ∀ u ∈ us, u.oneCell' = true)
/-- append, whatever the slice is: what comes of it, and what has turned. -/
theorem run_append_row {t e ty : TypeId} {i : TypeInfo} {z : Value} (ht : P.underlying t = some (.slice e)) (hi : P.info? e = some i) (hz : i.zero = some z) (hzs : z.cells.size = i.size) (hsz : i.size ≠ 0) (hz1 : ∀ u ∈ z.cells.toList, u.oneCell' = true)
    {v : Value} {n : Nat} {olds : List Value}
    (hv : (n = 0 ∧ olds = [] ∧ ∃ A, v = .slice A 0 0) ∨ ∃ g cap us bt, v = .slice (some ⟨g, 0, none⟩) n cap ∧ 0 < cap ∧ w.heap[g]? = some (.cells ⟨us⟩ bt (0, 0)) ∧ n ≤ cap ∧ cap ≤ maxLen ∧ us.length = cap * i.size ∧ us.take (n * i.size) = olds ∧ ∀ u ∈ us, u.oneCell' = true)
    {B : Option Addr} {m c : Nat} {news : List Value} (hl : news.length = m * i.size) (hB : 0 < m → ∃ ad, B = some ad ∧ ∀ (j : Nat) (u : Value), news[j]? = some u → w.cell? (ad.add j) = some u) (h1 : ∀ u ∈ news, u.oneCell' = true)
    (hbytes : (n + m) * i.bytes ≤ 140737488355328) (h63 : n + m ≤ 140737488355328) :
    AppPost P w t ty i v n m (.slice B m c) olds news := by
  have hol : olds.length = n * i.size := by
    rcases hv with ⟨rfl, rfl, _⟩ | ⟨g, cap, us, bt, _, _, _, hn, _, hu, rfl, _⟩
    · simp
    · rw [List.length_take, hu]
      have := Nat.mul_le_mul_right i.size hn
      omega
  have hone : ∀ u ∈ olds, u.oneCell' = true := by
    rcases hv with ⟨_, rfl, _⟩ | ⟨g, cap, us, bt, _, _, _, _, _, _, rfl, h⟩
    · simp
    · exact fun u hu => h u (List.mem_of_mem_take hu)
  rcases Nat.eq_zero_or_pos m with rfl | hm
  · -- nothing comes to it
    have hnews : news = [] := List.eq_nil_of_length_eq_zero (by simpa using hl)
    subst hnews
    refine ⟨v, w, ?_, ⟨rfl, rfl, rfl, Nat.le_refl _, fun _ _ _ => rfl⟩, fun g hg => .inl hg, ?_⟩
    · rcases hv with ⟨_, _, A, rfl⟩ | ⟨g, cap, us, bt, rfl, _, _, hn, _⟩
      · exact run_append_zero ht hi (Nat.le_refl _)
      · exact run_append_zero ht hi hn
    · rcases hv with ⟨rfl, _, A, rfl⟩ | ⟨g, cap, us, bt, rfl, h2, h3, h4, h5, h6, h7, h8⟩
      · exact .inl ⟨rfl, A, rfl⟩
      · exact .inr ⟨g, cap, us, bt, rfl, h2, h3, h4, h5, h6, by simpa using h7, h8⟩
  · obtain ⟨ad, rfl, hnews⟩ := hB hm
    have grows : ∀ (A : Option Addr) (cap : Nat), v = .slice A n cap → cap < n + m → (∀ (b : Addr), A = some b → ∀ (j : Nat) (u : Value), olds[j]? = some u → w.cell? (b.add j) = some u) → (A = none → n = 0 ∧ cap = 0) → n ≤ cap →
        ∃ newCap, n + m ≤ newCap ∧ newCap ≤ maxLen ∧ (Builtin.append_ #[t, t] ty #[v, .slice (some ad) m c]).run P w = .ok (.slice (some ⟨w.heap.size, 0, none⟩) (n + m) newCap) (w.drew.alloc (.cells (olds.toArray ++ news.toArray ++ Builtin.zeroCells z.cells (newCap - (n + m))) e)) := by
      intro A cap hvA hlt hA hN hle
      refine ⟨grownCap w (n + m) cap e, grownCap_ge w _ _ e, grownCap_le_maxLen w _ _ e (by simp only [maxLen]; omega), ?_⟩
      subst hvA
      cases A with
      | none =>
        obtain ⟨rfl, rfl⟩ := hN rfl
        have ho : olds = [] := List.eq_nil_of_length_eq_zero (by simpa using hol)
        subst ho
        have hr := run_append_nil (P := P) w t ty e i z ht hi hz ad m c news hl hnews (by omega) (by omega) (by have hb := hbytes; simp only [Nat.zero_add] at hb; omega)
        simp only [Nat.zero_add, Array.empty_append, List.nil_append] at hr ⊢
        simpa using hr
      | some b =>
        exact run_append_grow (P := P) w t ty e i z ht hi hz b n cap olds hol (hA b rfl) ad m c news hl hnews (by omega) (by omega) (growslice_fits (by omega) hbytes)
    have finish : ∀ newCap, n + m ≤ newCap → newCap ≤ maxLen → (Builtin.append_ #[t, t] ty #[v, .slice (some ad) m c]).run P w = .ok (.slice (some ⟨w.heap.size, 0, none⟩) (n + m) newCap) (w.drew.alloc (.cells (olds.toArray ++ news.toArray ++ Builtin.zeroCells z.cells (newCap - (n + m))) e)) → AppPost P w t ty i v n m (.slice (some ad) m c) olds news := by
      intro newCap hge hle hrun
      refine ⟨_, _, hrun, ⟨rfl, rfl, rfl, by simp, fun g hg _ => heap_alloc_old w.drew _ g hg⟩, fun g hg => ?_, .inr ⟨w.heap.size, newCap, olds ++ news ++ (Builtin.zeroCells z.cells (newCap - (n + m))).toList, e, rfl, by omega, ?_, hge, hle, ?_, ?_, ?_⟩⟩
      · simp only [blk] at hg
        split at hg
        · cases hg
        · injection hg with hg
          exact .inr (by omega)
      · have : (w.drew.alloc (.cells (olds.toArray ++ news.toArray ++ Builtin.zeroCells z.cells (newCap - (n + m))) e)).heap[w.heap.size]? = some _ := heap_alloc_new w.drew _
        rw [this]
        congr 2
        apply Array.ext'
        simp
      · simp only [List.length_append, Array.length_toList, size_zeroCells, hzs, hol, hl, ← Nat.add_mul]
        congr 1
        omega
      · rw [List.append_assoc, ← List.append_assoc]
        refine List.take_left' ?_
        rw [List.length_append, hol, hl, Nat.add_mul]
      · intro u hu
        rcases List.mem_append.1 hu with hu | hu
        · rcases List.mem_append.1 hu with hu | hu
          · exact hone u hu
          · exact h1 u hu
        · simp only [Builtin.zeroCells, Array.toList_map, List.mem_map, Array.toList_range, List.mem_range] at hu
          obtain ⟨j, hj, rfl⟩ := hu
          have hpos : 0 < z.cells.size := by omega
          rw [getElem!_pos z.cells (j % z.cells.size) (Nat.mod_lt _ hpos)]
          exact hz1 _ (by simp)
    rcases hv with ⟨rfl, rfl, A, rfl⟩ | ⟨g, cap, us, bt, rfl, h2, h3, h4, h5, h6, h7, h8⟩
    · obtain ⟨newCap, c1, c2, hrun⟩ := grows A 0 rfl (by omega) (by simp) (fun _ => ⟨rfl, rfl⟩) (Nat.le_refl _)
      exact finish newCap c1 c2 hrun
    · by_cases hroom : n + m ≤ cap
      · have hfit : n * i.size + news.length ≤ us.length := by rw [hl, h6, ← Nat.add_mul]; exact Nat.mul_le_mul_right _ hroom
        have hrun := run_append_room' (P := P) (ty := ty) ht hi (g := g) (n := n) (cap := cap) h3 hl hnews h1 hroom (c := c) (by simpa using hfit)
        refine ⟨_, _, hrun, ⟨rfl, rfl, rfl, by simp, fun k hk hne => setRow_other w g k _ (fun e => hne (by simp [blk, e]; omega))⟩, fun g' hg' => .inl ?_, .inr ⟨g, cap, us.take (n * i.size) ++ news ++ us.drop (n * i.size + news.length), bt, rfl, h2, by simpa using setRow_heap w g _ _ bt _ h3, hroom, h5, ?_, ?_, ?_⟩⟩
        · simpa [blk] using hg'
        · simp only [List.length_append, List.length_take, List.length_drop]
          omega
        · rw [h7]
          refine List.take_left' ?_
          rw [List.length_append, hol, hl, Nat.add_mul]
        · intro u hu
          rcases List.mem_append.1 hu with hu | hu
          · rcases List.mem_append.1 hu with hu | hu
            · exact h8 u (List.mem_of_mem_take hu)
            · exact h1 u hu
          · exact h8 u (List.mem_of_mem_drop hu)
      · obtain ⟨newCap, c1, c2, hrun⟩ := grows (some ⟨g, 0, none⟩) cap rfl (by omega) (fun b hb j u hu => by
          injection hb with hb
          subst hb
          rw [add_lit, cell_of_row w g _ _ _ _ h3]
          rw [← h7, List.getElem?_take] at hu
          split at hu
          · simpa using hu
          · cases hu) (by simp) h4
        exact finish newCap c1 c2 hrun
end
end Pay
