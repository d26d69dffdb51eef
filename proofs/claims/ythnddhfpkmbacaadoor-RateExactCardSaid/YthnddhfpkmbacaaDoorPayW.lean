/- The book's entries, as data. -/
import Derived.Test.YthnddhfpkmbacaaDoorPayV
set_option linter.unusedSimpArgs false
set_option linter.unusedVariables false
namespace Pay
open Go
structure Line where
  kind : List UInt8
  name : List UInt8
  amount : Int
structure Sums where
  gross : Int
  pretax : Int
  post : Int
structure Ent where
  run : Int
  per : Int
  id : Int
  cen : Int
  back : Int
  lines : List Line
  raw : Sums
  extra : Sums
  taxable : Int
  tax : Int
  taken : Int
  held : Int
  net : Int
  short : Int
  paid : List Int
  owed : List Int
  garn : List Int
  fixes : List (Int × Sums)
abbrev dI (n : Int) : D := .int .i64 n
abbrev vI (n : Int) : V := .d (.int .i64 n)
abbrev vB (b : Bool) : V := .d (.bool b)
def encLine (l : Line) : List D := [.str l.kind, .str l.name, dI l.amount]
def encFix (f : Int × Sums) : List D := [dI f.1, dI f.2.gross, dI f.2.pretax, dI f.2.post]
def encI (n : Int) : List D := [dI n]
def enc (e : Ent) : List D := [dI e.run, dI e.per, dI e.id, dI e.cen, dI e.back, .sl (e.lines.map encLine), dI e.raw.gross, dI e.raw.pretax, dI e.raw.post, dI e.extra.gross, dI e.extra.pretax, dI e.extra.post, dI e.taxable, dI e.tax, dI e.taken, dI e.held, dI e.net, dI e.short, .sl (e.paid.map encI), .sl (e.owed.map encI), .sl (e.garn.map encI), .sl (e.fixes.map encFix)]
theorem enc_len (e : Ent) : (enc e).length = 22 := rfl
theorem map_len_all {α : Type} (f : α → List D) (sz : Nat) (h : ∀ a, (f a).length = sz) (l : List α) : ∀ e ∈ l.map f, e.length = sz := by
  intro e he
  obtain ⟨a, _, rfl⟩ := List.mem_map.1 he
  exact h a
theorem enc_all (l : List Ent) : ∀ e ∈ l.map enc, e.length = 22 := map_len_all enc 22 enc_len l
theorem enc_take (e : Ent) : (enc e).take 22 = enc e := rfl
theorem encV_len (e : Ent) : ((enc e).map V.d).length = 22 := rfl
theorem enc_allT (l : List Ent) : (∀ e ∈ l.map enc, e.length = 22) = True := eq_true (enc_all l)
theorem encV_take (e : Ent) : ((enc e).map V.d).take 22 = (enc e).map V.d := rfl
theorem encV_refs (n : Nat) (e : Ent) : V.refsL n ((enc e).map V.d) = false := refsL_dd n _
abbrev vEnt (e : Ent) : V := .agg ((enc e).map V.d)
theorem load_ent (o : Nat → Option Ob) (e : Ent) : loadV o (some 22) (.cptr (enc e)) = some (vEnt e) := rfl
theorem parts_ent (e : Ent) : partsN 22 [vEnt e] = some [enc e] := by
  simp only [partsN, vEnt, cellsV, toDs_map, enc_len, if_true]
theorem encLine_len (l : Line) : (encLine l).length = 3 := rfl
theorem encLineV_len (l : Line) : ((encLine l).map V.d).length = 3 := rfl
theorem encLineV_take (l : Line) : ((encLine l).map V.d).take 3 = (encLine l).map V.d := rfl
theorem encLine_take (l : Line) : (encLine l).take 3 = encLine l := rfl
theorem encFix_take (l : Int × Sums) : (encFix l).take 4 = encFix l := rfl
theorem load_line (o : Nat → Option Ob) (l : Line) : loadV o (some 3) (.cptr (encLine l)) = some (.agg ((encLine l).map V.d)) := rfl
theorem parts_line (l : Line) : partsN 3 [.agg ((encLine l).map V.d)] = some [encLine l] := by
  simp only [partsN, cellsV, toDs_map, encLine_len, if_true]
theorem encFix_len (l : Int × Sums) : (encFix l).length = 4 := rfl
theorem encFixV_len (l : Int × Sums) : ((encFix l).map V.d).length = 4 := rfl
theorem encFixV_take (l : Int × Sums) : ((encFix l).map V.d).take 4 = (encFix l).map V.d := rfl
theorem load_fix (o : Nat → Option Ob) (l : Int × Sums) : loadV o (some 4) (.cptr (encFix l)) = some (.agg ((encFix l).map V.d)) := rfl
theorem parts_fix (l : Int × Sums) : partsN 4 [.agg ((encFix l).map V.d)] = some [encFix l] := by
  simp only [partsN, cellsV, toDs_map, encFix_len, if_true]
attribute [go_sem] load_ent enc_len enc_take encV_len encV_take encV_refs enc_allT parts_ent encLine_len encLineV_len encLineV_take encLine_take encFix_take load_line parts_line encFix_len encFixV_len encFixV_take load_fix parts_fix
end Pay
