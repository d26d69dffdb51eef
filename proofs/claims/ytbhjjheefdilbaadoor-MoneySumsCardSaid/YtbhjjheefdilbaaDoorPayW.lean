/- The book's entries, as data. -/
import Derived.Test.YtbhjjheefdilbaaDoorPayV
set_option linter.unusedSimpArgs false
set_option linter.unusedVariables false
namespace Pay
open Go

structure Line where
  kind : List UInt8
  name : List UInt8
  amount : Int
structure Sums where
  gross : Int
  pretax : Int
  post : Int
structure Ent where
  run : Int
  per : Int
  id : Int
  cen : Int
  back : Int
  lines : List Line
  raw : Sums
  extra : Sums
  taxable : Int
  tax : Int
  taken : Int
  held : Int
  net : Int
  short : Int
  paid : List Int
  owed : List Int
  garn : List Int
  fixes : List (Int × Sums)

abbrev dI (n : Int) : D := .int .i64 n
abbrev vI (n : Int) : V := .d (.int .i64 n)
abbrev vB (b : Bool) : V := .d (.bool b)
def encLine (l : Line) : List D := [.str l.kind, .str l.name, dI l.amount]
def encFix (f : Int × Sums) : List D := [dI f.1, dI f.2.gross, dI f.2.pretax, dI f.2.post]
def encI (n : Int) : List D := [dI n]
def enc (e : Ent) : List D := [dI e.run, dI e.per, dI e.id, dI e.cen, dI e.back, .sl (e.lines.map encLine), dI e.raw.gross, dI e.raw.pretax, dI e.raw.post, dI e.extra.gross, dI e.extra.pretax, dI e.extra.post, dI e.taxable, dI e.tax, dI e.taken, dI e.held, dI e.net, dI e.short, .sl (e.paid.map encI), .sl (e.owed.map encI), .sl (e.garn.map encI), .sl (e.fixes.map encFix)]
theorem enc_len (e : Ent) : (enc e).length = 22 := rfl
theorem map_len_all {α : Type} (f : α → List D) (sz : Nat) (h : ∀ a, (f a).length = sz) (l : List α) : ∀ e ∈ l.map f, e.length = sz := by
  intro e he
  obtain ⟨a, _, rfl⟩ := List.mem_map.1 he
  exact h a
theorem enc_all (l : List Ent) : ∀ e ∈ l.map enc, e.length = 22 := map_len_all enc 22 enc_len l
theorem enc_d0 (e : Ent) : (enc e).drop 0 = dI e.run :: (enc e).drop 1 := rfl
theorem enc_d1 (e : Ent) : (enc e).drop 1 = dI e.per :: (enc e).drop 2 := rfl
theorem enc_d2 (e : Ent) : (enc e).drop 2 = dI e.id :: (enc e).drop 3 := rfl
theorem enc_d3 (e : Ent) : (enc e).drop 3 = dI e.cen :: (enc e).drop 4 := rfl
theorem enc_d4 (e : Ent) : (enc e).drop 4 = dI e.back :: (enc e).drop 5 := rfl
theorem enc_d5 (e : Ent) : (enc e).drop 5 = D.sl (e.lines.map encLine) :: (enc e).drop 6 := rfl
theorem enc_d6 (e : Ent) : (enc e).drop 6 = dI e.raw.gross :: (enc e).drop 7 := rfl
theorem enc_d7 (e : Ent) : (enc e).drop 7 = dI e.raw.pretax :: (enc e).drop 8 := rfl
theorem enc_d8 (e : Ent) : (enc e).drop 8 = dI e.raw.post :: (enc e).drop 9 := rfl
theorem enc_d9 (e : Ent) : (enc e).drop 9 = dI e.extra.gross :: (enc e).drop 10 := rfl
theorem enc_d10 (e : Ent) : (enc e).drop 10 = dI e.extra.pretax :: (enc e).drop 11 := rfl
theorem enc_d11 (e : Ent) : (enc e).drop 11 = dI e.extra.post :: (enc e).drop 12 := rfl
theorem enc_d12 (e : Ent) : (enc e).drop 12 = dI e.taxable :: (enc e).drop 13 := rfl
theorem enc_d13 (e : Ent) : (enc e).drop 13 = dI e.tax :: (enc e).drop 14 := rfl
theorem enc_d14 (e : Ent) : (enc e).drop 14 = dI e.taken :: (enc e).drop 15 := rfl
theorem enc_d15 (e : Ent) : (enc e).drop 15 = dI e.held :: (enc e).drop 16 := rfl
theorem enc_d16 (e : Ent) : (enc e).drop 16 = dI e.net :: (enc e).drop 17 := rfl
theorem enc_d17 (e : Ent) : (enc e).drop 17 = dI e.short :: (enc e).drop 18 := rfl
theorem enc_d18 (e : Ent) : (enc e).drop 18 = D.sl (e.paid.map encI) :: (enc e).drop 19 := rfl
theorem enc_d19 (e : Ent) : (enc e).drop 19 = D.sl (e.owed.map encI) :: (enc e).drop 20 := rfl
theorem enc_d20 (e : Ent) : (enc e).drop 20 = D.sl (e.garn.map encI) :: (enc e).drop 21 := rfl
theorem enc_d21 (e : Ent) : (enc e).drop 21 = D.sl (e.fixes.map encFix) :: (enc e).drop 22 := rfl
theorem enc_0 {o : Nat → Option Ob} (e : Ent) : loadV o none (.cptr (enc e)) = some (vI e.run) := rfl

theorem enc_g0 (e : Ent) : (enc e)[0]? = some (dI e.run) := rfl
theorem enc_g1 (e : Ent) : (enc e)[1]? = some (dI e.per) := rfl
theorem enc_g2 (e : Ent) : (enc e)[2]? = some (dI e.id) := rfl
theorem enc_g3 (e : Ent) : (enc e)[3]? = some (dI e.cen) := rfl
theorem enc_g4 (e : Ent) : (enc e)[4]? = some (dI e.back) := rfl
theorem enc_g5 (e : Ent) : (enc e)[5]? = some (D.sl (e.lines.map encLine)) := rfl
theorem enc_g6 (e : Ent) : (enc e)[6]? = some (dI e.raw.gross) := rfl
theorem enc_g7 (e : Ent) : (enc e)[7]? = some (dI e.raw.pretax) := rfl
theorem enc_g8 (e : Ent) : (enc e)[8]? = some (dI e.raw.post) := rfl
theorem enc_g9 (e : Ent) : (enc e)[9]? = some (dI e.extra.gross) := rfl
theorem enc_g10 (e : Ent) : (enc e)[10]? = some (dI e.extra.pretax) := rfl
theorem enc_g11 (e : Ent) : (enc e)[11]? = some (dI e.extra.post) := rfl
theorem enc_g12 (e : Ent) : (enc e)[12]? = some (dI e.taxable) := rfl
theorem enc_g13 (e : Ent) : (enc e)[13]? = some (dI e.tax) := rfl
theorem enc_g14 (e : Ent) : (enc e)[14]? = some (dI e.taken) := rfl
theorem enc_g15 (e : Ent) : (enc e)[15]? = some (dI e.held) := rfl
theorem enc_g16 (e : Ent) : (enc e)[16]? = some (dI e.net) := rfl
theorem enc_g17 (e : Ent) : (enc e)[17]? = some (dI e.short) := rfl
theorem enc_g18 (e : Ent) : (enc e)[18]? = some (D.sl (e.paid.map encI)) := rfl
theorem enc_g19 (e : Ent) : (enc e)[19]? = some (D.sl (e.owed.map encI)) := rfl
theorem enc_g20 (e : Ent) : (enc e)[20]? = some (D.sl (e.garn.map encI)) := rfl
theorem enc_g21 (e : Ent) : (enc e)[21]? = some (D.sl (e.fixes.map encFix)) := rfl
theorem enc_take (e : Ent) : (enc e).take 22 = enc e := rfl
theorem encV_len (e : Ent) : ((enc e).map V.d).length = 22 := rfl
theorem enc_allT (l : List Ent) : (∀ e ∈ l.map enc, e.length = 22) = True := eq_true (enc_all l)
theorem encV_take (e : Ent) : ((enc e).map V.d).take 22 = (enc e).map V.d := rfl
theorem encV_refs (n : Nat) (e : Ent) : V.refsL n ((enc e).map V.d) = false := refsL_dd n _
abbrev vEnt (e : Ent) : V := .agg ((enc e).map V.d)
abbrev vEnts (l : List Ent) : V := .d (.sl (l.map enc))
abbrev vBook (l : List Ent) : V := .agg [.d (.sl (l.map enc))]
theorem load_ent (o : Nat → Option Ob) (e : Ent) : loadV o (some 22) (.cptr (enc e)) = some (vEnt e) := rfl
theorem iaddr_ent {o : Nat → Option Ob} {l : List Ent} {k : Nat} {e : Ent} (h : l[k]? = some e) : iaddrV o 22 (vEnts l) (vI k) = some (.cptr (enc e)) := by
  simp [iaddrV, h, enc_len]
def setBack (e : Ent) (b : Int) : Ent := { e with back := b }
theorem enc_back (e : Ent) (b : Int) : List.take 4 (List.map V.d (enc e)) ++ [V.d (.int .i64 b)] ++ List.drop 5 (List.map V.d (enc e)) = (enc (setBack e b)).map V.d := rfl
theorem parts_ent (e : Ent) : partsN 22 [vEnt e] = some [enc e] := by
  simp only [partsN, vEnt, cellsV, toDs_map, enc_len, if_true]
theorem enc_one (e : Ent) : ∀ x ∈ [enc e], x.length = 22 := by simp [enc_len]
theorem encLine_len (l : Line) : (encLine l).length = 3 := rfl
theorem encLineV_len (l : Line) : ((encLine l).map V.d).length = 3 := rfl
theorem encLineV_take (l : Line) : ((encLine l).map V.d).take 3 = (encLine l).map V.d := rfl
theorem encLine_take (l : Line) : (encLine l).take 3 = encLine l := rfl
theorem encFix_take (l : Int × Sums) : (encFix l).take 4 = encFix l := rfl
theorem load_line (o : Nat → Option Ob) (l : Line) : loadV o (some 3) (.cptr (encLine l)) = some (.agg ((encLine l).map V.d)) := rfl
theorem parts_line (l : Line) : partsN 3 [.agg ((encLine l).map V.d)] = some [encLine l] := by
  simp only [partsN, cellsV, toDs_map, encLine_len, if_true]
theorem encFix_len (l : Int × Sums) : (encFix l).length = 4 := rfl
theorem encFixV_len (l : Int × Sums) : ((encFix l).map V.d).length = 4 := rfl
theorem encFixV_take (l : Int × Sums) : ((encFix l).map V.d).take 4 = (encFix l).map V.d := rfl
theorem load_fix (o : Nat → Option Ob) (l : Int × Sums) : loadV o (some 4) (.cptr (encFix l)) = some (.agg ((encFix l).map V.d)) := rfl
theorem parts_fix (l : Int × Sums) : partsN 4 [.agg ((encFix l).map V.d)] = some [encFix l] := by
  simp only [partsN, cellsV, toDs_map, encFix_len, if_true]
def filtFrom (p : Nat → Ent → Bool) : Nat → List Ent → List Ent
  | _, [] => []
  | k, e :: l => if p k e = true then e :: filtFrom p (k + 1) l else filtFrom p (k + 1) l
theorem filtFrom_len (p : Nat → Ent → Bool) : ∀ (l : List Ent) (k : Nat), (filtFrom p k l).length ≤ l.length
  | [], k => by simp [filtFrom]
  | e :: l, k => by
    have := filtFrom_len p l (k + 1)
    simp only [filtFrom]
    split <;> simp <;> omega

def liveS (l : List Ent) (at_ : Int) : Bool := decide (0 ≤ at_) && decide (at_ < l.length) && (match l[at_.toNat]? with | some e => e.back == 0 | none => false) && !l.any (fun e => e.back == at_ + 1)
/-! ### the set -/
attribute [go_sem] load_ent enc_len enc_take encV_len encV_take encV_refs enc_allT parts_ent encLine_len encLineV_len encLineV_take encLine_take encFix_take load_line parts_line encFix_len encFixV_len encFixV_take load_fix parts_fix
end Pay
