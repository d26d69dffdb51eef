/- Entries that came in, as typed data. -/
import Derived.Test.YtbhjjheefdilbaaPayZ
import Derived.Test.YtbhjjheefdilbaaPayW
set_option linter.unusedSimpArgs false
set_option linter.unusedVariables false
namespace Pay
open Go

def iSh : Sh := .int .i64
def lineSh : List Sh := [.str, .str, iSh]
def fixSh : List Sh := [iSh, iSh, iSh, iSh]
def entSh : List Sh := [iSh, iSh, iSh, iSh, iSh, .sl lineSh, iSh, iSh, iSh, iSh, iSh, iSh, iSh, iSh, iSh, iSh, iSh, iSh, .sl [iSh], .sl [iSh], .sl [iSh], .sl fixSh]
theorem int_of {e : List D} (h : ConfC e [iSh]) : ∃ x : Int, e = encI x := by
  obtain ⟨d, r, rfl, h1, h⟩ := confC_cons h
  obtain rfl := confC_nil h
  obtain ⟨n, rfl, _⟩ := conf_int h1
  exact ⟨n, rfl⟩
theorem line_of {e : List D} (h : ConfC e lineSh) : ∃ x : Line, e = encLine x := by
  obtain ⟨d1, r, rfl, h1, h⟩ := confC_cons h
  obtain ⟨d2, r, rfl, h2, h⟩ := confC_cons h
  obtain ⟨d3, r, rfl, h3, h⟩ := confC_cons h
  obtain rfl := confC_nil h
  obtain ⟨a, rfl⟩ := conf_str h1
  obtain ⟨b, rfl⟩ := conf_str h2
  obtain ⟨n, rfl, _⟩ := conf_int h3
  exact ⟨⟨a, b, n⟩, rfl⟩
theorem fix_of {e : List D} (h : ConfC e fixSh) : ∃ x : Int × Sums, e = encFix x := by
  obtain ⟨d1, r, rfl, h1, h⟩ := confC_cons h
  obtain ⟨d2, r, rfl, h2, h⟩ := confC_cons h
  obtain ⟨d3, r, rfl, h3, h⟩ := confC_cons h
  obtain ⟨d4, r, rfl, h4, h⟩ := confC_cons h
  obtain rfl := confC_nil h
  obtain ⟨a, rfl, _⟩ := conf_int h1
  obtain ⟨b, rfl, _⟩ := conf_int h2
  obtain ⟨c, rfl, _⟩ := conf_int h3
  obtain ⟨d, rfl, _⟩ := conf_int h4
  exact ⟨(a, ⟨b, c, d⟩), rfl⟩
theorem ent_of {e : List D} (h : ConfC e entSh) : ∃ x : Ent, e = enc x := by
  obtain ⟨d0, r, rfl, h0, h⟩ := confC_cons h
  obtain ⟨d1, r, rfl, h1, h⟩ := confC_cons h
  obtain ⟨d2, r, rfl, h2, h⟩ := confC_cons h
  obtain ⟨d3, r, rfl, h3, h⟩ := confC_cons h
  obtain ⟨d4, r, rfl, h4, h⟩ := confC_cons h
  obtain ⟨d5, r, rfl, h5, h⟩ := confC_cons h
  obtain ⟨d6, r, rfl, h6, h⟩ := confC_cons h
  obtain ⟨d7, r, rfl, h7, h⟩ := confC_cons h
  obtain ⟨d8, r, rfl, h8, h⟩ := confC_cons h
  obtain ⟨d9, r, rfl, h9, h⟩ := confC_cons h
  obtain ⟨d10, r, rfl, h10, h⟩ := confC_cons h
  obtain ⟨d11, r, rfl, h11, h⟩ := confC_cons h
  obtain ⟨d12, r, rfl, h12, h⟩ := confC_cons h
  obtain ⟨d13, r, rfl, h13, h⟩ := confC_cons h
  obtain ⟨d14, r, rfl, h14, h⟩ := confC_cons h
  obtain ⟨d15, r, rfl, h15, h⟩ := confC_cons h
  obtain ⟨d16, r, rfl, h16, h⟩ := confC_cons h
  obtain ⟨d17, r, rfl, h17, h⟩ := confC_cons h
  obtain ⟨d18, r, rfl, h18, h⟩ := confC_cons h
  obtain ⟨d19, r, rfl, h19, h⟩ := confC_cons h
  obtain ⟨d20, r, rfl, h20, h⟩ := confC_cons h
  obtain ⟨d21, r, rfl, h21, h⟩ := confC_cons h
  obtain rfl := confC_nil h
  obtain ⟨x0, rfl, _⟩ := conf_int h0
  obtain ⟨x1, rfl, _⟩ := conf_int h1
  obtain ⟨x2, rfl, _⟩ := conf_int h2
  obtain ⟨x3, rfl, _⟩ := conf_int h3
  obtain ⟨x4, rfl, _⟩ := conf_int h4
  obtain ⟨e5, rfl, k5⟩ := conf_sl h5
  obtain ⟨x5, rfl⟩ := map_of (enc := encLine) (fun _ h => line_of h) e5 k5
  obtain ⟨x6, rfl, _⟩ := conf_int h6
  obtain ⟨x7, rfl, _⟩ := conf_int h7
  obtain ⟨x8, rfl, _⟩ := conf_int h8
  obtain ⟨x9, rfl, _⟩ := conf_int h9
  obtain ⟨x10, rfl, _⟩ := conf_int h10
  obtain ⟨x11, rfl, _⟩ := conf_int h11
  obtain ⟨x12, rfl, _⟩ := conf_int h12
  obtain ⟨x13, rfl, _⟩ := conf_int h13
  obtain ⟨x14, rfl, _⟩ := conf_int h14
  obtain ⟨x15, rfl, _⟩ := conf_int h15
  obtain ⟨x16, rfl, _⟩ := conf_int h16
  obtain ⟨x17, rfl, _⟩ := conf_int h17
  obtain ⟨e18, rfl, k18⟩ := conf_sl h18
  obtain ⟨x18, rfl⟩ := map_of (enc := encI) (fun _ h => int_of h) e18 k18
  obtain ⟨e19, rfl, k19⟩ := conf_sl h19
  obtain ⟨x19, rfl⟩ := map_of (enc := encI) (fun _ h => int_of h) e19 k19
  obtain ⟨e20, rfl, k20⟩ := conf_sl h20
  obtain ⟨x20, rfl⟩ := map_of (enc := encI) (fun _ h => int_of h) e20 k20
  obtain ⟨e21, rfl, k21⟩ := conf_sl h21
  obtain ⟨x21, rfl⟩ := map_of (enc := encFix) (fun _ h => fix_of h) e21 k21
  exact ⟨⟨x0, x1, x2, x3, x4, x5, ⟨x6, x7, x8⟩, ⟨x9, x10, x11⟩, x12, x13, x14, x15, x16, x17, x18, x19, x20, x21⟩, rfl⟩
theorem ents_of {e : List D} (h : ConfC e [.sl entSh]) : ∃ xs : List Ent, e = [.sl (xs.map enc)] := by
  obtain ⟨d, r, rfl, h1, h⟩ := confC_cons h
  obtain rfl := confC_nil h
  obtain ⟨es, rfl, k⟩ := conf_sl h1
  obtain ⟨xs, rfl⟩ := map_of (enc := enc) (fun _ h => ent_of h) es k
  exact ⟨xs, rfl⟩
end Pay
