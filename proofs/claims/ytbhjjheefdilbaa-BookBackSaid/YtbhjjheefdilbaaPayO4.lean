/- What is added, and taken back, is as if it had never been: for every input; no condition. -/
import Derived.Test.YtbhjjheefdilbaaRows
import Derived.Test.YtbhjjheefdilbaaPayBkCheck
import Derived.Test.YtbhjjheefdilbaaPayC21
import Derived.Test.YtbhjjheefdilbaaPayEd
import Derived.WalkKit
import Derived.ProofKit
import Derived.OpenShut
namespace Go.Proofs.Ytbhjjheefdilbaa.back
open Go.ChangeShapes Go.WideShapes Go.ChangeAt Go.RowKit
set_option linter.unusedVariables false

theorem own : ownKnob Try.prog.godebug = none := by kernel_rfl
theorem laidOut : laidOutB Try.prog = true := by kernel_rfl

noncomputable def ctx : Pay.Ctx := { P := Try.prog, φ := Pay.phi, mixed := by kernel_rfl, gi := fun _ => True, base := 0, keep := fun _ _ _ _ => trivial }

theorem bookK : Pay.BookK ctx := by
  have hLive : ∀ (l : List Pay.Ent) (at_ : Int), l.length < 1000 → Pay.SoundAt ctx 9 ⟨[Pay.vBook l, Pay.vI at_], Pay.looko []⟩ ⟨Pay.vB (Pay.liveS l at_), Pay.looko []⟩ :=
    fun l at_ hl => Pay.bookLive Pay.ok_g_book_Live Pay.ok_g_slices_ContainsFunc_Entry Pay.ok_g_slices_IndexFunc_Entry Pay.ok_g_book_Live_1 l at_ hl
  have hFind : ∀ (l : List Pay.Ent) (id per : Int), l.length < 1000 → Pay.SoundAt ctx 8 ⟨[Pay.vBook l, Pay.vI id, Pay.vI per], Pay.looko []⟩ ⟨Pay.vI (Pay.findS l id per), Pay.looko []⟩ :=
    fun l id per hl => Pay.bookFind Pay.ok_g_book_Find hLive l id per hl
  have hClone : ∀ l : List Pay.Ent, l.length < 1000 → Pay.SoundAt ctx 14 ⟨[Pay.vEnts l], Pay.looko []⟩ ⟨.own 7, Pay.looko [(7, some (.row 22 (l.map Pay.enc)))]⟩ :=
    fun l hl => Pay.clone Pay.ok_g_slices_Clone_Entry l hl
  exact ⟨hLive, hFind, fun l e hl => Pay.bookAdd Pay.ok_g_book_Add hFind hClone l e hl, fun l at_ hl => Pay.bookReverse Pay.ok_g_book_Reverse hLive hClone l at_ hl,
    fun l id year funds hl => Pay.bookYear Pay.ok_g_book_Year (fun m xs ys ha => Pay.bookadd Pay.ok_g_book_add m xs ys ha) (fun l id hl => Pay.bookAlive Pay.ok_g_book_alive l id hl) l id year funds hl⟩

theorem moreK : Pay.MoreK ctx := by
  have hRef : ∀ e : Pay.Ent, e.lines.length < 1000 → e.fixes.length < 1000 → Pay.SoundAt ctx 12 ⟨[Pay.vEnt e], Pay.looko []⟩ ⟨Pay.vEnt e, Pay.looko []⟩ := fun e h1 h2 => Pay.refOk Pay.ok_g_law17_Ref e h1 h2
  have hAl : ∀ (l : List Pay.Ent) (id : Int), l.length < 1000 → Pay.SoundAt ctx 18 ⟨[Pay.vBook l, Pay.vI id], Pay.looko []⟩ ⟨Pay.vEnts (Pay.aliveS l id), Pay.looko []⟩ := fun l id hl => Pay.bookAlive Pay.ok_g_book_alive l id hl
  exact ⟨Pay.awakeOk Pay.ok_g_law17_awake bookK, fun l => Pay.refs Pay.ok_g_law17_refs hRef l, fun l id per hl hok => Pay.bookKnown Pay.ok_g_book_Known (fun s x => Pay.known1 Pay.ok_g_book_Known_1 s x) hAl l id per hl (fun e he => (hok e (Pay.filt_mem0 he)).2.2.2.2),
    fun l id os hl ho hok => Pay.bookBal Pay.ok_g_book_Balances (fun l hl => Pay.cloneO Pay.ok_g_slices_Clone_Order l hl) hAl l id os hl ho (fun e he => (hok e he).2.2.2.1), fun y h1 h2 => Pay.sameYear Pay.ok_g_ref14_Same y h1 h2⟩

theorem ord_of {e : List Pay.D} (h : Pay.ConfC e Pay.fixSh) : ∃ x : Pay.Ord, e = Pay.encO x := by
  obtain ⟨d1, r, rfl, h1, h⟩ := Pay.confC_cons h
  obtain ⟨d2, r, rfl, h2, h⟩ := Pay.confC_cons h
  obtain ⟨d3, r, rfl, h3, h⟩ := Pay.confC_cons h
  obtain ⟨d4, r, rfl, h4, h⟩ := Pay.confC_cons h
  obtain rfl := Pay.confC_nil h
  obtain ⟨a, rfl, _⟩ := Pay.conf_int h1
  obtain ⟨b, rfl, _⟩ := Pay.conf_int h2
  obtain ⟨c, rfl, _⟩ := Pay.conf_int h3
  obtain ⟨d, rfl, _⟩ := Pay.conf_int h4
  exact ⟨⟨a, b, c, d⟩, rfl⟩

theorem walk (l : List Pay.Ent) (e : Pay.Ent) (x1 x2 : Int) (os : List Pay.Ord) (W : World) (v0 v1 v4 : Value) (h0 : Pay.RepV ctx W (Pay.okW W) (fun _ => undef) (Pay.vBook l) v0) (h1 : Pay.RepV ctx W (Pay.okW W) (fun _ => undef) (Pay.vEnt e) v1)
    (h4 : Pay.RepD W (Pay.okW W) (.sl (os.map Pay.encO)) v4) :
    Calls Try.prog 5 #[v0, v1, .int .i64 x1, .int .i64 x2, v4] W fun e W' => e = .returned (.bool true) ∧ Below W.heap.size W W' :=
  Pay.SoundAt.calls (C := ctx) (Pay.bookBack Pay.ok_g_law17_BookBack bookK moreK l e x1 x2 os) Try.func5 (by kernel_rfl) (by kernel_rfl) trivial (Nat.zero_le _) (us := [v0, v1, .int .i64 x1, .int .i64 x2, v4])
    ⟨v0, _, rfl, h0, v1, _, rfl, h1, _, _, rfl, rfl, _, _, rfl, rfl, v4, _, rfl, h4, rfl⟩

theorem shBook : Pay.shapes Try.prog 8 24 = some [.sl Pay.entSh] := by kernel_rfl
theorem shOrd : Pay.shapes Try.prog 8 62 = some [.sl Pay.fixSh] := by kernel_rfl
theorem shEnt : Pay.shapes Try.prog 8 33 = some Pay.entSh := by kernel_rfl

set_option maxRecDepth 100000 in
theorem lifted (os : Os) (started : os.Started) (H : Type) (enc : TypeId × Value → H) :
    ReturnsInHanded {} Try.checked os 5 .any (Rows.bookBackSpec.pre6 enc Try.prog Try.f5 Rows.bookBackRow.domain false) (Rows.bookBackSpec.post enc Try.prog Try.f5 false true false false) := by
  refine returnsInHanded_of_change (C := Try.checked) own started (by kernel_rfl) Try.func5
    (ChangeSpec.witness6 (enc := enc) (C := Try.checked) false ⟨#[], #[.agg #[.slice none 0 0], .agg #[.int .i64 0, .int .i64 0, .int .i64 0, .int .i64 0, .int .i64 0, .slice none 0 0, .int .i64 0, .int .i64 0, .int .i64 0, .int .i64 0, .int .i64 0, .int .i64 0, .int .i64 0, .int .i64 0, .int .i64 0, .int .i64 0, .int .i64 0, .int .i64 0, .slice none 0 0, .slice none 0 0, .slice none 0 0, .slice none 0 0], .int .i64 0, .int .i64 0, .slice none 0 0], []⟩ 8 (by kernel_rfl) (by kernel_rfl) (by kernel_rfl) (by kernel_rfl)) ?_
  intro W base args ds gs before hval0 hW hcnd _
  have hval : ∀ (j : Nat) t v, Try.f5.params[j]? = some t → args[j]? = some v → Value.okWide Try.prog W .any base t v := hval0
  have hW' := hW
  obtain ⟨p, q, hA0, hV, rfl, hfz, hnd⟩ := hW
  have hA : DataW.TrodAll enc Try.prog W 0 (fun _ => true) true Try.f5.params.toList args.toList ds p := hA0
  rw [Try.params5] at hA hval
  obtain ⟨v0, vs0, d0, ds0, p0, q0, hargs, rfl, rfl, h0, r0⟩ := trodAll_cons hA
  obtain ⟨v1, vs1, d1, ds1, p1, q1, rfl, rfl, rfl, h1, r1⟩ := trodAll_cons r0
  obtain ⟨v2, vs2, d2, ds2, p2, q2, rfl, rfl, rfl, h2, r2⟩ := trodAll_cons r1
  obtain ⟨v3, vs3, d3, ds3, p3, q3, rfl, rfl, rfl, h3, r3⟩ := trodAll_cons r2
  obtain ⟨v4, vs4, d4, ds4, p4, q4, rfl, rfl, rfl, h4, r4⟩ := trodAll_cons r3
  obtain ⟨rfl, rfl, rfl⟩ := trodAll_nil r4
  obtain rfl : args = #[v0, v1, v2, v3, v4] := by cases args; simp_all
  obtain ⟨rfl, rfl⟩ := trodVars_none hV
  have k0 := h0
  have k1 := h1
  obtain ⟨x2, rfl, rfl, rfl, w2⟩ := open_int Try.underlying3 (hval 2 3 v2 rfl rfl) h2
  obtain ⟨x3, rfl, rfl, rfl, w3⟩ := open_int Try.underlying3 (hval 3 3 v3 rfl rfl) h3
  have k4 := h4
  have hv4 := hval 4 62 v4 rfl rfl
  obtain ⟨a4, len4, cap4, rfl⟩ := okWide_slice Try.underlying62 hv4
  obtain ⟨xo, co, so⟩ := Pay.arg_cell shOrd (Pay.slice_cells _ _ _) h4
  obtain ⟨eo, rfl, ko⟩ := Pay.conf_sl co
  obtain ⟨os, rfl⟩ := Pay.map_of (enc := Pay.encO) (fun _ h => ord_of h) eo ko
  have hlt4 : ∀ x ∈ p4, x.block < W.heap.size := fun x hx => hW'.lt x (by simp [hx])
  obtain ⟨b0, c0, s0⟩ := Pay.arg_struct (C := ctx) (γ := fun _ => undef) Try.underlying24 shBook (hval 0 24 v0 rfl rfl) h0
  obtain ⟨b1, c1, s1⟩ := Pay.arg_struct (C := ctx) (γ := fun _ => undef) Try.underlying33 shEnt (hval 1 33 v1 rfl rfl) h1
  obtain ⟨l, rfl⟩ := Pay.ents_of c0
  obtain ⟨e, rfl⟩ := Pay.ent_of c1
  have hlt0 : ∀ x ∈ p0, x.block < W.heap.size := fun x hx => hW'.lt x (by simp [hx])
  have hlt1 : ∀ x ∈ p1, x.block < W.heap.size := fun x hx => hW'.lt x (by simp [hx])
  clear hA0 hval0
  refine (walk l e x2 x3 os W v0 v1 _ s0 s1 so).mono fun e W' ⟨he, hg⟩ => ?_
  subst he
  exact ⟨_, rfl, _, _, _, [], p0 ++ (p1 ++ ([] ++ ([] ++ (p4 ++ [])))), [], hW', trodAll_mk1 (shut_bool Try.underlying4 true),
    trodAll_cons_mk (Below.trod laidOut (by kernel_rfl) (of_decide_eq_true (by kernel_rfl)) k0 hg hlt0) (trodAll_cons_mk (Below.trod laidOut (by kernel_rfl) (of_decide_eq_true (by kernel_rfl)) k1 hg hlt1)
      (trodAll_cons_mk (shut_int Try.underlying3 w2) (trodAll_cons_mk (shut_int Try.underlying3 w3) (trodAll_cons_mk (Below.trod laidOut (by kernel_rfl) (of_decide_eq_true (by kernel_rfl)) k4 hg hlt4) trodAll_mk0)))), rfl, hg.frame _, fun h => by cases h⟩

theorem holds : Rows.BookBackSaid :=
  OpenClaim.holds_of_wide 5 Try.f5 rfl rfl rfl rfl rfl rfl rfl ⟨rfl, rfl, rfl, rfl, rfl⟩ rfl rfl rfl rfl rfl (by kernel_rfl) Try.func5 (by kernel_rfl)
    (of_decide_eq_true (by kernel_rfl)) (by unfold Func.isWrapper; first | (rw [if_pos (by decide +kernel)]; kernel_rfl) | (rw [if_neg (by decide +kernel)]; exact ⟨rfl, rfl⟩))
    (fun os started H enc _ => lifted os started H enc)
#print axioms holds
end Go.Proofs.Ytbhjjheefdilbaa.back
