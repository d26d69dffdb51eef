/- Of one person and period there is never more than one live entry, however it is added and taken back: for every list of acts; no condition. -/
import Derived.Test.YtbhjjheefdilbaaRows
import Derived.Test.YtbhjjheefdilbaaPayBkCheck
import Derived.Test.YtbhjjheefdilbaaPayC10
import Derived.Test.YtbhjjheefdilbaaPayY
import Derived.WalkKit
import Derived.ProofKit
import Derived.OpenShut
namespace Go.Proofs.Ytbhjjheefdilbaa.once
open Go.ChangeShapes Go.WideShapes Go.ChangeAt Go.RowKit
set_option linter.unusedVariables false

theorem own : ownKnob Try.prog.godebug = none := by kernel_rfl
theorem laidOut : laidOutB Try.prog = true := by kernel_rfl

noncomputable def ctx : Pay.Ctx := { P := Try.prog, φ := Pay.phi, mixed := by kernel_rfl, gi := fun _ => True, base := 0, keep := fun _ _ _ _ => trivial }

theorem bookK : Pay.BookK ctx := by
  have hLive : ∀ (l : List Pay.Ent) (at_ : Int), l.length < 1000 → Pay.SoundAt ctx 9 ⟨[Pay.vBook l, Pay.vI at_], Pay.looko []⟩ ⟨Pay.vB (Pay.liveS l at_), Pay.looko []⟩ :=
    fun l at_ hl => Pay.bookLive Pay.ok_g_book_Live Pay.ok_g_slices_ContainsFunc_Entry Pay.ok_g_slices_IndexFunc_Entry Pay.ok_g_book_Live_1 l at_ hl
  have hFind : ∀ (l : List Pay.Ent) (id per : Int), l.length < 1000 → Pay.SoundAt ctx 8 ⟨[Pay.vBook l, Pay.vI id, Pay.vI per], Pay.looko []⟩ ⟨Pay.vI (Pay.findS l id per), Pay.looko []⟩ :=
    fun l id per hl => Pay.bookFind Pay.ok_g_book_Find hLive l id per hl
  have hClone : ∀ l : List Pay.Ent, l.length < 1000 → Pay.SoundAt ctx 14 ⟨[Pay.vEnts l], Pay.looko []⟩ ⟨.own 7, Pay.looko [(7, some (.row 22 (l.map Pay.enc)))]⟩ :=
    fun l hl => Pay.clone Pay.ok_g_slices_Clone_Entry l hl
  exact ⟨hLive, hFind, fun l e hl => Pay.bookAdd Pay.ok_g_book_Add hFind hClone l e hl, fun l at_ hl => Pay.bookReverse Pay.ok_g_book_Reverse hLive hClone l at_ hl,
    fun l id year funds hl => Pay.bookYear Pay.ok_g_book_Year (fun m xs ys ha => Pay.bookadd Pay.ok_g_book_add m xs ys ha) (fun l id hl => Pay.bookAlive Pay.ok_g_book_alive l id hl) l id year funds hl⟩

theorem walk (acts : List UInt8) (W : World) (v : Value) (h : Pay.RepD W (Pay.okW W) (.sl (acts.map Pay.encU)) v) :
    Calls Try.prog 4 #[v] W fun e W' => e = .returned (.bool true) ∧ Below W.heap.size W W' :=
  Pay.SoundAt.calls (C := ctx) (Pay.bookOnce Pay.ok_g_law17_BookOnce bookK Pay.onceLaw (Pay.awakeOk Pay.ok_g_law17_awake bookK) acts) Try.func4 (by kernel_rfl) (by kernel_rfl) trivial (Nat.zero_le _) (us := [v]) ⟨v, [], rfl, h, rfl⟩

/-- A slice of bytes that came in, as data. -/
theorem bytes_rep {W : World} {a : Addr} {len cap : Nat} {zs : List Int} (hl : len ≤ cap) (hz : zs.length = cap) (hc : ∀ i, i < zs.length → W.cell? (a.add i) = some (.int .u8 (zs.getD i 0))) (hw : ∀ n ∈ zs, (Lit.int .u8 n).wf = true) :
    ∃ acts : List UInt8, Pay.RepD W (Pay.okW W) (.sl (acts.map Pay.encU)) (.slice (some a) len cap) := by
  have hb : ∀ n ∈ zs, 0 ≤ n ∧ n ≤ 255 := fun n hn => bounds_u8 (hw n hn)
  refine ⟨(zs.take len).map (fun n => UInt8.ofNat n.toNat), ?_⟩
  have hlen : (((zs.take len).map (fun n => UInt8.ofNat n.toNat)).map Pay.encU).length = len := by simp; omega
  refine ⟨some a, cap, 1, by rw [hlen], by rw [hlen]; exact hl, fun e he => ?_, fun hne => ⟨a, rfl, ?_, ?_⟩⟩
  · obtain ⟨b, _, rfl⟩ := List.mem_map.1 he
    rfl
  · cases hz' : zs.take len with
    | nil => rw [hz'] at hne; exact absurd rfl hne
    | cons n r =>
      have h0 : 0 < zs.length := by
        have := congrArg List.length hz'
        simp at this; omega
      have := Pay.block_lt (hc 0 h0)
      rwa [Pay.add_block] at this
  · rw [List.map_map]
    refine Pay.ones_rep (enc := fun n : Int => .int .u8 (UInt8.ofNat n.toNat).toNat) (val := fun n => .int .u8 ((UInt8.ofNat n.toNat).toNat : Int)) (fun x => rfl) _ 0 (fun i x hx => ?_)
    have hi : i < zs.length := by
      have := (List.getElem?_eq_some_iff.1 hx).1
      simp at this; omega
    have hx' : zs[i] = x := by
      have := (List.getElem?_eq_some_iff.1 hx).2
      simpa using this
    have hb' := hb x (by rw [← hx']; exact List.getElem_mem hi)
    have hv : ((UInt8.ofNat x.toNat).toNat : Int) = x := by
      rw [UInt8.toNat_ofNat']; omega
    rw [Nat.zero_add, hc i hi, hv]
    simp [List.getD, hi, hx']

set_option maxRecDepth 100000 in
theorem lifted (os : Os) (started : os.Started) (H : Type) (enc : TypeId × Value → H) :
    ReturnsInHanded {} Try.checked os 4 .any (Rows.bookOnceSpec.pre6 enc Try.prog Try.f4 Rows.bookOnceRow.domain false) (Rows.bookOnceSpec.post enc Try.prog Try.f4 false true false false) := by
  refine returnsInHanded_of_change (C := Try.checked) own started (by kernel_rfl) Try.func4
    (ChangeSpec.witness6 (enc := enc) (C := Try.checked) false ⟨#[], #[.slice none 0 0], []⟩ 8 (by kernel_rfl) (by kernel_rfl) (by kernel_rfl) (by kernel_rfl)) ?_
  intro W base args ds gs before hval0 hW hcnd _
  have hval : ∀ (j : Nat) t v, Try.f4.params[j]? = some t → args[j]? = some v → Value.okWide Try.prog W .any base t v := hval0
  have hW' := hW
  obtain ⟨p, q, hA0, hV, rfl, hfz, hnd⟩ := hW
  have hA : DataW.TrodAll enc Try.prog W 0 (fun _ => true) true Try.f4.params.toList args.toList ds p := hA0
  rw [Try.params4] at hA hval
  obtain ⟨v0, d0, rfl, rfl, h0⟩ := trodAll_one hA
  obtain ⟨rfl, rfl⟩ := trodVars_none hV
  have h0k := h0
  have hlt : ∀ x ∈ p, x.block < W.heap.size := fun x hx => hW'.lt x (by simpa using hx)
  obtain ⟨a0, len0, cap0, rfl⟩ := okWide_slice Try.underlying56 (hval 0 56 v0 rfl rfl)
  have hrep : ∃ acts : List UInt8, Pay.RepD W (Pay.okW W) (.sl (acts.map Pay.encU)) (.slice a0 len0 cap0) := by
    obtain ⟨fuel, hf⟩ := h0
    have hcE : Try.prog.cellsOf 5 = 1 := by kernel_rfl
    rcases open_ints Try.underlying56 Try.underlying5 hcE hf with ⟨hcs, hx⟩ | ⟨a, len', cap', zs, hcs, _, hl, hm, hz, hx, hcell, hwz⟩
    · simp [Value.cells] at hcs
      obtain ⟨rfl, rfl, rfl⟩ := hcs
      exact ⟨[], none, 0, 1, rfl, Nat.le_refl _, fun e he => (by cases he), fun h => absurd rfl h⟩
    · simp [Value.cells] at hcs
      obtain ⟨rfl, rfl, rfl⟩ := hcs
      exact bytes_rep hl (by simpa using hz) hcell hwz
  obtain ⟨acts, hrep⟩ := hrep
  clear hA0 hval0
  simp only [List.append_nil] at hW'
  refine (walk acts W _ hrep).mono fun e W' ⟨he, hg⟩ => ?_
  subst he
  exact ⟨_, rfl, _, _, _, [], p, [], hW', trodAll_mk1 (shut_bool Try.underlying4 true), trodAll_mk1 (Below.trod laidOut (by kernel_rfl) (of_decide_eq_true (by kernel_rfl)) h0k hg hlt), rfl, hg.frame _, fun h => by cases h⟩

theorem holds : Rows.BookOnceSaid :=
  OpenClaim.holds_of_wide 4 Try.f4 rfl rfl rfl rfl rfl rfl rfl ⟨rfl, rfl, rfl, rfl, rfl⟩ rfl rfl rfl rfl rfl (by kernel_rfl) Try.func4 (by kernel_rfl)
    (of_decide_eq_true (by kernel_rfl)) (by unfold Func.isWrapper; first | (rw [if_pos (by decide +kernel)]; kernel_rfl) | (rw [if_neg (by decide +kernel)]; exact ⟨rfl, rfl⟩))
    (fun os started H enc _ => lifted os started H enc)
#print axioms holds
end Go.Proofs.Ytbhjjheefdilbaa.once
