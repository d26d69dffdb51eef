/- The law of a text's brackets: ShowBare. -/
import Derived.Test.YtmglkghngkbioaaGreatDoorPayC102
import Derived.Test.YtmglkghngkbioaaGreatDoorPayC32
import Derived.Test.YtmglkghngkbioaaGreatDoorPayC41
import Derived.Test.YtmglkghngkbioaaGreatDoorPayC63
import Derived.Test.YtmglkghngkbioaaGreatDoorPayMSw5
import Derived.Test.YtmglkghngkbioaaGreatDoorPayMTr1
import Derived.Test.YtmglkghngkbioaaGreatDoorPaySh1_0
import Derived.Test.YtmglkghngkbioaaGreatDoorPaySw9
set_option linter.unusedSimpArgs false
set_option linter.unusedVariables false
namespace Pay
open Go
attribute [local irreducible] wpB opsB treeB drawB
theorem bare_loop0 {C : Ctx} {I : Nat → Prop} {Q : Ex → St → Prop} {s t : List UInt8} (hl : t.length < 100000)
    (hT : ∀ u o, u 0 = vS s → u 7 = vI 0 → u 8 = vI (t.count 40 : Nat) → u 9 = vI 0 → Q (.exit 0) (St.mk u o)) :
    ∀ (m i : Nat), i + m = t.length →
      wpB C I g_law09_ShowBare.l0 (St.mk (look [(0, vS s), (6, vS t), (7, vI 0), (8, vI ((t.take i).count 40 : Nat)), (9, vI 0), (37, vI t.length), (38, vI i)]) (looko [])) Q := by
  intro m
  induction m with
  | zero =>
    intro i hi
    have : i = t.length := by omega
    subst this
    refine g_law09_ShowBare_l0_sh rfl ?_
    rw [List.take_length]
    repeat (first | simp only [go_sem, Int.lt_irrefl, decide_false] | refine Unf.h ?_)
    exact hT _ _ rfl rfl rfl rfl
  | succ m ih =>
    intro i hi
    have hlt : i < t.length := by omega
    have hlt' : ((i : Int) < (t.length : Int)) := by omega
    have he := List.getElem?_eq_getElem hlt
    have hw : IntKind.i64.wrap ((i : Int) + 1) = ((i + 1 : Nat) : Int) := by rw [wrapI (by omega) (by omega)]; omega
    have hc := cnt_step hlt 40
    have hb : ((t[i].toNat : Int) == 40) = (t[i] == 40) := byte_eq t[i] 40
    have ih' := ih (i + 1) (by omega)
    rw [hc] at ih'
    have hcl : (t.take i).count 40 ≤ t.length := Nat.le_trans List.count_le_length (by rw [List.length_take]; omega)
    refine g_law09_ShowBare_l0_sh rfl ?_
    cases h10 : (t[i] == 40) with
    | false =>
      rw [h10] at hb ih'
      simp only [Bool.false_eq_true, if_false, Nat.add_zero] at ih'
      repeat (first | simp only [go_sem, hlt', decide_true, Int.natCast_nonneg, Int.toNat_natCast, he, hb, hw] | refine Unf.h ?_)
      exact ih'
    | true =>
      rw [h10] at hb ih'
      simp only [if_true] at ih'
      have hwc : IntKind.i64.wrap (((t.take i).count 40 : Nat) + 1 : Int) = (((t.take i).count 40 + 1 : Nat) : Int) := by rw [wrapI (by omega) (by omega)]; omega
      repeat (first | simp only [go_sem, hlt', decide_true, Int.natCast_nonneg, Int.toNat_natCast, he, hb, hw, hwc] | refine Unf.h ?_)
      exact ih'
theorem bare_loop1 {C : Ctx} {I : Nat → Prop} {Q : Ex → St → Prop} {s : List UInt8} {n : Int} (hl : s.length < 100000)
    (hT : ∀ u o, u 7 = vI 0 → u 8 = vI n → u 9 = vI (s.count 40 : Nat) → Q (.exit 2) (St.mk u o)) :
    ∀ (m i : Nat), i + m = s.length →
      wpB C I g_law09_ShowBare.l1 (St.mk (look [(0, vS s), (7, vI 0), (8, vI n), (9, vI ((s.take i).count 40 : Nat)), (49, vI s.length), (50, vI i)]) (looko [])) Q := by
  intro m
  induction m with
  | zero =>
    intro i hi
    have : i = s.length := by omega
    subst this
    refine g_law09_ShowBare_l1_sh rfl ?_
    rw [List.take_length]
    repeat (first | simp only [go_sem, Int.lt_irrefl, decide_false] | refine Unf.h ?_)
    exact hT _ _ rfl rfl rfl
  | succ m ih =>
    intro i hi
    have hlt : i < s.length := by omega
    have hlt' : ((i : Int) < (s.length : Int)) := by omega
    have he := List.getElem?_eq_getElem hlt
    have hw : IntKind.i64.wrap ((i : Int) + 1) = ((i + 1 : Nat) : Int) := by rw [wrapI (by omega) (by omega)]; omega
    have hc := cnt_step hlt 40
    have hb : ((s[i].toNat : Int) == 40) = (s[i] == 40) := byte_eq s[i] 40
    have ih' := ih (i + 1) (by omega)
    rw [hc] at ih'
    have hcl : (s.take i).count 40 ≤ s.length := Nat.le_trans List.count_le_length (by rw [List.length_take]; omega)
    refine g_law09_ShowBare_l1_sh rfl ?_
    cases h10 : (s[i] == 40) with
    | false =>
      rw [h10] at hb ih'
      simp only [Bool.false_eq_true, if_false, Nat.add_zero] at ih'
      repeat (first | simp only [go_sem, hlt', decide_true, Int.natCast_nonneg, Int.toNat_natCast, he, hb, hw] | refine Unf.h ?_)
      exact ih'
    | true =>
      rw [h10] at hb ih'
      simp only [if_true] at ih'
      have hwc : IntKind.i64.wrap (((s.take i).count 40 : Nat) + 1 : Int) = (((s.take i).count 40 + 1 : Nat) : Int) := by rw [wrapI (by omega) (by omega)]; omega
      repeat (first | simp only [go_sem, hlt', decide_true, Int.natCast_nonneg, Int.toNat_natCast, he, hb, hw, hwc] | refine Unf.h ?_)
      exact ih'
theorem lawShowBare {C : Ctx} (h : okFn C.P C.φ 181 g_law09_ShowBare = true) (K : L9 C) (s : List UInt8) : SoundAt C 181 ⟨[vS s], looko []⟩ ⟨vB true, looko []⟩ := by
  have ha := K.awake
  refine SoundAt.of_run h rfl (fun Q hR hN => ?_)
  rw [entry1]
  by_cases h1 : s.length ≤ 300
  case neg =>
    have b1 : ((s.length : Int) > 300) := by omega
    repeat (first | simp only [go_sem, b1, decide_true] | refine Unf.h ?_ | refine And.intro ?_ (noRv_of (by simp only [go_sem])) | refine callK_plain (ha) (fun _ => rfl) ?_ | refine callE_plain (ha) (fun _ => rfl) ?_ | refine ⟨_, ha, fun _ => rfl, ?_⟩)
    refine hR _ ?_
    simp only [go_sem]
  have b1 : ¬ ((s.length : Int) > 300) := by omega
  rcases read_facts s (by omega) with hb | ⟨l, hl⟩
  · obtain ⟨a, e, he, t1⟩ := parse_bad K.sh.parse (by omega) hb
    repeat (first | simp only [go_sem, b1, decide_false, he, bne] | refine Unf.h ?_ | refine And.intro ?_ (noRv_of (by simp only [go_sem])) | refine callK_plain (t1) (fun _ => rfl) ?_ | refine callE_plain (t1) (fun _ => rfl) ?_ | refine ⟨_, t1, fun _ => rfl, ?_⟩ | refine callK_plain (ha) (fun _ => rfl) ?_ | refine callE_plain (ha) (fun _ => rfl) ?_ | refine ⟨_, ha, fun _ => rfl, ?_⟩)
    refine hR _ ?_
    simp only [go_sem]
  · obtain ⟨t1, t2, t3, t4, t5⟩ := K.told hl (by omega)
    have htl := prog_text_len hl.rts hl.many (by have := hl.size; omega)
    have hO := (prog_open l hl.rts).1
    have hcn := hl.cnt
    rw [← hO] at hcn
    clear t3 t4 t5
    generalize progTx l = tx at *
    generalize progOf l = pr at *
    have lp0 : ∀ {I : Nat → Prop} {Q : Ex → St → Prop}, (∀ u o, u 0 = vS s → u 7 = vI 0 → u 8 = vI (tx.count 40 : Nat) → u 9 = vI 0 → Q (.exit 0) (St.mk u o)) →
        wpB C I g_law09_ShowBare.l0 (St.mk (look [(0, vS s), (6, vS tx), (7, vI 0), (8, vI 0), (9, vI 0), (37, vI tx.length), (38, vI 0)]) (looko [])) Q := by
      intro I Q hT
      have e := bare_loop0 (C := C) (I := I) (Q := Q) (s := s) htl hT tx.length 0 (by omega)
      rw [List.take_zero, List.count_nil] at e
      exact e
    have lp1 : ∀ {I : Nat → Prop} {Q : Ex → St → Prop} {n : Int}, (∀ u o, u 7 = vI 0 → u 8 = vI n → u 9 = vI (s.count 40 : Nat) → Q (.exit 2) (St.mk u o)) →
        wpB C I g_law09_ShowBare.l1 (St.mk (look [(0, vS s), (7, vI 0), (8, vI n), (9, vI 0), (49, vI s.length), (50, vI 0)]) (looko [])) Q := by
      intro I Q n hT
      have e := bare_loop1 (C := C) (I := I) (Q := Q) (s := s) (n := n) (by omega) hT s.length 0 (by omega)
      rw [List.take_zero, List.count_nil] at e
      exact e
    have hle : ((tx.count 40 : Int) ≤ (s.count 40 : Int)) := by omega
    repeat (first | simp only [go_sem, b1, decide_false, bne] | refine Unf.h ?_ | refine And.intro ?_ (noRv_of (by simp only [go_sem])) | refine callK_plain (t1) (fun _ => rfl) ?_ | refine callE_plain (t1) (fun _ => rfl) ?_ | refine ⟨_, t1, fun _ => rfl, ?_⟩ | refine callK_plain (t2) (fun _ => rfl) ?_ | refine callE_plain (t2) (fun _ => rfl) ?_ | refine ⟨_, t2, fun _ => rfl, ?_⟩ | refine callK_plain (ha) (fun _ => rfl) ?_ | refine callE_plain (ha) (fun _ => rfl) ?_ | refine ⟨_, ha, fun _ => rfl, ?_⟩)
    refine lp0 (fun u o h0 h7 h8 h9 => ?_)
    repeat (first | simp only [go_sem, h0, h7, h8, h9] | refine Unf.h ?_ | refine And.intro ?_ (noRv_of (by simp only [go_sem])) | refine callK_plain (ha) (fun _ => rfl) ?_ | refine callE_plain (ha) (fun _ => rfl) ?_ | refine ⟨_, ha, fun _ => rfl, ?_⟩)
    refine lp1 (fun u o h7 h8 h9 => ?_)
    repeat (first | simp only [go_sem, h7, h8, h9, hle, decide_true] | refine Unf.h ?_ | refine And.intro ?_ (noRv_of (by simp only [go_sem])) | refine callK_plain (ha) (fun _ => rfl) ?_ | refine callE_plain (ha) (fun _ => rfl) ?_ | refine ⟨_, ha, fun _ => rfl, ?_⟩)
    refine hR _ ?_
    simp only [go_sem]
end Pay
