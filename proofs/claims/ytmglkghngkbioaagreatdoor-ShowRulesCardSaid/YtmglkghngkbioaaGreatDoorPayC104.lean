/- The law of a text's lines: ShowRules. -/
import Derived.Test.YtmglkghngkbioaaGreatDoorPayC102
import Derived.Test.YtmglkghngkbioaaGreatDoorPayC32
import Derived.Test.YtmglkghngkbioaaGreatDoorPayC41
import Derived.Test.YtmglkghngkbioaaGreatDoorPayC48
import Derived.Test.YtmglkghngkbioaaGreatDoorPayC61
import Derived.Test.YtmglkghngkbioaaGreatDoorPayC63
import Derived.Test.YtmglkghngkbioaaGreatDoorPayMSw5
import Derived.Test.YtmglkghngkbioaaGreatDoorPayMTr1
import Derived.Test.YtmglkghngkbioaaGreatDoorPaySh1_0
import Derived.Test.YtmglkghngkbioaaGreatDoorPaySw9
set_option linter.unusedSimpArgs false
set_option linter.unusedVariables false
namespace Pay
open Go
attribute [local irreducible] wpB opsB treeB drawB
theorem cnt_step {t : List UInt8} {i : Nat} (h : i < t.length) (d : UInt8) : ((t.take (i + 1)).count d : Nat) = (t.take i).count d + (if t[i] == d then 1 else 0) := by
  rw [List.take_add_one, List.getElem?_eq_getElem h, List.count_append]
  simp [List.count_cons]
theorem rules_loop {C : Ctx} {I : Nat → Prop} {Q : Ex → St → Prop} {p : Prog} {t : List UInt8} (hE : Ends10 t) (hl : t.length < 100000)
    (hT : ∀ s o, s 3 = .ptr 3 0 → s 6 = vS t → s 7 = vI 0 → s 8 = vI (t.count 10 : Nat) → o 3 = some (.box [.d (.sl (p.rules.map encRl)), .d (.sl (p.exprs.map encX))]) → Q (.exit 0) (St.mk s o)) :
    ∀ (m i : Nat), i + m = t.length →
      wpB C I g_law09_ShowRules.l0 (St.mk (look [(3, .ptr 3 0), (6, vS t), (7, vI 0), (8, vI ((t.take i).count 10 : Nat)), (35, vI t.length), (36, vI i)]) (looko [(3, some (.box [.d (.sl (p.rules.map encRl)), .d (.sl (p.exprs.map encX))]))])) Q := by
  intro m
  induction m with
  | zero =>
    intro i hi
    have : i = t.length := by omega
    subst this
    refine g_law09_ShowRules_l0_sh rfl ?_
    rw [List.take_length]
    repeat (first | simp only [go_sem, Int.lt_irrefl, decide_false] | refine Unf.h ?_)
    exact hT _ _ rfl rfl rfl rfl rfl
  | succ m ih =>
    intro i hi
    have hlt : i < t.length := by omega
    have hlt' : ((i : Int) < (t.length : Int)) := by omega
    have he := List.getElem?_eq_getElem hlt
    have hw : IntKind.i64.wrap ((i : Int) + 1) = ((i + 1 : Nat) : Int) := by rw [wrapI (by omega) (by omega)]; omega
    have hc := cnt_step hlt 10
    have hb : ((t[i].toNat : Int) == 10) = (t[i] == 10) := byte_eq t[i] 10
    have ih' := ih (i + 1) (by omega)
    rw [hc] at ih'
    have hcl : (t.take i).count 10 ≤ t.length := Nat.le_trans List.count_le_length (by rw [List.length_take]; omega)
    refine g_law09_ShowRules_l0_sh rfl ?_
    cases h10 : (t[i] == 10) with
    | false =>
      rw [h10] at hb ih'
      simp only [Bool.false_eq_true, if_false, Nat.add_zero] at ih'
      repeat (first | simp only [go_sem, hlt', decide_true, Int.natCast_nonneg, Int.toNat_natCast, he, hb, hw] | refine Unf.h ?_)
      exact ih'
    | true =>
      have e10 : t[i] = 10 := by simpa using h10
      rw [h10] at hb ih'
      simp only [if_true] at ih'
      obtain ⟨j, rfl, hj⟩ := hE i (by rw [he, e10])
      have hjl : j < t.length := by omega
      have h59 : t[j]? = some 59 := hj
      have hwc : IntKind.i64.wrap (((t.take (j + 1)).count 10 : Nat) + 1 : Int) = (((t.take (j + 1)).count 10 + 1 : Nat) : Int) := by rw [wrapI (by omega) (by omega)]; omega
      have hz : (((j + 1 : Nat) : Int) == 0) = false := by rw [beq_eq_false_iff_ne]; omega
      have hs : IntKind.i64.wrap (((j + 1 : Nat) : Int) - 1) = (j : Int) := by rw [wrapI (by omega) (by omega)]; omega
      have hjl' : ((j : Int) < (t.length : Int)) := by omega
      repeat (first | simp only [go_sem, hlt', hjl', decide_true, Int.natCast_nonneg, Int.toNat_natCast, he, hb, hw, hwc, hz, hs, h59, bne] | refine Unf.h ?_)
      exact ih'
theorem lawShowRules {C : Ctx} (h : okFn C.P C.φ 182 g_law09_ShowRules = true) (K : L9 C) (s : List UInt8) : SoundAt C 182 ⟨[vS s], looko []⟩ ⟨vB true, looko []⟩ := by
  have ha := K.awake
  refine SoundAt.of_run h rfl (fun Q hR hN => ?_)
  rw [entry1]
  by_cases h1 : s.length ≤ 500
  case neg =>
    have b1 : ((s.length : Int) > 500) := by omega
    repeat (first | simp only [go_sem, b1, decide_true] | refine Unf.h ?_ | refine And.intro ?_ (noRv_of (by simp only [go_sem])) | refine callK_plain (ha) (fun _ => rfl) ?_ | refine callE_plain (ha) (fun _ => rfl) ?_ | refine ⟨_, ha, fun _ => rfl, ?_⟩)
    refine hR _ ?_
    simp only [go_sem]
  have b1 : ¬ ((s.length : Int) > 500) := by omega
  rcases read_facts s (by omega) with hb | ⟨l, hl⟩
  · obtain ⟨a, e, he, t1⟩ := parse_bad K.sh.parse (by omega) hb
    repeat (first | simp only [go_sem, b1, decide_false, he, bne] | refine Unf.h ?_ | refine And.intro ?_ (noRv_of (by simp only [go_sem])) | refine callK_plain (t1) (fun _ => rfl) ?_ | refine callE_plain (t1) (fun _ => rfl) ?_ | refine ⟨_, t1, fun _ => rfl, ?_⟩ | refine callK_plain (ha) (fun _ => rfl) ?_ | refine callE_plain (ha) (fun _ => rfl) ?_ | refine ⟨_, ha, fun _ => rfl, ?_⟩)
    refine hR _ ?_
    simp only [go_sem]
  · obtain ⟨t1, t2, t3, t4, t5⟩ := K.told hl (by omega)
    have htl := prog_text_len hl.rts hl.many (by have := hl.size; omega)
    obtain ⟨hE, hE2⟩ := prog_ends l hl.rts
    have hO := (prog_open l hl.rts).2
    have hrl : (progOf l).rules.length = l.length := rulesOf_len l 0
    clear t3 t4 t5
    generalize progTx l = tx at *
    generalize progOf l = pr at *
    have lp : ∀ {I : Nat → Prop} {Q : Ex → St → Prop}, (∀ s o, s 3 = .ptr 3 0 → s 6 = vS tx → s 7 = vI 0 → s 8 = vI (tx.count 10 : Nat) → o 3 = some (.box [.d (.sl (pr.rules.map encRl)), .d (.sl (pr.exprs.map encX))]) → Q (.exit 0) (St.mk s o)) →
        wpB C I g_law09_ShowRules.l0 (St.mk (look [(3, .ptr 3 0), (6, vS tx), (7, vI 0), (8, vI 0), (35, vI tx.length), (36, vI 0)]) (looko [(3, some (.box [.d (.sl (pr.rules.map encRl)), .d (.sl (pr.exprs.map encX))]))])) Q := by
      intro I Q hT
      have e := rules_loop (C := C) (I := I) (Q := Q) hE htl hT tx.length 0 (by omega)
      rw [List.take_zero, List.count_nil] at e
      exact e
    repeat (first | simp only [go_sem, b1, decide_false, bne] | refine Unf.h ?_ | refine And.intro ?_ (noRv_of (by simp only [go_sem])) | refine callK_plain (t1) (fun _ => rfl) ?_ | refine callE_plain (t1) (fun _ => rfl) ?_ | refine ⟨_, t1, fun _ => rfl, ?_⟩ | refine callK_plain (t2) (fun _ => rfl) ?_ | refine callE_plain (t2) (fun _ => rfl) ?_ | refine ⟨_, t2, fun _ => rfl, ?_⟩ | refine callK_plain (ha) (fun _ => rfl) ?_ | refine callE_plain (ha) (fun _ => rfl) ?_ | refine ⟨_, ha, fun _ => rfl, ?_⟩)
    refine lp (fun s o h3 h6 h7 h8 ho => ?_)
    have e1 : ((tx.count 10 : Int) == (pr.rules.length : Int)) = true := by rw [hO, hrl]; exact beq_self_eq_true _
    rcases hE2 with hn | hlast
    · subst hn
      repeat (first | simp only [go_sem, h3, h6, h7, h8, ho, e1, List.length_map] | refine Unf.h ?_ | refine And.intro ?_ (noRv_of (by simp only [go_sem])) | refine callK_plain (ha) (fun _ => rfl) ?_ | refine callE_plain (ha) (fun _ => rfl) ?_ | refine ⟨_, ha, fun _ => rfl, ?_⟩)
      refine hR _ ?_
      simp only [go_sem]
    · have hne : (tx == []) = false := by cases tx with
        | nil => simp at hlast
        | cons _ _ => rfl
      have hpos : 0 < tx.length := by cases tx with
        | nil => simp at hlast
        | cons _ _ => simp
      rw [List.getLast?_eq_getElem?] at hlast
      have hw : IntKind.i64.wrap ((tx.length : Int) - 1) = ((tx.length - 1 : Nat) : Int) := by rw [wrapI (by omega) (by omega)]; omega
      have hlt : (((tx.length - 1 : Nat) : Int) < (tx.length : Int)) := by omega
      repeat (first | simp only [go_sem, h3, h6, h7, h8, ho, e1, List.length_map, hne, hw, hlt, hlast, Int.natCast_nonneg, Int.toNat_natCast] | refine Unf.h ?_ | refine And.intro ?_ (noRv_of (by simp only [go_sem])) | refine callK_plain (ha) (fun _ => rfl) ?_ | refine callE_plain (ha) (fun _ => rfl) ?_ | refine ⟨_, ha, fun _ => rfl, ?_⟩)
      refine hR _ ?_
      simp only [go_sem]
end Pay
