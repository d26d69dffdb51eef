/- The law of an expression's text: ShowExprs. -/
import Derived.Test.YtmglkghngkbioaaGreatDoorPayC102
import Derived.Test.YtmglkghngkbioaaGreatDoorPayC32
import Derived.Test.YtmglkghngkbioaaGreatDoorPayC48
import Derived.Test.YtmglkghngkbioaaGreatDoorPayMSw5
import Derived.Test.YtmglkghngkbioaaGreatDoorPayMTr1
import Derived.Test.YtmglkghngkbioaaGreatDoorPaySh3_0
import Derived.Test.YtmglkghngkbioaaGreatDoorPaySw10
set_option linter.unusedSimpArgs false
set_option linter.unusedVariables false
namespace Pay
open Go
attribute [local irreducible] wpB opsB treeB drawB
theorem lawShowExprs {C : Ctx} (h : okFn C.P C.φ 183 g_law09_ShowExprs = true) (K : L9 C) (s : List UInt8) (i : Nat) (hi : i < 65536) : SoundAt C 183 ⟨[vS s, .d (.int .u16 i)], looko []⟩ ⟨vB true, looko []⟩ := by
  have ha := K.awake
  refine SoundAt.of_run h rfl (fun Q hR hN => ?_)
  rw [entry2]
  by_cases h1 : s.length ≤ 400
  case neg =>
    have b1 : ((s.length : Int) > 400) := by omega
    repeat (first | simp only [go_sem, b1, decide_true] | refine Unf.h ?_ | refine And.intro ?_ (noRv_of (by simp only [go_sem])) | refine callK_plain (ha) (fun _ => rfl) ?_ | refine callE_plain (ha) (fun _ => rfl) ?_ | refine ⟨_, ha, fun _ => rfl, ?_⟩)
    refine hR _ ?_
    simp only [go_sem]
  have b1 : ¬ ((s.length : Int) > 400) := by omega
  rcases read_facts s (by omega) with hb | ⟨l, hl⟩
  · obtain ⟨a, e, he, t1⟩ := parse_bad K.sh.parse (by omega) hb
    repeat (first | simp only [go_sem, b1, decide_false, he, bne] | refine Unf.h ?_ | refine And.intro ?_ (noRv_of (by simp only [go_sem])) | refine callK_plain (t1) (fun _ => rfl) ?_ | refine callE_plain (t1) (fun _ => rfl) ?_ | refine ⟨_, t1, fun _ => rfl, ?_⟩ | refine callK_plain (ha) (fun _ => rfl) ?_ | refine callE_plain (ha) (fun _ => rfl) ?_ | refine ⟨_, ha, fun _ => rfl, ?_⟩)
    refine hR _ ?_
    simp only [go_sem]
  · obtain ⟨t1, t2, t3, t4, t5⟩ := K.told hl (by omega)
    have hx := hl.size
    have hE := prog_okE hl.rts hl.many (by omega)
    have htl := prog_text_len hl.rts hl.many (by omega)
    have hr := prog_rules hl.many
    by_cases h0 : (progOf l).exprs.length = 0
    · have b2 : (((progOf l).exprs.length : Int) == 0) = true := by simp [h0]
      generalize progOf l = pr at *
      repeat (first | simp only [go_sem, b1, decide_false, bne, List.length_map, b2] | refine Unf.h ?_ | refine And.intro ?_ (noRv_of (by simp only [go_sem])) | refine callK_plain (t1) (fun _ => rfl) ?_ | refine callE_plain (t1) (fun _ => rfl) ?_ | refine ⟨_, t1, fun _ => rfl, ?_⟩ | refine callK_plain (ha) (fun _ => rfl) ?_ | refine callE_plain (ha) (fun _ => rfl) ?_ | refine ⟨_, ha, fun _ => rfl, ?_⟩)
      refine hR _ ?_
      simp only [go_sem]
    · have b2 : (((progOf l).exprs.length : Int) == 0) = false := beq_eq_false_iff_ne.2 (fun e => h0 (Int.ofNat_inj.1 e))
      obtain ⟨j, hj⟩ : ∃ j, i % (progOf l).exprs.length = j := ⟨_, rfl⟩
      have hjl : j < (progOf l).exprs.length := by rw [← hj]; exact Nat.mod_lt _ (Nat.pos_of_ne_zero h0)
      obtain ⟨u, m, hu⟩ := sub_prog (es := (progOf l).exprs) l 0 j hl.rts (At.self _) (Nat.zero_le _) (by rw [Nat.zero_add]; exact hjl)
      have hum : m + u.size ≤ (progOf l).exprs.length := by have := hu.hi; rw [Nat.zero_add] at this; exact this
      have t6 := K.sh.expr (progOf l) j (by omega) hE (fun _ => by rw [text_prog hl.rts]; exact htl)
      have e6 : exprW (progOf l) j = (prT u 0, 0) := by
        unfold exprW
        rw [show_prog hl.rts hl.many, if_pos ⟨rfl, Int.natCast_nonneg _, Int.ofNat_lt.2 hjl⟩, hu.eq, write_tree hu.wf hu.at_ hum]
      rw [e6] at t6
      have hok : ∀ q ∈ [RT.mk wLet wX u], RtOk q := fun q hq => by simp only [List.mem_singleton] at hq; subst hq; exact one_ok hu.wf hu.nd
      have hpl := prT_len u 0 hu.wf
      have hus : u.size ≤ 400 := by omega
      have hlen1 : (oneX u).length < 100000 := by simp only [oneX, List.length_append, List.length_cons, List.length_nil]; omega
      have t7 := K.sh.parse (oneX u) hlen1
      rw [one_parse hu.wf hu.nd] at t7
      have hxs : (progOf [RT.mk wLet wX u]).exprs = flat 0 u := by simp [progOf, exprsOf]
      have hxl : (progOf [RT.mk wLet wX u]).exprs.length = u.size := by rw [hxs, flat_len]
      have hrl : (progOf [RT.mk wLet wX u]).rules.length = 1 := rfl
      have hE2 := prog_okE hok (by simp) (by rw [hxl]; omega)
      have up := u.pos
      have t8 := K.sh.expr (progOf [RT.mk wLet wX u]) (u.size - 1 : Nat) (by rw [hrl]; omega) hE2 (fun _ => by rw [text_prog hok]; exact prog_text_len hok (by simp) (by rw [hxl]; omega))
      have e8 : exprW (progOf [RT.mk wLet wX u]) (u.size - 1 : Nat) = (prT u 0, 0) := by
        unfold exprW
        have hw := write_tree (es := (progOf [RT.mk wLet wX u]).exprs) (t := u) (n := 0) hu.wf (by rw [hxs]; exact At.self _) (by rw [hxl]; omega)
        rw [Nat.zero_add] at hw
        rw [show_prog hok (by simp), if_pos ⟨rfl, by omega, by rw [hxl]; omega⟩, hw]
      rw [e8] at t8
      have hmod : ((i : Int)).tmod ((progOf l).exprs.length : Int) = (j : Int) := by rw [← hj]; exact (Int.ofNat_tmod _ _).symm
      have hwi := wrapI (x := (i : Int)) (by omega) (by omega)
      have hwj := wrapI (x := (j : Int)) (by omega) (by omega)
      have hw1 : IntKind.i64.wrap ((u.size : Int) - 1) = ((u.size - 1 : Nat) : Int) := by rw [wrapI (by omega) (by omega)]; omega
      have hle : (u.size : Int) ≤ ((progOf l).exprs.length : Int) := by omega
      have hnz : ¬ (((progOf l).exprs.length : Int) = 0) := by omega
      have hone : 108 :: 101 :: 116 :: 32 :: 120 :: 32 :: 61 :: 32 :: (prT u 0 ++ [59]) = oneX u := rfl
      clear t2 t3 t4 t5
      generalize progOf l = pr at *
      generalize progOf [RT.mk wLet wX u] = pr2 at *
      repeat (first | simp only [go_sem, b1, decide_false, bne, List.length_map, b2, hmod, hwi, hwj, hnz, demand_if, List.length_append] | refine Unf.h ?_ | refine And.intro ?_ (noRv_of (by simp only [go_sem])) | refine callK_plain (t1) (fun _ => rfl) ?_ | refine callE_plain (t1) (fun _ => rfl) ?_ | refine ⟨_, t1, fun _ => rfl, ?_⟩ | refine callK_plain (t6) (fun _ => rfl) ?_ | refine callE_plain (t6) (fun _ => rfl) ?_ | refine ⟨_, t6, fun _ => rfl, ?_⟩ | refine callK_plain (ha) (fun _ => rfl) ?_ | refine callE_plain (ha) (fun _ => rfl) ?_ | refine ⟨_, ha, fun _ => rfl, ?_⟩ | refine And.intro (by omega) ?_)
      rw [hone]
      repeat (first | simp only [go_sem, hone, hxl, hrl, bne, List.length_map, hw1, hle, decide_true, Int.natCast_one] | refine Unf.h ?_ | refine And.intro ?_ (noRv_of (by simp only [go_sem])) | refine callK_plain (t7) (fun _ => rfl) ?_ | refine callE_plain (t7) (fun _ => rfl) ?_ | refine ⟨_, t7, fun _ => rfl, ?_⟩ | refine callK_plain (t8) (fun _ => rfl) ?_ | refine callE_plain (t8) (fun _ => rfl) ?_ | refine ⟨_, t8, fun _ => rfl, ?_⟩ | refine callK_plain (ha) (fun _ => rfl) ?_ | refine callE_plain (ha) (fun _ => rfl) ?_ | refine ⟨_, ha, fun _ => rfl, ?_⟩)
      refine hR _ ?_
      simp only [go_sem]
end Pay
