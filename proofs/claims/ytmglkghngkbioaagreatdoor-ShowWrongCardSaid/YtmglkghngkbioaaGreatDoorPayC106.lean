/- The law of a program that is turned somewhere: ShowWrong. -/
import Derived.Test.YtmglkghngkbioaaGreatDoorPayC102
import Derived.Test.YtmglkghngkbioaaGreatDoorPayC32
import Derived.Test.YtmglkghngkbioaaGreatDoorPayC65
import Derived.Test.YtmglkghngkbioaaGreatDoorPayCkC
import Derived.Test.YtmglkghngkbioaaGreatDoorPayMSw5
import Derived.Test.YtmglkghngkbioaaGreatDoorPayMTr1
import Derived.Test.YtmglkghngkbioaaGreatDoorPaySh0_0
import Derived.Test.YtmglkghngkbioaaGreatDoorPaySh0_1
set_option linter.unusedSimpArgs false
set_option linter.unusedVariables false
namespace Pay
open Go
attribute [local irreducible] wpB opsB treeB drawB
def turnX (k : Nat) (b : Int) (w : List UInt8) (x : Xpr) : Xpr :=
  if k = 0 then { x with a := IntKind.i64.wrap (x.a + b) } else if k = 1 then { x with b := IntKind.i64.wrap (x.b + b) } else if k = 2 then { x with c := IntKind.i64.wrap (x.c + b) }
  else if k = 3 then { x with val := IntKind.i64.wrap (x.val + b) } else if k = 4 then { x with name := w } else { x with op := w }
theorem wrap_range (n : Int) : IRange (IntKind.i64.wrap n) := by
  rw [IntKind.wrap_i64]
  exact ⟨by omega, by omega⟩
theorem turn_val {k : Nat} {b : Int} {w : List UInt8} {x : Xpr} (h : IRange x.val) : IRange (turnX k b w x).val := by
  unfold turnX
  split
  · exact h
  split
  · exact h
  split
  · exact h
  split
  · exact wrap_range _
  split
  · exact h
  · exact h
abbrev cX (x : Xpr) : List V := [vS x.op, vS x.name, vI x.val, vI x.a, vI x.b, vI x.c]
theorem wrong_turn {C : Ctx} {I : Nat → Prop} {Q : Ex → St → Prop} {i j : Nat} {b : Int} {w : List UInt8} {x : Xpr} {R : V} {es : List (List D)} (hi : i < 65536) (hb : -128 ≤ b ∧ b < 128)
    (hK : wpB C I g_law09_ShowWrong.c9 (St.mk (look [(1, .d (.int .u16 i)), (12, .ptr 12 0), (13, .ptr 13 0)]) (looko [(12, some (.box [R, .own 54])), (13, some (.box (cX (turnX (i / 256 % 6) b w x)))), (51, none), (54, some (.row 6 es))])) Q) :
    wpB C I g_law09_ShowWrong.c10 (St.mk (look [(1, .d (.int .u16 i)), (2, .d (.int .i8 b)), (3, vS w), (12, .ptr 12 0), (13, .ptr 13 0)]) (looko [(12, some (.box [R, .own 54])), (13, some (.box (cX x))), (51, none), (54, some (.row 6 es))])) Q := by
  obtain ⟨k, hk⟩ : ∃ k, i / 256 % 6 = k := ⟨_, rfl⟩
  have hk6 : k < 6 := by omega
  rw [hk] at hK
  have e1 : ((i : Int)).tdiv 256 = ((i / 256 : Nat) : Int) := (Int.ofNat_tdiv _ _).symm
  have e2 : (((i / 256 : Nat) : Int)).tmod 6 = (k : Int) := by rw [← hk]; exact (Int.ofNat_tmod _ _).symm
  have w1 : IntKind.u16.wrap ((i / 256 : Nat) : Int) = ((i / 256 : Nat) : Int) := by
    have e : ∀ n : Int, IntKind.u16.wrap n = n % 65536 := fun n => by simp [IntKind.wrap, IntKind.bits, IntKind.signed]
    rw [e]; omega
  have w2 := wrapI (x := b) (by omega) (by omega)
  match k, hk6, e2, hK with
  | 0, _, e2, hK | 1, _, e2, hK | 2, _, e2, hK | 3, _, e2, hK | 4, _, e2, hK | 5, _, e2, hK =>
    simp only [go_sem, turnX] at hK
    repeat (first | simp only [go_sem, e1, e2, w1, w2] | refine g_law09_ShowWrong_c10_sh.mpr ?_)
    first | exact hK | (trace_state; sorry)
theorem lawShowWrong {C : Ctx} (h : okFn C.P C.φ 180 g_law09_ShowWrong = true) (K : L9 C) (s : List UInt8) (i : Nat) (hi : i < 65536) (b : Int) (hb : -128 ≤ b ∧ b < 128) (w : List UInt8) :
    SoundAt C 180 ⟨[vS s, .d (.int .u16 i), .d (.int .i8 b), vS w], looko []⟩ ⟨vB true, looko []⟩ := by
  have ha := K.awake
  refine SoundAt.of_run h rfl (fun Q hR hN => ?_)
  rw [entry4]
  by_cases h1 : s.length ≤ 300
  case neg =>
    have b1 : ((s.length : Int) > 300) := by omega
    repeat (first | simp only [go_sem, b1, decide_true] | refine Unf.h ?_ | refine And.intro ?_ (noRv_of (by simp only [go_sem])) | refine callK_plain (ha) (fun _ => rfl) ?_ | refine callE_plain (ha) (fun _ => rfl) ?_ | refine ⟨_, ha, fun _ => rfl, ?_⟩)
    refine hR _ ?_
    simp only [go_sem]
  have b1 : ¬ ((s.length : Int) > 300) := by omega
  by_cases h2 : w.length ≤ 20
  case neg =>
    have b2 : ((w.length : Int) > 20) := by omega
    repeat (first | simp only [go_sem, b1, b2, decide_true, decide_false] | refine Unf.h ?_ | refine And.intro ?_ (noRv_of (by simp only [go_sem])) | refine callK_plain (ha) (fun _ => rfl) ?_ | refine callE_plain (ha) (fun _ => rfl) ?_ | refine ⟨_, ha, fun _ => rfl, ?_⟩)
    refine hR _ ?_
    simp only [go_sem]
  have b2 : ¬ ((w.length : Int) > 20) := by omega
  rcases read_facts s (by omega) with hbad | ⟨l, hl⟩
  · obtain ⟨a, e, he, t1⟩ := parse_bad K.sh.parse (by omega) hbad
    repeat (first | simp only [go_sem, b1, b2, decide_false, he, bne, List.length_map, List.length_nil] | refine Unf.h ?_ | refine And.intro ?_ (noRv_of (by simp only [go_sem])) | refine callK_plain (t1) (fun _ => rfl) ?_ | refine callE_plain (t1) (fun _ => rfl) ?_ | refine ⟨_, t1, fun _ => rfl, ?_⟩ | refine callK_plain (ha) (fun _ => rfl) ?_ | refine callE_plain (ha) (fun _ => rfl) ?_ | refine ⟨_, ha, fun _ => rfl, ?_⟩)
    refine hR _ ?_
    simp only [go_sem]
  · obtain ⟨t1, t2, t3, t4, t5⟩ := K.told hl (by omega)
    have hx := hl.size
    have hE := prog_okE hl.rts hl.many (by omega)
    have hr := prog_rules hl.many
    by_cases h0 : (progOf l).exprs.length = 0
    · have b3 : (((progOf l).exprs.length : Int) == 0) = true := by simp [h0]
      generalize progOf l = pr at *
      repeat (first | simp only [go_sem, b1, b2, decide_false, bne, List.length_map, b3] | refine Unf.h ?_ | refine And.intro ?_ (noRv_of (by simp only [go_sem])) | refine callK_plain (t1) (fun _ => rfl) ?_ | refine callE_plain (t1) (fun _ => rfl) ?_ | refine ⟨_, t1, fun _ => rfl, ?_⟩ | refine callK_plain (ha) (fun _ => rfl) ?_ | refine callE_plain (ha) (fun _ => rfl) ?_ | refine ⟨_, ha, fun _ => rfl, ?_⟩)
      refine hR _ ?_
      simp only [go_sem]
    · have b3 : (((progOf l).exprs.length : Int) == 0) = false := beq_eq_false_iff_ne.2 (fun e => h0 (Int.ofNat_inj.1 e))
      obtain ⟨j, hj⟩ : ∃ j, i % (progOf l).exprs.length = j := ⟨_, rfl⟩
      have hjl : j < (progOf l).exprs.length := by rw [← hj]; exact Nat.mod_lt _ (Nat.pos_of_ne_zero h0)
      have hmod : ((i : Int)).tmod ((progOf l).exprs.length : Int) = (j : Int) := by rw [← hj]; exact (Int.ofNat_tmod _ _).symm
      have hwi := wrapI (x := (i : Int)) (by omega) (by omega)
      have hnz : ¬ (((progOf l).exprs.length : Int) = 0) := by omega
      have eg := List.getElem?_eq_getElem hjl
      obtain ⟨x, hxx⟩ : ∃ x, (progOf l).exprs[j] = x := ⟨_, rfl⟩
      rw [hxx] at eg
      have hvx := hE.vals x (List.mem_of_getElem? eg)
      have hvs : ∀ y ∈ (progOf l).exprs.set j (turnX (i / 256 % 6) b w x), IRange y.val := by
        intro y hy
        rcases List.mem_or_eq_of_mem_set hy with h | h
        · exact hE.vals y h
        · rw [h]; exact turn_val hvx
      have hset : ((progOf l).exprs.map encX).set j (encX (turnX (i / 256 % 6) b w x)) = ((progOf l).exprs.set j (turnX (i / 256 % 6) b w x)).map encX := (List.map_set).symm
      have tx := K.sh.text ⟨(progOf l).rules, (progOf l).exprs.set j (turnX (i / 256 % 6) b w x)⟩ (by show (progOf l).rules.length < _; omega) (by show ((progOf l).exprs.set _ _).length < _; rw [List.length_set]; omega) hvs
        (fun hs => turn_text hl.rts hl.many (by omega) hvs hs)
      have htb : soundP ⟨(progOf l).rules, (progOf l).exprs.set j (turnX (i / 256 % 6) b w x)⟩ = true → (textW ⟨(progOf l).rules, (progOf l).exprs.set j (turnX (i / 256 % 6) b w x)⟩).length < 100000 := fun hs => turn_text hl.rts hl.many (by omega) hvs hs
      have wt := @wrong_turn C (fun _ => False) Q i j b w x
      have tref := K.ref ⟨(progOf l).rules, (progOf l).exprs.set j (turnX (i / 256 % 6) b w x)⟩ (by show (progOf l).rules.length * 40 ≤ _; omega) (by show ((progOf l).exprs.set _ _).length < _; rw [List.length_set]; omega)
      have tsame := K.same ⟨(progOf l).rules, (progOf l).exprs.set j (turnX (i / 256 % 6) b w x)⟩ ⟨(progOf l).rules, (progOf l).exprs.set j (turnX (i / 256 % 6) b w x)⟩ (by show (progOf l).rules.length < _; omega) (by show ((progOf l).exprs.set _ _).length < _; rw [List.length_set]; omega)
      rw [decide_eq_true rfl] at tsame
      have hcs := show_cases ⟨(progOf l).rules, (progOf l).exprs.set j (turnX (i / 256 % 6) b w x)⟩
      generalize turnX (i / 256 % 6) b w x = x' at *
      clear t2 t3 t4 t5
      generalize progOf l = pr at *
      have hjl' : ((j : Int) < (pr.exprs.length : Int)) := by omega
      have hbd : pr.exprs.length * 64 ≤ 140737488355328 := by omega
      have hbd2 : pr.exprs.length ≤ 140737488355328 := by omega
      repeat (first | simp only [go_sem, b1, b2, decide_false, bne, List.length_map, b3] | refine Unf.h ?_ | refine And.intro ?_ (noRv_of (by simp only [go_sem])) | refine callK_plain (t1) (fun _ => rfl) ?_ | refine callE_plain (t1) (fun _ => rfl) ?_ | refine ⟨_, t1, fun _ => rfl, ?_⟩ | refine callK_plain (ha) (fun _ => rfl) ?_ | refine callE_plain (ha) (fun _ => rfl) ?_ | refine ⟨_, ha, fun _ => rfl, ?_⟩)
      suffices key : wpB C (fun _ => False) g_law09_ShowWrong.c11 (St.mk (look [(1, .d (.int .u16 i)), (2, .d (.int .i8 b)), (3, vS w), (12, .ptr 12 0)]) (looko [(12, some (.box [.d (.sl (pr.rules.map encRl)), .own 54])), (51, none), (54, some (.row 6 (pr.exprs.map encX)))])) Q by
        repeat' (first | exact key | simp only [go_sem, encX_all, hbd, hbd2, List.length_map, ↓scrub_updF, ↓thaw_scrub_updF, ↓scrub_updoF, ↓thaw_scrub_updoF, ↓scrub_lookF, ↓scrub_lookoF, ↓thaw_updF, ↓thaw_scrubF, ↓thaw_lookF, ↓thaw_updoF, ↓thaw_scruboF, ↓thaw_lookoF] | refine Unf.h ?_ | refine And.intro ?_ (noRv_of (by simp only [go_sem])) | refine And.intro ?_ ?_)
      repeat (first | simp only [go_sem, List.length_map, hwi, hnz, hmod, hjl', Int.natCast_nonneg, Int.toNat_natCast, getMap encX eg, encX] | refine g_law09_ShowWrong_c11_sh.mpr ?_)
      refine wt hi hb ?_
      repeat (first | simp only [go_sem, List.length_map, hwi, hnz, hmod, hjl', Int.natCast_nonneg, Int.toNat_natCast, getMap encX eg, encX] | refine g_law09_ShowWrong_c9_sh.mpr ?_)
      have hset' : (pr.exprs.map encX).set j [D.str x'.op, D.str x'.name, D.int IntKind.i64 x'.val, D.int IntKind.i64 x'.a, D.int IntKind.i64 x'.b, D.int IntKind.i64 x'.c] = (pr.exprs.set j x').map encX := hset
      rw [hset']
      rcases hcs with e | ⟨e, hs, a, ep⟩
      · rw [e] at tx
        generalize pr.exprs.set j x' = es at *
        repeat (first | simp only [go_sem, bne] | refine Unf.h ?_ | refine And.intro ?_ (noRv_of (by simp only [go_sem])) | refine callK_plain (tx) (fun _ => rfl) ?_ | refine callE_plain (tx) (fun _ => rfl) ?_ | refine ⟨_, tx, fun _ => rfl, ?_⟩ | refine callK_plain (ha) (fun _ => rfl) ?_ | refine callE_plain (ha) (fun _ => rfl) ?_ | refine ⟨_, ha, fun _ => rfl, ?_⟩)
        refine hR _ ?_
        simp only [go_sem]
      · rw [e] at tx
        have tp := K.sh.parse _ (htb hs)
        rw [ep] at tp
        have tp : SoundAt C 144 ⟨[vS (textW ⟨pr.rules, pr.exprs.set j x'⟩)], looko []⟩ ⟨.tup [vProg ⟨pr.rules, pr.exprs.set j x'⟩, vI a, vI 0], looko []⟩ := tp
        generalize textW ⟨pr.rules, pr.exprs.set j x'⟩ = tt at *
        generalize pr.exprs.set j x' = es at *
        repeat (first | simp only [go_sem, bne] | refine Unf.h ?_ | refine And.intro ?_ (noRv_of (by simp only [go_sem])) | refine callK_plain (tx) (fun _ => rfl) ?_ | refine callE_plain (tx) (fun _ => rfl) ?_ | refine ⟨_, tx, fun _ => rfl, ?_⟩ | refine callK_plain (tp) (fun _ => rfl) ?_ | refine callE_plain (tp) (fun _ => rfl) ?_ | refine ⟨_, tp, fun _ => rfl, ?_⟩ | refine callK_plain (tref) (fun _ => rfl) ?_ | refine callE_plain (tref) (fun _ => rfl) ?_ | refine ⟨_, tref, fun _ => rfl, ?_⟩ | refine callK_plain (tsame) (fun _ => rfl) ?_ | refine callE_plain (tsame) (fun _ => rfl) ?_ | refine ⟨_, tsame, fun _ => rfl, ?_⟩ | refine callK_plain (ha) (fun _ => rfl) ?_ | refine callE_plain (ha) (fun _ => rfl) ?_ | refine ⟨_, ha, fun _ => rfl, ?_⟩)
        refine hR _ ?_
        simp only [go_sem]
end Pay
