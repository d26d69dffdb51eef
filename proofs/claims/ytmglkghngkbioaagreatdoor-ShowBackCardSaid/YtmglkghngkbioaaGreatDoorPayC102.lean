/- The law of texts, there and back: ShowBack. -/
import Derived.Test.YtmglkghngkbioaaGreatDoorPayC101
import Derived.Test.YtmglkghngkbioaaGreatDoorPayC32
import Derived.Test.YtmglkghngkbioaaGreatDoorPayC65
import Derived.Test.YtmglkghngkbioaaGreatDoorPayC66
import Derived.Test.YtmglkghngkbioaaGreatDoorPaySh0_0
import Derived.Test.YtmglkghngkbioaaGreatDoorPaySh0_1
import Derived.Test.YtmglkghngkbioaaGreatDoorPaySw5
import Derived.Test.YtmglkghngkbioaaGreatDoorPaySw6
import Derived.Test.YtmglkghngkbioaaGreatDoorPaySw8
import Derived.Test.YtmglkghngkbioaaGreatDoorPayTr1
import Derived.Test.YtmglkghngkbioaaGreatDoorPayTr2
import Derived.Test.YtmglkghngkbioaaGreatDoorPayTr3
set_option linter.unusedSimpArgs false
set_option linter.unusedVariables false
namespace Pay
open Go
attribute [local irreducible] wpB opsB treeB drawB
structure L9 (C : Ctx) : Prop where
  sh : Sh9 C
  ref : ∀ p : Prog, p.rules.length * 40 ≤ 140737488355328 → p.exprs.length < 100000 → SoundAt C 179 ⟨[vProg p], looko []⟩ ⟨vProg p, looko []⟩
  same : ∀ p q : Prog, p.rules.length < 100000 → p.exprs.length < 100000 → SoundAt C 147 ⟨[vProg p, vProg q], looko []⟩ ⟨vB (decide (p = q)), looko []⟩
  awake : SoundAt C 172 ⟨[], looko []⟩ ⟨vB true, looko []⟩
/-- What the program tells of what was read. -/
structure Told (C : Ctx) (s : List UInt8) (l : List RT) : Prop where
  parse : SoundAt C 144 ⟨[vS s], looko []⟩ ⟨.tup [vProg (progOf l), vI 0, vI 0], looko []⟩
  text : SoundAt C 174 ⟨[vProg (progOf l)], looko []⟩ ⟨.tup [vS (progTx l), vI 0], looko []⟩
  back : SoundAt C 144 ⟨[vS (progTx l)], looko []⟩ ⟨.tup [vProg (progOf l), vI 0, vI 0], looko []⟩
  ref : SoundAt C 179 ⟨[vProg (progOf l)], looko []⟩ ⟨vProg (progOf l), looko []⟩
  same : SoundAt C 147 ⟨[vProg (progOf l), vProg (progOf l)], looko []⟩ ⟨vB true, looko []⟩
theorem L9.told {C : Ctx} (K : L9 C) {s : List UInt8} {l : List RT} (h : ReadOk s l) (hs : s.length ≤ 1000) : Told C s l := by
  have hr := prog_rules h.many
  have hx := h.size
  have hE := prog_okE h.rts h.many (by omega)
  have htl := prog_text_len h.rts h.many (by omega)
  refine ⟨?_, ?_, ?_, K.ref _ (by omega) (by omega), ?_⟩
  · have := K.sh.parse s (by omega)
    rw [h.eq] at this
    exact this
  · have := K.sh.text (progOf l) (by omega) (by omega) hE.vals (fun _ => by rw [text_prog h.rts]; exact htl)
    rw [show_prog h.rts h.many] at this
    exact this
  · have := K.sh.parse (progTx l) htl
    rw [parse_print h.rts h.many] at this
    exact this
  · have := K.same (progOf l) (progOf l) (by omega) (by omega)
    rw [decide_eq_true rfl] at this
    exact this
theorem parse_bad {C : Ctx} (hP : HParse C) {s : List UInt8} (hs : s.length < 100000) (h : (parseP s).2.2 ≠ 0 ∧ (parseP s).1 = ⟨[], []⟩) : ∃ a e : Int, (e == 0) = false ∧ SoundAt C 144 ⟨[vS s], looko []⟩ ⟨.tup [vProg ⟨[], []⟩, vI a, vI e], looko []⟩ := by
  refine ⟨(parseP s).2.1, (parseP s).2.2, by simp [h.1], ?_⟩
  have := hP s hs
  unfold vParse at this
  rw [h.2] at this
  exact this
theorem lawShowBack {C : Ctx} (h : okFn C.P C.φ 178 g_law09_ShowBack = true) (K : L9 C) (s : List UInt8) : SoundAt C 178 ⟨[vS s], looko []⟩ ⟨vB true, looko []⟩ := by
  have ha := K.awake
  refine SoundAt.of_run h rfl (fun Q hR hN => ?_)
  rw [entry1]
  by_cases h1 : s.length ≤ 500
  case neg =>
    have b1 : ((s.length : Int) > 500) := by omega
    repeat (first | simp only [go_sem, b1, decide_true] | refine Unf.h ?_ | refine And.intro ?_ (noRv_of (by simp only [go_sem])) | refine callK_plain (ha) (fun _ => rfl) ?_ | refine callE_plain (ha) (fun _ => rfl) ?_ | refine ⟨_, ha, fun _ => rfl, ?_⟩)
    refine hR _ ?_
    simp only [go_sem]
  have b1 : ¬ ((s.length : Int) > 500) := by omega
  rcases read_facts s (by omega) with hb | ⟨l, hl⟩
  · obtain ⟨a, e, he, t1⟩ := parse_bad K.sh.parse (by omega) hb
    repeat (first | simp only [go_sem, b1, decide_false, he, bne] | refine Unf.h ?_ | refine And.intro ?_ (noRv_of (by simp only [go_sem])) | refine callK_plain (t1) (fun _ => rfl) ?_ | refine callE_plain (t1) (fun _ => rfl) ?_ | refine ⟨_, t1, fun _ => rfl, ?_⟩ | refine callK_plain (ha) (fun _ => rfl) ?_ | refine callE_plain (ha) (fun _ => rfl) ?_ | refine ⟨_, ha, fun _ => rfl, ?_⟩)
    refine hR _ ?_
    simp only [go_sem]
  · obtain ⟨t1, t2, t3, t4, t5⟩ := K.told hl (by omega)
    generalize progTx l = tx at *
    generalize progOf l = pr at *
    repeat (first | simp only [go_sem, b1, decide_false, bne] | refine Unf.h ?_ | refine And.intro ?_ (noRv_of (by simp only [go_sem])) | refine callK_plain (t1) (fun _ => rfl) ?_ | refine callE_plain (t1) (fun _ => rfl) ?_ | refine ⟨_, t1, fun _ => rfl, ?_⟩ | refine callK_plain (t2) (fun _ => rfl) ?_ | refine callE_plain (t2) (fun _ => rfl) ?_ | refine ⟨_, t2, fun _ => rfl, ?_⟩ | refine callK_plain (t3) (fun _ => rfl) ?_ | refine callE_plain (t3) (fun _ => rfl) ?_ | refine ⟨_, t3, fun _ => rfl, ?_⟩ | refine callK_plain (t4) (fun _ => rfl) ?_ | refine callE_plain (t4) (fun _ => rfl) ?_ | refine ⟨_, t4, fun _ => rfl, ?_⟩ | refine callK_plain (t5) (fun _ => rfl) ?_ | refine callE_plain (t5) (fun _ => rfl) ?_ | refine ⟨_, t5, fun _ => rfl, ?_⟩ | refine callK_plain (ha) (fun _ => rfl) ?_ | refine callE_plain (ha) (fun _ => rfl) ?_ | refine ⟨_, ha, fun _ => rfl, ?_⟩)
    refine hR _ ?_
    simp only [go_sem]
end Pay
