/- Laws of rule sets: names; blanks. -/
import Derived.Test.YtcgeldjhobmijaaDoorPayC32
import Derived.Test.YtcgeldjhobmijaaDoorPayC44
import Derived.Test.YtcgeldjhobmijaaDoorPayC47
import Derived.Test.YtcgeldjhobmijaaDoorPayC48
import Derived.Test.YtcgeldjhobmijaaDoorPayC61
import Derived.Test.YtcgeldjhobmijaaDoorPayC65
import Derived.Test.YtcgeldjhobmijaaDoorPayC66
import Derived.Test.YtcgeldjhobmijaaDoorPaySh2_0
import Derived.Test.YtcgeldjhobmijaaDoorPaySh6_0
import Derived.Test.YtcgeldjhobmijaaDoorPayTr1
import Derived.Test.YtcgeldjhobmijaaDoorPayTr2
import Derived.Test.YtcgeldjhobmijaaDoorPayTr3
import Derived.Test.YtcgeldjhobmijaaDoorPayTr4
set_option linter.unusedSimpArgs false
set_option linter.unusedVariables false
namespace Pay
open Go
attribute [local irreducible] wpB opsB treeB drawB
/-- What the laws of rule sets lean on. -/
structure LawT (C : Ctx) : Prop where
  awake : SoundAt C 143 ⟨[], looko []⟩ ⟨vB true, looko []⟩
  parse : HParse C
  lex : ∀ s : List UInt8, s.length < 100000 → SoundAt C 74 ⟨[vS s], looko []⟩ ⟨vLex (lexS s), looko []⟩
  same : ∀ p q : Prog, p.rules.length < 100000 → p.exprs.length < 100000 → SoundAt C 147 ⟨[vProg p, vProg q], looko []⟩ ⟨vB (decide (p = q)), looko []⟩
  ref : ∀ p : Prog, p.rules.length < 100000 → p.exprs.length < 100000 → SoundAt C 146 ⟨[vProg p], looko []⟩ ⟨vProg p, looko []⟩
  taken : ∀ s : List UInt8, SoundAt C 152 ⟨[vS s], looko []⟩ ⟨vB (!namedB s), looko []⟩
theorem lex_one_tok {s : List UInt8} {ts : List Tok} {t : Tok} (h : lexS s = (ts, none)) (hm : t ∈ ts) : Good t.kind t.text := lex_good s 0 t (by rw [← lexS_T, h]; exact hm)
/-- Is a text one word? -/
def oneWord (s : List UInt8) : Bool := match lexS s with
  | ([t], none) => t.text == s && t.kind == 1
  | _ => false
theorem oneWord_good {s : List UInt8} (h : oneWord s = true) : Good 1 s := by
  unfold oneWord at h
  split at h
  · rename_i t hl
    simp only [Bool.and_eq_true, beq_iff_eq] at h
    have := lex_one_tok hl (t := t) (by simp)
    rwa [h.1, h.2] at this
  · cases h
theorem word_step {C : Ctx} (K : LawT C) {I : Nat → Prop} {Q : Ex → St → Prop} {kind name w : List UInt8} {k : Nat} (hk : [kind, name][k]? = some w) (hw : w.length < 100000)
    (hF : ∀ s, s 4 = vB true → Q .ret (St.mk s (looko [])))
    (hT : oneWord w = true → wpB C I g_law08_TreeNames.l0 (St.mk (look [(0, vS kind), (1, vS name), (25, vStrs [kind, name]), (26, vI 2), (27, vI ((k + 1 : Nat) : Int))]) (looko [])) Q) :
    wpB C I g_law08_TreeNames.l0 (St.mk (look [(0, vS kind), (1, vS name), (25, vStrs [kind, name]), (26, vI 2), (27, vI k)]) (looko [])) Q := by
  have hk2 : k < 2 := by
    have := (List.getElem?_eq_some_iff.1 hk).1
    simpa using this
  have hk2' : (k : Int) < 2 := by omega
  have hw1 : IntKind.i64.wrap ((k : Int) + 1) = ((k + 1 : Nat) : Int) := by rw [wrapI (by omega) (by omega)]; omega
  have tl := K.lex w hw
  refine g_law08_TreeNames_l0_sh rfl ?_
  have hg : ([kind, name].map encS1)[k]? = some [.str w] := by rw [List.getElem?_map, hk]; rfl
  simp only [List.map_cons, List.map_nil] at hg
  cases hl : lexS w with | mk ts o =>
  rw [hl] at tl
  unfold oneWord at hT
  rw [hl] at hT
  cases o with
  | some e =>
    repeat (first | simp only [go_sem, hk2', decide_true, Int.natCast_nonneg, Int.toNat_natCast, hg] | refine Unf.h ?_)
    refine callK_plain tl (fun _ => rfl) ?_
    repeat (first | simp only [go_sem, vLex] | refine Unf.h ?_)
    refine callK_plain K.awake (fun _ => rfl) ?_
    repeat (first | simp only [go_sem] | refine Unf.h ?_)
    exact hF _ rfl
  | none =>
    match ts with
    | [] =>
      repeat (first | simp only [go_sem, hk2', decide_true, Int.natCast_nonneg, Int.toNat_natCast, hg] | refine Unf.h ?_)
      refine callK_plain tl (fun _ => rfl) ?_
      repeat (first | simp only [go_sem, vLex] | refine Unf.h ?_)
      refine callK_plain K.awake (fun _ => rfl) ?_
      repeat (first | simp only [go_sem] | refine Unf.h ?_)
      exact hF _ rfl
    | t :: u :: r =>
      have hb : ((((r.length + 1 + 1 : Nat) : Int)) != 1) = true := by simp; omega
      repeat (first | simp only [go_sem, hk2', decide_true, Int.natCast_nonneg, Int.toNat_natCast, hg] | refine Unf.h ?_)
      refine callK_plain tl (fun _ => rfl) ?_
      repeat (first | simp only [go_sem, vLex, List.length_map, hb] | refine Unf.h ?_)
      refine callK_plain K.awake (fun _ => rfl) ?_
      repeat (first | simp only [go_sem] | refine Unf.h ?_)
      exact hF _ rfl
    | [t] =>
      by_cases h1 : t.text = w
      · have b1 : (t.text == w) = true := by simp [h1]
        by_cases h2 : t.kind = 1
        · have b2 : (t.kind != 1) = false := by simp [h2]
          repeat (first | simp only [go_sem, hk2', decide_true, Int.natCast_nonneg, Int.toNat_natCast, hg] | refine Unf.h ?_)
          refine callK_plain tl (fun _ => rfl) ?_
          repeat (first | simp only [go_sem, vLex, encT, b1, b2, hw1, Int.le_refl] | refine Unf.h ?_)
          exact hT (by simp [h1, h2])
        · have b2 : (t.kind != 1) = true := by simp [h2]
          repeat (first | simp only [go_sem, hk2', decide_true, Int.natCast_nonneg, Int.toNat_natCast, hg] | refine Unf.h ?_)
          refine callK_plain tl (fun _ => rfl) ?_
          repeat (first | simp only [go_sem, vLex, encT, b1, b2, Int.le_refl] | refine Unf.h ?_)
          refine callK_plain K.awake (fun _ => rfl) ?_
          repeat (first | simp only [go_sem] | refine Unf.h ?_)
          exact hF _ rfl
      · have b1 : (t.text == w) = false := by simpa using h1
        repeat (first | simp only [go_sem, hk2', decide_true, Int.natCast_nonneg, Int.toNat_natCast, hg] | refine Unf.h ?_)
        refine callK_plain tl (fun _ => rfl) ?_
        repeat (first | simp only [go_sem, vLex, encT, b1, Int.le_refl] | refine Unf.h ?_)
        refine callK_plain K.awake (fun _ => rfl) ?_
        repeat (first | simp only [go_sem] | refine Unf.h ?_)
        exact hF _ rfl
theorem kinds_or (s : List UInt8) : (s == wEarn || (s == wPretax || (s == wPost || s == wLet))) = kindsL.contains s := by
  simp only [kindsL, List.contains_cons, List.contains_nil, Bool.or_false]
theorem lawTreeNames {C : Ctx} (h : okFn C.P C.φ 151 g_law08_TreeNames = true) (K : LawT C) (kind name : List UInt8) : SoundAt C 151 ⟨[vS kind, vS name], looko []⟩ ⟨vB true, looko []⟩ := by
  refine SoundAt.of_run h rfl (fun Q hR hN => ?_)
  rw [entry2]
  by_cases h1 : kind.length > 20
  · have h1' : ((kind.length : Int) > 20) := by omega
    repeat (first | simp only [go_sem, h1', decide_true] | refine Unf.h ?_)
    refine callK_plain K.awake (fun _ => rfl) ?_
    repeat (first | simp only [go_sem] | refine Unf.h ?_)
    refine hR _ ?_
    simp only [go_sem]
  have h1' : ¬ ((kind.length : Int) > 20) := by omega
  by_cases h2 : name.length > 20
  · have h2' : ((name.length : Int) > 20) := by omega
    repeat (first | simp only [go_sem, h1', h2', decide_true, decide_false] | refine Unf.h ?_)
    refine callK_plain K.awake (fun _ => rfl) ?_
    repeat (first | simp only [go_sem] | refine Unf.h ?_)
    refine hR _ ?_
    simp only [go_sem]
  have h2' : ¬ ((name.length : Int) > 20) := by omega
  have hF : ∀ s, s 4 = vB true → Q .ret (St.mk s (looko [])) := fun s h4 => hR _ (by simp only [go_sem, h4])
  repeat (first | simp only [go_sem, h1', h2', decide_true, decide_false, partsN] | refine Unf.h ?_)
  refine word_step K (k := 0) rfl (by omega) hF (fun g1 => word_step K (k := 1) rfl (by omega) hF (fun g2 => ?_))
  have k1 := oneWord_good g1
  have k2 := oneWord_good g2
  obtain ⟨p, hp⟩ := names_law k1 k2
  have hlen : (textN2 kind name).length = kind.length + 1 + name.length + 5 := by simp [textN2, tailN]; omega
  have tp := K.parse (textN2 kind name) (by omega)
  have tt := K.taken name
  rw [hp] at tp
  have e1 : ((kind.length : Int) + 1 ≤ 9223372036854775807) := by omega
  have hko := kinds_or kind
  refine g_law08_TreeNames_l0_sh rfl ?_
  repeat (first | simp only [go_sem, ↓demand_if, List.length_append] | refine And.intro (by omega) ?_ | refine Unf.h ?_)
  refine callK_plain tp (fun _ => rfl) ?_
  cases hn : namedB name with
  | false =>
    rw [hn] at tt
    rw [if_neg (fun h => by cases h.2)]
    repeat (first | simp only [go_sem] | refine Unf.h ?_)
    refine callK_plain tt (fun _ => rfl) ?_
    repeat (first | simp only [go_sem] | refine Unf.h ?_)
    refine callK_plain K.awake (fun _ => rfl) ?_
    repeat (first | simp only [go_sem] | refine Unf.h ?_)
    exact hF _ rfl
  | true =>
    rw [hn] at tt
    cases hc : kindsL.contains kind with
    | false =>
      rw [hc] at hko
      have q1 := (Bool.or_eq_false_iff.1 hko).1
      have q2 := (Bool.or_eq_false_iff.1 (Bool.or_eq_false_iff.1 hko).2).1
      have q3 := (Bool.or_eq_false_iff.1 (Bool.or_eq_false_iff.1 (Bool.or_eq_false_iff.1 hko).2).2).1
      have q4 := (Bool.or_eq_false_iff.1 (Bool.or_eq_false_iff.1 (Bool.or_eq_false_iff.1 hko).2).2).2
      rw [if_neg (fun h => by cases h.1)]
      repeat (first | simp only [go_sem] | refine Unf.h ?_)
      refine callK_plain tt (fun _ => rfl) ?_
      repeat (first | simp only [go_sem, q1, q2, q3, q4] | refine Unf.h ?_)
      refine callK_plain K.awake (fun _ => rfl) ?_
      repeat (first | simp only [go_sem] | refine Unf.h ?_)
      exact hF _ rfl
    | true =>
      have hm : kind = wEarn ∨ kind = wPretax ∨ kind = wPost ∨ kind = wLet := by simpa [kindsL] using hc
      rw [if_pos ⟨rfl, rfl⟩]
      rcases hm with rfl | rfl | rfl | rfl
      all_goals
        repeat (first | simp only [go_sem, encRl, vProg, vParse, Int.le_refl] | refine Unf.h ?_)
        refine callK_plain tt (fun _ => rfl) ?_
        repeat (first | simp only [go_sem, encRl, Int.le_refl, Int.reduceLT] | refine Unf.h ?_)
        refine callK_plain K.awake (fun _ => rfl) ?_
        repeat (first | simp only [go_sem] | refine Unf.h ?_)
        exact hF _ rfl
theorem prog_PK {all : List Tok} {en : Nat} : ∀ (n : Nat) (x : PS), PK all x → PK all (progL en n x)
  | 0, x, h => h
  | n + 1, x, h => by
    unfold progL
    split
    · exact h
    · exact prog_PK n _ h.rule
theorem parse_small (s : List UInt8) (hs : s.length < 100000) : (parseP s).1.rules.length ≤ s.length ∧ (parseP s).1.exprs.length ≤ s.length := by
  unfold parseP
  cases hl : lexS s with | mk ts o =>
  cases o with
  | some e => simp
  | none =>
    have hp := prog_PK (en := s.length) ts.length _ (lex_PK hs hl)
    have h1 := hp.many
    have h2 := hp.rules
    have hc : ts.length ≤ s.length := by
      have hc : Chain s 0 ts := by
        have := lex_chain s s 0 rfl (Nat.zero_le _)
        rw [← lexS_T, hl] at this
        exact this
      have := chain_many hc (Nat.zero_le _)
      omega
    simp only
    unfold parseT
    simp only
    split
    · simp only; omega
    · simp
def wideOf : List Tok → List UInt8
  | [] => []
  | t :: r => 32 :: (t.text ++ 10 :: wideOf r)
theorem lex_wide : ∀ (ts : List Tok), (∀ t ∈ ts, Good t.kind t.text) → ∀ p, Same2 (lexT p (wideOf ts)) (ts.map kt)
  | [], _, p => ⟨rfl, rfl⟩
  | t :: r, h, p => by
    rw [wideOf, lexT_blank (.inl rfl), lex_put (h t (by simp)) _ (sep_cons (.inr rfl)), lexT_blank (.inr rfl)]
    exact (lex_wide r (fun y hy => h y (List.mem_cons_of_mem _ hy)) _).put
theorem wide_len {s : List UInt8} : ∀ {ts : List Tok} {e : Nat}, Chain s e ts → e ≤ s.length → (wideOf ts).length + e ≤ s.length + 2 * ts.length
  | [], e, _, he => by simp [wideOf]; omega
  | x :: r, e, h, he => by
    have ih := wide_len h.2.2.2.2 h.2.2.1
    have h0 := h.1
    simp only [wideOf, List.length_cons, List.length_append]
    omega
theorem blanks_loop {C : Ctx} {I : Nat → Prop} (hI : ∀ n, ¬ I n) {Q : Ex → St → Prop} {ts : List Tok} {B S : List UInt8} (hl : ts.length < 100000) (hB : B.length < 100000)
    (hT : ∀ t, t 0 = vS S → t 6 = vS B → Q (.exit 0) (St.mk t (looko []))) :
    ∀ (m k : Nat) (b : List UInt8), k + m = ts.length → b ++ wideOf (ts.drop k) = B →
      wpB C I g_law08_TreeBlanks.l0 (St.mk (look [(0, vS S), (6, vS b), (33, .d (.sl (ts.map encT))), (34, vI ts.length), (35, vI k)]) (looko [])) Q := by
  intro m
  induction m with
  | zero =>
    intro k b hk hb
    refine g_law08_TreeBlanks_l0_sh rfl ?_
    have : k = ts.length := by omega
    subst this
    simp only [List.drop_length, wideOf, List.append_nil] at hb
    subst hb
    repeat (first | simp only [go_sem, Int.lt_irrefl, decide_false] | refine Unf.h ?_)
    refine hT _ ?_ ?_ <;> rfl
  | succ m ih =>
    intro k b hk hb
    refine g_law08_TreeBlanks_l0_sh rfl ?_
    have hlt : k < ts.length := by omega
    have hlt' : ((k : Int) < (ts.length : Int)) := by omega
    have he := List.getElem?_eq_getElem hlt
    have hw : IntKind.i64.wrap ((k : Int) + 1) = ((k + 1 : Nat) : Int) := by rw [wrapI (by omega) (by omega)]; omega
    obtain ⟨x, hx⟩ : ∃ x, ts[k] = x := ⟨_, rfl⟩
    rw [List.drop_eq_getElem_cons hlt, hx, wideOf] at hb
    rw [hx] at he
    have h1 := congrArg List.length hb
    simp only [List.length_append, List.length_cons] at h1
    repeat (first | simp only [go_sem, ↓demand_if, List.length_append, hI, hlt', decide_true, Int.natCast_nonneg, Int.toNat_natCast, getMap encT he, encT, hw] | refine And.intro (by omega) ?_ | refine Unf.h ?_)
    exact ih (k + 1) _ (by omega) (by rw [← hb]; simp)
theorem lawTreeBlanks {C : Ctx} (h : okFn C.P C.φ 145 g_law08_TreeBlanks = true) (K : LawT C) (s : List UInt8) : SoundAt C 145 ⟨[vS s], looko []⟩ ⟨vB true, looko []⟩ := by
  refine SoundAt.of_run h rfl (fun Q hR hN => ?_)
  rw [entry1]
  by_cases h1 : s.length > 500
  · have h1' : ((s.length : Int) > 500) := by omega
    repeat (first | simp only [go_sem, h1', decide_true] | refine Unf.h ?_)
    refine callK_plain K.awake (fun _ => rfl) ?_
    repeat (first | simp only [go_sem] | refine Unf.h ?_)
    refine hR _ ?_
    simp only [go_sem]
  have h1' : ¬ ((s.length : Int) > 500) := by omega
  have tl := K.lex s (by omega)
  cases hl : lexS s with | mk ts o =>
  rw [hl] at tl
  cases o with
  | some e =>
    have : ts = [] := by
      have := lex_none s 0 e (by rw [← lexS_T, hl])
      rw [← lexS_T, hl] at this
      exact this
    subst this
    repeat (first | simp only [go_sem, h1', decide_false] | refine Unf.h ?_)
    refine callK_plain tl (fun _ => rfl) ?_
    repeat (first | simp only [go_sem, vLex] | refine Unf.h ?_)
    refine callK_plain K.awake (fun _ => rfl) ?_
    repeat (first | simp only [go_sem] | refine Unf.h ?_)
    refine hR _ ?_
    simp only [go_sem]
  | none =>
    have hc : Chain s 0 ts := by
      have := lex_chain s s 0 rfl (Nat.zero_le _)
      rw [← lexS_T, hl] at this
      exact this
    have hm := chain_many hc (Nat.zero_le _)
    have hw := wide_len hc (Nat.zero_le _)
    have hg : ∀ t ∈ ts, Good t.kind t.text := fun t ht => lex_one_tok hl ht
    have hsame := lex_wide ts hg 0
    have tp := K.parse s (by omega)
    have tq := K.parse (wideOf ts) (by omega)
    have sp := parse_small s (by omega)
    have sq := parse_small (wideOf ts) (by omega)
    have law : (parseP s).1 = (parseP (wideOf ts)).1 ∧ (parseP s).2.2 = (parseP (wideOf ts)).2.2 := by
      have e1 : parseP s = parseT s.length ts := by unfold parseP; rw [hl]
      have e2 : parseP (wideOf ts) = parseT (wideOf ts).length (lexT 0 (wideOf ts)).1 := by
        unfold parseP
        rw [lexS_T]
        obtain ⟨k1, k2⟩ := hsame
        cases hx : lexT 0 (wideOf ts) with | mk us o =>
        rw [hx] at k1
        simp only at k1
        subst k1
        rfl
      rw [e1, e2]
      exact blanks_law hsame.2.symm
    obtain ⟨p, hp⟩ : ∃ p, parseP s = p := ⟨_, rfl⟩
    obtain ⟨q, hq⟩ : ∃ q, parseP (wideOf ts) = q := ⟨_, rfl⟩
    rw [hp] at tp sp law
    rw [hq] at tq sq law
    obtain ⟨p1, p2, p3⟩ := p
    obtain ⟨q1, q2, q3⟩ := q
    obtain ⟨rfl, rfl⟩ : p1 = q1 ∧ p3 = q3 := law
    have r1 := K.ref p1 (by simp only at sp; omega) (by simp only at sp; omega)
    have s1 := K.same p1 p1 (by simp only at sp; omega) (by simp only at sp; omega)
    rw [decide_eq_true rfl] at s1
    repeat (first | simp only [go_sem, h1', decide_false] | refine Unf.h ?_)
    refine callK_plain tl (fun _ => rfl) ?_
    repeat (first | simp only [go_sem, vLex, List.length_map] | refine Unf.h ?_)
    refine blanks_loop (fun n h => h) (B := wideOf ts) (S := s) (by omega) (by omega) (fun t t0 t6 => ?_) ts.length 0 [] (by omega) rfl
    repeat (first | simp only [go_sem, t0, t6] | refine Unf.h ?_)
    refine callK_plain tp (fun _ => rfl) ?_
    repeat (first | simp only [go_sem, vParse, t0, t6] | refine Unf.h ?_)
    refine callK_plain tq (fun _ => rfl) ?_
    repeat' (first | simp only [go_sem, vParse, t0, t6] | refine ⟨_, r1, fun _ => rfl, ?_⟩ | refine ⟨_, s1, fun _ => rfl, ?_⟩ | refine ⟨_, K.awake, fun _ => rfl, ?_⟩ | refine callE_plain r1 (fun _ => rfl) ?_ | refine callE_plain s1 (fun _ => rfl) ?_ | refine callE_plain K.awake (fun _ => rfl) ?_ | refine Unf.h ?_ | refine And.intro ?_ ?_ | refine hR _ ?_)
end Pay
