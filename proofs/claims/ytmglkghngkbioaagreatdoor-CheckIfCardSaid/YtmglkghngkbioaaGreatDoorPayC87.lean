/- Contracts: the document's kind of an expression. -/
import Derived.Test.YtmglkghngkbioaaGreatDoorPayC32
import Derived.Test.YtmglkghngkbioaaGreatDoorPayC61
import Derived.Test.YtmglkghngkbioaaGreatDoorPayC65
import Derived.Test.YtmglkghngkbioaaGreatDoorPayC80
import Derived.Test.YtmglkghngkbioaaGreatDoorPayC81
import Derived.Test.YtmglkghngkbioaaGreatDoorPayC82
import Derived.Test.YtmglkghngkbioaaGreatDoorPayC83
import Derived.Test.YtmglkghngkbioaaGreatDoorPayC84
import Derived.Test.YtmglkghngkbioaaGreatDoorPayC85
import Derived.Test.YtmglkghngkbioaaGreatDoorPayCk1
import Derived.Test.YtmglkghngkbioaaGreatDoorPayCkC
import Derived.Test.YtmglkghngkbioaaGreatDoorPaySh1_0
import Derived.Test.YtmglkghngkbioaaGreatDoorPayTr1
set_option linter.unusedSimpArgs false
set_option linter.unusedVariables false
namespace Pay
open Go
attribute [local irreducible] wpB opsB treeB drawB
/-- What the document's functions of one expression make. -/
structure RfK (C : Ctx) : Prop where
  many : ∀ x : Xpr, SoundAt C 189 ⟨[vS x.op], looko []⟩ ⟨vI (partsI x).length, looko []⟩
  part : ∀ (x : Xpr) (n : Int), SoundAt C 190 ⟨[vX x, vI n], looko []⟩ ⟨vI (partK x n), looko []⟩
  find : ∀ (l : List Bnd) (s : List UInt8), l.length < 100000 → SoundAt C 192 ⟨[vBns l, vS s], looko []⟩ ⟨vI (findB s l 0), looko []⟩
  kind : ∀ (x : Xpr) {ka kb kc : Int}, 0 ≤ ka ∧ ka ≤ 4 → 0 ≤ kb ∧ kb ≤ 4 → ∀ l : List Bnd, l.length < 100000 → SoundAt C 191 ⟨[vX x, vI ka, vI kb, vI kc, vBns l], looko []⟩ ⟨vI (kindX x ka kb kc l), looko []⟩
  made : ∀ (p : Prog) (root : Int), p.exprs.length < 100000 → -9223372036854775808 ≤ root ∧ root < 9223372036854775808 → SoundAt C 188 ⟨[vProg p, vI root], looko []⟩ ⟨vNeed (needB p.exprs root), looko []⟩
abbrev kS (p : Prog) (l : List Bnd) (need : List Bool) (root : Int) (i n : Nat) : List (Nat × V) := [(1, vI root), (2, vBns l), (3, .ptr 3 0), (9, .d (.sl (need.map encB1))), (11, .own 26), (12, vI i), (13, .ptr 13 0), (14, .ptr 14 0), (15, vI n)]
abbrev kO (p : Prog) (x : Xpr) (ks : List Int) (vs : List V) : List (Nat × Option Ob) := [(3, some (.box (pC p))), (13, some (.box (xC x))), (14, some (.box vs)), (26, some (.row 1 (ks.map encI1)))]
theorem k_step {C : Ctx} (K : RfK C) {I : Nat → Prop} (hI : ∀ n, ¬ I n) {Q : Ex → St → Prop} {p : Prog} {l : List Bnd} {need : List Bool} {root : Int} {i : Nat} {x : Xpr} {ks : List Int} (hx : partsOk x ks.length) (n : Nat) (hn : n = 0 ∨ n = 1 ∨ n = 2) (hlt : n < (partsI x).length) (v0 v1 v2 : Int)
    (h : wpB C I g_ref10_Kind.l1 (St.mk (look (kS p l need root i (n + 1))) (looko (kO p x ks ([vI v0, vI v1, vI v2].set n (vI (getK ks (partK x n))))))) Q) :
    wpB C I g_ref10_Kind.l1 (St.mk (look (kS p l need root i n)) (looko (kO p x ks [vI v0, vI v1, vI v2]))) Q := by
  have hm := K.many x
  have hp := K.part x n
  have hg := many_get x n hlt
  have hb : 0 ≤ partK x n ∧ partK x n < (ks.length : Int) := hx _ (List.mem_of_getElem? hg)
  have hk := getK_some hb
  have hlt' : ((n : Int) < ((partsI x).length : Int)) := by omega
  generalize partK x (n : Int) = q at *
  generalize getK ks q = v at *
  generalize (partsI x).length = L at *
  refine g_ref10_Kind_l1_sh rfl ?_
  rcases hn with rfl | rfl | rfl
  all_goals
    simp only [Int.natCast_zero, Int.natCast_one, Int.cast_ofNat_Int] at hp hlt'
    repeat (first | simp only [go_sem] | refine Unf.h ?_)
    refine callK_plain hm (fun _ => rfl) ?_
    repeat (first | simp only [go_sem, hlt', decide_true] | refine Unf.h ?_)
    refine callK_plain hp (fun _ => rfl) ?_
    repeat (first | simp only [go_sem, List.length_map, hb.1, hb.2, getMap encI1 hk, encI1] | refine Unf.h ?_)
    exact h
theorem k_end {C : Ctx} (K : RfK C) {I : Nat → Prop} {Q : Ex → St → Prop} {p : Prog} {l : List Bnd} {need : List Bool} {root : Int} {i : Nat} {x : Xpr} {ks : List Int} {vs : List V} (n : Nat) (hn : n = (partsI x).length)
    (h : ∀ t, t 1 = vI root → t 2 = vBns l → t 3 = .ptr 3 0 → t 9 = .d (.sl (need.map encB1)) → t 11 = .own 26 → t 12 = vI i → t 13 = .ptr 13 0 → t 14 = .ptr 14 0 → Q (.exit 2) (St.mk t (looko (kO p x ks vs)))) :
    wpB C I g_ref10_Kind.l1 (St.mk (look (kS p l need root i n)) (looko (kO p x ks vs))) Q := by
  have hm := K.many x
  rw [← hn] at hm
  refine g_ref10_Kind_l1_sh rfl ?_
  repeat (first | simp only [go_sem] | refine Unf.h ?_)
  refine callK_plain hm (fun _ => rfl) ?_
  repeat (first | simp only [go_sem, Int.lt_irrefl, decide_false] | refine Unf.h ?_)
  exact h _ rfl rfl rfl rfl rfl rfl rfl rfl
theorem k_all {C : Ctx} (K : RfK C) {I : Nat → Prop} (hI : ∀ n, ¬ I n) {Q : Ex → St → Prop} {p : Prog} {l : List Bnd} {need : List Bool} {root : Int} {i : Nat} {x : Xpr} {ks : List Int} (hx : partsOk x ks.length) (hk : ∀ k ∈ ks, 0 ≤ k ∧ k ≤ 4)
    (h : ∀ t ka kb kc, kindX x ka kb kc l = kindX x (getK ks x.a) (getK ks x.b) (getK ks x.c) l → 0 ≤ ka ∧ ka ≤ 4 → 0 ≤ kb ∧ kb ≤ 4 → t 1 = vI root → t 2 = vBns l → t 3 = .ptr 3 0 → t 9 = .d (.sl (need.map encB1)) → t 11 = .own 26 → t 12 = vI i → t 13 = .ptr 13 0 → t 14 = .ptr 14 0 → Q (.exit 2) (St.mk t (looko (kO p x ks [vI ka, vI kb, vI kc])))) :
    wpB C I g_ref10_Kind.l1 (St.mk (look (kS p l need root i 0)) (looko (kO p x ks [vI 0, vI 0, vI 0]))) Q := by
  have ga := getK_range hk x.a
  have gb := getK_range hk x.b
  have z : (0 : Int) ≤ 0 ∧ (0 : Int) ≤ 4 := by decide
  rcases op_parts x.op with e | e | e | e | e | e | hn
  · exact k_end K 0 (by simp [partsI, isLeaf, e]) (fun t => h t 0 0 0 (by simp [kindX, e]) z z)
  · exact k_end K 0 (by simp [partsI, isLeaf, e]) (fun t => h t 0 0 0 (by simp [kindX, e]) z z)
  · exact k_end K 0 (by simp [partsI, isLeaf, e]) (fun t => h t 0 0 0 (by simp [kindX, e]) z z)
  · exact k_end K 0 (by simp [partsI, isLeaf, e]) (fun t => h t 0 0 0 (by simp [kindX, e]) z z)
  · have hl : (partsI x).length = 1 := by simp [partsI, isLeaf, e]
    refine k_step K hI hx 0 (.inl rfl) (by omega) 0 0 0 ?_
    exact k_end K 1 hl.symm (fun t => h t (getK ks x.a) 0 0 (by simp [kindX, e]) ga z)
  · have hl : (partsI x).length = 3 := by simp [partsI, isLeaf, e]
    refine k_step K hI hx 0 (.inl rfl) (by omega) 0 0 0 ?_
    refine k_step K hI hx 1 (.inr (.inl rfl)) (by omega) (getK ks x.a) 0 0 ?_
    refine k_step K hI hx 2 (.inr (.inr rfl)) (by omega) (getK ks x.a) (getK ks x.b) 0 ?_
    exact k_end K 3 hl.symm (fun t => h t (getK ks x.a) (getK ks x.b) (getK ks x.c) rfl ga gb)
  · have hl : (partsI x).length = 2 := by rw [parts_two hn]; rfl
    refine k_step K hI hx 0 (.inl rfl) (by omega) 0 0 0 ?_
    refine k_step K hI hx 1 (.inr (.inl rfl)) (by omega) (getK ks x.a) 0 0 ?_
    exact k_end K 2 hl.symm (fun t => h t (getK ks x.a) (getK ks x.b) 0 (by rw [kind_two hn, kind_two hn]) ga gb)
theorem kinds10_loop {C : Ctx} (K : RfK C) {I : Nat → Prop} (hI : ∀ n, ¬ I n) {Q : Ex → St → Prop} {p : Prog} {l : List Bnd} {need : List Bool} {root : Nat} {r : List Int ⊕ (Int × Int)} (hl : l.length < 100000) (hnl : need.length = root + 1) (hn : need.length ≤ p.exprs.length) (hE : p.exprs.length < 100000)
    (hok : ∀ (i : Nat) (x : Xpr), need[i]? = some true → p.exprs[i]? = some x → partsOk x i)
    (hT : ∀ t ks (b : Option Ob), r = .inl ks → ks.length = need.length → t 1 = vI root → t 11 = .own 26 → Q (.exit 0) (St.mk t (looko [(3, b), (26, some (.row 1 (ks.map encI1)))])))
    (hF : ∀ t at_ e, r = .inr (at_, e) → t 6 = vI 0 → t 7 = vI at_ → t 8 = vI e → Q .ret (St.mk t (looko []))) :
    ∀ (m i : Nat) (ks : List Int), i + m = need.length → ks.length = need.length → (∀ k ∈ ks, 0 ≤ k ∧ k ≤ 4) → kindsB p.exprs l (need.drop i) i ks = r →
      wpB C I g_ref10_Kind.l0 (St.mk (look [(1, vI root), (2, vBns l), (3, .ptr 3 0), (9, .d (.sl (need.map encB1))), (11, .own 26), (12, vI i)]) (looko [(3, some (.box (pC p))), (26, some (.row 1 (ks.map encI1)))])) Q := by
  intro m
  induction m with
  | zero =>
    intro i ks hi hks hk hr
    have hi' : i = need.length := by omega
    subst hi'
    have hle : ¬ ((need.length : Int) ≤ (root : Int)) := by omega
    refine g_ref10_Kind_l0_sh rfl ?_
    repeat (first | simp only [go_sem, hle, decide_false] | refine Unf.h ?_)
    exact hT _ ks _ (by rw [← hr]; simp [kindsB]) hks rfl rfl
  | succ m ih =>
    intro i ks hi hks hk hr
    have hlt : i < need.length := by omega
    have hlt' : ((i : Int) < (need.length : Int)) := by omega
    have hle : ((i : Int) ≤ (root : Int)) := by omega
    have he := List.getElem?_eq_getElem hlt
    have hx := List.getElem?_eq_getElem (show i < p.exprs.length by omega)
    have hx' : ((i : Int) < (p.exprs.length : Int)) := by omega
    have hw := wrapI (x := (i : Int) + 1) (by omega) (by omega)
    have ih' := fun ks => ih (i + 1) ks (by omega)
    rw [List.drop_eq_getElem_cons hlt] at hr
    refine g_ref10_Kind_l0_sh rfl ?_
    cases hb : need[i] with
    | false =>
      rw [hb] at hr he
      rw [kindsB] at hr
      repeat (first | simp only [go_sem, hle, Int.natCast_nonneg, decide_true, Int.toNat_natCast, List.length_map, hlt', getMap encB1 he, encB1, hw] | refine Unf.h ?_)
      exact ih' ks hks hk hr
    | true =>
      rw [hb] at hr he
      unfold kindsB at hr
      rw [hx] at hr
      simp only at hr
      have hpo := hok i _ he hx
      generalize p.exprs[i] = x at *
      have hpo' : partsOk x ks.length := fun q hq => by have := hpo q hq; omega
      repeat (first | simp only [go_sem, hle, Int.natCast_nonneg, decide_true, Int.toNat_natCast, List.length_map, hlt', getMap encB1 he, encB1, hw, getMap encX hx, hx', encX, hI] | refine Unf.h ?_)
      refine k_all K hI (p := p) (l := l) (need := need) (root := root) (i := i) (x := x) (ks := ks) hpo' hk (fun t ka kb kc hkk hra hrb h1 h2 h3 h9 h11 h12 h13 h14 => ?_)
      have hc := K.kind x (kc := kc) hra hrb l hl
      have hkr := kind_range x kc l hra hrb
      rw [← hkk] at hr
      generalize kindX x ka kb kc l = k at *
      have hki : (i : Int) < (ks.length : Int) := by omega
      have hq := List.getElem?_eq_getElem (show i < ks.length by omega)
      have hs : (ks.map encI1).set i [D.int .i64 k] = (ks.set i k).map encI1 := by rw [List.map_set]; rfl
      have hq2 : (ks.set i k)[i]? = some k := by rw [List.getElem?_set_self (by omega)]
      have hki2 : (i : Int) < ((ks.set i k).length : Int) := by rw [List.length_set]; exact hki
      have hset : ∀ q ∈ ks.set i k, 0 ≤ q ∧ q ≤ 4 := fun q hq => by
        rcases List.mem_or_eq_of_mem_set hq with h | rfl
        · exact hk q h
        · exact hkr
      obtain ⟨ks', hks'⟩ : ∃ ks', ks.set i k = ks' := ⟨_, rfl⟩
      rw [hks'] at hs hq2 hki2 hset hr
      have hl' : ks'.length = need.length := by rw [← hks', List.length_set]; exact hks
      repeat (first | simp only [go_sem, h1, h2, h3, h9, h11, h12, h13, h14] | refine Unf.h ?_)
      refine callK_plain hc (fun _ => rfl) ?_
      by_cases hk0 : k = 0
      · rw [if_pos hk0] at hr
        have hb0 : (k == 0) = true := by simp [hk0]
        by_cases hnm : x.op = wName
        · have hh := K.find l x.name hl
          have hg := findB_ge x.name l 0
          have hn1 : (x.op = [110, 97, 109, 101]) = True := eq_true hnm
          have hn2 : (x.op == [110, 97, 109, 101]) = true := by simp [hn1]
          rcases findB_cases x.name l 0 with ⟨f1, f2⟩ | ⟨j, b, f1, f2, f3⟩
          · rw [f2] at hh
            rw [if_pos ⟨hnm, f1⟩] at hr
            repeat (first | simp only [go_sem, Int.natCast_nonneg, decide_true, Int.toNat_natCast, List.length_map, hki, getMap encI1 hq, encI1, hs, hki2, getMap encI1 hq2, Nat.le_refl, hb0, hn1, hn2] | refine Unf.h ?_)
            refine callK_plain hh (fun _ => rfl) ?_
            repeat (first | simp only [go_sem, Int.reduceNegSucc, decide_true] | refine Unf.h ?_)
            exact hF _ _ _ hr.symm rfl rfl rfl
          · rw [f2, Nat.zero_add] at hh
            have hj0 : ¬ ((j : Int) < 0) := by omega
            rw [if_neg (by simp [f3])] at hr
            repeat (first | simp only [go_sem, Int.natCast_nonneg, decide_true, Int.toNat_natCast, List.length_map, hki, getMap encI1 hq, encI1, hs, hki2, getMap encI1 hq2, Nat.le_refl, hb0, hn1, hn2] | refine Unf.h ?_)
            refine callK_plain hh (fun _ => rfl) ?_
            repeat (first | simp only [go_sem, hj0, decide_false] | refine Unf.h ?_)
            exact hF _ _ _ hr.symm rfl rfl rfl
        · have hn1 : (x.op = [110, 97, 109, 101]) = False := eq_false hnm
          have hn2 : (x.op == [110, 97, 109, 101]) = false := by simpa using hnm
          rw [if_neg (by simp [hnm])] at hr
          repeat (first | simp only [go_sem, Int.natCast_nonneg, decide_true, Int.toNat_natCast, List.length_map, hki, getMap encI1 hq, encI1, hs, hki2, getMap encI1 hq2, Nat.le_refl, hb0, hn1, hn2] | refine Unf.h ?_)
          exact hF _ _ _ hr.symm rfl rfl rfl
      · rw [if_neg hk0] at hr
        have hb0 : (k == 0) = false := by simp [hk0]
        repeat (first | simp only [go_sem, Int.natCast_nonneg, decide_true, Int.toNat_natCast, List.length_map, hki, getMap encI1 hq, encI1, hs, hki2, getMap encI1 hq2, Nat.le_refl, hb0, hw] | refine Unf.h ?_)
        exact ih' ks' hl' hset hr
theorem r10Kind {C : Ctx} (h : okFn C.P C.φ 165 g_ref10_Kind = true) (K : RfK C) (p : Prog) (root : Int) (l : List Bnd) (hE : p.exprs.length < 100000) (hl : l.length < 100000) (hroot : -9223372036854775808 ≤ root ∧ root < 9223372036854775808) :
    SoundAt C 165 ⟨[vProg p, vI root, vBns l], looko []⟩ ⟨.tup [vI (kindP p.exprs root l).1, vI (kindP p.exprs root l).2.1, vI (kindP p.exprs root l).2.2], looko []⟩ := by
  have hN0 := K.made p root hE hroot
  refine SoundAt.of_run h rfl (fun Q hR hN => ?_)
  rw [entry3]
  cases hn : needB p.exprs root with
  | none =>
    have e : kindP p.exprs root l = (0, 0, 1) := by unfold kindP; rw [hn]
    rw [hn] at hN0
    rw [e] at hR
    repeat (first | simp only [go_sem] | refine Unf.h ?_)
    refine callK_plain hN0 (fun _ => rfl) ?_
    repeat (first | simp only [go_sem, vNeed] | refine Unf.h ?_)
    refine hR _ ?_
    simp only [go_sem]
  | some need =>
    obtain ⟨n1, n2, n3, n4⟩ := needB_ok hn
    rw [hn] at hN0
    have eT : ∀ ks, kindsB p.exprs l need 0 (List.replicate need.length 0) = .inl ks → kindP p.exprs root l = (getK ks root, 0, 0) := fun ks h => by
      unfold kindP; rw [hn]; simp only; rw [h]
    have eF : ∀ a e, kindsB p.exprs l need 0 (List.replicate need.length 0) = .inr (a, e) → kindP p.exprs root l = (0, a, e) := fun a e h => by
      unfold kindP; rw [hn]; simp only; rw [h]
    obtain ⟨k, rfl⟩ : ∃ k : Nat, root = (k : Int) := ⟨root.toNat, by omega⟩
    have hw := wrapI (x := (k : Int) + 1) (by omega) (by omega)
    have hk1 : ((k : Int) + 1).toNat = need.length := by omega
    have hr0 : List.replicate need.length [D.int .i64 0] = (List.replicate need.length (0 : Int)).map encI1 := by rw [List.map_replicate]; rfl
    repeat (first | simp only [go_sem] | refine Unf.h ?_)
    refine callK_plain hN0 (fun _ => rfl) ?_
    repeat (first | simp only [go_sem, vNeed, hw] | refine Unf.h ?_)
    refine ⟨by omega, by omega, by omega, ?_⟩
    rw [hk1, hr0]
    repeat (first | simp only [go_sem] | refine Unf.h ?_)
    refine kinds10_loop K (fun _ h => h) (p := p) (l := l) (need := need) (root := k) hl (by omega) (by omega) hE n4 (fun t ks b h1 h2 h3 h4 => ?_) (fun t a e h1 h6 h7 h8 => ?_) need.length 0 (List.replicate need.length 0) (by simp) (by simp) (fun k hk => by rw [List.eq_of_mem_replicate hk]; omega) rfl
    · rw [eT ks h1] at hR
      have hlt : (k : Int) < (ks.length : Int) := by omega
      have hg := getK_some (ks := ks) ⟨n1, hlt⟩
      repeat (first | simp only [go_sem, h3, h4, List.length_map, n1, hlt, getMap encI1 hg, encI1] | refine Unf.h ?_)
      refine hR _ ?_
      simp only [go_sem]
    · rw [eF a e h1] at hR
      repeat (first | simp only [go_sem] | refine Unf.h ?_)
      refine hR _ ?_
      simp only [go_sem, h6, h7, h8]
end Pay
