/- Contracts: the kind of an expression. -/
import Derived.Test.YtmglkghngkbioaaGreatDoorPayC61
import Derived.Test.YtmglkghngkbioaaGreatDoorPayC65
import Derived.Test.YtmglkghngkbioaaGreatDoorPayC80
import Derived.Test.YtmglkghngkbioaaGreatDoorPayC81
import Derived.Test.YtmglkghngkbioaaGreatDoorPayC82
import Derived.Test.YtmglkghngkbioaaGreatDoorPayC83
import Derived.Test.YtmglkghngkbioaaGreatDoorPayCk1
import Derived.Test.YtmglkghngkbioaaGreatDoorPaySh0_0
import Derived.Test.YtmglkghngkbioaaGreatDoorPayTr1
set_option linter.unusedSimpArgs false
set_option linter.unusedVariables false
namespace Pay
open Go
attribute [local irreducible] wpB opsB treeB drawB
theorem markP_ok : ∀ (ps : List Int) (i : Nat) (out o : List Bool), markP ps i out = some o → (∀ p ∈ ps, 0 ≤ p ∧ p < (i : Int)) ∧ ∀ j, i ≤ j → o[j]? = out[j]?
  | [], i, out, o, h => by cases h; exact ⟨by simp, fun _ _ => rfl⟩
  | p :: ps, i, out, o, h => by
    unfold markP at h
    split at h
    · rename_i hp
      obtain ⟨h1, h2⟩ := markP_ok ps i _ o h
      refine ⟨fun q hq => ?_, fun j hj => ?_⟩
      · rcases List.mem_cons.1 hq with rfl | hq
        · exact hp
        · exact h1 q hq
      · rw [h2 j hj, List.getElem?_set_ne (by omega)]
    · cases h
theorem needL_ok (es : List Xpr) : ∀ (n : Nat) (out need : List Bool), (∀ (i : Nat) (x : Xpr), n ≤ i → out[i]? = some true → es[i]? = some x → partsOk x i) → needL es n out = some need → ∀ (i : Nat) (x : Xpr), need[i]? = some true → es[i]? = some x → partsOk x i
  | 0, out, need, h0, h => by cases h; exact fun i x => h0 i x (Nat.zero_le _)
  | n + 1, out, need, h0, h => by
    unfold needL at h
    split at h
    · rename_i x hx1 hx2
      split at h
      · rename_i o ho
        obtain ⟨m1, m2⟩ := markP_ok _ _ _ _ ho
        refine needL_ok es n o need (fun i y hi hy1 hy2 => ?_) h
        by_cases e : i = n
        · subst e
          rw [hx2] at hy2
          injection hy2 with hy2
          subst hy2
          exact m1
        · exact h0 i y (by omega) (by rw [← m2 i hi]; exact hy1) hy2
      · cases h
    · rename_i hno
      refine needL_ok es n out need (fun i y hi hy1 hy2 => ?_) h
      by_cases e : i = n
      · subst e
        exact (hno _ hy1 hy2).elim
      · exact h0 i y (by omega) hy1 hy2
theorem needB_ok {es : List Xpr} {root : Int} {need : List Bool} (h : needB es root = some need) : 0 ≤ root ∧ root < (es.length : Int) ∧ need.length = root.toNat + 1 ∧ ∀ (i : Nat) (x : Xpr), need[i]? = some true → es[i]? = some x → partsOk x i := by
  unfold needB at h
  split at h
  · rename_i hr
    refine ⟨hr.1, hr.2, by rw [needL_len es _ _ _ h]; simp, needL_ok es _ _ _ (fun i x hi h1 _ => ?_) h⟩
    have : i < ((List.replicate (root.toNat + 1) false).set root.toNat true).length := (List.getElem?_eq_some_iff.1 h1).1
    simp at this
    omega
  · cases h
theorem prod_range (a b : Int) : 0 ≤ prodK a b ∧ prodK a b ≤ 4 := by unfold prodK; repeat' split <;> omega
theorem two_range (op : List UInt8) {a : Int} (b : Int) (ha : 0 ≤ a ∧ a ≤ 4) : 0 ≤ twoK op a b ∧ twoK op a b ≤ 4 := by
  have := prod_range a b
  unfold twoK
  repeat' split
  all_goals omega
theorem name_range (s : List UInt8) (l : List Bnd) : 0 ≤ nameK s l ∧ nameK s l ≤ 4 := by
  unfold nameK
  repeat' split
  all_goals omega
theorem kind_range (x : Xpr) {a b : Int} (c : Int) (l : List Bnd) (ha : 0 ≤ a ∧ a ≤ 4) (hb : 0 ≤ b ∧ b ≤ 4) : 0 ≤ kindX x a b c l ∧ kindX x a b c l ≤ 4 := by
  have h1 := two_range x.op b ha
  have h2 := name_range x.name l
  unfold kindX
  repeat' split
  all_goals omega
theorem getK_range {ks : List Int} (h : ∀ k ∈ ks, 0 ≤ k ∧ k ≤ 4) (p : Int) : 0 ≤ getK ks p ∧ getK ks p ≤ 4 := by
  unfold getK
  cases e : ks[p.toNat]? with
  | none => simp
  | some k => exact h k (List.mem_of_getElem? e)
/-- What the kinds of others make of one. -/
structure CkK (C : Ctx) : Prop where
  kind : ∀ (x : Xpr) (ks : List Int) (l : List Bnd), l.length < 100000 → partsOk x ks.length → (∀ k ∈ ks, 0 ≤ k ∧ k ≤ 4) → SoundAt C 185 ⟨[vX x, .d (.sl (ks.map encI1)), vBns l], looko []⟩ ⟨vI (kindX x (getK ks x.a) (getK ks x.b) (getK ks x.c) l), looko []⟩
  has : ∀ (x : Xpr) (l : List Bnd), l.length < 100000 → SoundAt C 187 ⟨[vBns l, .fn 186 [.ptr 14 0]], looko [(14, some (.box (xC x)))]⟩ ⟨vB (bound x.name l).isSome, looko [(14, some (.box (xC x)))]⟩
  need : ∀ (p : Prog) (root : Int), p.exprs.length < 100000 → -9223372036854775808 ≤ root ∧ root < 9223372036854775808 → SoundAt C 184 ⟨[vProg p, vI root], looko []⟩ ⟨vNeed (needB p.exprs root), looko []⟩
theorem kinds_loop {C : Ctx} (K : CkK C) {I : Nat → Prop} (hI : ∀ n, ¬ I n) {Q : Ex → St → Prop} {p : Prog} {l : List Bnd} {need : List Bool} {root : Int} {r : List Int ⊕ (Int × Int)} (hl : l.length < 100000) (hn : need.length ≤ p.exprs.length) (hE : p.exprs.length < 100000)
    (hok : ∀ (i : Nat) (x : Xpr), need[i]? = some true → p.exprs[i]? = some x → partsOk x i)
    (hT : ∀ t ks (b : Option Ob), r = .inl ks → ks.length = need.length → t 1 = vI root → t 11 = .own 25 → Q (.exit 0) (St.mk t (looko [(3, b), (25, some (.row 1 (ks.map encI1)))])))
    (hF : ∀ t at_ e, r = .inr (at_, e) → t 6 = vI 0 → t 7 = vI at_ → t 8 = vI e → Q .ret (St.mk t (looko []))) :
    ∀ (m i : Nat) (ks : List Int), i + m = need.length → ks.length = need.length → (∀ k ∈ ks, 0 ≤ k ∧ k ≤ 4) → kindsB p.exprs l (need.drop i) i ks = r →
      wpB C I g_check_Kind.l0 (St.mk (look [(1, vI root), (2, vBns l), (3, .ptr 3 0), (11, .own 25), (26, .d (.sl (need.map encB1))), (27, vI need.length), (28, vI i)]) (looko [(3, some (.box [.d (.sl (p.rules.map encRl)), .d (.sl (p.exprs.map encX))])), (25, some (.row 1 (ks.map encI1)))])) Q := by
  intro m
  induction m with
  | zero =>
    intro i ks hi hks hk hr
    have hi' : i = need.length := by omega
    subst hi'
    refine g_check_Kind_l0_sh rfl ?_
    repeat (first | simp only [go_sem, Int.lt_irrefl, decide_false] | refine Unf.h ?_)
    exact hT _ ks _ (by rw [← hr]; simp [kindsB]) hks rfl rfl
  | succ m ih =>
    intro i ks hi hks hk hr
    have hlt : i < need.length := by omega
    have hlt' : ((i : Int) < (need.length : Int)) := by omega
    have he := List.getElem?_eq_getElem hlt
    have hx := List.getElem?_eq_getElem (show i < p.exprs.length by omega)
    have hx' : ((i : Int) < (p.exprs.length : Int)) := by omega
    have hw := wrapI (x := (i : Int) + 1) (by omega) (by omega)
    have ih' := fun ks => ih (i + 1) ks (by omega)
    rw [List.drop_eq_getElem_cons hlt] at hr
    refine g_check_Kind_l0_sh rfl ?_
    cases hb : need[i] with
    | false =>
      rw [hb] at hr he
      rw [kindsB] at hr
      repeat (first | simp only [go_sem, Int.natCast_nonneg, decide_true, Int.toNat_natCast, List.length_map, hlt', getMap encB1 he, encB1, hw] | refine Unf.h ?_)
      exact ih' ks hks hk hr
    | true =>
      rw [hb] at hr he
      unfold kindsB at hr
      rw [hx] at hr
      simp only at hr
      have hpo := hok i _ he hx
      generalize p.exprs[i] = x at *
      have hc := K.kind x ks l hl (fun q hq => by have := hpo q hq; omega) hk
      have hkr := kind_range x (getK ks x.c) l (getK_range hk x.a) (getK_range hk x.b)
      generalize kindX x (getK ks x.a) (getK ks x.b) (getK ks x.c) l = k at *
      have hc' := ckKindOwn hc
      have hki : (i : Int) < (ks.length : Int) := by omega
      have hq := List.getElem?_eq_getElem (show i < ks.length by omega)
      have hs : (ks.map encI1).set i [D.int .i64 k] = (ks.set i k).map encI1 := by rw [List.map_set]; rfl
      have hq2 : (ks.set i k)[i]? = some k := by rw [List.getElem?_set_self (by omega)]
      have hki2 : (i : Int) < ((ks.set i k).length : Int) := by rw [List.length_set]; exact hki
      have hrow : refsIn [(25, Ob.row 1 (ks.map encI1))] := by
        intro p hp m hm
        simp only [List.mem_cons, List.not_mem_nil, or_false] at hp
        subst hp
        simp [Ob.refs] at hm
      have hset : ∀ q ∈ ks.set i k, 0 ≤ q ∧ q ≤ 4 := fun q hq => by
        rcases List.mem_or_eq_of_mem_set hq with h | rfl
        · exact hk q h
        · exact hkr
      repeat (first | simp only [go_sem, Int.natCast_nonneg, decide_true, Int.toNat_natCast, List.length_map, hlt', getMap encB1 he, encB1, hw, getMap encX hx, hx', encX, hI] | refine Unf.h ?_)
      refine callK_objs [(25, .row 1 (ks.map encI1))] [(25, .row 1 (ks.map encI1))] ?_ rfl hrow hc' (fun n hn => by simp [V.refs] at hn) ?_
      · simp only [go_sem]
      obtain ⟨ks', hks'⟩ : ∃ ks', ks.set i k = ks' := ⟨_, rfl⟩
      rw [hks'] at hs hq2 hki2 hset hr
      have hl' : ks'.length = need.length := by rw [← hks', List.length_set]; exact hks
      by_cases hk0 : k = 0
      · rw [if_pos hk0] at hr
        have hb0 : (k == 0) = true := by simp [hk0]
        by_cases hnm : x.op = wName
        · have hh := K.has x l hl
          have hn1 : (x.op = [110, 97, 109, 101]) = True := eq_true hnm
          have hn2 : (x.op == [110, 97, 109, 101]) = true := by simp [hn1]
          cases hbd : bound x.name l with
          | none =>
            rw [hbd] at hh hr
            rw [if_pos ⟨hnm, rfl⟩] at hr
            repeat (first | simp only [go_sem, Int.natCast_nonneg, decide_true, Int.toNat_natCast, List.length_map, hki, getMap encI1 hq, encI1, hs, hki2, getMap encI1 hq2, Nat.le_refl, bne, hb0, hn1, hn2] | refine Unf.h ?_)
            refine callK_box rfl (fun _ => rfl) hh (fun _ => rfl) ?_
            repeat (first | simp only [go_sem, Option.isSome_none] | refine Unf.h ?_)
            exact hF _ _ _ hr.symm rfl rfl rfl
          | some b =>
            rw [hbd] at hh hr
            rw [if_neg (by simp)] at hr
            repeat (first | simp only [go_sem, Int.natCast_nonneg, decide_true, Int.toNat_natCast, List.length_map, hki, getMap encI1 hq, encI1, hs, hki2, getMap encI1 hq2, Nat.le_refl, bne, hb0, hn1, hn2] | refine Unf.h ?_)
            refine callK_box rfl (fun _ => rfl) hh (fun _ => rfl) ?_
            repeat (first | simp only [go_sem, Option.isSome_some] | refine Unf.h ?_)
            exact hF _ _ _ hr.symm rfl rfl rfl
        · have hn1 : (x.op = [110, 97, 109, 101]) = False := eq_false hnm
          have hn2 : (x.op == [110, 97, 109, 101]) = false := by simpa using hnm
          rw [if_neg (by simp [hnm])] at hr
          repeat (first | simp only [go_sem, Int.natCast_nonneg, decide_true, Int.toNat_natCast, List.length_map, hki, getMap encI1 hq, encI1, hs, hki2, getMap encI1 hq2, Nat.le_refl, bne, hb0, hn1, hn2] | refine Unf.h ?_)
          exact hF _ _ _ hr.symm rfl rfl rfl
      · rw [if_neg hk0] at hr
        have hb0 : (k == 0) = false := by simp [hk0]
        repeat (first | simp only [go_sem, Int.natCast_nonneg, decide_true, Int.toNat_natCast, List.length_map, hki, getMap encI1 hq, encI1, hs, hki2, getMap encI1 hq2, Nat.le_refl, bne, hb0, hw] | refine Unf.h ?_)
        exact ih' ks' hl' hset hr
theorem ckKindAll {C : Ctx} (h : okFn C.P C.φ 163 g_check_Kind = true) (K : CkK C) (p : Prog) (root : Int) (l : List Bnd) (hE : p.exprs.length < 100000) (hl : l.length < 100000) (hroot : -9223372036854775808 ≤ root ∧ root < 9223372036854775808) :
    SoundAt C 163 ⟨[vProg p, vI root, vBns l], looko []⟩ ⟨.tup [vI (kindP p.exprs root l).1, vI (kindP p.exprs root l).2.1, vI (kindP p.exprs root l).2.2], looko []⟩ := by
  have hN0 := K.need p root hE hroot
  refine SoundAt.of_run h rfl (fun Q hR hN => ?_)
  rw [entry3]
  cases hn : needB p.exprs root with
  | none =>
    have e : kindP p.exprs root l = (0, 0, 1) := by unfold kindP; rw [hn]
    rw [hn] at hN0
    rw [e] at hR
    repeat (first | simp only [go_sem] | refine Unf.h ?_)
    refine callK_plain hN0 (fun _ => rfl) ?_
    repeat (first | simp only [go_sem, vNeed] | refine Unf.h ?_)
    refine hR _ ?_
    simp only [go_sem]
  | some need =>
    obtain ⟨n1, n2, n3, n4⟩ := needB_ok hn
    rw [hn] at hN0
    have eT : ∀ ks, kindsB p.exprs l need 0 (List.replicate need.length 0) = .inl ks → kindP p.exprs root l = (getK ks root, 0, 0) := fun ks h => by
      unfold kindP; rw [hn]; simp only; rw [h]
    have eF : ∀ a e, kindsB p.exprs l need 0 (List.replicate need.length 0) = .inr (a, e) → kindP p.exprs root l = (0, a, e) := fun a e h => by
      unfold kindP; rw [hn]; simp only; rw [h]
    have hr0 : List.replicate need.length [D.int .i64 0] = (List.replicate need.length (0 : Int)).map encI1 := by rw [List.map_replicate]; rfl
    repeat (first | simp only [go_sem] | refine Unf.h ?_)
    refine callK_plain hN0 (fun _ => rfl) ?_
    repeat (first | simp only [go_sem, vNeed, List.length_map, Int.natCast_nonneg, Int.toNat_natCast] | refine Unf.h ?_)
    refine ⟨by omega, by omega, ?_⟩
    rw [hr0]
    repeat (first | simp only [go_sem, List.length_map] | refine Unf.h ?_)
    refine kinds_loop K (fun _ h => h) (p := p) (l := l) (need := need) (root := root) hl (by omega) hE n4 (fun t ks b h1 h2 h3 h4 => ?_) (fun t a e h1 h6 h7 h8 => ?_) need.length 0 (List.replicate need.length 0) (by simp) (by simp) (fun k hk => by rw [List.eq_of_mem_replicate hk]; omega) rfl
    · rw [eT ks h1] at hR
      have hlt : root < (ks.length : Int) := by omega
      have hg := getK_some (ks := ks) ⟨n1, hlt⟩
      repeat (first | simp only [go_sem, h3, h4, List.length_map, n1, hlt, getMap encI1 hg, encI1] | refine Unf.h ?_)
      refine hR _ ?_
      simp only [go_sem]
    · rw [eF a e h1] at hR
      repeat (first | simp only [go_sem] | refine Unf.h ?_)
      refine hR _ ?_
      simp only [go_sem, h6, h7, h8]
end Pay
