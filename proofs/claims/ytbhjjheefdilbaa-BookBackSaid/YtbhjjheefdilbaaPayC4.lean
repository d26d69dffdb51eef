/- Contracts: all live entries of somebody. -/
import Derived.Test.YtbhjjheefdilbaaPayC3
import Derived.Test.YtbhjjheefdilbaaPaySh0
import Derived.Test.YtbhjjheefdilbaaPaySh1
set_option linter.unusedSimpArgs false
set_option linter.unusedVariables false
namespace Pay
open Go
attribute [local irreducible] wpB opsB treeB drawB

def aliveP (l : List Ent) (id : Int) (i : Nat) (e : Ent) : Bool := e.id == id && (e.back == 0 && !l.any (fun x => x.back == (i : Int) + 1))
def aliveS (l : List Ent) (id : Int) : List Ent := filtFrom (aliveP l id) 0 l
def backs (l : List Ent) (k : Int) : Nat := l.countP (fun e => e.back == k)

theorem alive_loop0 {C : Ctx} {I : Nat → Prop} (hI : ∀ n, ¬ I n) {Q : Ex → St → Prop} {l : List Ent} {id : Int} (hl : l.length < 1000)
    (hT : ∀ kvs : List (Int × Int), (∀ j, (getN j kvs).getD 0 = (backs l j : Int)) → Q (.exit 0) (St.mk (look [(1, vI id), (2, .ptr 2 0), (5, .mref 11), (13, vEnts l), (14, vI l.length), (15, vI l.length), (16, vB false)])
      (looko [(2, some (.box [vEnts l])), (11, some (.map (kvs.map kvE)))]))) :
    ∀ (n k : Nat) (kvs : List (Int × Int)), k + n = l.length → (∀ j, (getN j kvs).getD 0 = (backs (l.take k) j : Int)) →
      wpB C I g_book_alive.l0 (St.mk (look [(1, vI id), (2, .ptr 2 0), (5, .mref 11), (13, vEnts l), (14, vI l.length), (15, vI k)])
        (looko [(2, some (.box [vEnts l])), (11, some (.map (kvs.map kvE)))])) Q := by
  intro n
  induction n with
  | zero =>
    intro k kvs hk hi
    refine g_book_alive_l0_sh rfl ?_
    have hk' : k = l.length := by omega
    subst hk'
    rw [List.take_length] at hi
    simp only [go_sem, ↓reduceIte, Nat.reduceEqDiff, Nat.reduceAdd, Nat.reduceSub, Nat.reduceMul, Nat.reduceLeDiff, Nat.reduceBEq, reduceCtorEq, Nat.reduceEqDiff, Int.reduceEq, Int.reduceLT, Int.reduceLE, Int.reduceNeg, Int.reduceBEq, Int.reduceBNe, Int.reduceToNat, Int.reducePow, Int.lt_irrefl, decide_false]
    exact hT kvs hi
  | succ n ih =>
    intro k kvs hk hi
    refine g_book_alive_l0_sh rfl ?_
    have hlt : k < l.length := by omega
    have he := List.getElem?_eq_getElem hlt
    have hlt' : ((k : Int) < (l.length : Int)) := by omega
    have hb : backs (l.take k) l[k].back < 1000 := by
      have := List.countP_le_length (p := fun e : Ent => e.back == l[k].back) (l := l.take k)
      simp only [List.length_take] at this
      unfold backs; omega
    have hw : IntKind.i64.wrap ((getN l[k].back kvs).getD 0 + 1) = (getN l[k].back kvs).getD 0 + 1 := by
      rw [hi]; exact wrapI (by omega) (by omega)
    repeat (first | simp only [go_sem, ↓reduceIte, Nat.reduceEqDiff, Nat.reduceAdd, Nat.reduceSub, Nat.reduceMul, Nat.reduceLeDiff, Nat.reduceBEq, reduceCtorEq, Nat.reduceEqDiff, Int.reduceEq, Int.reduceLT, Int.reduceLE, Int.reduceNeg, Int.reduceBEq, Int.reduceBNe, Int.reduceToNat, Int.reducePow, hI, hlt', Int.natCast_nonneg, Int.toNat_natCast, getMap enc he, List.getElem?_map, enc_g4, wrapI (x := (k : Int) + 1) (by omega) (by omega), hw] | refine g_book_alive_c0_sh.mpr ?_ | refine g_book_alive_c1_sh.mpr ?_ | refine g_book_alive_c2_sh.mpr ?_ | refine g_book_alive_o3_sh.mpr ?_ | refine g_book_alive_o2_sh.mpr ?_ | refine g_book_alive_o1_sh.mpr ?_ | refine g_book_alive_o0_sh.mpr ?_ | refine g_book_alive_c3_sh.mpr ?_ | refine g_book_alive_c4_sh.mpr ?_ | refine g_book_alive_c5_sh.mpr ?_ | refine g_book_alive_c6_sh.mpr ?_ | refine g_book_alive_c7_sh.mpr ?_ | refine g_book_alive_c8_sh.mpr ?_ | refine g_book_alive_code_sh.mpr ?_)
    refine ih (k + 1) _ (by omega) (fun j => ?_)
    rw [getN_put, List.take_add_one, he]
    simp only [backs, Option.toList_some, List.countP_append, List.countP_singleton, beq_iff_eq]
    have hij := hi j
    unfold backs at hij
    by_cases h : j = l[k].back
    · subst h
      simp [hij]
    · have h' : ¬ l[k].back = j := fun e => h e.symm
      simp [h, h', hij]

theorem alive_loop1 {C : Ctx} {I : Nat → Prop} (hI : ∀ n, ¬ I n) {Q : Ex → St → Prop} {l : List Ent} {id : Int} (hl : l.length < 1000) {kvs : List (Int × Int)} (hkv : ∀ j, (getN j kvs).getD 0 = (backs l j : Int))
    (hT : ∀ s, s 8 = ownV 52 (aliveS l id) → Q (.exit 2) (St.mk s (looko [(11, some (.map (kvs.map kvE))), (52, ownO 22 enc (aliveS l id))]))) :
    ∀ (n k : Nat) (acc : List Ent), k + n = l.length → acc.length ≤ k → aliveS l id = acc ++ filtFrom (aliveP l id) k (l.drop k) →
      wpB C I g_book_alive.l1 (St.mk (look [(1, vI id), (5, .mref 11), (8, ownV 52 acc), (26, vEnts l), (27, vI l.length), (28, vI k)])
        (looko [(11, some (.map (kvs.map kvE))), (52, ownO 22 enc acc)])) Q := by
  intro n
  induction n with
  | zero =>
    intro k acc hk ha hi
    refine g_book_alive_l1_sh rfl ?_
    have hk' : k = l.length := by omega
    subst hk'
    have hi' : aliveS l id = acc := by rw [hi]; simp [filtFrom]
    simp only [go_sem, ↓reduceIte, Nat.reduceEqDiff, Nat.reduceAdd, Nat.reduceSub, Nat.reduceMul, Nat.reduceLeDiff, Nat.reduceBEq, reduceCtorEq, Nat.reduceEqDiff, Int.reduceEq, Int.reduceLT, Int.reduceLE, Int.reduceNeg, Int.reduceBEq, Int.reduceBNe, Int.reduceToNat, Int.reducePow, Int.lt_irrefl, decide_false]
    rw [hi'] at hT
    exact hT _ rfl
  | succ n ih =>
    intro k acc hk ha hi
    refine g_book_alive_l1_sh rfl ?_
    have hlt : k < l.length := by omega
    have he := List.getElem?_eq_getElem hlt
    have hlt' : ((k : Int) < (l.length : Int)) := by omega
    rw [List.drop_eq_getElem_cons hlt] at hi
    have next : aliveP l id k l[k] = false → wpB C I g_book_alive.l1 (St.mk (look [(1, vI id), (5, .mref 11), (8, ownV 52 acc), (26, vEnts l), (27, vI l.length), (28, vI (k + 1 : Nat))])
        (looko [(11, some (.map (kvs.map kvE))), (52, ownO 22 enc acc)])) Q := fun h =>
      ih (k + 1) acc (by omega) (by omega) (by rw [hi]; simp [filtFrom, h])
    have take : aliveP l id k l[k] = true → wpB C I g_book_alive.l1 (St.mk (look [(1, vI id), (5, .mref 11), (8, .own 52), (26, vEnts l), (27, vI l.length), (28, vI (k + 1 : Nat))])
        (looko [(11, some (.map (kvs.map kvE))), (52, some (.row 22 (acc.map enc ++ [enc l[k]])))])) Q := fun h => by
      have := ih (k + 1) (acc ++ [l[k]]) (by omega) (by simp; omega) (by rw [hi]; simp [filtFrom, h])
      have e1 : ownV 52 (acc ++ [l[k]]) = V.own 52 := by cases acc <;> rfl
      have e2 : ownO 22 enc (acc ++ [l[k]]) = some (.row 22 (acc.map enc ++ [enc l[k]])) := by cases acc <;> simp [ownO]
      rw [e1, e2] at this
      exact this
    have hw1 : IntKind.i64.wrap ((k : Int) + 1) = (k : Int) + 1 := wrapI (by omega) (by omega)
    have hfr : ∀ nm : Nat, nm ≠ 52 → V.refs nm (ownV 52 acc) = false := by
      intro nm hnm
      cases acc with
      | nil => rfl
      | cons a r => simp [ownV, V.refs]; omega
    have hfo : ∀ nm : Nat, ∀ x, ownO 22 enc acc = some x → x.refs nm = false := by
      intro nm x hx
      cases acc with
      | nil => cases hx
      | cons a r => simp [ownO] at hx; subst hx; rfl
    have hfo' : ∀ nm : Nat, freshO nm [(52, ownO 22 enc acc)] = true := by
      intro nm
      cases hx : ownO 22 enc acc with
      | none => simp [freshO]
      | some x => simp [freshO, hfo nm x hx]
    by_cases h1 : l[k].id = id
    case neg =>
      have h1' : (l[k].id == id) = false := by simp [h1]
      repeat (first | simp only [go_sem, ↓reduceIte, Nat.reduceEqDiff, Nat.reduceAdd, Nat.reduceSub, Nat.reduceMul, Nat.reduceLeDiff, Nat.reduceBEq, reduceCtorEq, Nat.reduceEqDiff, Int.reduceEq, Int.reduceLT, Int.reduceLE, Int.reduceNeg, Int.reduceBEq, Int.reduceBNe, Int.reduceToNat, Int.reducePow, hI, hlt', Int.natCast_nonneg, Int.toNat_natCast, getMap enc he, List.getElem?_map, enc_g2, h1', hw1, hfr, hfo'] | refine g_book_alive_c0_sh.mpr ?_ | refine g_book_alive_c1_sh.mpr ?_ | refine g_book_alive_c2_sh.mpr ?_ | refine g_book_alive_o3_sh.mpr ?_ | refine g_book_alive_o2_sh.mpr ?_ | refine g_book_alive_o1_sh.mpr ?_ | refine g_book_alive_o0_sh.mpr ?_ | refine g_book_alive_c3_sh.mpr ?_ | refine g_book_alive_c4_sh.mpr ?_ | refine g_book_alive_c5_sh.mpr ?_ | refine g_book_alive_c6_sh.mpr ?_ | refine g_book_alive_c7_sh.mpr ?_ | refine g_book_alive_c8_sh.mpr ?_ | refine g_book_alive_code_sh.mpr ?_)
      exact next (by simp [aliveP, h1])
    have h1' : (l[k].id == id) = true := by simp [h1]
    by_cases h2 : l[k].back = 0
    case neg =>
      have h2' : (l[k].back == 0) = false := by simp [h2]
      repeat (first | simp only [go_sem, ↓reduceIte, Nat.reduceEqDiff, Nat.reduceAdd, Nat.reduceSub, Nat.reduceMul, Nat.reduceLeDiff, Nat.reduceBEq, reduceCtorEq, Nat.reduceEqDiff, Int.reduceEq, Int.reduceLT, Int.reduceLE, Int.reduceNeg, Int.reduceBEq, Int.reduceBNe, Int.reduceToNat, Int.reducePow, hI, hlt', Int.natCast_nonneg, Int.toNat_natCast, getMap enc he, List.getElem?_map, enc_g2, enc_g4, h1', h2', hw1, hfr, hfo'] | refine g_book_alive_c0_sh.mpr ?_ | refine g_book_alive_c1_sh.mpr ?_ | refine g_book_alive_c2_sh.mpr ?_ | refine g_book_alive_o3_sh.mpr ?_ | refine g_book_alive_o2_sh.mpr ?_ | refine g_book_alive_o1_sh.mpr ?_ | refine g_book_alive_o0_sh.mpr ?_ | refine g_book_alive_c3_sh.mpr ?_ | refine g_book_alive_c4_sh.mpr ?_ | refine g_book_alive_c5_sh.mpr ?_ | refine g_book_alive_c6_sh.mpr ?_ | refine g_book_alive_c7_sh.mpr ?_ | refine g_book_alive_c8_sh.mpr ?_ | refine g_book_alive_code_sh.mpr ?_)
      exact next (by simp [aliveP, h2])
    have h2' : (l[k].back == 0) = true := by simp [h2]
    have h3 : ((getN ((k : Int) + 1) kvs).getD 0 == 0) = !l.any (fun x => x.back == (k : Int) + 1) := by
      rw [hkv]
      unfold backs
      cases hb : l.any (fun x => x.back == (k : Int) + 1) with
      | true =>
        obtain ⟨x, hx, hxb⟩ := List.any_eq_true.1 hb
        have := List.countP_pos_iff (p := fun x : Ent => x.back == (k : Int) + 1).2 ⟨x, hx, hxb⟩
        simp only [Bool.not_true, beq_eq_false_iff_ne, ne_eq]; omega
      | false =>
        have : l.countP (fun x => x.back == (k : Int) + 1) = 0 := List.countP_eq_zero.2 (fun x hx => by simpa using List.any_eq_false.1 hb x hx)
        simp [this]
    cases hany : l.any (fun x => x.back == (k : Int) + 1) with
    | true =>
      rw [hany] at h3
      repeat (first | simp only [go_sem, ↓reduceIte, Nat.reduceEqDiff, Nat.reduceAdd, Nat.reduceSub, Nat.reduceMul, Nat.reduceLeDiff, Nat.reduceBEq, reduceCtorEq, Nat.reduceEqDiff, Int.reduceEq, Int.reduceLT, Int.reduceLE, Int.reduceNeg, Int.reduceBEq, Int.reduceBNe, Int.reduceToNat, Int.reducePow, hI, hlt', Int.natCast_nonneg, Int.toNat_natCast, getMap enc he, List.getElem?_map, enc_g2, enc_g4, h1', h2', h3, hw1, hfr, hfo'] | refine g_book_alive_c0_sh.mpr ?_ | refine g_book_alive_c1_sh.mpr ?_ | refine g_book_alive_c2_sh.mpr ?_ | refine g_book_alive_o3_sh.mpr ?_ | refine g_book_alive_o2_sh.mpr ?_ | refine g_book_alive_o1_sh.mpr ?_ | refine g_book_alive_o0_sh.mpr ?_ | refine g_book_alive_c3_sh.mpr ?_ | refine g_book_alive_c4_sh.mpr ?_ | refine g_book_alive_c5_sh.mpr ?_ | refine g_book_alive_c6_sh.mpr ?_ | refine g_book_alive_c7_sh.mpr ?_ | refine g_book_alive_c8_sh.mpr ?_ | refine g_book_alive_code_sh.mpr ?_)
      exact next (by simp [aliveP, hany])
    | false =>
      rw [hany] at h3
      have tk := take (by simp [aliveP, hany, h1, h2])
      cases acc with
      | nil =>
        repeat (first | simp only [go_sem, ↓reduceIte, Nat.reduceEqDiff, Nat.reduceAdd, Nat.reduceSub, Nat.reduceMul, Nat.reduceLeDiff, Nat.reduceBEq, reduceCtorEq, Nat.reduceEqDiff, Int.reduceEq, Int.reduceLT, Int.reduceLE, Int.reduceNeg, Int.reduceBEq, Int.reduceBNe, Int.reduceToNat, Int.reducePow, ownV, ownO, hI, hlt', Int.natCast_nonneg, Int.toNat_natCast, getMap enc he, List.getElem?_map, enc_g2, enc_g4, h1', h2', h3, hw1] | refine g_book_alive_c0_sh.mpr ?_ | refine g_book_alive_c1_sh.mpr ?_ | refine g_book_alive_c2_sh.mpr ?_ | refine g_book_alive_o3_sh.mpr ?_ | refine g_book_alive_o2_sh.mpr ?_ | refine g_book_alive_o1_sh.mpr ?_ | refine g_book_alive_o0_sh.mpr ?_ | refine g_book_alive_c3_sh.mpr ?_ | refine g_book_alive_c4_sh.mpr ?_ | refine g_book_alive_c5_sh.mpr ?_ | refine g_book_alive_c6_sh.mpr ?_ | refine g_book_alive_c7_sh.mpr ?_ | refine g_book_alive_c8_sh.mpr ?_ | refine g_book_alive_code_sh.mpr ?_)
        exact tk
      | cons a r =>
        repeat (first | simp only [go_sem, ↓reduceIte, Nat.reduceEqDiff, Nat.reduceAdd, Nat.reduceSub, Nat.reduceMul, Nat.reduceLeDiff, Nat.reduceBEq, reduceCtorEq, Nat.reduceEqDiff, Int.reduceEq, Int.reduceLT, Int.reduceLE, Int.reduceNeg, Int.reduceBEq, Int.reduceBNe, Int.reduceToNat, Int.reducePow, ownV, ownO, hI, hlt', Int.natCast_nonneg, Int.toNat_natCast, getMap enc he, List.getElem?_map, enc_g2, enc_g4, h1', h2', h3, hw1] | refine g_book_alive_c0_sh.mpr ?_ | refine g_book_alive_c1_sh.mpr ?_ | refine g_book_alive_c2_sh.mpr ?_ | refine g_book_alive_o3_sh.mpr ?_ | refine g_book_alive_o2_sh.mpr ?_ | refine g_book_alive_o1_sh.mpr ?_ | refine g_book_alive_o0_sh.mpr ?_ | refine g_book_alive_c3_sh.mpr ?_ | refine g_book_alive_c4_sh.mpr ?_ | refine g_book_alive_c5_sh.mpr ?_ | refine g_book_alive_c6_sh.mpr ?_ | refine g_book_alive_c7_sh.mpr ?_ | refine g_book_alive_c8_sh.mpr ?_ | refine g_book_alive_code_sh.mpr ?_)
        refine ⟨by simp at ha ⊢; omega, by simp at ha ⊢; omega, ?_⟩
        repeat (first | simp only [go_sem, ↓reduceIte, Nat.reduceEqDiff, Nat.reduceAdd, Nat.reduceSub, Nat.reduceMul, Nat.reduceLeDiff, Nat.reduceBEq, reduceCtorEq, Nat.reduceEqDiff, Int.reduceEq, Int.reduceLT, Int.reduceLE, Int.reduceNeg, Int.reduceBEq, Int.reduceBNe, Int.reduceToNat, Int.reducePow, hw1] | refine g_book_alive_c0_sh.mpr ?_ | refine g_book_alive_c1_sh.mpr ?_ | refine g_book_alive_c2_sh.mpr ?_ | refine g_book_alive_o3_sh.mpr ?_ | refine g_book_alive_o2_sh.mpr ?_ | refine g_book_alive_o1_sh.mpr ?_ | refine g_book_alive_o0_sh.mpr ?_ | refine g_book_alive_c3_sh.mpr ?_ | refine g_book_alive_c4_sh.mpr ?_ | refine g_book_alive_c5_sh.mpr ?_ | refine g_book_alive_c6_sh.mpr ?_ | refine g_book_alive_c7_sh.mpr ?_ | refine g_book_alive_c8_sh.mpr ?_ | refine g_book_alive_code_sh.mpr ?_)
        exact tk

theorem bookAlive {C : Ctx} (h18 : okFn C.P C.φ 18 g_book_alive = true) (l : List Ent) (id : Int) (hl : l.length < 1000) :
    SoundAt C 18 ⟨[vBook l, vI id], looko []⟩ ⟨vEnts (aliveS l id), looko []⟩ := by
  have key : ∀ r, (r = match aliveS l id with | [] => V.cap0 | _ :: _ => vEnts (aliveS l id)) → SoundAt C 18 ⟨[vBook l, vI id], looko []⟩ ⟨r, looko []⟩ := by
    intro r hr
    refine SoundAt.of_codeB h18 rfl ?_
    rw [entry2]
    repeat (first | simp only [go_sem, ↓reduceIte, Nat.reduceEqDiff, Nat.reduceAdd, Nat.reduceSub, Nat.reduceMul, Nat.reduceLeDiff, Nat.reduceBEq, reduceCtorEq, Nat.reduceEqDiff, Int.reduceEq, Int.reduceLT, Int.reduceLE, Int.reduceNeg, Int.reduceBEq, Int.reduceBNe, Int.reduceToNat, Int.reducePow, List.length_map] | refine g_book_alive_c0_sh.mpr ?_ | refine g_book_alive_c1_sh.mpr ?_ | refine g_book_alive_c2_sh.mpr ?_ | refine g_book_alive_o3_sh.mpr ?_ | refine g_book_alive_o2_sh.mpr ?_ | refine g_book_alive_o1_sh.mpr ?_ | refine g_book_alive_o0_sh.mpr ?_ | refine g_book_alive_c3_sh.mpr ?_ | refine g_book_alive_c4_sh.mpr ?_ | refine g_book_alive_c5_sh.mpr ?_ | refine g_book_alive_c6_sh.mpr ?_ | refine g_book_alive_c7_sh.mpr ?_ | refine g_book_alive_c8_sh.mpr ?_ | refine g_book_alive_code_sh.mpr ?_)
    refine alive_loop0 (fun n => by simp [looko]) hl (fun kvs hkv => ?_) l.length 0 [] (by omega) (fun j => rfl)
    repeat (first | simp only [go_sem, ↓reduceIte, Nat.reduceEqDiff, Nat.reduceAdd, Nat.reduceSub, Nat.reduceMul, Nat.reduceLeDiff, Nat.reduceBEq, reduceCtorEq, Nat.reduceEqDiff, Int.reduceEq, Int.reduceLT, Int.reduceLE, Int.reduceNeg, Int.reduceBEq, Int.reduceBNe, Int.reduceToNat, Int.reducePow, List.length_map] | refine g_book_alive_c0_sh.mpr ?_ | refine g_book_alive_c1_sh.mpr ?_ | refine g_book_alive_c2_sh.mpr ?_ | refine g_book_alive_o3_sh.mpr ?_ | refine g_book_alive_o2_sh.mpr ?_ | refine g_book_alive_o1_sh.mpr ?_ | refine g_book_alive_o0_sh.mpr ?_ | refine g_book_alive_c3_sh.mpr ?_ | refine g_book_alive_c4_sh.mpr ?_ | refine g_book_alive_c5_sh.mpr ?_ | refine g_book_alive_c6_sh.mpr ?_ | refine g_book_alive_c7_sh.mpr ?_ | refine g_book_alive_c8_sh.mpr ?_ | refine g_book_alive_code_sh.mpr ?_)
    refine alive_loop1 (fun n => by simp [looko]) hl hkv (fun s hs => ?_) l.length 0 [] (by omega) (by simp) rfl
    cases hx : aliveS l id with
    | nil =>
      rw [hx] at hs hr
      repeat (first | simp only [go_sem, ↓reduceIte, Nat.reduceEqDiff, Nat.reduceAdd, Nat.reduceSub, Nat.reduceMul, Nat.reduceLeDiff, Nat.reduceBEq, reduceCtorEq, Nat.reduceEqDiff, Int.reduceEq, Int.reduceLT, Int.reduceLE, Int.reduceNeg, Int.reduceBEq, Int.reduceBNe, Int.reduceToNat, Int.reducePow, hs, ownV, ownO, hr, true_or] | refine g_book_alive_c0_sh.mpr ?_ | refine g_book_alive_c1_sh.mpr ?_ | refine g_book_alive_c2_sh.mpr ?_ | refine g_book_alive_o3_sh.mpr ?_ | refine g_book_alive_o2_sh.mpr ?_ | refine g_book_alive_o1_sh.mpr ?_ | refine g_book_alive_o0_sh.mpr ?_ | refine g_book_alive_c3_sh.mpr ?_ | refine g_book_alive_c4_sh.mpr ?_ | refine g_book_alive_c5_sh.mpr ?_ | refine g_book_alive_c6_sh.mpr ?_ | refine g_book_alive_c7_sh.mpr ?_ | refine g_book_alive_c8_sh.mpr ?_ | refine g_book_alive_code_sh.mpr ?_)
    | cons a r =>
      rw [hx] at hs hr
      repeat (first | simp only [go_sem, ↓reduceIte, Nat.reduceEqDiff, Nat.reduceAdd, Nat.reduceSub, Nat.reduceMul, Nat.reduceLeDiff, Nat.reduceBEq, reduceCtorEq, Nat.reduceEqDiff, Int.reduceEq, Int.reduceLT, Int.reduceLE, Int.reduceNeg, Int.reduceBEq, Int.reduceBNe, Int.reduceToNat, Int.reducePow, hs, ownV, ownO, hr, true_or] | refine g_book_alive_c0_sh.mpr ?_ | refine g_book_alive_c1_sh.mpr ?_ | refine g_book_alive_c2_sh.mpr ?_ | refine g_book_alive_o3_sh.mpr ?_ | refine g_book_alive_o2_sh.mpr ?_ | refine g_book_alive_o1_sh.mpr ?_ | refine g_book_alive_o0_sh.mpr ?_ | refine g_book_alive_c3_sh.mpr ?_ | refine g_book_alive_c4_sh.mpr ?_ | refine g_book_alive_c5_sh.mpr ?_ | refine g_book_alive_c6_sh.mpr ?_ | refine g_book_alive_c7_sh.mpr ?_ | refine g_book_alive_c8_sh.mpr ?_ | refine g_book_alive_code_sh.mpr ?_)
      rfl
  cases h : aliveS l id with
  | nil => exact SoundAt.sl0 (key _ (by rw [h]))
  | cons a r => exact key _ (by rw [h])
end Pay
