/- Contracts: orders, copied; what is left to claim. -/
import Derived.Test.YtbhjjheefdilbaaPayC6
import Derived.Test.YtbhjjheefdilbaaPaySh0
import Derived.Test.YtbhjjheefdilbaaPaySh1
set_option linter.unusedSimpArgs false
set_option linter.unusedVariables false
namespace Pay
open Go
attribute [local irreducible] wpB opsB treeB drawB

theorem SoundAt.rename {C : Ctx} {f : Nat} {xs : List V} {a sz : Nat} {es : List (List D)} (b : Nat) (h : SoundAt C f ⟨xs, looko []⟩ ⟨.own a, looko [(a, some (.row sz es))]⟩) : SoundAt C f ⟨xs, looko []⟩ ⟨.own b, looko [(b, some (.row sz es))]⟩ := by
  intro w S M γ us hp
  refine Enters.mono (h w S M γ us hp) ?_
  rintro v w' ⟨γ', hq⟩
  have hb : upd γ' b (γ' a) b = γ' a := upd_same _ _ _
  have hok : ∀ g, okOf w S γ' (looko [(a, some (.row sz es))]) w' g → w'.heap[g]? = w'.heap[g]? ∧ okOf w S (upd γ' b (γ' a)) (looko [(b, some (.row sz es))]) w' g := by
    intro g hg
    refine ⟨rfl, hg.1, hg.2.1, fun n x hx => ?_⟩
    by_cases e : n = b
    · subst e
      rw [hb]
      exact hg.2.2 a (.row sz es) (by simp [looko])
    · simp [looko, e] at hx
  refine ⟨upd γ' b (γ' a), ⟨?_, fun n x hx => ?_, fun n m x y g hx hy _ _ => ?_, fun n x g hx hg => ?_, hq.fram, fun n hn => ?_⟩⟩
  · obtain ⟨h1, h2⟩ := hq.res
    exact ⟨by rw [hb]; exact h1, h2⟩
  · by_cases e : n = b
    · subst e
      simp [looko] at hx
      subst hx
      rw [hb]
      have := hq.objs a (.row sz es) (by simp [looko])
      exact RepO.mono hok (fun _ h => by cases h) (fun _ _ => rfl) this
    · simp [looko, e] at hx
  · by_cases e : n = b
    · by_cases e' : m = b
      · rw [e, e']
      · simp [looko, e'] at hy
    · simp [looko, e] at hx
  · by_cases e : n = b
    · subst e
      simp [looko] at hx
      rw [hb] at hg
      exact hq.muts a (.row sz es) g (by simp [looko]) hg
    · simp [looko, e] at hx
  · simp [looko] at hn

theorem filt_mem0 {p : Nat → Ent → Bool} : ∀ {l : List Ent} {k : Nat} {e : Ent}, e ∈ filtFrom p k l → e ∈ l
  | [], k, e, h => by simp [filtFrom] at h
  | x :: l, k, e, h => by
    simp only [filtFrom] at h
    split at h
    · rcases List.mem_cons.1 h with rfl | h
      · simp
      · exact List.mem_cons_of_mem _ (filt_mem0 h)
    · exact List.mem_cons_of_mem _ (filt_mem0 h)
structure Ord where
  cr : Int
  pr : Int
  claim : Int
  bal : Int
def encO (o : Ord) : List D := [dI o.cr, dI o.pr, dI o.claim, dI o.bal]
theorem encO_len (o : Ord) : (encO o).length = 4 := rfl
theorem encO_all (l : List Ord) : (∀ e ∈ l.map encO, e.length = 4) = True := eq_true (map_len_all encO 4 encO_len l)

theorem cloneO {C : Ctx} (h31 : okFn C.P C.φ 31 g_slices_Clone_Order = true) (l : List Ord) (hl : l.length < 1000) :
    SoundAt C 31 ⟨[.d (.sl (l.map encO))], looko []⟩ ⟨.own 7, looko [(7, some (.row 4 (l.map encO)))]⟩ := by
  refine SoundAt.of_run h31 rfl (fun Q hR _ => ?_)
  rw [entry1]
  cases l with
  | nil =>
    repeat (first | simp only [go_sem, ↓reduceIte, Nat.reduceEqDiff, Nat.reduceAdd, Nat.reduceSub, Nat.reduceMul, Nat.reduceLeDiff, Nat.reduceBEq, reduceCtorEq, Nat.reduceEqDiff, Int.reduceEq, Int.reduceLT, Int.reduceLE, Int.reduceNeg, Int.reduceBEq, Int.reduceBNe, Int.reduceToNat, Int.reducePow] | refine g_slices_Clone_Order_code_sh.mpr ?_)
    intro c
    cases c with
    | true =>
      repeat (first | simp only [go_sem, ↓reduceIte, Nat.reduceEqDiff, Nat.reduceAdd, Nat.reduceSub, Nat.reduceMul, Nat.reduceLeDiff, Nat.reduceBEq, reduceCtorEq, Nat.reduceEqDiff, Int.reduceEq, Int.reduceLT, Int.reduceLE, Int.reduceNeg, Int.reduceBEq, Int.reduceBNe, Int.reduceToNat, Int.reducePow] | refine g_slices_Clone_Order_code_sh.mpr ?_)
      refine hR _ ?_
      rw [ends_own_cap rfl]
      simp only [go_sem, ↓reduceIte, Nat.reduceEqDiff, Nat.reduceAdd, Nat.reduceSub, Nat.reduceMul, Nat.reduceLeDiff, Nat.reduceBEq, reduceCtorEq, Nat.reduceEqDiff, Int.reduceEq, Int.reduceLT, Int.reduceLE, Int.reduceNeg, Int.reduceBEq, Int.reduceBNe, Int.reduceToNat, Int.reducePow]
    | false =>
      repeat (first | simp only [go_sem, ↓reduceIte, Nat.reduceEqDiff, Nat.reduceAdd, Nat.reduceSub, Nat.reduceMul, Nat.reduceLeDiff, Nat.reduceBEq, reduceCtorEq, Nat.reduceEqDiff, Int.reduceEq, Int.reduceLT, Int.reduceLE, Int.reduceNeg, Int.reduceBEq, Int.reduceBNe, Int.reduceToNat, Int.reducePow] | refine g_slices_Clone_Order_code_sh.mpr ?_)
      refine hR _ ?_
      rw [ends_own_own rfl]
      simp only [go_sem, ↓reduceIte, Nat.reduceEqDiff, Nat.reduceAdd, Nat.reduceSub, Nat.reduceMul, Nat.reduceLeDiff, Nat.reduceBEq, reduceCtorEq, Nat.reduceEqDiff, Int.reduceEq, Int.reduceLT, Int.reduceLE, Int.reduceNeg, Int.reduceBEq, Int.reduceBNe, Int.reduceToNat, Int.reducePow]
  | cons a r =>
    have h1 : ((List.map encO r).length + 1) * 32 ≤ 140737488355328 := by simp at hl ⊢; omega
    have h2 : (List.map encO r).length ≤ 140737488355327 := by simp at hl ⊢; omega
    have h3 := encO_all r
    repeat (first | simp only [go_sem, ↓reduceIte, Nat.reduceEqDiff, Nat.reduceAdd, Nat.reduceSub, Nat.reduceMul, Nat.reduceLeDiff, Nat.reduceBEq, reduceCtorEq, Nat.reduceEqDiff, Int.reduceEq, Int.reduceLT, Int.reduceLE, Int.reduceNeg, Int.reduceBEq, Int.reduceBNe, Int.reduceToNat, Int.reducePow, encO_len, h1, h2, h3] | refine g_slices_Clone_Order_code_sh.mpr ?_)
    refine hR _ ?_
    rw [ends_own_own rfl]
    simp only [go_sem, ↓reduceIte, Nat.reduceEqDiff, Nat.reduceAdd, Nat.reduceSub, Nat.reduceMul, Nat.reduceLeDiff, Nat.reduceBEq, reduceCtorEq, Nat.reduceEqDiff, Int.reduceEq, Int.reduceLT, Int.reduceLE, Int.reduceNeg, Int.reduceBEq, Int.reduceBNe, Int.reduceToNat, Int.reducePow]

def balF (g : List Int) (i : Nat) (o : Ord) : Ord := match g[i]? with | some n => { o with bal := w64 (o.bal - n) } | none => o
def balStep (os : List Ord) (e : Ent) : List Ord := os.mapIdx (balF e.garn)
def balS (l : List Ent) (id : Int) (os : List Ord) : List Ord := (aliveS l id).foldl balStep os
def balK (os : List Ord) (g : List Int) (k : Nat) : List Ord := os.mapIdx (fun i o => if i < k then balF g i o else o)
theorem balK_len (os : List Ord) (g : List Int) (k : Nat) : (balK os g k).length = os.length := by simp [balK]
theorem balK_0 (os : List Ord) (g : List Int) : balK os g 0 = os := by
  apply List.ext_getElem
  · simp [balK]
  · intro i h1 h2; simp [balK]
theorem balK_end (os : List Ord) (g : List Int) : balK os g g.length = os.mapIdx (balF g) := by
  apply List.ext_getElem
  · simp [balK]
  · intro i h1 h2
    simp only [balK, List.getElem_mapIdx]
    split
    · rfl
    · rename_i h
      have : g[i]? = none := by simp; omega
      simp [balF, this]
theorem balK_get {os : List Ord} {g : List Int} {k : Nat} (h : k < os.length) : (balK os g k)[k]? = some os[k] := by
  simp [balK, h]
theorem balK_set {os : List Ord} {g : List Int} {k : Nat} {n : Int} (h : k < os.length) (hn : g[k]? = some n) : (balK os g k).set k { os[k] with bal := w64 (os[k].bal - n) } = balK os g (k + 1) := by
  apply List.ext_getElem
  · simp [balK]
  · intro i h1 h2
    by_cases e : i = k
    · subst e; simp [balK, balF, hn]
    · have e' : ¬ k = i := fun x => e x.symm
      simp only [balK, List.getElem_set, e', if_false, List.getElem_mapIdx]
      by_cases hi : i < k
      · simp [hi, show i < k + 1 by omega]
      · simp [hi, show ¬ i < k + 1 by omega]
theorem balK_skip {os : List Ord} {g : List Int} {k : Nat} (h : ¬ k < os.length) : balK os g (k + 1) = balK os g k := by
  apply List.ext_getElem
  · simp [balK]
  · intro i h1 h2
    have : i < os.length := by simpa [balK] using h2
    simp [balK, show i < k + 1 by omega, show i < k by omega]

theorem bal_loop1 {C : Ctx} {I : Nat → Prop} (hI : ∀ n, ¬ I n) {Q : Ex → St → Prop} {al : List Ent} {j : Nat} {os : List Ord} {g : List Int} (hg : g.length < 1000)
    (hT : Q (.exit 2) (St.mk (look [(7, .own 13), (16, vEnts al), (17, vI al.length), (18, vI j), (24, .d (.sl (g.map encI))), (25, vI g.length), (26, vI g.length), (27, vB false)]) (looko [(13, some (.row 4 ((os.mapIdx (balF g)).map encO)))]))) :
    ∀ (n k : Nat) (cur : List Ord), k + n = g.length → cur = balK os g k →
      wpB C I g_book_Balances.l1 (St.mk (look [(7, .own 13), (16, vEnts al), (17, vI al.length), (18, vI j), (24, .d (.sl (g.map encI))), (25, vI g.length), (26, vI k)]) (looko [(13, some (.row 4 (cur.map encO)))])) Q := by
  intro n
  induction n with
  | zero =>
    intro k cur hk hc
    subst hc
    refine g_book_Balances_l1_sh rfl ?_
    have hk' : k = g.length := by omega
    subst hk'
    simp only [go_sem, ↓reduceIte, Nat.reduceEqDiff, Nat.reduceAdd, Nat.reduceSub, Nat.reduceMul, Nat.reduceLeDiff, Nat.reduceBEq, reduceCtorEq, Nat.reduceEqDiff, Int.reduceEq, Int.reduceLT, Int.reduceLE, Int.reduceNeg, Int.reduceBEq, Int.reduceBNe, Int.reduceToNat, Int.reducePow, Int.lt_irrefl, decide_false, balK_end]
    exact hT
  | succ n ih =>
    intro k cur hk hc
    subst hc
    refine g_book_Balances_l1_sh rfl ?_
    have hlt : k < g.length := by omega
    have hlt' : ((k : Int) < (g.length : Int)) := by omega
    have he := List.getElem?_eq_getElem hlt
    have hw : IntKind.i64.wrap ((k : Int) + 1) = (k : Int) + 1 := wrapI (by omega) (by omega)
    have next := ih (k + 1) _ (by omega) rfl
    by_cases ho : k < os.length
    case neg =>
      have ho' : ¬ (k : Int) < (os.length : Int) := by omega
      rw [balK_skip ho] at next
      repeat (first | simp only [go_sem, ↓reduceIte, Nat.reduceEqDiff, Nat.reduceAdd, Nat.reduceSub, Nat.reduceMul, Nat.reduceLeDiff, Nat.reduceBEq, reduceCtorEq, Nat.reduceEqDiff, Int.reduceEq, Int.reduceLT, Int.reduceLE, Int.reduceNeg, Int.reduceBEq, Int.reduceBNe, Int.reduceToNat, Int.reducePow, hlt', ho', hw, List.length_map, balK_len, Int.natCast_nonneg, Int.toNat_natCast, getMap encI he, encI] | refine g_book_Balances_c0_sh.mpr ?_ | refine g_book_Balances_c1_sh.mpr ?_ | refine g_book_Balances_c2_sh.mpr ?_ | refine g_book_Balances_c3_sh.mpr ?_ | refine g_book_Balances_c4_sh.mpr ?_ | refine g_book_Balances_c5_sh.mpr ?_ | refine g_book_Balances_c6_sh.mpr ?_ | refine g_book_Balances_code_sh.mpr ?_)
      exact next
    have ho' : (k : Int) < (os.length : Int) := by omega
    rw [← balK_set ho he] at next
    repeat (first | simp only [go_sem, ↓reduceIte, Nat.reduceEqDiff, Nat.reduceAdd, Nat.reduceSub, Nat.reduceMul, Nat.reduceLeDiff, Nat.reduceBEq, reduceCtorEq, Nat.reduceEqDiff, Int.reduceEq, Int.reduceLT, Int.reduceLE, Int.reduceNeg, Int.reduceBEq, Int.reduceBNe, Int.reduceToNat, Int.reducePow, hlt', ho', ho, hw, List.length_map, balK_len, Int.natCast_nonneg, Int.toNat_natCast, getMap encI he, getMap encO (balK_get ho), encI, encO] | refine g_book_Balances_c0_sh.mpr ?_ | refine g_book_Balances_c1_sh.mpr ?_ | refine g_book_Balances_c2_sh.mpr ?_ | refine g_book_Balances_c3_sh.mpr ?_ | refine g_book_Balances_c4_sh.mpr ?_ | refine g_book_Balances_c5_sh.mpr ?_ | refine g_book_Balances_c6_sh.mpr ?_ | refine g_book_Balances_code_sh.mpr ?_)
    simp only [List.map_set, encO] at next
    exact next

theorem bal_loop0 {C : Ctx} {I : Nat → Prop} (hI : ∀ n, ¬ I n) {Q : Ex → St → Prop} {al : List Ent} (hl : al.length < 1000) (hg : ∀ e ∈ al, e.garn.length < 1000) {os0 : List Ord}
    (hT : ∀ s, s 7 = .own 13 → Q (.exit 0) (St.mk s (looko [(13, some (.row 4 ((al.foldl balStep os0).map encO)))]))) :
    ∀ (n k : Nat) (os : List Ord), k + n = al.length → al.foldl balStep os0 = (al.drop k).foldl balStep os →
      wpB C I g_book_Balances.l0 (St.mk (look [(7, .own 13), (16, vEnts al), (17, vI al.length), (18, vI k)]) (looko [(13, some (.row 4 (os.map encO)))])) Q := by
  intro n
  induction n with
  | zero =>
    intro k os hk hi
    refine g_book_Balances_l0_sh rfl ?_
    have hk' : k = al.length := by omega
    subst hk'
    have hi' : al.foldl balStep os0 = os := by rw [hi]; simp
    rw [hi'] at hT
    simp only [go_sem, ↓reduceIte, Nat.reduceEqDiff, Nat.reduceAdd, Nat.reduceSub, Nat.reduceMul, Nat.reduceLeDiff, Nat.reduceBEq, reduceCtorEq, Nat.reduceEqDiff, Int.reduceEq, Int.reduceLT, Int.reduceLE, Int.reduceNeg, Int.reduceBEq, Int.reduceBNe, Int.reduceToNat, Int.reducePow, Int.lt_irrefl, decide_false]
    exact hT _ rfl
  | succ n ih =>
    intro k os hk hi
    refine g_book_Balances_l0_sh rfl ?_
    have hlt : k < al.length := by omega
    have hlt' : ((k : Int) < (al.length : Int)) := by omega
    have he := List.getElem?_eq_getElem hlt
    have hw : IntKind.i64.wrap ((k : Int) + 1) = (k : Int) + 1 := wrapI (by omega) (by omega)
    rw [List.drop_eq_getElem_cons hlt, List.foldl_cons] at hi
    have next := ih (k + 1) _ (by omega) hi
    repeat (first | simp only [go_sem, ↓reduceIte, Nat.reduceEqDiff, Nat.reduceAdd, Nat.reduceSub, Nat.reduceMul, Nat.reduceLeDiff, Nat.reduceBEq, reduceCtorEq, Nat.reduceEqDiff, Int.reduceEq, Int.reduceLT, Int.reduceLE, Int.reduceNeg, Int.reduceBEq, Int.reduceBNe, Int.reduceToNat, Int.reducePow, hI, hlt', Int.natCast_nonneg, Int.toNat_natCast, getMap enc he, List.getElem?_map, enc_g20, List.length_map] | refine g_book_Balances_c0_sh.mpr ?_ | refine g_book_Balances_c1_sh.mpr ?_ | refine g_book_Balances_c2_sh.mpr ?_ | refine g_book_Balances_c3_sh.mpr ?_ | refine g_book_Balances_c4_sh.mpr ?_ | refine g_book_Balances_c5_sh.mpr ?_ | refine g_book_Balances_c6_sh.mpr ?_ | refine g_book_Balances_code_sh.mpr ?_)
    refine bal_loop1 hI (g := al[k].garn) (os := os) (hg _ (List.getElem_mem hlt)) ?_ al[k].garn.length 0 os (by omega) (balK_0 _ _).symm
    repeat (first | simp only [go_sem, ↓reduceIte, Nat.reduceEqDiff, Nat.reduceAdd, Nat.reduceSub, Nat.reduceMul, Nat.reduceLeDiff, Nat.reduceBEq, reduceCtorEq, Nat.reduceEqDiff, Int.reduceEq, Int.reduceLT, Int.reduceLE, Int.reduceNeg, Int.reduceBEq, Int.reduceBNe, Int.reduceToNat, Int.reducePow, hw] | refine g_book_Balances_c0_sh.mpr ?_ | refine g_book_Balances_c1_sh.mpr ?_ | refine g_book_Balances_c2_sh.mpr ?_ | refine g_book_Balances_c3_sh.mpr ?_ | refine g_book_Balances_c4_sh.mpr ?_ | refine g_book_Balances_c5_sh.mpr ?_ | refine g_book_Balances_c6_sh.mpr ?_ | refine g_book_Balances_code_sh.mpr ?_)
    exact next

theorem bookBal {C : Ctx} (h26 : okFn C.P C.φ 26 g_book_Balances = true) (hClone : ∀ l : List Ord, l.length < 1000 → SoundAt C 31 ⟨[.d (.sl (l.map encO))], looko []⟩ ⟨.own 7, looko [(7, some (.row 4 (l.map encO)))]⟩)
    (hAlive : ∀ (l : List Ent) (id : Int), l.length < 1000 → SoundAt C 18 ⟨[vBook l, vI id], looko []⟩ ⟨vEnts (aliveS l id), looko []⟩)
    (l : List Ent) (id : Int) (os : List Ord) (hl : l.length < 1000) (ho : os.length < 1000) (hg : ∀ e ∈ l, e.garn.length < 1000) :
    SoundAt C 26 ⟨[vBook l, vI id, .d (.sl (os.map encO))], looko []⟩ ⟨.d (.sl ((balS l id os).map encO)), looko []⟩ := by
  refine SoundAt.of_run h26 rfl (fun Q hR _ => ?_)
  rw [entry3]
  repeat (first | simp only [go_sem, ↓reduceIte, Nat.reduceEqDiff, Nat.reduceAdd, Nat.reduceSub, Nat.reduceMul, Nat.reduceLeDiff, Nat.reduceBEq, reduceCtorEq, Nat.reduceEqDiff, Int.reduceEq, Int.reduceLT, Int.reduceLE, Int.reduceNeg, Int.reduceBEq, Int.reduceBNe, Int.reduceToNat, Int.reducePow] | refine g_book_Balances_c0_sh.mpr ?_ | refine g_book_Balances_c1_sh.mpr ?_ | refine g_book_Balances_c2_sh.mpr ?_ | refine g_book_Balances_c3_sh.mpr ?_ | refine g_book_Balances_c4_sh.mpr ?_ | refine g_book_Balances_c5_sh.mpr ?_ | refine g_book_Balances_c6_sh.mpr ?_ | refine g_book_Balances_code_sh.mpr ?_)
  refine callK_own (SoundAt.rename 13 (hClone os ho)) (fun h => h) (by simp only [go_sem, ↓reduceIte, Nat.reduceEqDiff, Nat.reduceAdd, Nat.reduceSub, Nat.reduceMul, Nat.reduceLeDiff, Nat.reduceBEq, reduceCtorEq, Nat.reduceEqDiff, Int.reduceEq, Int.reduceLT, Int.reduceLE, Int.reduceNeg, Int.reduceBEq, Int.reduceBNe, Int.reduceToNat, Int.reducePow]) ?_
  repeat (first | simp only [go_sem, ↓reduceIte, Nat.reduceEqDiff, Nat.reduceAdd, Nat.reduceSub, Nat.reduceMul, Nat.reduceLeDiff, Nat.reduceBEq, reduceCtorEq, Nat.reduceEqDiff, Int.reduceEq, Int.reduceLT, Int.reduceLE, Int.reduceNeg, Int.reduceBEq, Int.reduceBNe, Int.reduceToNat, Int.reducePow] | refine g_book_Balances_c0_sh.mpr ?_ | refine g_book_Balances_c1_sh.mpr ?_ | refine g_book_Balances_c2_sh.mpr ?_ | refine g_book_Balances_c3_sh.mpr ?_ | refine g_book_Balances_c4_sh.mpr ?_ | refine g_book_Balances_c5_sh.mpr ?_ | refine g_book_Balances_c6_sh.mpr ?_ | refine g_book_Balances_code_sh.mpr ?_)
  refine callK_plain (hAlive l id hl) (fun _ => rfl) ?_
  repeat (first | simp only [go_sem, ↓reduceIte, Nat.reduceEqDiff, Nat.reduceAdd, Nat.reduceSub, Nat.reduceMul, Nat.reduceLeDiff, Nat.reduceBEq, reduceCtorEq, Nat.reduceEqDiff, Int.reduceEq, Int.reduceLT, Int.reduceLE, Int.reduceNeg, Int.reduceBEq, Int.reduceBNe, Int.reduceToNat, Int.reducePow, List.length_map] | refine g_book_Balances_c0_sh.mpr ?_ | refine g_book_Balances_c1_sh.mpr ?_ | refine g_book_Balances_c2_sh.mpr ?_ | refine g_book_Balances_c3_sh.mpr ?_ | refine g_book_Balances_c4_sh.mpr ?_ | refine g_book_Balances_c5_sh.mpr ?_ | refine g_book_Balances_c6_sh.mpr ?_ | refine g_book_Balances_code_sh.mpr ?_)
  have hal : (aliveS l id).length < 1000 := Nat.lt_of_le_of_lt (filtFrom_len _ l 0) hl
  refine bal_loop0 (al := aliveS l id) (fun _ h => h) hal (fun e he => hg e (filt_mem0 he)) (fun s h7 => ?_) (aliveS l id).length 0 os (by omega) rfl
  repeat (first | simp only [go_sem, ↓reduceIte, Nat.reduceEqDiff, Nat.reduceAdd, Nat.reduceSub, Nat.reduceMul, Nat.reduceLeDiff, Nat.reduceBEq, reduceCtorEq, Nat.reduceEqDiff, Int.reduceEq, Int.reduceLT, Int.reduceLE, Int.reduceNeg, Int.reduceBEq, Int.reduceBNe, Int.reduceToNat, Int.reducePow, h7] | refine g_book_Balances_c0_sh.mpr ?_ | refine g_book_Balances_c1_sh.mpr ?_ | refine g_book_Balances_c2_sh.mpr ?_ | refine g_book_Balances_c3_sh.mpr ?_ | refine g_book_Balances_c4_sh.mpr ?_ | refine g_book_Balances_c5_sh.mpr ?_ | refine g_book_Balances_c6_sh.mpr ?_ | refine g_book_Balances_code_sh.mpr ?_)
  refine hR _ ?_
  simp only [go_sem, ↓reduceIte, Nat.reduceEqDiff, Nat.reduceAdd, Nat.reduceSub, Nat.reduceMul, Nat.reduceLeDiff, Nat.reduceBEq, reduceCtorEq, Nat.reduceEqDiff, Int.reduceEq, Int.reduceLT, Int.reduceLE, Int.reduceNeg, Int.reduceBEq, Int.reduceBNe, Int.reduceToNat, Int.reducePow, balS]
end Pay
