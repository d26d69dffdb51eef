/- How a shallow unit is followed: equations for simp. -/
import Derived.Test.YthnddhfpkmbacaaDoorPayU
set_option linter.unusedSimpArgs false
set_option linter.unusedVariables false
namespace Pay
open Go
set_option maxHeartbeats 400000
section
variable {C : Ctx} {I : Nat → Prop} {st st' : St} {Q : Ex → St → Prop} {K : St → Prop} {dst : Option Nat}
theorem wpB_congr {c : ACode} (h : st = st') : wpB C I c st Q = wpB C I c st' Q := by rw [h]
theorem opsB_congr {os : List AOper} (h : st = st') : opsB C I os st K = opsB C I os st' K := by rw [h]
theorem treeB_congr {os : List AOper} {t : Tr} (h : st = st') : treeB C I os t st K = treeB C I os t st' K := by rw [h]
theorem drawB_congr {os : List AOper} {is : List Nat} {t : Tr} (h : st = st') : drawB C I os is t st K = drawB C I os is t st' K := by rw [h]
theorem fnK_congr {v v' : V} {F : Nat → List V → Prop} (h : v = v') : fnK v F = fnK v' F := by rw [h]
theorem freeK_congr {n n' : Nat} {F : St → Prop} (h : st = st') (hn : n = n') : freeK st n F = freeK st' n' F := by rw [h, hn]
theorem frzK_congr {ts : List Nat} {F : St → Prop} (h : st = st') : frzK st ts F = frzK st' ts F := by rw [h]
theorem nilSK_congr {b : Bool} {v v' : V} {F : V → Prop} (h : v = v') : nilSK b v F = nilSK b v' F := by rw [h]
theorem callK_congr {f f' : Nat} {xs xs' : List V} {F : V → (Nat → Option Ob) → Prop} (h : st = st') (hf : f = f') (hx : xs = xs') : callK C I st dst f xs F = callK C I st' dst f' xs' F := by rw [h, hf, hx]
theorem callE_congr {f : Nat} {xs xs' : List V} {F : V → (Nat → Option Ob) → Prop} (h : st = st') (hx : xs = xs') : callE C I st dst f xs F = callE C I st' dst f xs' F := by rw [h, hx]
attribute [congr] wpB_congr opsB_congr treeB_congr drawB_congr fnK_congr freeK_congr frzK_congr nilSK_congr callK_congr callE_congr
theorem treeB_done {os : List AOper} : treeB C I os .done st K = K st := rfl
theorem drawB_done {os : List AOper} {t : Tr} : drawB C I os [] t st K = treeB C I os t st K := rfl
theorem fnK_f {f : Nat} {cs : List V} {F : Nat → List V → Prop} : fnK (.fn f cs) F = F f cs := propext Iff.rfl
theorem shareK_b {α : Sort _} {F : α} {G : α → Prop} : shareK F G = G F := rfl
theorem frzK_0 {F : St → Prop} : frzK st [] F = F st := rfl
def rowE (x : Option Ob) (A : Nat → List (List D) → Prop) (B : Prop) : Prop := match x with | some (.row sz es) => A sz es | _ => B
theorem rowE_congr {x y : Option Ob} {A : Nat → List (List D) → Prop} {B : Prop} (h : x = y) : rowE x A B = rowE y A B := by rw [h]
attribute [congr] rowE_congr
theorem rowE_r {sz : Nat} {es : List (List D)} {A : Nat → List (List D) → Prop} {B : Prop} : rowE (some (.row sz es)) A B = A sz es := rfl
theorem rowE_n {A : Nat → List (List D) → Prop} {B : Prop} : rowE none A B = B := rfl
theorem freeK_mk {s : Nat → V} {o : Nat → Option Ob} {n : Nat} {F : St → Prop} : freeK (St.mk s o) n F = rowE (o n) (fun _ es => F (St.mk (fun t => V.thaw n es (s t)) (fun m => if m = n then none else (o m).map (Ob.thaw n es)))) (F (St.mk s o)) := by
  unfold freeK St.free
  simp only
  cases h : o n with
  | none => rfl
  | some x => cases x <;> rfl
def ownsW (v : V) (o : Nat → Option Ob) : List Nat := match v with
  | .ptr n _ => (match o n with | some (.box cs) => V.owns.ownsL cs | _ => [])
  | v => V.owns v
def boxOwns (x : Option Ob) : List Nat := match x with | some (.box cs) => V.owns.ownsL cs | _ => []
theorem boxOwns_b {cs : List V} : boxOwns (some (.box cs)) = V.owns.ownsL cs := rfl
theorem ownsW_ptr {n off : Nat} {o : Nat → Option Ob} : ownsW (.ptr n off) o = boxOwns (o n) := rfl
theorem ownsW_d {x : D} {o : Nat → Option Ob} : ownsW (.d x) o = [] := rfl
theorem ownsW_cap0 {o : Nat → Option Ob} : ownsW .cap0 o = [] := rfl
theorem ownsW_own {n : Nat} {o : Nat → Option Ob} : ownsW (.own n) o = [n] := rfl
theorem ownsW_agg {cs : List V} {o : Nat → Option Ob} : ownsW (.agg cs) o = V.owns.ownsL cs := rfl
def freesK (st : St) (ns : List Nat) (F : St → Prop) : Prop := F (st.frees ns)
theorem freesK_congr {ns ns' : List Nat} {F : St → Prop} (h : st = st') (hn : ns = ns') : freesK st ns F = freesK st' ns' F := by rw [h, hn]
attribute [congr] freesK_congr
theorem freesK_0 {F : St → Prop} : freesK st [] F = F st := rfl
theorem freesK_1 {n : Nat} {ns : List Nat} {F : St → Prop} : freesK st (n :: ns) F = freeK st n (fun st => freesK st ns F) := rfl
theorem frzK_1 {s : Nat → V} {o : Nat → Option Ob} {t : Nat} {ts : List Nat} {F : St → Prop} : frzK (St.mk s o) (t :: ts) F = freesK (St.mk s o) (ownsW (s t) o) (fun st => frzK st ts F) := rfl
theorem nilSK_n {b : Bool} {F : V → Prop} : nilSK b .cap0 F = ∀ c, F (.d (.bool c)) := propext Iff.rfl
theorem nilSK_0 {b : Bool} {F : V → Prop} : nilSK b (.d (.sl [])) F = ∀ c, F (.d (.bool c)) := propext Iff.rfl
theorem nilSK_c {b : Bool} {e : List D} {es : List (List D)} {F : V → Prop} : nilSK b (.d (.sl (e :: es))) F = F (.d (.bool b)) := propext Iff.rfl
theorem pickV_b {t : Bool} {a b : V} : pickV (.d (.bool t)) a b = some (if t = true then a else b) := rfl
theorem convV_i {k k' : IntKind} {n : Int} : convV k (.d (.int k' n)) = some (.d (.int k (k.wrap n))) := rfl
theorem sameV_s {s : List UInt8} : sameV (.d (.str s)) = some (.d (.str s)) := rfl
theorem extV_t {vs : List V} {i : Nat} : extV (.tup vs) i = vs[i]? := rfl
theorem lenSV_s {s : List UInt8} : lenSV (.d (.str s)) = some (.d (.int .i64 s.length)) := rfl
theorem nilcV_p {n off : Nat} : nilcV (.ptr n off) = some (.ptr n off) := rfl
theorem nilcV_f {f : Nat} {cs : List V} : nilcV (.fn f cs) = some (.fn f cs) := rfl
theorem eqsV_a {neq : Bool} {ks : List Nat} {xs ys : List V} : eqsV neq ks (.agg xs) (.agg ys) = (match eqCells ks xs ys with | some b => some (.d (.bool (if neq = true then !b else b))) | none => none) := rfl
theorem beqV_b {neq b c : Bool} : beqV neq (.d (.bool b)) (.d (.bool c)) = some (.d (.bool (if neq = true then !(b == c) else b == c))) := rfl
theorem nilEV_e {neq b : Bool} : nilEV neq (.d (.err b)) = some (.d (.bool (if neq = true then !b else b))) := rfl
theorem nilPV_p {neq : Bool} {n off : Nat} : nilPV neq (.ptr n off) = some (.d (.bool neq)) := rfl
theorem nilPV_n {neq : Bool} : nilPV neq .nilp = some (.d (.bool (!neq))) := rfl
theorem trim_some {s : Nat → V} {o : Nat → Option Ob} {tr ns : List Nat} : St.trim (St.mk s o) tr (some ns) = St.mk (look (tr.map fun k => (k, s k))) (looko (ns.map fun n => (n, o n))) := rfl
theorem trim_none {s : Nat → V} {o : Nat → Option Ob} {tr : List Nat} : St.trim (St.mk s o) tr none = St.mk (look (tr.map fun k => (k, s k))) o := rfl
theorem look_cons (k : Nat) (v : V) (l : List (Nat × V)) (n : Nat) : look ((k, v) :: l) n = if n = k then v else look l n := rfl
theorem look_nil (n : Nat) : look [] n = .undef := rfl
theorem looko_cons (k : Nat) (v : Option Ob) (l : List (Nat × Option Ob)) (n : Nat) : looko ((k, v) :: l) n = if n = k then v else looko l n := rfl
theorem looko_nil (n : Nat) : looko [] n = none := rfl
theorem upd_look (l : List (Nat × V)) (d : Nat) (v : V) : upd (look l) d v = look ((d, v) :: l) := rfl
def setL (m : Nat) (y : Option Ob) : List (Nat × Option Ob) → List (Nat × Option Ob)
  | [] => [(m, y)]
  | (k, x) :: l => if m = k then (m, y) :: l else (k, x) :: setL m y l
theorem setL_nil (m : Nat) (y : Option Ob) : setL m y [] = [(m, y)] := rfl
theorem setL_cons (m : Nat) (y : Option Ob) (k : Nat) (x : Option Ob) (l : List (Nat × Option Ob)) : setL m y ((k, x) :: l) = if m = k then (m, y) :: l else (k, x) :: setL m y l := rfl
theorem looko_setL (m : Nat) (y : Option Ob) : ∀ (l : List (Nat × Option Ob)) (n : Nat), looko (setL m y l) n = if n = m then y else looko l n
  | [], n => rfl
  | (k, x) :: l, n => by
    simp only [setL]
    split
    · rename_i h; subst h; simp only [looko]; split <;> rfl
    · rename_i h
      simp only [looko, looko_setL m y l n]
      by_cases h1 : n = k
      · subst h1; simp [show ¬ n = m from fun e => h e.symm]
      · simp [h1]
theorem upd_setL (l : List (Nat × Option Ob)) (m : Nat) (y : Option Ob) : upd (looko l) m y = looko (setL m y l) := by
  funext n; rw [looko_setL]; rfl
theorem upd_at {α : Type} (f : Nat → α) (n : Nat) (x : α) (m : Nat) : upd f n x m = if m = n then x else f m := rfl
theorem setRange_all {α : Type} {cs new : List α} (h : new.length = cs.length) : setRange cs 0 new = new := by
  simp [setRange, h]
theorem scrubV_d (m : Nat) (x : D) : scrubV m (.d x) = .d x := rfl
theorem scrubV_cap0 (m : Nat) : scrubV m .cap0 = .cap0 := rfl
theorem scrubV_ptr (m n off : Nat) : scrubV m (.ptr n off) = if (n == m) = true then .undef else .ptr n off := rfl
theorem scrubV_mref (m n : Nat) : scrubV m (.mref n) = if (n == m) = true then .undef else .mref n := rfl
theorem scrubV_own (m n : Nat) : scrubV m (.own n) = if (n == m) = true then .undef else .own n := rfl
theorem scrubV_agg (m : Nat) (cs : List V) : scrubV m (.agg cs) = if V.refsL m cs = true then .undef else .agg cs := rfl
theorem scrubV_undef (m : Nat) : scrubV m .undef = .undef := rfl
theorem scrub_box (m : Nat) (cs : List V) : Ob.scrub m (.box cs) = .box (cs.map (scrubV m)) := rfl
theorem scrub_map (m : Nat) (kvs : List (D × D)) : Ob.scrub m (.map kvs) = .map kvs := rfl
theorem scrub_row (m sz : Nat) (es : List (List D)) : Ob.scrub m (.row sz es) = .row sz es := rfl
theorem toDs_map : ∀ (ds : List D), toDs (ds.map V.d) = some ds
  | [] => rfl
  | d :: ds => by simp [toDs, toD, toDs_map ds]
theorem toDs_cons (d : D) (vs : List V) : toDs (.d d :: vs) = (toDs vs).map (d :: ·) := by
  simp only [toDs, toD]; cases toDs vs <;> rfl
theorem toDs_nil : toDs [] = some [] := rfl
theorem readD_sl (o : Nat → Option Ob) (es : List (List D)) : readD o (.d (.sl es)) = some es := rfl
def kvE (p : Int × Int) : D × D := (.int .i64 p.1, .int .i64 p.2)
def getN (k : Int) : List (Int × Int) → Option Int
  | [] => none
  | p :: r => if k = p.1 then some p.2 else getN k r
def putN (k x : Int) : List (Int × Int) → List (Int × Int)
  | [] => [(k, x)]
  | p :: r => if k = p.1 then (k, x) :: r else p :: putN k x r
theorem kvGet_n (k : Int) : ∀ (l : List (Int × Int)), kvGet (.int .i64 k) (l.map kvE) = some ((getN k l).map (D.int .i64))
  | [] => rfl
  | p :: r => by
    simp only [List.map_cons, kvGet, kvE, keyEq, getN, if_true]
    by_cases h : k = p.1
    · simp [h]
    · have h' : (k == p.1) = false := by simp [h]
      simp only [h', h, if_false]
      exact kvGet_n k r
theorem kvSet_n (k x : Int) : ∀ (l : List (Int × Int)), kvSet (.int .i64 k) (.int .i64 x) (l.map kvE) = some ((putN k x l).map kvE)
  | [] => rfl
  | p :: r => by
    simp only [List.map_cons, kvSet, kvE, keyEq, putN, if_true]
    by_cases h : k = p.1
    · simp [h, kvE]
    · have h' : (k == p.1) = false := by simp [h]
      have ih := kvSet_n k x r
      simp only [h', h, if_false, ih, List.map_cons, kvE]
theorem getD_int (x : Option Int) : (x.map (D.int .i64)).getD (.int .i64 0) = .int .i64 (x.getD 0) := by cases x <;> rfl
theorem isSome_int (x : Option Int) : (x.map (D.int .i64)).isSome = x.isSome := by cases x <;> rfl
theorem thaw_d (n : Nat) (es : List (List D)) (x : D) : V.thaw n es (.d x) = .d x := rfl
theorem thaw_cap0 (n : Nat) (es : List (List D)) : V.thaw n es .cap0 = .cap0 := rfl
theorem thaw_own (n : Nat) (es : List (List D)) (m : Nat) : V.thaw n es (.own m) = if m = n then .d (.sl es) else .own m := rfl
theorem thaw_ptr (n : Nat) (es : List (List D)) (m off : Nat) : V.thaw n es (.ptr m off) = if m = n then .undef else .ptr m off := rfl
theorem thaw_mref (n : Nat) (es : List (List D)) (m : Nat) : V.thaw n es (.mref m) = if m = n then .undef else .mref m := rfl
theorem thaw_undef (n : Nat) (es : List (List D)) : V.thaw n es .undef = .undef := rfl
theorem thaw_agg (n : Nat) (es : List (List D)) (cs : List V) : V.thaw n es (.agg cs) = .agg (V.thaws n es cs) := rfl
theorem thaws_nil (n : Nat) (es : List (List D)) : V.thaws n es [] = [] := rfl
theorem thaws_cons (n : Nat) (es : List (List D)) (c : V) (cs : List V) : V.thaws n es (c :: cs) = V.thaw n es c :: V.thaws n es cs := rfl
theorem thaws_map (n : Nat) (es : List (List D)) : ∀ (ds : List D), V.thaws n es (ds.map V.d) = ds.map V.d
  | [] => rfl
  | d :: ds => by simp only [List.map_cons, thaws_cons, thaw_d, thaws_map n es ds]
theorem obthaw_box (n : Nat) (es : List (List D)) (cs : List V) : Ob.thaw n es (.box cs) = .box (V.thaws n es cs) := rfl
theorem obthaw_row (n : Nat) (es : List (List D)) (sz : Nat) (r : List (List D)) : Ob.thaw n es (.row sz r) = .row sz r := rfl
theorem obthaw_map (n : Nat) (es : List (List D)) (kvs : List (D × D)) : Ob.thaw n es (.map kvs) = .map kvs := rfl
mutual
/-- An empty slice, told as data. -/
def V.up : V → V
  | .cap0 => .d (.sl [])
  | .agg cs => .agg (V.ups cs)
  | .tup cs => .tup (V.ups cs)
  | v => v
def V.ups : List V → List V
  | [] => []
  | c :: cs => V.up c :: V.ups cs
end
mutual
theorem RepV.up {C : Ctx} {w : World} {ok : Nat → Prop} {γ : Nat → Value} : ∀ (v : V) (u : Value), RepV C w ok γ v u → RepV C w ok γ v.up u
  | .cap0, u, h => by
    obtain ⟨A, rfl⟩ := h
    exact ⟨A, 0, 0, rfl, Nat.le_refl _, fun e he => (by cases he), fun h => absurd rfl h⟩
  | .agg cs, u, h => by
    obtain ⟨us, e, h1, h2⟩ := h
    exact ⟨us, e, RepVs.up cs us h1, h2⟩
  | .tup cs, u, h => by
    obtain ⟨us, e, h1⟩ := h
    exact ⟨us, e, RepVs.up cs us h1⟩
  | .d _, _, h => h
  | .nilp, _, h => h
  | .ptr _ _, _, h => h
  | .own _, _, h => h
  | .eptr _ _ _ _, _, h => h
  | .cptr _, _, h => h
  | .fn _ _, _, h => h
  | .mref _, _, h => h
  | .undef, _, h => h
theorem RepVs.up {C : Ctx} {w : World} {ok : Nat → Prop} {γ : Nat → Value} : ∀ (cs : List V) (us : List Value), RepVs C w ok γ cs us → RepVs C w ok γ (V.ups cs) us
  | [], us, h => h
  | c :: cs, us, h => by
    obtain ⟨u, us', e, h1, h2⟩ := h
    exact ⟨u, us', e, RepV.up c u h1, RepVs.up cs us' h2⟩
end
theorem SoundAt.up {f : Nat} {xs : List V} {o : Nat → Option Ob} {cout : RS} (h : SoundAt C f ⟨V.ups xs, o⟩ cout) : SoundAt C f ⟨xs, o⟩ cout := by
  intro w S M γ us hp
  have h1 := h w S M γ us ⟨hp.env, RepVs.up _ _ hp.args, hp.objs, hp.sep, hp.muts⟩
  exact Enters.mono h1 (fun v w' ⟨γ', q⟩ => ⟨γ', ⟨q.res, q.objs, q.sep, q.muts, q.fram, q.hdr⟩⟩)
theorem SoundAt.up_of {f : Nat} {xs xs' : List V} {r : V} (h : SoundAt C f ⟨xs', looko []⟩ ⟨r, looko []⟩) (hx : V.ups xs = xs') : SoundAt C f ⟨xs, fun _ => none⟩ ⟨r, fun _ => none⟩ := by
  subst hx
  exact SoundAt.up h
theorem SoundAt.res_up {f : Nat} {cin : CS} {r : V} {o : Nat → Option Ob} (h : SoundAt C f cin ⟨r, o⟩) : SoundAt C f cin ⟨r.up, o⟩ := by
  intro w S M γ us hp
  exact Enters.mono (h w S M γ us hp) (fun v w' ⟨γ', q⟩ => ⟨γ', ⟨RepV.up _ _ q.res, q.objs, q.sep, q.muts, q.fram, q.hdr⟩⟩)
theorem scrub_map_d (m : Nat) (ds : List D) : (ds.map V.d).map (scrubV m) = ds.map V.d := by
  rw [List.map_map]; rfl
/-- A slice that is appended to from nothing: its slot's value, its object. -/
def ownV {α : Type} (m : Nat) : List α → V
  | [] => .cap0
  | _ :: _ => .own m
def ownO {α : Type} (sz : Nat) (f : α → List D) : List α → Option Ob
  | [] => none
  | a :: r => some (.row sz ((a :: r).map f))
theorem ownV_snoc {α : Type} (m : Nat) (xs : List α) (x : α) : ownV m (xs ++ [x]) = .own m := by cases xs <;> rfl
theorem ownO_snoc {α : Type} (sz : Nat) (f : α → List D) (xs : List α) (x : α) : ownO sz f (xs ++ [x]) = some (.row sz (xs.map f ++ [f x])) := by cases xs <;> simp [ownO]
def slV {α : Type} (f : α → List D) : List α → V
  | [] => .cap0
  | a :: r => .d (.sl ((a :: r).map f))
theorem slV_up {α : Type} (f : α → List D) (xs : List α) : (slV f xs).up = .d (.sl (xs.map f)) := by cases xs <;> rfl
theorem callK_plain {f : Nat} {xs : List V} {F : V → (Nat → Option Ob) → Prop} {r : V} (h : SoundAt C f ⟨xs, fun _ => none⟩ ⟨r, fun _ => none⟩) (hr : ∀ n, V.refs n r = false) (hK : F r st.o) : callK C I st dst f xs F :=
  ⟨fun _ => false, ⟨r, fun _ => none⟩, by rw [exO_none]; exact h, ⟨fun n hn => absurd rfl hn, fun n hn => (by rw [hr n] at hn; cases hn), fun n x hx => by cases hx⟩, by rw [mixO_none]; exact hK⟩
theorem entry0 {m : List (Nat × Option Ob)} : CS.entry ⟨[], looko m⟩ = St.mk (look []) (looko m) := by
  simp only [CS.entry]; congr 1
theorem entry1 {a : V} {m : List (Nat × Option Ob)} : CS.entry ⟨[a], looko m⟩ = St.mk (look [(0, a)]) (looko m) := by
  simp only [CS.entry]; congr 1; funext t
  rcases t with _ | t <;> simp [look]
theorem entry2 {a b : V} {m : List (Nat × Option Ob)} : CS.entry ⟨[a, b], looko m⟩ = St.mk (look [(0, a), (1, b)]) (looko m) := by
  simp only [CS.entry]; congr 1; funext t
  rcases t with _ | _ | t <;> simp [look]
theorem entry3 {a b c : V} {m : List (Nat × Option Ob)} : CS.entry ⟨[a, b, c], looko m⟩ = St.mk (look [(0, a), (1, b), (2, c)]) (looko m) := by
  simp only [CS.entry]; congr 1; funext t
  rcases t with _ | _ | _ | t <;> simp [look]
theorem entry4 {a b c d : V} {m : List (Nat × Option Ob)} : CS.entry ⟨[a, b, c, d], looko m⟩ = St.mk (look [(0, a), (1, b), (2, c), (3, d)]) (looko m) := by
  simp only [CS.entry]; congr 1; funext t
  rcases t with _ | _ | _ | _ | t <;> simp [look]
theorem entry5 {a b c d e : V} {m : List (Nat × Option Ob)} : CS.entry ⟨[a, b, c, d, e], looko m⟩ = St.mk (look [(0, a), (1, b), (2, c), (3, d), (4, e)]) (looko m) := by
  simp only [CS.entry]; congr 1; funext t
  rcases t with _ | _ | _ | _ | _ | t <;> simp [look]
theorem ends_eq' {res : List ARes} {st : St} {r : V} : EndsA I [] [] res st ⟨r, looko []⟩ = lstK (resVs st res) (fun vs => r = tupV vs) := ends_eq
theorem ends_no {res : List ARes} {st : St} {r : V} : EndsA I [] [] res st ⟨r, looko []⟩ = lstK (resVs st res) (fun vs => r = tupV vs) := ends_eq
theorem ends_frz {frz : List Nat} {res : List ARes} {st : St} {r : V} : EndsA I [] frz res st ⟨r, looko []⟩ = frzK st frz (fun st => lstK (resVs st res) (fun vs => r = tupV vs)) := by
  show EndsA I [] [] res (st.frz frz) ⟨r, looko []⟩ = _
  rw [ends_eq']
  rfl
theorem ends_one {res : List ARes} {st : St} {r : V} {m : Nat} {ob : Ob} : EndsA I [] [] res st ⟨r, looko [(m, some ob)]⟩ = lstK (resVs st res) (fun vs => r = tupV vs ∧ st.o m = some ob) := by
  rw [← lst_ex]
  apply propext
  constructor
  · rintro ⟨vs, h1, h2, h3⟩; exact ⟨vs, h1, h2, h3 m ob (by simp [looko])⟩
  · rintro ⟨vs, h1, h2, h3⟩
    refine ⟨vs, h1, h2, fun n x hx => ?_⟩
    by_cases e : n = m
    · subst e; simp [looko] at hx; subst hx; exact h3
    · simp [looko, e] at hx
theorem fresh_true {l : List (Nat × V)} {m : List (Nat × Option Ob)} {nm : Nat} {dst : Option Nat} (h : (freshS nm dst l && freshO nm m) = true) : Fresh (St.mk (look l) (looko m)) nm dst = True := by
  simp only [Bool.and_eq_true] at h
  exact eq_true (fresh_mk h.1 h.2)
def quietL (vs : List V) : List (Nat × Option Ob) → Bool
  | [] => true
  | (k, some (.row _ _)) :: m => !V.refsL k vs && quietL vs m
  | _ :: m => quietL vs m
theorem quiet_mem {vs : List V} : ∀ {l : List (Nat × Option Ob)}, quietL vs l = true → ∀ m sz es, looko l m = some (.row sz es) → V.refsL m vs = false
  | [], _, m, sz, es, h => by simp [looko] at h
  | (k, x) :: l, hq, m, sz, es, h => by
    simp only [looko] at h
    split at h
    · rename_i e
      subst e; subst h
      simp only [quietL, Bool.and_eq_true, Bool.not_eq_true'] at hq
      exact hq.1
    · have hq' : quietL vs l = true := by
        cases x with
        | none => exact hq
        | some x =>
          cases x with
          | row _ _ => simp only [quietL, Bool.and_eq_true] at hq; exact hq.2
          | box _ => exact hq
          | map _ => exact hq
      exact quiet_mem hq' m sz es h
theorem quiet_true {l : List (Nat × Option Ob)} {vs : List V} (h : quietL vs l = true) : quietV (looko l) vs = True := eq_true (quiet_mem h)
theorem quietL_nil (vs : List V) : quietL vs [] = true := by simp only [quietL]
theorem quietL_row (vs : List V) (k sz : Nat) (es : List (List D)) (m : List (Nat × Option Ob)) : quietL vs ((k, some (.row sz es)) :: m) = (!V.refsL k vs && quietL vs m) := by simp only [quietL]
theorem quietL_box (vs : List V) (k : Nat) (cs : List V) (m : List (Nat × Option Ob)) : quietL vs ((k, some (.box cs)) :: m) = quietL vs m := by simp only [quietL]
theorem quietL_map (vs : List V) (k : Nat) (kvs : List (D × D)) (m : List (Nat × Option Ob)) : quietL vs ((k, some (.map kvs)) :: m) = quietL vs m := by simp only [quietL]
theorem quietL_none (vs : List V) (k : Nat) (m : List (Nat × Option Ob)) : quietL vs ((k, none) :: m) = quietL vs m := by simp only [quietL]
end
/-- A function, followed from its entry to whatever stands behind its end. -/
theorem SoundAt.of_run {C : Ctx} {fn : AFn} {f N : Nat} {res : List ARes} {own : List (Nat × Nat × Nat)} {frz : List Nat} {code : ACode} (hk : okFn C.P C.φ f fn = true) (hfn : fn = ⟨N, res, own, frz, code⟩) {cin : CS} {cout : RS}
    (h : ∀ Q : Ex → St → Prop, (∀ st, EndsA (fun n => cin.o n ≠ none) own frz res st cout → Q .ret st) → (∀ st, EndsA (fun n => cin.o n ≠ none) own frz res st cout → Q .normal st) → wpB C (fun n => cin.o n ≠ none) code cin.entry Q) : SoundAt C f cin cout :=
  SoundAt.of_codeB hk hfn (h _ (fun _ h => ⟨.inl rfl, h⟩) (fun _ h => ⟨.inr rfl, h⟩))
theorem no_I (n : Nat) : (looko [] n ≠ none) = False := by simp [looko]
theorem wrapI {x : Int} (h1 : -9223372036854775808 ≤ x) (h2 : x < 9223372036854775808) : IntKind.i64.wrap x = x := by
  rw [IntKind.wrap_i64]; omega
theorem getMap {α β : Type} (f : α → β) {l : List α} {k : Nat} {a : α} (h : l[k]? = some a) : (l.map f)[k]? = some (f a) := by simp [h]
/-- What must hold is asked for. -/
theorem demand_if {c : Prop} [Decidable c] {d : D} {F : V → Prop} : demand (Option.map V.d (if c then some d else none)) F = (c ∧ F (.d d)) := by
  by_cases h : c <;> simp [h, demand]
theorem jumpK_n {l : Nat} {J : St → Prop} {Q : Ex → St → Prop} {st : St} : jumpK l J Q .normal st = Q .normal st := rfl
theorem jumpK_r {l : Nat} {J : St → Prop} {Q : Ex → St → Prop} {st : St} : jumpK l J Q .ret st = Q .ret st := rfl
theorem jumpK_go {J : St → Prop} {Q : Ex → St → Prop} {st : St} : jumpK 0 J Q (.exit 1000000) st = J st := by
  simp [jumpK]
attribute [go_sem ↓] jumpK_n jumpK_r jumpK_go
attribute [go_sem ↓] treeB_done drawB_done seqK_n seqK_e seqK_r blockK_n blockK_e blockK_r condK_b guardK_b guardK_t storeK_p storeK_e boxK_b rowK_r lstK_s intK_i appK_0 appK_1 kvsK_m mapK_m optK_s demand_v demand_0 fnK_f nilSK_n nilSK_0 nilSK_c shareK_b ends_no ends_one ends_frz freeK_mk rowE_r rowE_n frzK_0 frzK_1 freesK_0 freesK_1
attribute [go_sem] pickV_b bstrV bytesD convV_i sameV_s extV_t lenSV_s nilcV_p nilcV_f eqsV_a beqV_b nilEV_e nilPV_p nilPV_n binV binInt binStr shInt unV loadV faddrV fldV iaddrV iaddrAV idxV idxAV lenV slcV slcSV bndO bnd mmV cellsV buildN setRange eqCells eqD toD trim_some trim_none upd_at look_cons look_nil looko_cons looko_nil V.refs V.refsL Ob.refs refsL_d refsL_dd List.map_cons List.map_nil Option.map_some Option.map_none if_true if_false Bool.false_eq_true Bool.not_true Bool.not_false Bool.true_or Bool.or_true Bool.false_or Bool.or_false Bool.true_and Bool.and_true Bool.and_self true_and and_true ne_eq not_true_eq_false not_false_eq_true List.getElem?_cons_zero List.getElem?_cons_succ List.drop_zero List.drop_succ_cons List.drop_nil List.take_zero List.take_succ_cons List.take_nil List.length_cons List.length_nil List.cons_append List.nil_append Option.some.injEq beq_iff_eq beq_self_eq_true decide_eq_true_eq Int.cast_ofNat_Int Int.natCast_zero Int.natCast_one beq_true beq_false false_implies implies_true true_implies Option.isSome_some Option.isSome_none upd_look upd_setL setL_nil setL_cons fresh_true freshS freshO quiet_true quietL_nil quietL_row quietL_box quietL_map quietL_none Option.some_beq_some Option.none_beq_some Option.some_beq_none Option.none_beq_none setRange_all List.append_nil resVs tupV scrubV_d scrubV_cap0 scrubV_ptr scrubV_mref scrubV_own scrubV_undef scrub_map_d scrubV_agg scrub_box scrub_map scrub_row toDs_map toDs_cons toDs_nil readD_sl List.mem_singleton List.mem_cons List.not_mem_nil or_false forall_eq forall_eq_or_imp keyIs kvGet_n kvSet_n getD_int isSome_int ownsW_d ownsW_cap0 ownsW_own ownsW_ptr ownsW_agg boxOwns_b V.owns V.owns.ownsL thaw_d thaw_cap0 thaw_own thaw_ptr thaw_mref thaw_undef thaw_agg thaws_nil thaws_cons thaws_map obthaw_box obthaw_row obthaw_map List.getElem_cons_zero List.getElem_cons_succ
end Pay
