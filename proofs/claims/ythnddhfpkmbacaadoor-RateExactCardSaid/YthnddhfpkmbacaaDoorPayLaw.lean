/- A law whose contract says true: its row holds. -/
import Derived.OpenShut
import Derived.WalkKit
import Derived.ProofKit
import Derived.Lay
import Derived.Test.YthnddhfpkmbacaaDoorPayX
set_option linter.unusedSimpArgs false
set_option linter.unusedVariables false
namespace Pay
open Go Go.ChangeShapes Go.WideShapes Go.ChangeAt Go.RowKit
/-- How an argument of this type is told: a struct, or one cell. -/
def argShape (P : Program) (n : Nat) (t : TypeId) : Option (Bool × List Sh) :=
  match P.underlying t with
  | some (.struct _) => (shapes P n t).map (fun ss => (true, ss))
  | some (.int _) | some .bool | some .string | some (.slice _) => (match shapes P n t with | some [s] => some (false, [s]) | _ => none)
  | _ => none
def argShapes (P : Program) (n : Nat) : List TypeId → Option (List (Bool × List Sh))
  | [] => some []
  | t :: ts => (match argShape P n t, argShapes P n ts with | some s, some ss => some (s :: ss) | _, _ => none)
def argV : Bool → List D → V
  | true, ds => .agg (ds.map .d)
  | false, [d] => .d d
  | false, _ => .undef
def argVs : List (Bool × List Sh) → List (List D) → List V
  | s :: ss, ds :: dss => argV s.1 ds :: argVs ss dss
  | _, _ => []
def ConfA : List (Bool × List Sh) → List (List D) → Prop
  | [], [] => True
  | s :: ss, ds :: dss => ConfC ds s.2 ∧ ConfA ss dss
  | _, _ => False
section
variable {H : Type} {enc : TypeId × Value → H} {P : Program} {W : World} {spare : Nat → Bool} {held : Bool}
theorem arg_open {C : Ctx} {γ : Nat → Value} {r : Reach} {base n : Nat} {t : TypeId} {s : Bool × List Sh} {v : Value} {d : DataW H} {ps : List MemPlace} (hs : argShape P n t = some s)
    (hv : Value.okWide P W r base t v) (h : DataW.Trod enc P W 0 spare held t v d ps) : ∃ ds, ConfC ds s.2 ∧ RepV C W (okW W) γ (argV s.1 ds) v := by
  have cell : ∀ s1, shapes P n t = some [s1] → s = (false, [s1]) → v.cells = #[v] → ∃ ds, ConfC ds s.2 ∧ RepV C W (okW W) γ (argV s.1 ds) v := by
    rintro s1 h1 rfl hc
    obtain ⟨x, c, hr⟩ := arg_cell h1 hc h
    exact ⟨[x], ⟨c, trivial⟩, hr⟩
  unfold argShape at hs
  split at hs
  · rename_i fs hu
    obtain ⟨ss, h1, rfl⟩ := Option.map_eq_some_iff.1 hs
    exact arg_struct hu h1 hv h
  · rename_i k hu
    split at hs
    · rename_i s1 h1
      obtain ⟨m, rfl⟩ := okWide_int hu hv
      exact cell s1 h1 (Option.some.inj hs).symm (by simp [Value.cells])
    · cases hs
  · rename_i hu
    split at hs
    · rename_i s1 h1
      obtain ⟨m, rfl⟩ := okWide_bool hu hv
      exact cell s1 h1 (Option.some.inj hs).symm (by simp [Value.cells])
    · cases hs
  · rename_i hu
    split at hs
    · rename_i s1 h1
      obtain ⟨m, rfl⟩ := okWide_string hu hv
      exact cell s1 h1 (Option.some.inj hs).symm (by simp [Value.cells])
    · cases hs
  · rename_i e hu
    split at hs
    · rename_i s1 h1
      obtain ⟨a, l, c, rfl⟩ := okWide_slice hu hv
      exact cell s1 h1 (Option.some.inj hs).symm (by simp [Value.cells])
    · cases hs
  · cases hs
theorem args_open {C : Ctx} {γ : Nat → Value} {r : Reach} {base n : Nat} : ∀ (ts : List TypeId) (vs : List Value) (ds : List (DataW H)) (ps : List MemPlace) (ss : List (Bool × List Sh)), argShapes P n ts = some ss →
    (∀ (j : Nat) t v, ts[j]? = some t → vs[j]? = some v → Value.okWide P W r base t v) → DataW.TrodAll enc P W 0 spare held ts vs ds ps → ds.length = ts.length ∧ ∃ dss, ConfA ss dss ∧ RepVs C W (okW W) γ (argVs ss dss) vs
  | [], vs, ds, ps, ss, hs, _, h => by
    simp only [argShapes, Option.some.injEq] at hs
    subst hs
    obtain ⟨rfl, rfl, _⟩ := trodAll_nil h
    exact ⟨rfl, [], trivial, rfl⟩
  | t :: ts, vs, ds, ps, ss, hs, hv, h => by
    simp only [argShapes] at hs
    split at hs
    case h_2 => cases hs
    rename_i s ss' h1 h2
    injection hs with hs
    subst hs
    obtain ⟨v, vs', d, ds', p, q, rfl, rfl, rfl, k1, k2⟩ := trodAll_cons h
    obtain ⟨x, c1, r1⟩ := arg_open (C := C) (γ := γ) h1 (hv 0 t v rfl rfl) k1
    obtain ⟨hl, xs, c2, r2⟩ := args_open (C := C) (γ := γ) ts vs' ds' q ss' h2 (fun j t v ht hv' => hv (j + 1) t v (by simpa using ht) (by simpa using hv')) k2
    exact ⟨by simp [hl], x :: xs, ⟨c1, c2⟩, v, vs', rfl, r1, r2⟩
theorem args_shut {W' : World} (hl : laidOutB P = true) (hb : Below W.heap.size W W') : ∀ (ts : List TypeId) (vs : List Value) (ds : List (DataW H)) (ps : List MemPlace), (ts.all fun t => P.readableRec t && decide (t < P.types.size)) = true →
    (∀ x ∈ ps, x.block < W.heap.size) → DataW.TrodAll enc P W 0 (fun _ => true) true ts vs ds ps → DataW.TrodAll enc P W' 0 (fun b => decide (b < W.heap.size)) true ts vs ds ps
  | [], vs, ds, ps, _, _, h => by
    obtain ⟨rfl, rfl, rfl⟩ := trodAll_nil h
    rfl
  | t :: ts, vs, ds, ps, ht, hp, h => by
    obtain ⟨v, vs', d, ds', p, q, rfl, rfl, rfl, k1, k2⟩ := trodAll_cons h
    simp only [List.all_cons, Bool.and_eq_true, decide_eq_true_eq] at ht
    exact ⟨p, q, Below.trod hl ht.1.1 ht.1.2 k1 hb (fun x hx => hp x (by simp [hx])), args_shut hl hb ts vs' ds' q (by simpa using ht.2) (fun x hx => hp x (by simp [hx])) k2, rfl⟩
end
theorem law_laid {H : Type} {enc : TypeId × Value → H} {K : Checked} {os : Os} {f : FuncId} {fn : Func} {s : ChangeSpec} (C : Ctx) (hP : C.P = K.prog) {X : World → Prop} {k n : Nat} {shs : List (Bool × List Sh)} {tb : TypeId}
    (hX : ∀ w w' : World, w.heap = w'.heap → X w → X w')
    (own : ownKnob K.prog.godebug = none) (started : os.Started) (noInit : K.prog.inits.idxOf? f = none) (hfn : K.prog.funcs[f]? = some fn)
    (witness : ∃ (w : World) (tape : Tape) (i : Input), w.os = os ∧ (w.forCall tape i).Shaped K.prog ∧ i.vars = [] ∧ Input.okWide K.prog (w.forCall tape i) .any w.heap.size f i ∧
      ((s.pre enc K.prog fn [] false (w.forCall tape i).memory i.args ∧ X (w.forCall tape i).memory) ∧ sizedMet enc K.prog fn (OpenSpec.ofChange s) false (w.forCall tape i).memory i.args) ∧ ({} : Assume).holds K.prog (lone (Frame.enter K.prog f i.args .normal) [] (w.forCall tape i)))
    (hl : laidOutB K.prog = true) (hts : (fn.params.toList.all fun t => K.prog.readableRec t && decide (t < K.prog.types.size)) = true) (hsh : argShapes K.prog n fn.params.toList = some shs)
    (hres : fn.resultTypes = #[tb]) (hb : K.prog.underlying tb = some .bool) (hvars : s.vars = [])
    (hspec : ∀ ds : List (DataW H), ds.length = fn.params.toList.length → s.fn H ds = { results := [.lit (.bool true)], args := ds })
    (hbody : fn.body.isSome = true) (hname : (fn.name != "runtime.NumGoroutine") = true)
    (hgi : ∀ W, X W → W.ShapedOpen K.prog → C.gi W ∧ C.base ≤ W.heap.size) (hf : C.φ k = f)
    (hS : ∀ dss, ConfA shs dss → SoundAt C k ⟨argVs shs dss, looko []⟩ ⟨.d (.bool true), looko []⟩) :
    ReturnsInHanded {} K os f .any (fun w args => (s.pre enc K.prog fn [] false w args ∧ X w) ∧ sizedMet enc K.prog fn (OpenSpec.ofChange s) false w args) (s.post enc K.prog fn false true false false) := by
  refine returns_laid hX own started noInit hfn witness ?_
  intro W base args ds gs before hval hW hx hso
  have hW' := hW
  obtain ⟨p, q, hA, hV, rfl, _, _⟩ := hW
  rw [hvars] at hV
  obtain ⟨rfl, rfl⟩ := trodVars_none hV
  obtain ⟨hg, hbase⟩ := hgi W hx hso
  obtain ⟨hlen, dss, hc, hr⟩ := args_open (C := C) (γ := fun _ => undef) (r := .any) (base := base) (n := n) fn.params.toList args.toList ds p shs hsh (fun j t v ht hv => hval j t v (by simpa using ht) (by simpa using hv)) hA
  have hsp := hspec ds hlen
  have hlt : ∀ x ∈ p, x.block < W.heap.size := fun x hx => hW'.lt x (by simp [hx])
  subst hf
  have hcalls := SoundAt.calls (C := C) (hS dss hc) (g := fn) (by rw [hP]; exact hfn) hbody hname hg hbase (us := args.toList) hr
  rw [hP] at hcalls
  have ha : (⟨args.toList⟩ : Array Value) = args := by cases args; rfl
  rw [ha] at hcalls
  refine hcalls.mono fun e W' ⟨he, hg⟩ => ?_
  subst he
  have hs2 : s.fn H (ds ++ []) = { results := [.lit (.bool true)], args := ds } := by rw [List.append_nil]; exact hsp
  have e2 : fn.resultTypes.toList = [tb] := by rw [hres]
  have e3 : (Value.bool true).resultList fn.resultTypes.size = [.bool true] := by rw [hres]; rfl
  refine ⟨_, rfl, ds, [], p ++ [], [], p, [], hW', ?_, ?_, ?_, hg.frame _, fun h => by cases h⟩
  · rw [hs2, e2, e3]
    exact trodAll_mk1 (shut_bool hb true)
  · rw [hs2]
    exact args_shut hl hg fn.params.toList args.toList ds p hts hlt hA
  · rw [hs2, hvars]
    rfl
theorem confA_nil {dss : List (List D)} (h : ConfA [] dss) : dss = [] := by
  cases dss with
  | nil => rfl
  | cons _ _ => exact h.elim
theorem confA_cons {s : Bool × List Sh} {ss : List (Bool × List Sh)} {dss : List (List D)} (h : ConfA (s :: ss) dss) : ∃ ds r, dss = ds :: r ∧ ConfC ds s.2 ∧ ConfA ss r := by
  cases dss with
  | nil => exact h.elim
  | cons ds r => exact ⟨ds, r, rfl, h.1, h.2⟩
theorem wf_i64 {n : Int} (h : (Lit.int .i64 n).wf = true) : -9223372036854775808 ≤ n ∧ n < 9223372036854775808 := by
  simp [Lit.wf, IntKind.min, IntKind.max, IntKind.signed, IntKind.bits] at h
  omega
theorem confA_int {ss : List (Bool × List Sh)} {dss : List (List D)} (h : ConfA ((false, [.int .i64]) :: ss) dss) : ∃ n r, dss = [.int .i64 n] :: r ∧ (-9223372036854775808 ≤ n ∧ n < 9223372036854775808) ∧ ConfA ss r := by
  obtain ⟨ds, r, rfl, h1, h2⟩ := confA_cons h
  obtain ⟨d, r', rfl, h3, h4⟩ := confC_cons h1
  obtain rfl := confC_nil h4
  obtain ⟨n, rfl, hw⟩ := conf_int h3
  exact ⟨n, r, rfl, wf_i64 hw, h2⟩
end Pay
