/- Functions whose run is told by a contract over the program's own machine; a row that lists variables. -/
import Derived.Lib.LaidTab
import Derived.Lib.LaidU8
import Derived.Handed
import Derived.HandedShaped
import Derived.Test.YthnddhfpkmbacaaDoorPayZ
set_option linter.unusedSimpArgs false
set_option linter.unusedVariables false
namespace Pay
open Go
/-- What a call returns, and that it turns no block that there was, is a contract. -/
theorem SoundAt.of_calls {C : Ctx} {f : Nat} {vs : List V} {r : V} {us : List Value} {g : Func} (hg : C.P.funcs[C.φ f]? = some g) (hbody : g.body.isSome = true) (hname : (g.name != "runtime.NumGoroutine") = true)
    (hus : ∀ w ok γ us', RepVs C w ok γ vs us' → us' = us)
    (h : ∀ w, C.gi w → Calls C.P (C.φ f) ⟨us⟩ w (fun e w' => ∃ v, e = .returned v ∧ (∀ ok γ, RepV C w' ok γ r v) ∧ Go.RowKit.Below w.heap.size w w')) :
    SoundAt C f ⟨vs, looko []⟩ ⟨r, looko []⟩ := by
  intro w S M γ us' hp
  have e := hus _ _ _ _ hp.args
  subst e
  obtain ⟨c, hbody⟩ := Option.isSome_iff_exists.1 hbody
  have hrun : (callFunc (C.φ f) ⟨us'⟩).run C.P w = .ok (.enter (C.φ f) ⟨us'⟩) w := by
    simp only [bne_iff_ne, ne_eq] at hname
    simp [callFunc, hg, hname, hbody]
  unfold Enters
  rw [hrun]
  simp only
  refine Calls.mono (h w hp.env.gi) ?_
  rintro e w' ⟨v, rfl, hr, hb⟩
  refine ⟨γ, ⟨hr _ _, fun n x hx => ?_, fun n m x y g hx _ _ _ => ?_, fun n x g hx _ => ?_, ⟨hb.os, hb.tape, hb.output, hb.size, fun g hg _ => hb.block g hg⟩, fun n _ => rfl⟩⟩
  all_goals simp [looko] at hx
/-- The numbers that a listed table's variable holds. -/
theorem tab_of_reads {P : Program} {W : World} {name : String} {k : IntKind} {zs : List Int} {g : Nat} {t e : TypeId} {n : Nat} (hg : P.globalNamed name = some g) (hty : (P.globals[g]?).map (·.type) = some t) (ht : P.underlying t = some (.array n e)) (he : P.underlying e = some (.int k)) (hce : P.cellsOf e = 1) (hct : P.cellsOf t = n)
    (h : Lib.VarReads P W name (Lib.tabData k zs)) : Lib.TabIs P W name k zs := by
  obtain ⟨g', t', cs, fuel, p, h1, h2, h3, h4⟩ := h
  obtain rfl := Option.some.inj (hg.symm.trans h1)
  obtain rfl := Option.some.inj (hty.symm.trans h2)
  have := Lib.cells_of_tab ht he hce hct h4
  obtain ⟨l⟩ := cs
  simp only at this
  subst this
  exact h3
/-- A row that lists variables, over a condition on the world that its memory alone decides; the world's form is handed on. -/
theorem returns_laid {H : Type} {enc : TypeId × Value → H} {C : Checked} {os : Os} {f : FuncId} {fn : Func} {s : ChangeSpec} {apart fresh handsOn again : Bool} {X : World → Prop}
    (hX : ∀ w w' : World, w.heap = w'.heap → X w → X w')
    (own : ownKnob C.prog.godebug = none) (started : os.Started) (noInit : C.prog.inits.idxOf? f = none) (hfn : C.prog.funcs[f]? = some fn)
    (witness : ∃ (w : World) (tape : Tape) (i : Input), w.os = os ∧ (w.forCall tape i).Shaped C.prog ∧ i.vars = [] ∧ Input.okWide C.prog (w.forCall tape i) .any w.heap.size f i ∧
      ((s.pre enc C.prog fn [] apart (w.forCall tape i).memory i.args ∧ X (w.forCall tape i).memory) ∧ sizedMet enc C.prog fn (OpenSpec.ofChange s) apart (w.forCall tape i).memory i.args) ∧ ({} : Assume).holds C.prog (lone (Frame.enter C.prog f i.args .normal) [] (w.forCall tape i)))
    (contract : ∀ (W : World) (base : Nat) (args : Array Value) (ds gs : List (DataW H)) (before : List MemPlace),
      (∀ (j : Nat) t v, fn.params[j]? = some t → args[j]? = some v → Value.okWide C.prog W .any base t v) →
      DataW.Whole enc C.prog fn.params.toList s.vars apart W args.toList ds gs before → X W → W.ShapedOpen C.prog →
      Calls C.prog f args W fun e W' => ∃ v, e = .returned v ∧ s.post enc C.prog fn apart fresh handsOn again W args v W') :
    ReturnsInHanded {} C os f .any (fun w args => (s.pre enc C.prog fn [] apart w args ∧ X w) ∧ sizedMet enc C.prog fn (OpenSpec.ofChange s) apart w args) (s.post enc C.prog fn apart fresh handsOn again) := by
  refine returnsInHanded_of_calls own started noInit witness ?_
  intro w tape i _ hsh _ hok hpre _
  obtain ⟨_, _, _, fn', hfn', _, _, _, _, hval⟩ := hok
  obtain rfl : fn' = fn := Option.some.inj (hfn'.symm.trans hfn)
  obtain ⟨⟨⟨ds, gs, before, hw, _⟩, hx⟩, _⟩ := hpre
  refine (contract (w.forCall tape i) w.heap.size i.args ds gs before hval (DataW.Whole.of_heap (w' := w.forCall tape i) (by rfl) hw) (hX _ _ (by rfl) hx) hsh).mono fun e W' ⟨v, he, hp⟩ => ?_
  subst he
  exact ChangeSpec.post_blind hp
end Pay
