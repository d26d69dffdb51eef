/- From a contract to what the judge's statements ask of a call. -/
import Derived.Carry
import Derived.Test.YthnddhfpkmbacaaDoorPayV
set_option linter.unusedSimpArgs false
set_option linter.unusedVariables false
namespace Pay
open Go
/-- Data lie in blocks that there are. -/
abbrev okW (W : World) (g : Nat) : Prop := g < W.heap.size
theorem SoundAt.calls {C : Ctx} {f : Nat} {vs : List V} {b : Bool} (h : SoundAt C f ⟨vs, looko []⟩ ⟨.d (.bool b), looko []⟩) {g : Func} (hg : C.P.funcs[C.φ f]? = some g) (hbody : g.body.isSome = true) (hname : (g.name != "runtime.NumGoroutine") = true)
    {W : World} (hgi : C.gi W) (hb : C.base ≤ W.heap.size) {us : List Value} (ha : RepVs C W (okW W) (fun _ => undef) vs us) :
    Calls C.P (C.φ f) ⟨us⟩ W (fun e W' => e = .returned (.bool b) ∧ Go.RowKit.Below W.heap.size W W') := by
  have hok : ∀ g, okW W g → W.heap[g]? = W.heap[g]? ∧ okOf W (fun g => g < W.heap.size) (fun _ => undef) (looko []) W g := fun g hg => ⟨rfl, .inl hg, hg, fun n x hx => by simp [looko] at hx⟩
  have hpre : Pre C W (fun g => g < W.heap.size) (fun _ => False) (fun _ => undef) ⟨vs, looko []⟩ us := by
    refine ⟨⟨hgi, hb, fun _ h => h.elim, fun _ h => h, fun _ h => h.elim⟩, RepVs.mono hok _ _ (fun _ _ => rfl) ha, fun n x hx => ?_, fun n m x y g hx _ _ _ => ?_, fun n x g hx _ => ?_⟩
    all_goals simp [looko] at hx
  have he := h W _ _ _ us hpre
  obtain ⟨c, hbody⟩ := Option.isSome_iff_exists.1 hbody
  have hrun : (callFunc (C.φ f) ⟨us⟩).run C.P W = .ok (.enter (C.φ f) ⟨us⟩) W := by
    simp only [bne_iff_ne, ne_eq] at hname
    simp [callFunc, hg, hname, hbody]
  unfold Enters at he
  rw [hrun] at he
  simp only at he
  refine Calls.mono he (fun e w' h => ?_)
  cases e with
  | returned v =>
    obtain ⟨γ', hp⟩ := h
    have hv : v = .bool b := hp.res
    refine ⟨by rw [hv], hp.fram.os, hp.fram.tape, hp.fram.output, hp.fram.size, fun k hk => hp.fram.block k hk (fun h => h)⟩
  | _ => exact h.elim
theorem block_lt {W : World} {a : Addr} {u : Value} (h : W.cell? a = some u) : a.block < W.heap.size := by
  rcases Nat.lt_or_ge a.block W.heap.size with h' | h'
  · exact h'
  · have : W.heap[a.block]? = none := by simp; omega
    simp [World.cell?, this] at h
end Pay
