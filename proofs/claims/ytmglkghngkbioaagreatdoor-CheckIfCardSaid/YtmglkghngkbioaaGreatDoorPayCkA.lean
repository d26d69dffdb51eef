/- A statement's arguments: bindings. -/
import Derived.Test.YtmglkghngkbioaaGreatDoorPayBc0
import Derived.Test.YtmglkghngkbioaaGreatDoorPayC48
import Derived.Test.YtmglkghngkbioaaGreatDoorPayCk1
set_option linter.unusedVariables false
namespace Pay
open Go
theorem confA_binds {ss : List (Bool × List Sh)} {dss : List (List D)} (h : ConfA ((false, [.sl [.str, .int .i64]]) :: ss) dss) :
    ∃ (l : List Bnd) (r : List (List D)), dss = [.sl (l.map encBn)] :: r ∧ ConfA ss r := by
  obtain ⟨ds, r, rfl, h1, h2⟩ := confA_cons h
  obtain ⟨d, r', rfl, h3, h4⟩ := confC_cons h1
  obtain rfl := confC_nil h4
  obtain ⟨es, rfl, h5⟩ := conf_sl h3
  have key : ∀ es : List (List D), (∀ e ∈ es, ConfC e [.str, .int .i64]) → ∃ l : List Bnd, es = l.map encBn := by
    intro es
    induction es with
    | nil => intro _; exact ⟨[], rfl⟩
    | cons e es ih =>
      intro h
      obtain ⟨l, rfl⟩ := ih (fun x hx => h x (List.mem_cons_of_mem _ hx))
      obtain ⟨d, r, rfl, k1, k2⟩ := confC_cons (h e (by simp))
      obtain ⟨s, rfl⟩ := conf_str k1
      obtain ⟨d', r', rfl, k3, k4⟩ := confC_cons k2
      obtain rfl := confC_nil k4
      obtain ⟨n, rfl, hw⟩ := conf_int k3
      exact ⟨⟨s, n⟩ :: l, rfl⟩
  obtain ⟨l, rfl⟩ := key es h5
  exact ⟨l, r, rfl, h2⟩
end Pay
