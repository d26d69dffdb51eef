/- Plain laws of rule sets: names. -/
import Derived.KernelRfl
import Derived.Test.YtcgeldjhobmijaaDoorPayC44
import Derived.Test.YtcgeldjhobmijaaDoorPayC47
import Derived.Test.YtcgeldjhobmijaaDoorPayC48
import Derived.Test.YtcgeldjhobmijaaDoorPayTr1
import Derived.Test.YtcgeldjhobmijaaDoorPayTr2
import Derived.Test.YtcgeldjhobmijaaDoorPayTr3
set_option linter.unusedSimpArgs false
set_option linter.unusedVariables false
namespace Pay
theorem lexT_at (p : Nat) (t : List UInt8) : lexT p t = lexUp p (lexT 0 t) := by
  have := lex_up p t 0
  rwa [Nat.zero_add] at this
def tailN : List UInt8 := [32, 61, 32, 49, 59]
theorem tail_lex (p : Nat) : lexT p tailN = ([⟨5, [61], 1 + p⟩, ⟨2, [49], 3 + p⟩, ⟨5, [59], 4 + p⟩], none) := by
  rw [lexT_at, show lexT 0 tailN = ([⟨5, [61], 1⟩, ⟨2, [49], 3⟩, ⟨5, [59], 4⟩], none) by kernel_rfl]
  rfl
def textN2 (kind name : List UInt8) : List UInt8 := kind ++ [32] ++ name ++ tailN
theorem names_lex {kind name : List UInt8} (h1 : Good 1 kind) (h2 : Good 1 name) : lexS (textN2 kind name) =
    ([⟨1, kind, 0⟩, ⟨1, name, kind.length + 1⟩, ⟨5, [61], 1 + (kind.length + 1 + name.length)⟩, ⟨2, [49], 3 + (kind.length + 1 + name.length)⟩, ⟨5, [59], 4 + (kind.length + 1 + name.length)⟩], none) := by
  have e : textN2 kind name = kind ++ 32 :: (name ++ tailN) := by simp [textN2]
  rw [lexS_T, e, lex_put h1 0 (sep_cons (.inl rfl)), lexT_blank (.inl rfl), lex_put h2 _ (r := tailN) (sep_cons (.inl rfl)), tail_lex]
  simp [lexPut]
theorem expr_one (en a b : Nat) : exprT en 20 [⟨2, [49], a⟩, ⟨5, [59], b⟩] = .ok (.leaf wWhole [] 1, [⟨5, [59], b⟩]) := by kernel_rfl
theorem need_hd (en : Nat) (s : List UInt8) (p : Nat) (r : List Tok) : needK en s (⟨5, s, p⟩ :: r) = .ok r := by
  unfold needK takeK
  simp [signT]
theorem names_read {kind name : List UInt8} (en a b c d : Nat) : readT en [⟨1, kind, 0⟩, ⟨1, name, a⟩, ⟨5, [61], b⟩, ⟨2, [49], c⟩, ⟨5, [59], d⟩] =
    if kindsL.contains kind = true then (if namedB name = true then .ok [⟨kind, name, .leaf wWhole [] 1⟩] else .error (2, a)) else .error (2, 0) := by
  unfold readT
  simp only [List.length_cons, List.length_nil]
  unfold progK
  rw [if_neg (by simp)]
  unfold ruleK
  simp only
  rw [if_neg (by simp)]
  by_cases h1 : kindsL.contains kind = true
  · rw [if_pos ⟨rfl, h1⟩, if_pos h1]
    by_cases h2 : namedB name = true
    · rw [if_pos ⟨trivial, h2⟩, if_pos h2, need_hd, bind_ok, expr_one, bind_ok]
      simp only
      rw [need_hd, bind_ok]
      simp [progK]
    · rw [if_neg (fun h => h2 h.2), if_neg h2]
  · rw [if_neg (fun h => h1 h.2), if_neg h1]
    rfl
/-- A rule of any kind, and name. -/
theorem names_law {kind name : List UInt8} (h1 : Good 1 kind) (h2 : Good 1 name) : ∃ p, parseP (textN2 kind name) =
    if kindsL.contains kind = true ∧ namedB name = true then (⟨[⟨kind, name, 0⟩], [xLeaf wWhole [] 1]⟩, 0, 0) else (⟨[], []⟩, p, 2) := by
  unfold parseP
  rw [names_lex h1 h2]
  simp only
  rw [parseT_eq, names_read]
  by_cases h1 : kindsL.contains kind = true
  · by_cases h2 : namedB name = true
    · rw [if_pos h1, if_pos h2]; exact ⟨0, by rw [if_pos ⟨h1, h2⟩]; rfl⟩
    · rw [if_pos h1, if_neg h2]; exact ⟨_, by rw [if_neg (fun h => h2 h.2)]⟩
  · rw [if_neg h1]; exact ⟨_, by rw [if_neg (fun h => h1 h.1)]⟩
end Pay
