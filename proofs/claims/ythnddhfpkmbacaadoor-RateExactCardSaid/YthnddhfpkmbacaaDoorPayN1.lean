/- Plain numbers: a division of two words by one, in half words. -/

namespace Pay
/-- A quotient's estimate is never too small. -/
theorem est_ge {u v1 v0 un un1 q r : Nat} (hu : u = un * 4294967296 + un1) (hq : q * v1 + r = un) (hr : r < v1) (h1 : un1 < 4294967296) : u / (v1 * 4294967296 + v0) ≤ q := by
  have hv : 0 < v1 * 4294967296 + v0 := by omega
  have : u < (q + 1) * (v1 * 4294967296 + v0) := by
    have e : (q + 1) * (v1 * 4294967296 + v0) = (q * v1 + v1) * 4294967296 + (q + 1) * v0 := by
      simp only [Nat.add_mul, Nat.mul_add, Nat.one_mul, Nat.mul_assoc]
    rw [e, hu, ← hq]
    have := Nat.zero_le ((q + 1) * v0)
    omega
  have := (Nat.div_lt_iff_lt_mul hv).2 this
  omega
theorem est_le {u v1 v0 un un1 q r : Nat} (hu : u = un * 4294967296 + un1) (hq : q * v1 + r = un) (hv : 0 < v1) (h : q * v0 ≤ 4294967296 * r + un1) : q ≤ u / (v1 * 4294967296 + v0) := by
  rw [Nat.le_div_iff_mul_le (by omega)]
  have e : q * (v1 * 4294967296 + v0) = (q * v1) * 4294967296 + q * v0 := by rw [Nat.mul_add, Nat.mul_assoc]
  rw [e, hu, ← hq]
  omega
theorem est_gt {u v1 v0 un un1 q r : Nat} (hu : u = un * 4294967296 + un1) (hq : q * v1 + r = un) (hv : 0 < v1) (h : 4294967296 * r + un1 < q * v0) : u / (v1 * 4294967296 + v0) + 1 ≤ q := by
  have : u / (v1 * 4294967296 + v0) < q := by
    rw [Nat.div_lt_iff_lt_mul (by omega)]
    have e : q * (v1 * 4294967296 + v0) = (q * v1) * 4294967296 + q * v0 := by rw [Nat.mul_add, Nat.mul_assoc]
    rw [e, hu, ← hq]
    omega
  omega
theorem quo_small {u v1 v0 un un1 : Nat} (hu : u = un * 4294967296 + un1) (hl : un < v1 * 4294967296 + v0) (h1 : un1 < 4294967296) : u / (v1 * 4294967296 + v0) < 4294967296 := by
  rw [Nat.div_lt_iff_lt_mul (by omega)]
  have : un + 1 ≤ v1 * 4294967296 + v0 := hl
  have := Nat.mul_le_mul_left 4294967296 this
  omega
theorem est_top {v1 v0 un q r : Nat} (hv1 : 2147483648 ≤ v1) (hv0 : v0 < 4294967296) (hl : un < v1 * 4294967296 + v0) (hq : q * v1 + r = un) : q ≤ 4294967297 := by
  rcases Nat.lt_or_ge 4294967297 q with h | h
  · have := Nat.mul_le_mul_right v1 h
    have e : (4294967297 + 1) * v1 = 4294967296 * v1 + 2 * v1 := by omega
    omega
  · exact h
/-- Two words by one: halves of the quotient are the quotient. -/
theorem two_steps {N v a b : Nat} (hv : 0 < v) (hN : N = a * 4294967296 + b)  :
    N / v = (a / v) * 4294967296 + ((a % v) * 4294967296 + b) / v ∧ N % v = ((a % v) * 4294967296 + b) % v := by
  have e : N = v * ((a / v) * 4294967296) + ((a % v) * 4294967296 + b) := by
    have := Nat.div_add_mod a v
    calc N = a * 4294967296 + b := hN
      _ = (v * (a / v) + a % v) * 4294967296 + b := by rw [this]
      _ = _ := by rw [Nat.add_mul, Nat.mul_assoc]; omega
  constructor
  · rw [e, Nat.mul_add_div hv]
  · rw [e, Nat.mul_add_mod]
end Pay
