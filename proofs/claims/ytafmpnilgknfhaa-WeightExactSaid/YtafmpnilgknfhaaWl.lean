/- Plain: logarithms in units of a bit's sixteenth part, as numbers with a property. -/
import Derived.Test.YtafmpnilgknfhaaQa
namespace Go.Proofs.Ytafmpnilgknfhaa
open Vm
set_option linter.unusedVariables false
/-- 2 to the power of x, times 2 to the power of 300. -/
def E2 (x : Int) : Nat := 2 ^ (x + 300).toNat
theorem E2_pos (x : Int) : 0 < E2 x := Nat.pow_pos (by decide)
theorem E2_mul {x y : Int} (hx : -300 ≤ x) (hy : -300 ≤ y) (h : -300 ≤ x + y) : E2 x * E2 y = E2 (x + y) * E2 0 := by
  unfold E2
  rw [← Nat.pow_add, ← Nat.pow_add]
  congr 1
  omega
theorem E2_lt {x y : Int} (hx : -300 ≤ x) (h : x < y) : E2 x < E2 y := Nat.pow_lt_pow_right (by decide) (by omega)
theorem E2_le {x y : Int} (h : x ≤ y) : E2 x ≤ E2 y := Nat.pow_le_pow_right (by decide) (by omega)
theorem E2_of_lt {x y : Int} (h : E2 x < E2 y) : x < y := by
  rcases Int.lt_or_le x y with k | k
  · exact k
  · have := E2_le k; omega
theorem E2_of_le {x y : Int} (hy : -300 ≤ y) (h : E2 x ≤ E2 y) : x ≤ y := by
  rcases Int.lt_or_le y x with k | k
  · have := E2_lt hy k; omega
  · exact k
/-- x is the logarithm of a over b, rounded down. -/
def isLog (a b : Nat) (x : Int) : Prop := -290 ≤ x ∧ x ≤ 290 ∧ b * E2 x ≤ a * E2 0 ∧ a * E2 0 < b * E2 (x + 1)
theorem isLog.uniq {a b : Nat} {x y : Int} (hx : isLog a b x) (hy : isLog a b y) : x = y := by
  obtain ⟨x1, x2, x3, x4⟩ := hx
  obtain ⟨y1, y2, y3, y4⟩ := hy
  have key : ∀ {x y : Int}, b * E2 y ≤ a * E2 0 → a * E2 0 < b * E2 (x + 1) → ¬ x < y := fun {x y} h1 h2 h => by
    have := Nat.mul_le_mul_left b (E2_le (show x + 1 ≤ y by omega))
    omega
  have := key y3 x4
  have := key x3 y4
  omega
theorem isLog.le {a b : Nat} {x y : Int} (hb : 0 < b) (hx : isLog a b x) (hy : -300 ≤ y) : b * E2 y ≤ a * E2 0 ↔ y ≤ x := by
  obtain ⟨x1, x2, x3, x4⟩ := hx
  constructor
  · intro h
    have : E2 y < E2 (x + 1) := Nat.lt_of_mul_lt_mul_left (a := b) (by omega)
    have := E2_of_lt this
    omega
  · intro h
    have := Nat.mul_le_mul_left b (E2_le h)
    omega
/-- Logarithms of a product. -/
theorem isLog.mul {a b c d : Nat} {x y z : Int} (ha : 0 < a) (hb : 0 < b) (hc : 0 < c) (hd : 0 < d) (hx : isLog a b x) (hy : isLog c d y) (hz : isLog (a * c) (b * d) z) : z = x + y ∨ z = x + y + 1 := by
  obtain ⟨x1, x2, x3, x4⟩ := hx
  obtain ⟨y1, y2, y3, y4⟩ := hy
  have h0 := E2_pos 0
  have hbd := Nat.mul_pos hb hd
  have n1 := hz.1
  have n2 := hz.2.1
  have z3 := hz.2.2.1
  have z4 := hz.2.2.2
  -- b d E(x) E(y) <= a c E0 E0 < b d E(z+1) E0
  have m1 : (b * E2 x) * (d * E2 y) ≤ (a * E2 0) * (c * E2 0) := Nat.mul_le_mul x3 y3
  have m2 : (a * E2 0) * (c * E2 0) < (b * E2 (x + 1)) * (d * E2 (y + 1)) := Nat.mul_lt_mul'' x4 y4
  have m3 : b * d * E2 z * E2 0 ≤ a * c * E2 0 * E2 0 := Nat.mul_le_mul_right _ z3
  have m4 : a * c * E2 0 * E2 0 < b * d * E2 (z + 1) * E2 0 := Nat.mul_lt_mul_of_pos_right z4 h0
  have e1 : (a * E2 0) * (c * E2 0) = a * c * E2 0 * E2 0 := by grind
  have e2 : (b * E2 x) * (d * E2 y) = (b * d) * (E2 x * E2 y) := by grind
  have e3 : (b * E2 (x + 1)) * (d * E2 (y + 1)) = (b * d) * (E2 (x + 1) * E2 (y + 1)) := by grind
  have e4 : b * d * E2 z * E2 0 = (b * d) * (E2 z * E2 0) := by grind
  have e5 : b * d * E2 (z + 1) * E2 0 = (b * d) * (E2 (z + 1) * E2 0) := by grind
  have k1 : E2 x * E2 y < E2 (z + 1) * E2 0 := Nat.lt_of_mul_lt_mul_left (a := b * d) (by omega)
  have k2 : E2 z * E2 0 < E2 (x + 1) * E2 (y + 1) := Nat.lt_of_mul_lt_mul_left (a := b * d) (by omega)
  have r1 : x + y ≤ z := by
    rcases Int.lt_or_le z (x + y) with h | h
    · exfalso
      rw [E2_mul (by omega) (by omega) (by omega)] at k1
      have := E2_of_lt (Nat.lt_of_mul_lt_mul_right k1)
      omega
    · exact h
  have r2 : z ≤ x + y + 1 := by
    rcases Int.lt_or_le (x + y + 1) z with h | h
    · exfalso
      by_cases hlow : -300 ≤ x + 1 + (y + 1)
      · rw [E2_mul (by omega) (by omega) hlow] at k2
        have := E2_of_lt (Nat.lt_of_mul_lt_mul_right k2)
        omega
      · have f1 : E2 (x + 1) * E2 (y + 1) ≤ E2 (-300) * E2 0 := by
          unfold E2
          rw [← Nat.pow_add, ← Nat.pow_add]
          exact Nat.pow_le_pow_right (by decide) (by omega)
        have := E2_of_lt (Nat.lt_of_lt_of_le (Nat.lt_of_mul_lt_mul_right (Nat.lt_of_lt_of_le k2 f1)) (Nat.le_refl _))
        omega
    · exact h
  omega
theorem isLog.self {a : Nat} (ha : 0 < a) : isLog a a 0 := ⟨by decide, by decide, Nat.le_refl _, Nat.mul_lt_mul_of_pos_left (E2_lt (by decide) (by decide)) ha⟩
/-- The logarithm of a power of two times a fraction. -/
theorem isLog.shift {a b k : Nat} {x : Int} (hx : isLog a b x) (hk : x + k ≤ 290) : isLog (2 ^ k * a) b (x + k) := by
  obtain ⟨x1, x2, x3, x4⟩ := hx
  have e : ∀ {y : Int}, -300 ≤ y → E2 (y + k) = 2 ^ k * E2 y := fun {y} hy => by
    unfold E2
    rw [← Nat.pow_add]
    congr 1
    omega
  refine ⟨by omega, hk, ?_, ?_⟩
  · rw [e (by omega)]
    have := Nat.mul_le_mul_left (2 ^ k) x3
    have e1 : b * (2 ^ k * E2 x) = 2 ^ k * (b * E2 x) := by grind
    have e2 : 2 ^ k * a * E2 0 = 2 ^ k * (a * E2 0) := by grind
    omega
  · rw [show x + k + 1 = (x + 1) + k by omega, e (by omega)]
    have := Nat.mul_lt_mul_of_pos_left x4 (show 0 < 2 ^ k from Nat.pow_pos (by decide))
    have e1 : b * (2 ^ k * E2 (x + 1)) = 2 ^ k * (b * E2 (x + 1)) := by grind
    have e2 : 2 ^ k * a * E2 0 = 2 ^ k * (a * E2 0) := by grind
    omega
/-- More above the line. -/
theorem isLog.mono {a a' b : Nat} {x y : Int} (hb : 0 < b) (h : a ≤ a') (hx : isLog a b x) (hy : isLog a' b y) : x ≤ y := by
  refine (hy.le hb (by have := hx.1; omega)).1 (Nat.le_trans hx.2.2.1 (Nat.mul_le_mul_right _ h))
theorem isLog.sign {a b : Nat} {x : Int} (hb : 0 < b) (hx : isLog a b x) : 0 ≤ x ↔ b ≤ a := by
  rw [← hx.le hb (by decide)]
  exact ⟨fun h => Nat.le_of_mul_le_mul_right h (E2_pos 0), fun h => Nat.mul_le_mul_right _ h⟩
end Go.Proofs.Ytafmpnilgknfhaa
