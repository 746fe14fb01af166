/- Plain: the reference's fractions of two numbers; fractions that are dealt. -/
import Derived.Test.YtilpgjoidgfbiaaGreatRd
import Derived.Test.YtilpgjoidgfbiaaGreatQe
import Derived.Test.YtilpgjoidgfbiaaGreatQo
namespace Go.Proofs.YtilpgjoidgfbiaaGreat
open Vm
set_option linter.unusedVariables false
theorem gcd_le_both {n d : Int} (hn : 0 ≤ n) (hd : 0 < d) : gcdI n d ≤ d ∧ (0 < n → gcdI n d ≤ n) := by
  obtain ⟨x, rfl⟩ := Int.eq_ofNat_of_zero_le hn
  obtain ⟨y, rfl⟩ := Int.eq_ofNat_of_zero_le (Int.le_of_lt hd)
  unfold gcdI
  simp only [Int.toNat_natCast]
  have h1 : Nat.gcd x y ≤ y := Nat.gcd_le_right _ (by omega)
  refine ⟨by omega, fun h => ?_⟩
  have h2 : Nat.gcd x y ≤ x := Nat.gcd_le_left _ (by omega)
  omega
theorem ref_make_any {p q : List Int} (hp : U32 p) (hq : U32 q) : rl_ref11_Make p q = some (makeS p q) := by
  unfold rl_ref11_Make makeS
  rw [rl_ref10_valid_any, rl_ref10_valid_any, bind1_pure, bind1_pure]
  unfold rl_ref11_Make_k1
  by_cases h1 : VN p
  rotate_left
  · rw [if_pos (by simp [h1]), if_pos rfl, if_neg (fun k => h1 k.1)]; rfl
  rw [if_neg (by simp [h1])]
  by_cases h2 : VN q
  rotate_left
  · rw [if_pos (by simp [h2]), if_neg (fun k => h2 k.2)]; rfl
  rw [if_neg (by simp [h2]), if_pos (show VN p ∧ VN q from ⟨h1, h2⟩)]
  by_cases h3 : q = []
  · rw [if_pos (show ((q.length : Int) == 0) = true by simp [h3]), if_pos h3]; rfl
  have v1 := vlt h1 hp
  have v2 := vlt h2 hq
  have w0 := val_nonneg hp
  have w1 := ne_pos h2 hq h3
  have g0 := gcdI_pos (n := val p) w1
  have gl := (gcd_le_both w0 w1).1
  have lp : p.length < 100000 := by have := h1.1; omega
  have lq : q.length < 100000 := by have := h2.1; omega
  rw [if_neg (show ¬ ((q.length : Int) == 0) = true by simp [h3]), if_neg h3, ref10_gcd_eq hp hq lp lq]
  have hne : nat32 (gcdI (val p) (val q)) ≠ [] := fun h => by have := (nat32_nil (by omega)).1 h; omega
  have vg := (vn_iff (Int.le_of_lt g0)).2 (by omega : gcdI (val p) (val q) < bp 64)
  unfold gcdS
  rw [if_pos (show VN p ∧ VN q from ⟨h1, h2⟩), bind2_pure, ref10_divmod_eq hp (nat32_u32 (by omega)) lp (nlen (by omega) (by omega)), ref10_divmod_eq hq (nat32_u32 (by omega)) lq (nlen (by omega) (by omega))]
  unfold divS
  rw [if_pos (show VN p ∧ VN (nat32 (gcdI (val p) (val q))) from ⟨h1, vg⟩), if_neg hne, bind3_pure, if_pos (show VN q ∧ VN (nat32 (gcdI (val p) (val q))) from ⟨h2, vg⟩), if_neg hne, bind3_pure, nat32_val (by omega)]
  rfl
theorem ref_make_eq {p q : List Int} (hp : U32 p) (hq : U32 q) (lp : p.length < 100000) (lq : q.length < 100000) : rl_ref11_Make p q = some (makeS p q) := ref_make_any hp hq
theorem ref_of_eq {n d : Int} (hn : n < 9223372036854775808) (hd : d < 9223372036854775808) : rl_ref11_Of n d = some (ofS n d) := by
  unfold rl_ref11_Of ofS rl_ref11_Of_k1
  by_cases h1 : n < 0
  · rw [if_pos (show decide (n < 0) = true by simpa using h1), if_pos rfl, if_pos (show n < 0 ∨ d < 0 from .inl h1)]; rfl
  rw [if_neg (show ¬ decide (n < 0) = true by simpa using h1)]
  by_cases h2 : d < 0
  · rw [if_pos (show decide (d < 0) = true by simpa using h2), if_pos (show n < 0 ∨ d < 0 from .inr h2)]; rfl
  have a0 : 0 ≤ n := by omega
  have b0 : 0 ≤ d := by omega
  have va := (vn_iff a0).2 (small_lt hn)
  have vb := (vn_iff b0).2 (small_lt hd)
  rw [if_neg (show ¬ decide (d < 0) = true by simpa using h2), if_neg (show ¬ (n < 0 ∨ d < 0) by omega), rl_ref10_fromInt_eq hn, rl_ref10_fromInt_eq hd, if_neg h1, if_neg h2, bind2_pure, bind2_pure, ref_make_eq (nat32_u32 a0) (nat32_u32 b0) (nlen a0 (small_lt hn)) (nlen b0 (small_lt hd))]
  unfold makeS
  rw [if_pos (show VN (nat32 n) ∧ VN (nat32 d) from ⟨va, vb⟩), nat32_val a0, nat32_val b0]
  by_cases h3 : d = 0
  · rw [if_pos ((nat32_nil b0).2 h3), if_pos h3]; rfl
  · rw [if_neg (fun k => h3 ((nat32_nil b0).1 k)), if_neg h3]; rfl
/-! The same, of any numbers that make a fraction. -/
theorem poly_add (g a b k c f : Int) : (a * f + c * b) * ((g * b) * (k * f)) = ((g * a) * (k * f) + (k * c) * (g * b)) * (b * f) := by grind
theorem poly_sub (p x y z : Int) : (x - y) * (p * z) = (p * x - p * y) * z := by grind
theorem le_mul {a b n d : Int} (h1 : a ≤ n) (h2 : b ≤ d) (h3 : 0 ≤ b) (h4 : 0 ≤ n) : a * b ≤ n * d := Int.mul_le_mul h1 h2 h3 h4
section
variable {n d m e : Int}
theorem frnd (hn : 0 ≤ n) (hd : 0 < d) (ln : n < bp 64) (ld : d < bp 64) {u : Int} (u0 : 1 ≤ u) (u1 : u ≤ 4294967296) (h1 : n * (2 * u) + d < bp 64) (h2 : 2 * d < bp 64) (h3 : (n * (2 * u) + d) / (2 * d) < 9223372036854775808) : rational_Round (fr n d) u = some ((n * (2 * u) + d) / (2 * d), 0) := by
  obtain ⟨x1, x2⟩ := fr_ok hn hd ln ld
  obtain ⟨g, a, b, g0, a0, b0, e1, e2, e3, e4, e5, e6⟩ := fr_parts hn hd
  rw [rrnd_eq x1]
  unfold rrndS
  have v : val (fr n d).Num = a ∧ val (fr n d).Den = b := by rw [e3]; exact ⟨nat32_val a0, nat32_val (by omega)⟩
  have q : (a * (2 * u) + b) / (2 * b) = (n * (2 * u) + d) / (2 * d) := by
    rw [show n * (2 * u) + d = g * (a * (2 * u) + b) by subst e1; subst e2; grind, show 2 * d = g * (2 * b) by subst e2; grind, Int.mul_ediv_mul_of_pos _ _ g0]
  have j1 := le_mul e5 (Int.le_refl (2 * u)) (by omega) hn
  rw [if_pos x2, if_neg (show ¬ (u < 1 ∨ u > 4294967296) by omega), v.1, v.2, if_pos ⟨by omega, by omega⟩, q, if_pos h3]
end
end Go.Proofs.YtilpgjoidgfbiaaGreat
