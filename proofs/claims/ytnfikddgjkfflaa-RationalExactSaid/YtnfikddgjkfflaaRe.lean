/- Plain: the reference's fractions of two numbers; fractions that are dealt. -/
import Derived.Test.YtnfikddgjkfflaaRd
import Derived.Test.YtnfikddgjkfflaaQe
import Derived.Test.YtnfikddgjkfflaaQo
namespace Go.Proofs.Ytnfikddgjkfflaa
open Vm
set_option linter.unusedVariables false
theorem gcd_le_both {n d : Int} (hn : 0 ≤ n) (hd : 0 < d) : gcdI n d ≤ d ∧ (0 < n → gcdI n d ≤ n) := by
  obtain ⟨x, rfl⟩ := Int.eq_ofNat_of_zero_le hn
  obtain ⟨y, rfl⟩ := Int.eq_ofNat_of_zero_le (Int.le_of_lt hd)
  unfold gcdI
  simp only [Int.toNat_natCast]
  have h1 : Nat.gcd x y ≤ y := Nat.gcd_le_right _ (by omega)
  refine ⟨by omega, fun h => ?_⟩
  have h2 : Nat.gcd x y ≤ x := Nat.gcd_le_left _ (by omega)
  omega
theorem ref_make_any {p q : List Int} (hp : U32 p) (hq : U32 q) : rl_ref11_Make p q = some (makeS p q) := by
  unfold rl_ref11_Make makeS
  rw [rl_ref10_valid_any, rl_ref10_valid_any, bind1_pure, bind1_pure]
  unfold rl_ref11_Make_k1
  by_cases h1 : VN p
  rotate_left
  · rw [if_pos (by simp [h1]), if_pos rfl, if_neg (fun k => h1 k.1)]; rfl
  rw [if_neg (by simp [h1])]
  by_cases h2 : VN q
  rotate_left
  · rw [if_pos (by simp [h2]), if_neg (fun k => h2 k.2)]; rfl
  rw [if_neg (by simp [h2]), if_pos (show VN p ∧ VN q from ⟨h1, h2⟩)]
  by_cases h3 : q = []
  · rw [if_pos (show ((q.length : Int) == 0) = true by simp [h3]), if_pos h3]; rfl
  have v1 := vlt h1 hp
  have v2 := vlt h2 hq
  have w0 := val_nonneg hp
  have w1 := ne_pos h2 hq h3
  have g0 := gcdI_pos (n := val p) w1
  have gl := (gcd_le_both w0 w1).1
  have lp : p.length < 100000 := by have := h1.1; omega
  have lq : q.length < 100000 := by have := h2.1; omega
  rw [if_neg (show ¬ ((q.length : Int) == 0) = true by simp [h3]), if_neg h3, ref10_gcd_eq hp hq lp lq]
  have hne : nat32 (gcdI (val p) (val q)) ≠ [] := fun h => by have := (nat32_nil (by omega)).1 h; omega
  have vg := (vn_iff (Int.le_of_lt g0)).2 (by omega : gcdI (val p) (val q) < bp 64)
  unfold gcdS
  rw [if_pos (show VN p ∧ VN q from ⟨h1, h2⟩), bind2_pure, ref10_divmod_eq hp (nat32_u32 (by omega)) lp (nlen (by omega) (by omega)), ref10_divmod_eq hq (nat32_u32 (by omega)) lq (nlen (by omega) (by omega))]
  unfold divS
  rw [if_pos (show VN p ∧ VN (nat32 (gcdI (val p) (val q))) from ⟨h1, vg⟩), if_neg hne, bind3_pure, if_pos (show VN q ∧ VN (nat32 (gcdI (val p) (val q))) from ⟨h2, vg⟩), if_neg hne, bind3_pure, nat32_val (by omega)]
  rfl
theorem ref_make_eq {p q : List Int} (hp : U32 p) (hq : U32 q) (lp : p.length < 100000) (lq : q.length < 100000) : rl_ref11_Make p q = some (makeS p q) := ref_make_any hp hq
theorem ref_of_eq {n d : Int} (hn : n < 9223372036854775808) (hd : d < 9223372036854775808) : rl_ref11_Of n d = some (ofS n d) := by
  unfold rl_ref11_Of ofS rl_ref11_Of_k1
  by_cases h1 : n < 0
  · rw [if_pos (show decide (n < 0) = true by simpa using h1), if_pos rfl, if_pos (show n < 0 ∨ d < 0 from .inl h1)]; rfl
  rw [if_neg (show ¬ decide (n < 0) = true by simpa using h1)]
  by_cases h2 : d < 0
  · rw [if_pos (show decide (d < 0) = true by simpa using h2), if_pos (show n < 0 ∨ d < 0 from .inr h2)]; rfl
  have a0 : 0 ≤ n := by omega
  have b0 : 0 ≤ d := by omega
  have va := (vn_iff a0).2 (small_lt hn)
  have vb := (vn_iff b0).2 (small_lt hd)
  rw [if_neg (show ¬ decide (d < 0) = true by simpa using h2), if_neg (show ¬ (n < 0 ∨ d < 0) by omega), rl_ref10_fromInt_eq hn, rl_ref10_fromInt_eq hd, if_neg h1, if_neg h2, bind2_pure, bind2_pure, ref_make_eq (nat32_u32 a0) (nat32_u32 b0) (nlen a0 (small_lt hn)) (nlen b0 (small_lt hd))]
  unfold makeS
  rw [if_pos (show VN (nat32 n) ∧ VN (nat32 d) from ⟨va, vb⟩), nat32_val a0, nat32_val b0]
  by_cases h3 : d = 0
  · rw [if_pos ((nat32_nil b0).2 h3), if_pos h3]; rfl
  · rw [if_neg (fun k => h3 ((nat32_nil b0).1 k)), if_neg h3]; rfl
theorem rational_yes {dk : S_recordlinkmake_Deck} (hd : DeckOk dk) {k : Int} (m : Nat) (hm : k = m) (h1 : 1 ≤ m) (h2 : m ≤ 64) : ∃ n d d', rl_make_Deck_Rational dk k = some (fr n d, d') ∧ 0 ≤ n ∧ 0 < d ∧ n < bp m ∧ d < bp m ∧ DeckOk d' := by
  unfold rl_make_Deck_Rational
  obtain ⟨v, d1, e1, v0, v1, hd1⟩ := natural_yes hd m hm h2
  have one : (1 : Int) < bp m := by have := bp_le h1; have : bp 1 = 4294967296 := by decide
                                    omega
  have b1 : 4294967296 ≤ bp m := by have := bp_le h1; have : bp 1 = 4294967296 := by decide
                                    omega
  have main : ∀ (w : Int), 0 < w → w < bp m → ∃ n d d', rl_make_Deck_Rational_k1 k d1 (nat32 w) = some (fr n d, d') ∧ 0 ≤ n ∧ 0 < d ∧ n < bp m ∧ d < bp m ∧ DeckOk d' := fun w w0 w1 => by
    unfold rl_make_Deck_Rational_k1
    obtain ⟨b, d2, e2, hd2⟩ := one_yes hd1 (n := 3) (by decide) (by decide)
    rw [e2, bind2_pure]
    by_cases hb : b = true
    · obtain ⟨x, d3, e3, x0, x1, hd3⟩ := next_yes hd2 (n := 20) (by decide) (by decide)
      obtain ⟨y, d4, e4, y0, y1, hd4⟩ := next_yes hd3 (n := 20) (by decide) (by decide)
      rw [if_pos hb, e3, bind2_pure, e4, bind2_pure, wi64 (by omega) (by omega), ref_of_eq (by omega) (by omega)]
      unfold ofS
      rw [if_neg (show ¬ (x < 0 ∨ 1 + y < 0) by omega), if_neg (by omega), bind2_pure]
      exact ⟨x, 1 + y, d4, rfl, x0, by omega, by omega, by omega, hd4⟩
    · obtain ⟨x, d3, e3, x0, x1, hd3⟩ := natural_yes hd2 m hm h2
      have lx := bp_lt x1 h2
      have lw := bp_lt w1 h2
      rw [if_neg hb, e3, bind2_pure, ref_make_eq (nat32_u32 x0) (nat32_u32 (by omega)) (nlen x0 lx) (nlen (by omega) lw)]
      unfold makeS
      rw [if_pos (show VN (nat32 x) ∧ VN (nat32 w) from ⟨(vn_iff x0).2 lx, (vn_iff (by omega)).2 lw⟩), if_neg (fun h => by have := (nat32_nil (by omega)).1 h; omega), bind2_pure, nat32_val x0, nat32_val (by omega)]
      exact ⟨x, w, d3, rfl, x0, w0, x1, w1, hd3⟩
  rw [e1, bind2_pure, len_zero v0]
  by_cases c : v = 0
  · rw [if_pos (decide_eq_true c), ← one32]
    exact main 1 (by decide) one
  · rw [if_neg (by simpa using c)]
    exact main v (by omega) v1
/-! The same, of any numbers that make a fraction. -/
theorem poly_add (g a b k c f : Int) : (a * f + c * b) * ((g * b) * (k * f)) = ((g * a) * (k * f) + (k * c) * (g * b)) * (b * f) := by grind
theorem poly_sub (p x y z : Int) : (x - y) * (p * z) = (p * x - p * y) * z := by grind
theorem le_mul {a b n d : Int} (h1 : a ≤ n) (h2 : b ≤ d) (h3 : 0 ≤ b) (h4 : 0 ≤ n) : a * b ≤ n * d := Int.mul_le_mul h1 h2 h3 h4
section
variable {n d m e : Int}
theorem fadd (hn : 0 ≤ n) (hd : 0 < d) (hm : 0 ≤ m) (he : 0 < e) (ln : n < bp 64) (ld : d < bp 64) (lm : m < bp 64) (le : e < bp 64) (h1 : n * e + m * d < bp 64) (h2 : d * e < bp 64) : rational_Add (fr n d) (fr m e) = some (fr (n * e + m * d) (d * e), 0) := by
  obtain ⟨x1, x2⟩ := fr_ok hn hd ln ld
  obtain ⟨y1, y2⟩ := fr_ok hm he lm le
  obtain ⟨g, a, b, g0, a0, b0, e1, e2, e3, e4, e5, e6⟩ := fr_parts hn hd
  obtain ⟨k, c, f, k0, c0, f0, i1, i2, i3, i4, i5, i6⟩ := fr_parts hm he
  rw [radd_eq x1 y1]
  unfold raddS
  rw [if_pos (show FV (fr n d) ∧ FV (fr m e) from ⟨x2, y2⟩)]
  have v : val (fr n d).Num = a ∧ val (fr n d).Den = b ∧ val (fr m e).Num = c ∧ val (fr m e).Den = f := by rw [e3, i3]; exact ⟨nat32_val a0, nat32_val (by omega), nat32_val c0, nat32_val (by omega)⟩
  rw [v.1, v.2.1, v.2.2.1, v.2.2.2]
  have j1 := le_mul e5 i6 (Int.le_of_lt f0) hn
  have j2 := le_mul i5 e6 (Int.le_of_lt b0) hm
  have j3 := le_mul e6 i6 (Int.le_of_lt f0) (Int.le_of_lt hd)
  unfold lim3
  rw [if_pos ⟨by omega, by omega⟩]
  have := Int.mul_nonneg a0 (Int.le_of_lt f0)
  have := Int.mul_nonneg c0 (Int.le_of_lt b0)
  have := Int.mul_nonneg hn (Int.le_of_lt he)
  have := Int.mul_nonneg hm (Int.le_of_lt hd)
  rw [fr_eq (m := n * e + m * d) (e := d * e) (by omega) (Int.mul_pos b0 f0) (by omega) (Int.mul_pos hd he) (by rw [e1, e2, i1, i2]; exact poly_add g a b k c f)]
theorem fmul (hn : 0 ≤ n) (hd : 0 < d) (hm : 0 ≤ m) (he : 0 < e) (ln : n < bp 64) (ld : d < bp 64) (lm : m < bp 64) (le : e < bp 64) (h1 : n * m < bp 64) (h2 : d * e < bp 64) : rational_Mul (fr n d) (fr m e) = some (fr (n * m) (d * e), 0) := by
  obtain ⟨x1, x2⟩ := fr_ok hn hd ln ld
  obtain ⟨y1, y2⟩ := fr_ok hm he lm le
  obtain ⟨g, a, b, g0, a0, b0, e1, e2, e3, e4, e5, e6⟩ := fr_parts hn hd
  obtain ⟨k, c, f, k0, c0, f0, i1, i2, i3, i4, i5, i6⟩ := fr_parts hm he
  rw [rmul_eq x1 y1]
  unfold rmulS
  rw [if_pos (show FV (fr n d) ∧ FV (fr m e) from ⟨x2, y2⟩)]
  have v : val (fr n d).Num = a ∧ val (fr n d).Den = b ∧ val (fr m e).Num = c ∧ val (fr m e).Den = f := by rw [e3, i3]; exact ⟨nat32_val a0, nat32_val (by omega), nat32_val c0, nat32_val (by omega)⟩
  rw [v.1, v.2.1, v.2.2.1, v.2.2.2]
  have j1 := le_mul e5 i5 c0 hn
  have j3 := le_mul e6 i6 (Int.le_of_lt f0) (Int.le_of_lt hd)
  unfold lim3
  rw [if_pos ⟨by omega, by omega⟩, fr_eq (Int.mul_nonneg a0 c0) (Int.mul_pos b0 f0) (Int.mul_nonneg hn hm) (Int.mul_pos hd he) (by subst e1; subst e2; subst i1; subst i2; grind)]
theorem fdiv (hn : 0 ≤ n) (hd : 0 < d) (hm : 0 < m) (he : 0 < e) (ln : n < bp 64) (ld : d < bp 64) (lm : m < bp 64) (le : e < bp 64) (h1 : n * e < bp 64) (h2 : d * m < bp 64) : rational_Div (fr n d) (fr m e) = some (fr (n * e) (d * m), 0) := by
  obtain ⟨x1, x2⟩ := fr_ok hn hd ln ld
  obtain ⟨y1, y2⟩ := fr_ok (Int.le_of_lt hm) he lm le
  obtain ⟨g, a, b, g0, a0, b0, e1, e2, e3, e4, e5, e6⟩ := fr_parts hn hd
  obtain ⟨k, c, f, k0, c0, f0, i1, i2, i3, i4, i5, i6⟩ := fr_parts (Int.le_of_lt hm) he
  rw [rdiv_eq x1 y1]
  unfold rdivS
  have c1 : 0 < c := by
    rcases Int.lt_or_eq_of_le c0 with h | h
    · exact h
    · rw [← h, Int.mul_zero] at i1; omega
  have v : val (fr n d).Num = a ∧ val (fr n d).Den = b ∧ val (fr m e).Num = c ∧ val (fr m e).Den = f := by rw [e3, i3]; exact ⟨nat32_val a0, nat32_val (by omega), nat32_val c0, nat32_val (by omega)⟩
  have hz : ¬ (fr m e).Num = [] := fun h => by rw [h] at v; have := v.2.2.1; simp only [val] at this; omega
  rw [if_pos (show FV (fr n d) ∧ FV (fr m e) from ⟨x2, y2⟩), if_neg hz, v.1, v.2.1, v.2.2.1, v.2.2.2]
  have j1 := le_mul e5 i6 (Int.le_of_lt f0) hn
  have j3 := le_mul e6 i5 c0 (Int.le_of_lt hd)
  unfold lim3
  rw [if_pos ⟨by omega, by omega⟩, fr_eq (Int.mul_nonneg a0 (Int.le_of_lt f0)) (Int.mul_pos b0 c1) (Int.mul_nonneg hn (Int.le_of_lt he)) (Int.mul_pos hd hm) (by subst e1; subst e2; subst i1; subst i2; grind)]
theorem fdiv0 (hn : 0 ≤ n) (hd : 0 < d) (he : 0 < e) (ln : n < bp 64) (ld : d < bp 64) (le : e < bp 64) : rational_Div (fr n d) (fr 0 e) = some (zr, 9) := by
  obtain ⟨x1, x2⟩ := fr_ok hn hd ln ld
  obtain ⟨y1, y2⟩ := fr_ok (Int.le_refl 0) he (bp_pos 64) le
  rw [rdiv_eq x1 y1]
  unfold rdivS
  have hz : (fr 0 e).Num = [] := by unfold fr; rw [Int.zero_ediv]; rfl
  rw [if_pos (show FV (fr n d) ∧ FV (fr 0 e) from ⟨x2, y2⟩), if_pos hz]
theorem ordI_scale {p a b : Int} (hp : 0 < p) : ordI (p * a) (p * b) = ordI a b := by
  unfold ordI
  by_cases h : a < b
  · rw [if_pos h, if_pos (Int.mul_lt_mul_of_pos_left h hp)]
  · by_cases k : a > b
    · rw [if_neg h, if_pos k, if_neg (by have := Int.mul_lt_mul_of_pos_left k hp; omega), if_pos (Int.mul_lt_mul_of_pos_left k hp)]
    · have : a = b := by omega
      subst this
      rw [if_neg (Int.lt_irrefl _), if_neg (Int.lt_irrefl _), if_neg h, if_neg k]
theorem fcmp (hn : 0 ≤ n) (hd : 0 < d) (hm : 0 ≤ m) (he : 0 < e) (ln : n < bp 64) (ld : d < bp 64) (lm : m < bp 64) (le : e < bp 64) (h1 : n * e < bp 64) (h2 : m * d < bp 64) : rational_Compare (fr n d) (fr m e) = some (ordI (n * e) (m * d), 0) := by
  obtain ⟨x1, x2⟩ := fr_ok hn hd ln ld
  obtain ⟨y1, y2⟩ := fr_ok hm he lm le
  obtain ⟨g, a, b, g0, a0, b0, e1, e2, e3, e4, e5, e6⟩ := fr_parts hn hd
  obtain ⟨k, c, f, k0, c0, f0, i1, i2, i3, i4, i5, i6⟩ := fr_parts hm he
  rw [rcmp_eq x1 y1]
  unfold rcmpS
  rw [if_pos (show FV (fr n d) ∧ FV (fr m e) from ⟨x2, y2⟩)]
  have v : val (fr n d).Num = a ∧ val (fr n d).Den = b ∧ val (fr m e).Num = c ∧ val (fr m e).Den = f := by rw [e3, i3]; exact ⟨nat32_val a0, nat32_val (by omega), nat32_val c0, nat32_val (by omega)⟩
  rw [v.1, v.2.1, v.2.2.1, v.2.2.2]
  have j1 := le_mul e5 i6 (Int.le_of_lt f0) hn
  have j2 := le_mul i5 e6 (Int.le_of_lt b0) hm
  rw [if_pos ⟨by omega, by omega⟩, ← ordI_scale (p := g * k) (a := a * f) (b := c * b) (Int.mul_pos g0 k0)]
  rw [show g * k * (a * f) = n * e by subst e1; subst i2; grind, show g * k * (c * b) = m * d by subst i1; subst e2; grind]
theorem fsub (hn : 0 ≤ n) (hd : 0 < d) (hm : 0 ≤ m) (he : 0 < e) (ln : n < bp 64) (ld : d < bp 64) (lm : m < bp 64) (le : e < bp 64) (h1 : n * e < bp 64) (h2 : d * e < bp 64) : rational_Sub (fr n d) (fr m e) = some (if m * d > n * e then (zr, 2) else (fr (n * e - m * d) (d * e), 0)) := by
  obtain ⟨x1, x2⟩ := fr_ok hn hd ln ld
  obtain ⟨y1, y2⟩ := fr_ok hm he lm le
  obtain ⟨g, a, b, g0, a0, b0, e1, e2, e3, e4, e5, e6⟩ := fr_parts hn hd
  obtain ⟨k, c, f, k0, c0, f0, i1, i2, i3, i4, i5, i6⟩ := fr_parts hm he
  rw [rsub_eq x1 y1]
  unfold rsubS
  rw [if_pos (show FV (fr n d) ∧ FV (fr m e) from ⟨x2, y2⟩)]
  have v : val (fr n d).Num = a ∧ val (fr n d).Den = b ∧ val (fr m e).Num = c ∧ val (fr m e).Den = f := by rw [e3, i3]; exact ⟨nat32_val a0, nat32_val (by omega), nat32_val c0, nat32_val (by omega)⟩
  rw [v.1, v.2.1, v.2.2.1, v.2.2.2]
  have j1 := le_mul e5 i6 (Int.le_of_lt f0) hn
  have j3 := le_mul e6 i6 (Int.le_of_lt f0) (Int.le_of_lt hd)
  have w1 : n * e = g * k * (a * f) := by subst e1; subst i2; grind
  have w2 : m * d = g * k * (c * b) := by subst i1; subst e2; grind
  have w3 : d * e = g * k * (b * f) := by subst e2; subst i2; grind
  have gk := Int.mul_pos g0 k0
  by_cases h : c * b > a * f
  · rw [if_pos h, if_pos (by rw [w1, w2]; exact Int.mul_lt_mul_of_pos_left h gk)]
  · have h' : g * k * (c * b) ≤ g * k * (a * f) := Int.mul_le_mul_of_nonneg_left (by omega) (Int.le_of_lt gk)
    rw [if_neg h, if_pos ⟨by omega, by omega⟩, if_neg (by rw [w1, w2]; omega)]
    rw [fr_eq (m := n * e - m * d) (e := d * e) (by omega) (Int.mul_pos b0 f0) (by rw [w1, w2]; omega) (Int.mul_pos hd he) (by rw [w1, w2, w3]; exact poly_sub (g * k) (a * f) (c * b) (b * f))]
theorem frnd (hn : 0 ≤ n) (hd : 0 < d) (ln : n < bp 64) (ld : d < bp 64) {u : Int} (u0 : 1 ≤ u) (u1 : u ≤ 4294967296) (h1 : n * (2 * u) + d < bp 64) (h2 : 2 * d < bp 64) (h3 : (n * (2 * u) + d) / (2 * d) < 9223372036854775808) : rational_Round (fr n d) u = some ((n * (2 * u) + d) / (2 * d), 0) := by
  obtain ⟨x1, x2⟩ := fr_ok hn hd ln ld
  obtain ⟨g, a, b, g0, a0, b0, e1, e2, e3, e4, e5, e6⟩ := fr_parts hn hd
  rw [rrnd_eq x1]
  unfold rrndS
  have v : val (fr n d).Num = a ∧ val (fr n d).Den = b := by rw [e3]; exact ⟨nat32_val a0, nat32_val (by omega)⟩
  have q : (a * (2 * u) + b) / (2 * b) = (n * (2 * u) + d) / (2 * d) := by
    rw [show n * (2 * u) + d = g * (a * (2 * u) + b) by subst e1; subst e2; grind, show 2 * d = g * (2 * b) by subst e2; grind, Int.mul_ediv_mul_of_pos _ _ g0]
  have j1 := le_mul e5 (Int.le_refl (2 * u)) (by omega) hn
  rw [if_pos x2, if_neg (show ¬ (u < 1 ∨ u > 4294967296) by omega), v.1, v.2, if_pos ⟨by omega, by omega⟩, q, if_pos h3]
end
end Go.Proofs.Ytnfikddgjkfflaa
