/- Plain: fractions compared by the reference, of any numbers that make a fraction. -/
import Derived.Test.YtilpgjoidgfbiaaRe
import Derived.Test.YtilpgjoidgfbiaaQn
import Derived.Test.YtilpgjoidgfbiaaQo
import Derived.Test.YtilpgjoidgfbiaaQf
namespace Go.Proofs.Ytilpgjoidgfbiaa
open Vm
set_option linter.unusedVariables false
theorem lim_small {v : Int} (h : v < bp 64) : limN v = (nat32 v, 0) := by unfold limN; rw [if_pos h]
theorem lim_large {v : Int} (h : ¬ v < bp 64) : limN v = ([], 1) := by unfold limN; rw [if_neg h]
theorem ref_mul {p q : List Int} (hp : U32 p) (hq : U32 q) (vp : VN p) (vq : VN q) : rl_ref10_Mul p q = some (limN (val p * val q)) := by
  rw [ref10_mul_eq hp hq (by have := vp.1; omega) (by have := vq.1; omega)]
  unfold mulS
  rw [if_pos ⟨vp, vq⟩]
theorem b5_pure {α β γ δ ε ζ : Type} (a : α) (b : β) (c : γ) (d : δ) (e : ε) (f : α → β → γ → δ → ε → Option ζ) : bind5 (some (a, b, c, d, e)) f = f a b c d e := rfl
section
variable {x y : S_api_Rational}
theorem ref_cross (hx : FX x) (hy : FX y) (vx : FV x) (vy : FV y) : rl_ref11_cross x y = some ((limN (val x.Num * val y.Den)).1, (limN (val y.Num * val x.Den)).1, (limN (val x.Den * val y.Den)).1, if (limN (val x.Num * val y.Den)).2 = 0 then (limN (val y.Num * val x.Den)).2 else (limN (val x.Num * val y.Den)).2, (limN (val x.Den * val y.Den)).2) := by
  unfold rl_ref11_cross rl_ref11_cross_k1
  rw [ref_mul hx.1 hy.2.1 vx.1 vy.2.1, ref_mul hy.1 hx.2.1 vy.1 vx.2.1, ref_mul hx.2.1 hy.2.1 vx.2.1 vy.2.1]
  generalize limN (val x.Num * val y.Den) = p
  generalize limN (val y.Num * val x.Den) = q
  generalize limN (val x.Den * val y.Den) = r
  obtain ⟨p1, p2⟩ := p
  obtain ⟨q1, q2⟩ := q
  obtain ⟨r1, r2⟩ := r
  rw [bind2_pure, bind2_pure, bind2_pure]
  by_cases h : p2 = 0
  · rw [if_pos (show (p2 == 0) = true by simpa using h), if_pos h]
  · rw [if_neg (show ¬ (p2 == 0) = true by simpa using h), if_neg h]
def rcmpS (x y : S_api_Rational) : Int × Int := if FV x ∧ FV y then (if val x.Num * val y.Den < bp 64 ∧ val y.Num * val x.Den < bp 64 then (ordI (val x.Num * val y.Den) (val y.Num * val x.Den), 0) else (0, 1)) else (0, 20)
theorem ref_rcmp (hx : FX x) (hy : FX y) : rl_ref11_Compare x y = some (rcmpS x y) := by
  unfold rl_ref11_Compare rcmpS
  rw [ref_both_eq hx hy, bind1_pure]
  by_cases h : FV x ∧ FV y
  rotate_left
  · rw [if_pos (by simp [h]), if_neg h]
  have hv := h
  obtain ⟨vx, vy⟩ := h
  obtain ⟨a1, a2, a3, a4⟩ := vx.pos hx
  obtain ⟨b1, b2, b3, b4⟩ := vy.pos hy
  have p1 := Int.mul_nonneg a1 (Int.le_of_lt b2)
  have p2 := Int.mul_nonneg b1 (Int.le_of_lt a2)
  rw [if_neg (by simp [hv]), if_pos hv, ref_cross hx hy vx vy]
  generalize val x.Num * val y.Den = a at *
  generalize val y.Num * val x.Den = b at *
  generalize val x.Den * val y.Den = d at *
  by_cases ha : a < bp 64
  rotate_left
  · rw [lim_large ha, if_neg (show ¬ (1 : Int) = 0 by decide)]
    generalize limN b = q
    generalize limN d = r
    rw [b5_pure, if_pos (by decide), if_neg (fun k => ha k.1)]
  rw [lim_small ha, if_pos rfl]
  by_cases hb : b < bp 64
  rotate_left
  · rw [lim_large hb]
    generalize limN d = r
    rw [b5_pure, if_pos (by decide), if_neg (fun k => hb k.2)]
  rw [lim_small hb]
  generalize limN d = r
  rw [b5_pure, if_neg (show ¬ ((0 : Int) != 0) = true by decide), ref10_compare_eq (nat32_u32 p1) (nat32_u32 p2) (by have := nlen p1 ha; omega) (by have := nlen p2 hb; omega), bind1_pure, if_pos (show a < bp 64 ∧ b < bp 64 from ⟨ha, hb⟩), nat32_val p1, nat32_val p2]
end
section
variable {n d m e : Int}
theorem ordI_scale {p a b : Int} (hp : 0 < p) : ordI (p * a) (p * b) = ordI a b := by
  unfold ordI
  by_cases h : a < b
  · rw [if_pos h, if_pos (Int.mul_lt_mul_of_pos_left h hp)]
  · by_cases k : a > b
    · rw [if_neg h, if_pos k, if_neg (by have := Int.mul_lt_mul_of_pos_left k hp; omega), if_pos (Int.mul_lt_mul_of_pos_left k hp)]
    · have : a = b := by omega
      subst this
      rw [if_neg (Int.lt_irrefl _), if_neg (Int.lt_irrefl _), if_neg h, if_neg k]
theorem fcmpR (hn : 0 ≤ n) (hd : 0 < d) (hm : 0 ≤ m) (he : 0 < e) (ln : n < bp 64) (ld : d < bp 64) (lm : m < bp 64) (le : e < bp 64) (h1 : n * e < bp 64) (h2 : m * d < bp 64) : rl_ref11_Compare (fr n d) (fr m e) = some (ordI (n * e) (m * d), 0) := by
  obtain ⟨x1, x2⟩ := fr_ok hn hd ln ld
  obtain ⟨y1, y2⟩ := fr_ok hm he lm le
  obtain ⟨g, a, b, g0, a0, b0, e1, e2, e3, e4, e5, e6⟩ := fr_parts hn hd
  obtain ⟨k, c, f, k0, c0, f0, i1, i2, i3, i4, i5, i6⟩ := fr_parts hm he
  rw [ref_rcmp x1 y1]
  unfold rcmpS
  rw [if_pos (show FV (fr n d) ∧ FV (fr m e) from ⟨x2, y2⟩)]
  have v : val (fr n d).Num = a ∧ val (fr n d).Den = b ∧ val (fr m e).Num = c ∧ val (fr m e).Den = f := by rw [e3, i3]; exact ⟨nat32_val a0, nat32_val (by omega), nat32_val c0, nat32_val (by omega)⟩
  rw [v.1, v.2.1, v.2.2.1, v.2.2.2]
  have j1 := le_mul e5 i6 (Int.le_of_lt f0) hn
  have j2 := le_mul i5 e6 (Int.le_of_lt b0) hm
  rw [if_pos ⟨by omega, by omega⟩, ← ordI_scale (p := g * k) (a := a * f) (b := c * b) (Int.mul_pos g0 k0)]
  rw [show g * k * (a * f) = n * e by subst e1; subst i2; grind, show g * k * (c * b) = m * d by subst i1; subst e2; grind]
end
end Go.Proofs.Ytilpgjoidgfbiaa
