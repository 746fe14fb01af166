/- Plain: what the reference's functions of fractions return. -/
import Derived.Test.YtilpgjoidgfbiaaGreatRe
import Derived.Test.YtilpgjoidgfbiaaGreatQn
import Derived.Test.YtilpgjoidgfbiaaGreatQo
import Derived.Test.YtilpgjoidgfbiaaGreatQf
namespace Go.Proofs.YtilpgjoidgfbiaaGreat
open Vm
set_option linter.unusedVariables false
theorem lim_small {v : Int} (h : v < bp 64) : limN v = (nat32 v, 0) := by unfold limN; rw [if_pos h]
theorem lim_large {v : Int} (h : ¬ v < bp 64) : limN v = ([], 1) := by unfold limN; rw [if_neg h]
theorem ref_mul {p q : List Int} (hp : U32 p) (hq : U32 q) (vp : VN p) (vq : VN q) : rl_ref10_Mul p q = some (limN (val p * val q)) := by
  rw [ref10_mul_eq hp hq (by have := vp.1; omega) (by have := vq.1; omega)]
  unfold mulS
  rw [if_pos ⟨vp, vq⟩]
theorem ref_add {a b : Int} (ha : 0 ≤ a) (hb : 0 ≤ b) (la : a < bp 64) (lb : b < bp 64) : rl_ref10_Add (nat32 a) (nat32 b) = some (limN (a + b)) := by
  rw [ref10_add_eq (nat32_u32 ha) (nat32_u32 hb) (nlen ha la) (nlen hb lb), addS_nat ha hb la lb]
theorem ref_make {n d : Int} (hn : 0 ≤ n) (hd : 0 < d) (ln : n < bp 64) (ld : d < bp 64) : rl_ref11_Make (nat32 n) (nat32 d) = some (fr n d, 0) := by
  rw [ref_make_eq (nat32_u32 hn) (nat32_u32 (Int.le_of_lt hd)) (nlen hn ln) (nlen (Int.le_of_lt hd) ld)]
  unfold makeS
  rw [if_pos (show VN (nat32 n) ∧ VN (nat32 d) from ⟨(vn_iff hn).2 ln, (vn_iff (Int.le_of_lt hd)).2 ld⟩), if_neg (fun h => by have := (nat32_nil (Int.le_of_lt hd)).1 h; omega), nat32_val hn, nat32_val (Int.le_of_lt hd)]
theorem b5_pure {α β γ δ ε ζ : Type} (a : α) (b : β) (c : γ) (d : δ) (e : ε) (f : α → β → γ → δ → ε → Option ζ) : bind5 (some (a, b, c, d, e)) f = f a b c d e := rfl
section
variable {x y : S_api_Rational}
theorem ref_rrnd (hx : FX x) (u : Int) : rl_ref11_Round x u = some (rrndS x u) := by
  unfold rl_ref11_Round rrndS
  rw [ref_valid_eq hx, bind1_pure]
  by_cases vx : FV x
  rotate_left
  · rw [if_pos (by simp [vx]), if_neg vx]
  obtain ⟨a1, a2, a3, a4⟩ := vx.pos hx
  rw [if_neg (by simp [vx]), if_pos vx]
  unfold rl_ref11_Round_k1
  by_cases h1 : u < 1
  · rw [if_pos (show decide (u < 1) = true by simpa using h1), if_pos rfl, if_pos (show u < 1 ∨ u > 4294967296 from .inl h1)]
  rw [if_neg (show ¬ decide (u < 1) = true by simpa using h1)]
  by_cases h2 : u > 4294967296
  · rw [if_pos (show decide (u > 4294967296) = true by simpa using h2), if_pos (show u < 1 ∨ u > 4294967296 from .inr h2)]
  have u1 := small_lt (v := 2 * u) (by omega)
  have p1 : 0 ≤ val x.Num * (2 * u) := Int.mul_nonneg a1 (by omega)
  rw [if_neg (show ¬ decide (u > 4294967296) = true by simpa using h2), if_neg (show ¬ (u < 1 ∨ u > 4294967296) by omega), wi64 (by omega) (by omega), rl_ref10_fromInt_eq (by omega), if_neg (by omega), bind2_pure, ref_mul hx.1 (nat32_u32 (by omega)) vx.1 ((vn_iff (by omega)).2 u1), nat32_val (by omega)]
  have ed : x.Den = nat32 (val x.Den) := (nat32_of (vx.2.1.canon hx.2.1)).symm
  rw [ed, nat32_val (by omega)]
  have p2 : 0 < val x.Den := a2
  generalize val x.Den = b at *
  generalize val x.Num * (2 * u) = a at *
  have e2 : b + b = 2 * b := by omega
  by_cases ha : a < bp 64
  rotate_left
  · rw [lim_large ha, bind2_pure, if_pos (by decide), if_neg (show ¬ (a + b < bp 64 ∧ 2 * b < bp 64) by omega)]
  rw [lim_small ha, bind2_pure, if_neg (by decide), ref_add p1 (by omega) ha a4]
  by_cases hs : a + b < bp 64
  rotate_left
  · rw [lim_large hs, bind2_pure, if_pos (by decide), if_neg (show ¬ (a + b < bp 64 ∧ 2 * b < bp 64) by omega)]
  rw [lim_small hs, bind2_pure, if_neg (by decide), ref_add (by omega) (by omega) a4 a4, e2]
  by_cases hb : 2 * b < bp 64
  rotate_left
  · rw [lim_large hb, bind2_pure, if_pos (by decide), if_neg (show ¬ (a + b < bp 64 ∧ 2 * b < bp 64) by omega)]
  have q0 : 0 ≤ (a + b) / (2 * b) := Int.ediv_nonneg (by omega) (by omega)
  have q1 : (a + b) / (2 * b) ≤ a + b := Int.ediv_le_self _ (by omega)
  rw [lim_small hb, bind2_pure, if_neg (by decide), ref10_divmod_eq (nat32_u32 (by omega)) (nat32_u32 (by omega)) (nlen (by omega) hs) (nlen (by omega) hb), if_pos (show a + b < bp 64 ∧ 2 * b < bp 64 from ⟨hs, hb⟩)]
  unfold divS
  rw [if_pos (show VN (nat32 (a + b)) ∧ VN (nat32 (2 * b)) from ⟨(vn_iff (by omega)).2 hs, (vn_iff (by omega)).2 hb⟩), if_neg (fun h => by have := (nat32_nil (by omega)).1 h; omega), bind3_pure, nat32_val (by omega), nat32_val (by omega), ref10_int_eq (nat32_u32 q0) (nlen q0 (by omega))]
  unfold intS
  have vq := (vn_iff q0).2 (by omega)
  by_cases c : (a + b) / (2 * b) < 9223372036854775808
  · rw [if_pos (show VN (nat32 ((a + b) / (2 * b))) ∧ val (nat32 ((a + b) / (2 * b))) < 9223372036854775808 from ⟨vq, by rw [nat32_val q0]; exact c⟩), bind2_pure, if_neg (by simp), if_pos c, nat32_val q0]
  · rw [if_neg (show ¬ (VN (nat32 ((a + b) / (2 * b))) ∧ val (nat32 ((a + b) / (2 * b))) < 9223372036854775808) from fun k => by rw [nat32_val q0] at k; exact c k.2), bind2_pure, if_pos (by simp), if_neg c]
end
end Go.Proofs.YtilpgjoidgfbiaaGreat
