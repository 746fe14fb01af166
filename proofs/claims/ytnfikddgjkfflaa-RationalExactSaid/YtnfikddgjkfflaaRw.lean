/- Plain: the sanity check of the laws of fractions. -/
import Derived.Test.YtnfikddgjkfflaaRe
import Derived.Test.YtnfikddgjkfflaaGE0
namespace Go.Proofs.Ytnfikddgjkfflaa
open Vm
theorem awake11 : rl_law11_awake = some true := rl_law11_awake_le 200 _ (by kernel_rfl)
theorem frsame {n d : Int} {y : S_api_Rational} (hn : 0 ≤ n) (hd : 0 < d) (h1 : n < bp 64) (h2 : d < bp 64) : rl_ref11_Same (fr n d) y = some (decide (fr n d = y)) := rsame_eq (by have h := (fr_ok hn hd h1 h2).2; have := h.1.1; have := h.2.1.1; omega)
theorem frvalid {n d : Int} (hn : 0 ≤ n) (hd : 0 < d) (h1 : n < bp 64) (h2 : d < bp 64) : rational_Valid (fr n d) = some true := by
  rw [rat_valid_eq (fr_ok hn hd h1 h2).1, decide_eq_true (fr_ok hn hd h1 h2).2]
theorem b64 {v : Int} {m : Nat} (h : v < bp m) (hm : m ≤ 64) : v < bp 64 := bp_lt h hm
theorem fr_len {c e : Int} (c0 : 0 ≤ c) (e0 : 0 < e) : (((fr c e).Num.length : Int) == 0) = decide (c = 0) := by
  obtain ⟨g, x, y, g0, x0, y0, e1, e2, e3, _⟩ := fr_parts c0 e0
  rw [e3]
  show (((nat32 x).length : Int) == 0) = _
  rw [len_zero x0]
  have hx : (x = 0) ↔ (c = 0) := by
    rw [e1]
    constructor
    · intro h; rw [h, Int.mul_zero]
    · intro h; rcases Int.mul_eq_zero.1 h with h | h <;> omega
  by_cases h : c = 0
  · rw [decide_eq_true h, decide_eq_true (hx.2 h)]
  · rw [decide_eq_false h, decide_eq_false (fun k => h (hx.1 k))]
theorem fr_inj {n d m e : Int} (hn : 0 ≤ n) (hd : 0 < d) (hm : 0 ≤ m) (he : 0 < e) (h : fr n d = fr m e) : n * e = m * d := by
  obtain ⟨g, a, b, g0, a0, b0, e1, e2, e3, _⟩ := fr_parts hn hd
  obtain ⟨k, c, f, k0, c0, f0, i1, i2, i3, _⟩ := fr_parts hm he
  rw [e3, i3] at h
  injection h with h1 h2
  have h1 := (nat32_inj a0 c0).1 h1
  have h2 := (nat32_inj (by omega) (by omega)).1 h2
  rw [e1, e2, i1, i2, h1, h2]
  grind
theorem ordI_swap (a b : Int) : ordI a b = IntKind.i64.wrap (0 - ordI b a) := by
  unfold ordI
  by_cases h : a < b
  · rw [if_pos h, if_neg (show ¬ b < a by omega), if_pos (show b > a from h)]; decide
  · by_cases k : a > b
    · rw [if_neg h, if_pos k, if_pos (show b < a from k)]; decide
    · rw [if_neg h, if_neg k, if_neg (show ¬ b < a by omega), if_neg (show ¬ b > a by omega)]; decide
end Go.Proofs.Ytnfikddgjkfflaa
