/- Plain: what the reference's functions of fractions return. -/
import Derived.Test.YtnfikddgjkfflaaRe
import Derived.Test.YtnfikddgjkfflaaQn
import Derived.Test.YtnfikddgjkfflaaQo
import Derived.Test.YtnfikddgjkfflaaQf
namespace Go.Proofs.Ytnfikddgjkfflaa
open Vm
set_option linter.unusedVariables false
theorem lim_small {v : Int} (h : v < bp 64) : limN v = (nat32 v, 0) := by unfold limN; rw [if_pos h]
theorem lim_large {v : Int} (h : ¬ v < bp 64) : limN v = ([], 1) := by unfold limN; rw [if_neg h]
theorem ref_mul {p q : List Int} (hp : U32 p) (hq : U32 q) (vp : VN p) (vq : VN q) : rl_ref10_Mul p q = some (limN (val p * val q)) := by
  rw [ref10_mul_eq hp hq (by have := vp.1; omega) (by have := vq.1; omega)]
  unfold mulS
  rw [if_pos ⟨vp, vq⟩]
theorem ref_add {a b : Int} (ha : 0 ≤ a) (hb : 0 ≤ b) (la : a < bp 64) (lb : b < bp 64) : rl_ref10_Add (nat32 a) (nat32 b) = some (limN (a + b)) := by
  rw [ref10_add_eq (nat32_u32 ha) (nat32_u32 hb) (nlen ha la) (nlen hb lb), addS_nat ha hb la lb]
theorem ref_make {n d : Int} (hn : 0 ≤ n) (hd : 0 < d) (ln : n < bp 64) (ld : d < bp 64) : rl_ref11_Make (nat32 n) (nat32 d) = some (fr n d, 0) := by
  rw [ref_make_eq (nat32_u32 hn) (nat32_u32 (Int.le_of_lt hd)) (nlen hn ln) (nlen (Int.le_of_lt hd) ld)]
  unfold makeS
  rw [if_pos (show VN (nat32 n) ∧ VN (nat32 d) from ⟨(vn_iff hn).2 ln, (vn_iff (Int.le_of_lt hd)).2 ld⟩), if_neg (fun h => by have := (nat32_nil (Int.le_of_lt hd)).1 h; omega), nat32_val hn, nat32_val (Int.le_of_lt hd)]
theorem b5_pure {α β γ δ ε ζ : Type} (a : α) (b : β) (c : γ) (d : δ) (e : ε) (f : α → β → γ → δ → ε → Option ζ) : bind5 (some (a, b, c, d, e)) f = f a b c d e := rfl
section
variable {x y : S_api_Rational}
theorem ref_cross (hx : FX x) (hy : FX y) (vx : FV x) (vy : FV y) : rl_ref11_cross x y = some ((limN (val x.Num * val y.Den)).1, (limN (val y.Num * val x.Den)).1, (limN (val x.Den * val y.Den)).1, if (limN (val x.Num * val y.Den)).2 = 0 then (limN (val y.Num * val x.Den)).2 else (limN (val x.Num * val y.Den)).2, (limN (val x.Den * val y.Den)).2) := by
  unfold rl_ref11_cross rl_ref11_cross_k1
  rw [ref_mul hx.1 hy.2.1 vx.1 vy.2.1, ref_mul hy.1 hx.2.1 vy.1 vx.2.1, ref_mul hx.2.1 hy.2.1 vx.2.1 vy.2.1]
  generalize limN (val x.Num * val y.Den) = p
  generalize limN (val y.Num * val x.Den) = q
  generalize limN (val x.Den * val y.Den) = r
  obtain ⟨p1, p2⟩ := p
  obtain ⟨q1, q2⟩ := q
  obtain ⟨r1, r2⟩ := r
  rw [bind2_pure, bind2_pure, bind2_pure]
  by_cases h : p2 = 0
  · rw [if_pos (show (p2 == 0) = true by simpa using h), if_pos h]
  · rw [if_neg (show ¬ (p2 == 0) = true by simpa using h), if_neg h]
theorem ref_radd (hx : FX x) (hy : FX y) : rl_ref11_Add x y = some (raddS x y) := by
  unfold rl_ref11_Add raddS rl_ref11_Add_k1
  rw [ref_both_eq hx hy, bind1_pure]
  by_cases h : FV x ∧ FV y
  rotate_left
  · rw [if_pos (by simp [h]), if_neg h]; rfl
  have hv := h
  obtain ⟨vx, vy⟩ := h
  obtain ⟨a1, a2, a3, a4⟩ := vx.pos hx
  obtain ⟨b1, b2, b3, b4⟩ := vy.pos hy
  have p1 := Int.mul_nonneg a1 (Int.le_of_lt b2)
  have p2 := Int.mul_nonneg b1 (Int.le_of_lt a2)
  have p3 := Int.mul_pos a2 b2
  rw [if_neg (by simp [hv]), if_pos hv, ref_cross hx hy vx vy]
  generalize val x.Num * val y.Den = a at *
  generalize val y.Num * val x.Den = b at *
  generalize val x.Den * val y.Den = d at *
  unfold lim3
  by_cases ha : a < bp 64
  rotate_left
  · rw [lim_large ha, if_neg (show ¬ (1 : Int) = 0 by decide)]
    generalize limN b = q
    generalize limN d = r
    rw [b5_pure, if_pos (by decide), if_pos rfl, if_neg (show ¬ (a + b < bp 64 ∧ d < bp 64) by omega)]; rfl
  rw [lim_small ha, if_pos rfl]
  by_cases hb : b < bp 64
  rotate_left
  · rw [lim_large hb]
    generalize limN d = r
    rw [b5_pure, if_pos (by decide), if_pos rfl, if_neg (show ¬ (a + b < bp 64 ∧ d < bp 64) by omega)]; rfl
  rw [lim_small hb]
  by_cases hd : d < bp 64
  rotate_left
  · rw [lim_large hd, b5_pure, if_neg (show ¬ ((0 : Int) != 0) = true by decide), if_pos (by decide), if_neg (show ¬ (a + b < bp 64 ∧ d < bp 64) by omega)]; rfl
  rw [lim_small hd]
  rw [b5_pure, if_neg (show ¬ ((0 : Int) != 0) = true by decide), if_neg (show ¬ ((0 : Int) != 0) = true by decide), ref_add p1 p2 ha hb]
  by_cases hs : a + b < bp 64
  · rw [lim_small hs, bind2_pure, if_neg (by decide), ref_make (by omega) p3 hs hd, bind2_pure, if_pos (show a + b < bp 64 ∧ d < bp 64 from ⟨hs, hd⟩)]
  · rw [lim_large hs, bind2_pure, if_pos (by decide), if_neg (show ¬ (a + b < bp 64 ∧ d < bp 64) by omega)]; rfl
theorem ref_rmul (hx : FX x) (hy : FX y) : rl_ref11_Mul x y = some (rmulS x y) := by
  unfold rl_ref11_Mul rmulS rl_ref11_Mul_k1
  rw [ref_both_eq hx hy, bind1_pure]
  by_cases h : FV x ∧ FV y
  rotate_left
  · rw [if_pos (by simp [h]), if_neg h]; rfl
  have hv := h
  obtain ⟨vx, vy⟩ := h
  obtain ⟨a1, a2, a3, a4⟩ := vx.pos hx
  obtain ⟨b1, b2, b3, b4⟩ := vy.pos hy
  have p1 := Int.mul_nonneg a1 b1
  have p3 := Int.mul_pos a2 b2
  rw [if_neg (by simp [hv]), if_pos hv, ref_mul hx.1 hy.1 vx.1 vy.1, ref_mul hx.2.1 hy.2.1 vx.2.1 vy.2.1]
  generalize val x.Num * val y.Num = a at *
  generalize val x.Den * val y.Den = d at *
  unfold lim3
  by_cases ha : a < bp 64
  rotate_left
  · rw [lim_large ha, bind2_pure]
    obtain ⟨l, e⟩ := limN d
    rw [bind2_pure, if_pos (by decide), if_pos rfl, if_neg (show ¬ (a < bp 64 ∧ d < bp 64) by omega)]; rfl
  rw [lim_small ha, bind2_pure]
  by_cases hd : d < bp 64
  · rw [lim_small hd, bind2_pure, if_neg (by decide), if_neg (by decide), ref_make p1 p3 ha hd, bind2_pure, if_pos (show a < bp 64 ∧ d < bp 64 from ⟨ha, hd⟩)]
  · rw [lim_large hd, bind2_pure, if_neg (by decide), if_pos (by decide), if_neg (show ¬ (a < bp 64 ∧ d < bp 64) by omega)]; rfl
theorem ref_rdiv (hx : FX x) (hy : FX y) : rl_ref11_Div x y = some (rdivS x y) := by
  unfold rl_ref11_Div rdivS rl_ref11_Div_k1
  rw [ref_both_eq hx hy, bind1_pure]
  by_cases h : FV x ∧ FV y
  rotate_left
  · rw [if_pos (by simp [h]), if_neg h]; rfl
  have hv := h
  obtain ⟨vx, vy⟩ := h
  obtain ⟨a1, a2, a3, a4⟩ := vx.pos hx
  obtain ⟨b1, b2, b3, b4⟩ := vy.pos hy
  rw [if_neg (by simp [hv]), if_pos hv]
  by_cases h0 : y.Num = []
  · rw [if_pos (show ((y.Num.length : Int) == 0) = true by simp [h0]), if_pos h0]; rfl
  have p1 := Int.mul_nonneg a1 (Int.le_of_lt b2)
  have p3 := Int.mul_pos a2 (ne_pos vy.1 hy.1 h0)
  rw [if_neg (show ¬ ((y.Num.length : Int) == 0) = true by simp [h0]), if_neg h0, ref_mul hx.1 hy.2.1 vx.1 vy.2.1, ref_mul hx.2.1 hy.1 vx.2.1 vy.1]
  generalize val x.Num * val y.Den = a at *
  generalize val x.Den * val y.Num = d at *
  unfold lim3
  by_cases ha : a < bp 64
  rotate_left
  · rw [lim_large ha, bind2_pure]
    obtain ⟨l, e⟩ := limN d
    rw [bind2_pure, if_pos (by decide), if_pos rfl, if_neg (show ¬ (a < bp 64 ∧ d < bp 64) by omega)]; rfl
  rw [lim_small ha, bind2_pure]
  by_cases hd : d < bp 64
  · rw [lim_small hd, bind2_pure, if_neg (by decide), if_neg (by decide), ref_make p1 p3 ha hd, bind2_pure, if_pos (show a < bp 64 ∧ d < bp 64 from ⟨ha, hd⟩)]
  · rw [lim_large hd, bind2_pure, if_neg (by decide), if_pos (by decide), if_neg (show ¬ (a < bp 64 ∧ d < bp 64) by omega)]; rfl
theorem ref_rcmp (hx : FX x) (hy : FX y) : rl_ref11_Compare x y = some (rcmpS x y) := by
  unfold rl_ref11_Compare rcmpS
  rw [ref_both_eq hx hy, bind1_pure]
  by_cases h : FV x ∧ FV y
  rotate_left
  · rw [if_pos (by simp [h]), if_neg h]
  have hv := h
  obtain ⟨vx, vy⟩ := h
  obtain ⟨a1, a2, a3, a4⟩ := vx.pos hx
  obtain ⟨b1, b2, b3, b4⟩ := vy.pos hy
  have p1 := Int.mul_nonneg a1 (Int.le_of_lt b2)
  have p2 := Int.mul_nonneg b1 (Int.le_of_lt a2)
  rw [if_neg (by simp [hv]), if_pos hv, ref_cross hx hy vx vy]
  generalize val x.Num * val y.Den = a at *
  generalize val y.Num * val x.Den = b at *
  generalize val x.Den * val y.Den = d at *
  by_cases ha : a < bp 64
  rotate_left
  · rw [lim_large ha, if_neg (show ¬ (1 : Int) = 0 by decide)]
    generalize limN b = q
    generalize limN d = r
    rw [b5_pure, if_pos (by decide), if_neg (fun k => ha k.1)]
  rw [lim_small ha, if_pos rfl]
  by_cases hb : b < bp 64
  rotate_left
  · rw [lim_large hb]
    generalize limN d = r
    rw [b5_pure, if_pos (by decide), if_neg (fun k => hb k.2)]
  rw [lim_small hb]
  generalize limN d = r
  rw [b5_pure, if_neg (show ¬ ((0 : Int) != 0) = true by decide), ref10_compare_eq (nat32_u32 p1) (nat32_u32 p2) (by have := nlen p1 ha; omega) (by have := nlen p2 hb; omega), bind1_pure, if_pos (show a < bp 64 ∧ b < bp 64 from ⟨ha, hb⟩), nat32_val p1, nat32_val p2]
theorem larger_step (f : S_api_Rational × S_api_Rational → Option Bool) {a b c d : Int} (ha : 0 ≤ a) (hb : 0 < b) (hc : 0 ≤ c) (hd : 0 < d) (la : a < bp 64) (lb : b < bp 64) (lc : c < bp 64) (ld : d < bp 64) : rl_ref11_larger_b f ⟨nat32 a, nat32 b⟩ ⟨nat32 c, nat32 d⟩ = if a / b ≠ c / d then some (decide (a / b > c / d)) else if a % b = 0 then some false else if c % d = 0 then some true else f (⟨nat32 d, nat32 (c % d)⟩, ⟨nat32 b, nat32 (a % b)⟩) := by
  unfold rl_ref11_larger_b
  have q0 : 0 ≤ a / b := Int.ediv_nonneg ha (by omega)
  have q1 : a / b ≤ a := Int.ediv_le_self _ ha
  have p0 : 0 ≤ c / d := Int.ediv_nonneg hc (by omega)
  have p1 : c / d ≤ c := Int.ediv_le_self _ hc
  have r0 := Int.emod_nonneg a (show b ≠ 0 by omega)
  have s0 := Int.emod_nonneg c (show d ≠ 0 by omega)
  have dm : ∀ {v w : Int}, 0 ≤ v → 0 < w → v < bp 64 → w < bp 64 → rl_ref10_DivMod (nat32 v) (nat32 w) = some (nat32 (v / w), nat32 (v % w), 0) := fun {v w} v0 w0 v1 w1 => by
    rw [ref10_divmod_eq (nat32_u32 v0) (nat32_u32 (by omega)) (nlen v0 v1) (nlen (by omega) w1)]
    unfold divS
    rw [if_pos (show VN (nat32 v) ∧ VN (nat32 w) from ⟨(vn_iff v0).2 v1, (vn_iff (by omega)).2 w1⟩), if_neg (fun h => by have := (nat32_nil (by omega)).1 h; omega), nat32_val v0, nat32_val (by omega)]
  simp only
  rw [dm ha hb la lb, bind3_pure, dm hc hd lc ld, bind3_pure, ref10_compare_eq (nat32_u32 q0) (nat32_u32 p0) (by have := nlen q0 (by omega); omega) (by have := nlen p0 (by omega); omega), bind1_pure, nat32_val q0, nat32_val p0, len_zero r0, len_zero s0]
  by_cases h : a / b = c / d
  · rw [if_neg (show ¬ (ordI (a / b) (c / d) != 0) = true by rw [ordI_zero.2 h]; decide), if_neg (show ¬ (a / b ≠ c / d) from fun k => k h)]
    by_cases k : a % b = 0
    · rw [if_pos (show decide (a % b = 0) = true from decide_eq_true k), if_pos k]
    · rw [if_neg (show ¬ decide (a % b = 0) = true by simpa using k), if_neg k]
      by_cases m : c % d = 0
      · rw [if_pos (show decide (c % d = 0) = true from decide_eq_true m), if_pos m]
      · rw [if_neg (show ¬ decide (c % d = 0) = true by simpa using m), if_neg m]
        cases f (⟨nat32 d, nat32 (c % d)⟩, ⟨nat32 b, nat32 (a % b)⟩) <;> rfl
  · rw [if_pos (show (ordI (a / b) (c / d) != 0) = true by have := fun k => h (ordI_zero.1 k); simpa using this), if_pos (show a / b ≠ c / d from h)]
    congr 1
    unfold ordI
    by_cases k : a / b < c / d
    · rw [if_pos k]; simp; omega
    · rw [if_neg k, if_pos (by omega)]; simp; omega
theorem larger_rec : ∀ (n : Nat) {a b c d : Int}, 0 ≤ a → 0 < b → 0 ≤ c → 0 < d → a < bp 64 → b < bp 64 → c < bp 64 → d < bp 64 →
    (∀ r, recN (fun s v => rl_ref11_larger_b s v.1 v.2) n ((⟨nat32 a, nat32 b⟩ : S_api_Rational), (⟨nat32 c, nat32 d⟩ : S_api_Rational)) = some r → r = decide (a * d > c * b)) ∧
    ((b + d).toNat ≤ n → recN (fun s v => rl_ref11_larger_b s v.1 v.2) n ((⟨nat32 a, nat32 b⟩ : S_api_Rational), (⟨nat32 c, nat32 d⟩ : S_api_Rational)) = some (decide (a * d > c * b))) := by
  intro n
  induction n with
  | zero => intro a b c d ha hb hc hd la lb lc ld; exact ⟨fun r h => by simp [recN] at h, fun h => by omega⟩
  | succ n ih =>
    intro a b c d ha hb hc hd la lb lc ld
    have st := larger_step (recN (fun s v => rl_ref11_larger_b s v.1 v.2) n) ha hb hc hd la lb lc ld
    have e : recN (fun s v => rl_ref11_larger_b s v.1 v.2) (n + 1) ((⟨nat32 a, nat32 b⟩ : S_api_Rational), (⟨nat32 c, nat32 d⟩ : S_api_Rational)) = rl_ref11_larger_b (recN (fun s v => rl_ref11_larger_b s v.1 v.2) n) ⟨nat32 a, nat32 b⟩ ⟨nat32 c, nat32 d⟩ := rfl
    rw [e, st]
    by_cases h : a / b = c / d
    rotate_left
    · rw [if_pos h]
      have : decide (a / b > c / d) = decide (a * d > c * b) := by
        by_cases k : a / b < c / d
        · have := whole_lt hb hd k
          rw [decide_eq_false (by omega), decide_eq_false (by omega)]
        · have := whole_lt hd hb (show c / d < a / b by omega)
          rw [decide_eq_true (by omega), decide_eq_true (by omega)]
      rw [this]
      exact ⟨fun r h => (some_inj h).symm, fun _ => rfl⟩
    rw [if_neg (show ¬ (a / b ≠ c / d) from fun k => k h)]
    have we := whole_eq h
    have r0 := Int.emod_nonneg a (show b ≠ 0 by omega)
    have s0 := Int.emod_nonneg c (show d ≠ 0 by omega)
    have r1 := Int.emod_lt_of_pos a hb
    have s1 := Int.emod_lt_of_pos c hd
    by_cases m : a % b = 0
    · rw [if_pos m]
      rw [m, Int.zero_mul] at we
      have := Int.mul_nonneg s0 (Int.le_of_lt hb)
      rw [decide_eq_false (by omega)]
      exact ⟨fun r h => (some_inj h).symm, fun _ => rfl⟩
    rw [if_neg m]
    by_cases k : c % d = 0
    · rw [if_pos k]
      rw [k, Int.zero_mul] at we
      have := Int.mul_pos (show 0 < a % b by omega) hd
      rw [decide_eq_true (by omega)]
      exact ⟨fun r h => (some_inj h).symm, fun _ => rfl⟩
    rw [if_neg k]
    have := ih (a := d) (b := c % d) (c := b) (d := a % b) (by omega) (by omega) (by omega) (by omega) ld (by omega) lb (by omega)
    have e1 : d * (a % b) = (a % b) * d := Int.mul_comm _ _
    have e2 : b * (c % d) = (c % d) * b := Int.mul_comm _ _
    have eq : decide (d * (a % b) > b * (c % d)) = decide (a * d > c * b) := by
      by_cases m : a * d > c * b
      · rw [decide_eq_true m, decide_eq_true (by omega)]
      · rw [decide_eq_false m, decide_eq_false (by omega)]
    rw [← eq]
    exact ⟨this.1, fun h => this.2 (by omega)⟩
theorem larger_eq (hx : FX x) (hy : FX y) (vx : FV x) (vy : FV y) : rl_ref11_larger x y = some (decide (val x.Num * val y.Den > val y.Num * val x.Den)) := by
  obtain ⟨a1, a2, a3, a4⟩ := vx.pos hx
  obtain ⟨b1, b2, b3, b4⟩ := vy.pos hy
  have h := fun n => larger_rec n a1 a2 b1 b2 a3 a4 b3 b4
  rw [nat32_of (vx.1.canon hx.1), nat32_of (vx.2.1.canon hx.2.1), nat32_of (vy.1.canon hy.1), nat32_of (vy.2.1.canon hy.2.1)] at h
  exact recF_is (fun n r e => (h n).1 r e) ⟨_, (h _).2 (Nat.le_refl _)⟩
theorem ref_rsub (hx : FX x) (hy : FX y) : rl_ref11_Sub x y = some (rsubS x y) := by
  unfold rl_ref11_Sub rsubS rl_ref11_Sub_k1
  rw [ref_both_eq hx hy, bind1_pure]
  by_cases h : FV x ∧ FV y
  rotate_left
  · rw [if_pos (by simp [h]), if_neg h]; rfl
  have hv := h
  obtain ⟨vx, vy⟩ := h
  obtain ⟨a1, a2, a3, a4⟩ := vx.pos hx
  obtain ⟨b1, b2, b3, b4⟩ := vy.pos hy
  have p1 := Int.mul_nonneg a1 (Int.le_of_lt b2)
  have p2 := Int.mul_nonneg b1 (Int.le_of_lt a2)
  have p3 := Int.mul_pos a2 b2
  rw [if_neg (by simp [hv]), if_pos hv, larger_eq hy hx vy vx, bind1_pure, ref_cross hx hy vx vy]
  generalize val x.Num * val y.Den = a at *
  generalize val y.Num * val x.Den = b at *
  generalize val x.Den * val y.Den = d at *
  by_cases g : b > a
  · rw [if_pos (decide_eq_true g), if_pos g]; rfl
  rw [if_neg (by simpa using g), if_neg g]
  by_cases ha : a < bp 64
  rotate_left
  · rw [lim_large ha, if_neg (show ¬ (1 : Int) = 0 by decide)]
    generalize limN b = q
    generalize limN d = r
    rw [b5_pure, if_pos (by decide), if_pos rfl, if_neg (show ¬ (a < bp 64 ∧ d < bp 64) by omega)]; rfl
  have hb : b < bp 64 := by omega
  rw [lim_small ha, if_pos rfl, lim_small hb]
  by_cases hd : d < bp 64
  rotate_left
  · rw [lim_large hd, b5_pure, if_neg (show ¬ ((0 : Int) != 0) = true by decide), if_pos (by decide), if_neg (show ¬ (a < bp 64 ∧ d < bp 64) by omega)]; rfl
  rw [lim_small hd]
  rw [b5_pure, if_neg (show ¬ ((0 : Int) != 0) = true by decide), if_neg (show ¬ ((0 : Int) != 0) = true by decide), ref10_sub_eq (nat32_u32 p1) (nat32_u32 p2) (nlen p1 ha) (nlen p2 hb)]
  unfold subS
  rw [if_pos (show VN (nat32 a) ∧ VN (nat32 b) from ⟨(vn_iff p1).2 ha, (vn_iff p2).2 hb⟩), nat32_val p1, nat32_val p2, if_neg (show ¬ a < b by omega), bind2_pure, ref_make (by omega) p3 (by omega) hd, bind2_pure, if_pos (show a < bp 64 ∧ d < bp 64 from ⟨ha, hd⟩)]
theorem ref_rrnd (hx : FX x) (u : Int) : rl_ref11_Round x u = some (rrndS x u) := by
  unfold rl_ref11_Round rrndS
  rw [ref_valid_eq hx, bind1_pure]
  by_cases vx : FV x
  rotate_left
  · rw [if_pos (by simp [vx]), if_neg vx]
  obtain ⟨a1, a2, a3, a4⟩ := vx.pos hx
  rw [if_neg (by simp [vx]), if_pos vx]
  unfold rl_ref11_Round_k1
  by_cases h1 : u < 1
  · rw [if_pos (show decide (u < 1) = true by simpa using h1), if_pos rfl, if_pos (show u < 1 ∨ u > 4294967296 from .inl h1)]
  rw [if_neg (show ¬ decide (u < 1) = true by simpa using h1)]
  by_cases h2 : u > 4294967296
  · rw [if_pos (show decide (u > 4294967296) = true by simpa using h2), if_pos (show u < 1 ∨ u > 4294967296 from .inr h2)]
  have u1 := small_lt (v := 2 * u) (by omega)
  have p1 : 0 ≤ val x.Num * (2 * u) := Int.mul_nonneg a1 (by omega)
  rw [if_neg (show ¬ decide (u > 4294967296) = true by simpa using h2), if_neg (show ¬ (u < 1 ∨ u > 4294967296) by omega), wi64 (by omega) (by omega), rl_ref10_fromInt_eq (by omega), if_neg (by omega), bind2_pure, ref_mul hx.1 (nat32_u32 (by omega)) vx.1 ((vn_iff (by omega)).2 u1), nat32_val (by omega)]
  have ed : x.Den = nat32 (val x.Den) := (nat32_of (vx.2.1.canon hx.2.1)).symm
  rw [ed, nat32_val (by omega)]
  have p2 : 0 < val x.Den := a2
  generalize val x.Den = b at *
  generalize val x.Num * (2 * u) = a at *
  have e2 : b + b = 2 * b := by omega
  by_cases ha : a < bp 64
  rotate_left
  · rw [lim_large ha, bind2_pure, if_pos (by decide), if_neg (show ¬ (a + b < bp 64 ∧ 2 * b < bp 64) by omega)]
  rw [lim_small ha, bind2_pure, if_neg (by decide), ref_add p1 (by omega) ha a4]
  by_cases hs : a + b < bp 64
  rotate_left
  · rw [lim_large hs, bind2_pure, if_pos (by decide), if_neg (show ¬ (a + b < bp 64 ∧ 2 * b < bp 64) by omega)]
  rw [lim_small hs, bind2_pure, if_neg (by decide), ref_add (by omega) (by omega) a4 a4, e2]
  by_cases hb : 2 * b < bp 64
  rotate_left
  · rw [lim_large hb, bind2_pure, if_pos (by decide), if_neg (show ¬ (a + b < bp 64 ∧ 2 * b < bp 64) by omega)]
  have q0 : 0 ≤ (a + b) / (2 * b) := Int.ediv_nonneg (by omega) (by omega)
  have q1 : (a + b) / (2 * b) ≤ a + b := Int.ediv_le_self _ (by omega)
  rw [lim_small hb, bind2_pure, if_neg (by decide), ref10_divmod_eq (nat32_u32 (by omega)) (nat32_u32 (by omega)) (nlen (by omega) hs) (nlen (by omega) hb), if_pos (show a + b < bp 64 ∧ 2 * b < bp 64 from ⟨hs, hb⟩)]
  unfold divS
  rw [if_pos (show VN (nat32 (a + b)) ∧ VN (nat32 (2 * b)) from ⟨(vn_iff (by omega)).2 hs, (vn_iff (by omega)).2 hb⟩), if_neg (fun h => by have := (nat32_nil (by omega)).1 h; omega), bind3_pure, nat32_val (by omega), nat32_val (by omega), ref10_int_eq (nat32_u32 q0) (nlen q0 (by omega))]
  unfold intS
  have vq := (vn_iff q0).2 (by omega)
  by_cases c : (a + b) / (2 * b) < 9223372036854775808
  · rw [if_pos (show VN (nat32 ((a + b) / (2 * b))) ∧ val (nat32 ((a + b) / (2 * b))) < 9223372036854775808 from ⟨vq, by rw [nat32_val q0]; exact c⟩), bind2_pure, if_neg (by simp), if_pos c, nat32_val q0]
  · rw [if_neg (show ¬ (VN (nat32 ((a + b) / (2 * b))) ∧ val (nat32 ((a + b) / (2 * b))) < 9223372036854775808) from fun k => by rw [nat32_val q0] at k; exact c k.2), bind2_pure, if_pos (by simp), if_neg c]
end
end Go.Proofs.Ytnfikddgjkfflaa
