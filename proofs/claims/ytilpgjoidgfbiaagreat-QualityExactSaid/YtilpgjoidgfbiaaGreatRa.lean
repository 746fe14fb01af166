/- Plain: fractions of whole numbers, reduced; which are valid. -/
import Derived.Test.YtilpgjoidgfbiaaGreatQg
import Derived.Test.YtilpgjoidgfbiaaGreatQl
import Derived.Test.YtilpgjoidgfbiaaGreatQo
namespace Go.Proofs.YtilpgjoidgfbiaaGreat
open Vm
set_option linter.unusedVariables false
theorem nat_fr {a b c e : Nat} (hb : 0 < b) (he : 0 < e) (h : a * e = c * b) : a / Nat.gcd a b = c / Nat.gcd c e ∧ b / Nat.gcd a b = e / Nat.gcd c e := by
  have g0 : 0 < Nat.gcd a b := Nat.gcd_pos_of_pos_right _ hb
  have k0 : 0 < Nat.gcd c e := Nat.gcd_pos_of_pos_right _ he
  have c1 := Nat.coprime_div_gcd_div_gcd g0
  have c2 := Nat.coprime_div_gcd_div_gcd k0
  have ea := Nat.div_mul_cancel (Nat.gcd_dvd_left a b)
  have eb := Nat.div_mul_cancel (Nat.gcd_dvd_right a b)
  have ec := Nat.div_mul_cancel (Nat.gcd_dvd_left c e)
  have ee := Nat.div_mul_cancel (Nat.gcd_dvd_right c e)
  generalize hg : Nat.gcd a b = g at *
  generalize hk : Nat.gcd c e = k at *
  generalize a / g = a1 at *
  generalize b / g = b1 at *
  generalize c / k = c1' at *
  generalize e / k = e1 at *
  subst ea; subst eb; subst ec; subst ee
  have h2 : a1 * e1 = c1' * b1 := by
    have : (g * k) * (a1 * e1) = (g * k) * (c1' * b1) := by grind
    exact Nat.eq_of_mul_eq_mul_left (Nat.mul_pos g0 k0) this
  have d1 : a1 ∣ c1' := c1.dvd_of_dvd_mul_right (h2 ▸ Nat.dvd_mul_right a1 e1)
  have d2 : c1' ∣ a1 := c2.dvd_of_dvd_mul_right (h2 ▸ Nat.dvd_mul_right c1' b1)
  have d3 : b1 ∣ e1 := c1.symm.dvd_of_dvd_mul_left (h2 ▸ Nat.dvd_mul_left b1 c1')
  have d4 : e1 ∣ b1 := c2.symm.dvd_of_dvd_mul_left (h2 ▸ Nat.dvd_mul_left e1 a1)
  exact ⟨Nat.dvd_antisymm d1 d2, Nat.dvd_antisymm d3 d4⟩
instance : DecidableEq S_api_Rational := fun a b => decidable_of_iff (a.Num = b.Num ∧ a.Den = b.Den) ⟨fun h => by cases a; cases b; cases h.1; cases h.2; rfl, fun h => h ▸ ⟨rfl, rfl⟩⟩
/-- The fraction of two numbers, reduced. -/
def fr (n d : Int) : S_api_Rational := ⟨nat32 (n / gcdI n d), nat32 (d / gcdI n d)⟩
theorem gcdI_pos {n d : Int} (h1 : 0 < d) : 0 < gcdI n d := by
  unfold gcdI
  have : 0 < Nat.gcd n.toNat d.toNat := Nat.gcd_pos_of_pos_right _ (by omega)
  omega
theorem fr_eq {n d m e : Int} (hn : 0 ≤ n) (hd : 0 < d) (hm : 0 ≤ m) (he : 0 < e) (h : n * e = m * d) : fr n d = fr m e := by
  obtain ⟨a, rfl⟩ := Int.eq_ofNat_of_zero_le hn
  obtain ⟨b, rfl⟩ := Int.eq_ofNat_of_zero_le (Int.le_of_lt hd)
  obtain ⟨c, rfl⟩ := Int.eq_ofNat_of_zero_le hm
  obtain ⟨f, rfl⟩ := Int.eq_ofNat_of_zero_le (Int.le_of_lt he)
  have h' : a * f = c * b := by exact_mod_cast h
  obtain ⟨h1, h2⟩ := nat_fr (by omega) (by omega) h'
  unfold fr gcdI
  simp only [Int.toNat_natCast]
  rw [← Int.natCast_ediv, ← Int.natCast_ediv, ← Int.natCast_ediv, ← Int.natCast_ediv, h1, h2]
/-- The parts of a reduced fraction. -/
theorem fr_parts {n d : Int} (hn : 0 ≤ n) (hd : 0 < d) : ∃ g a b, 0 < g ∧ 0 ≤ a ∧ 0 < b ∧ n = g * a ∧ d = g * b ∧ fr n d = ⟨nat32 a, nat32 b⟩ ∧ gcdI a b = 1 ∧ a ≤ n ∧ b ≤ d := by
  obtain ⟨x, rfl⟩ := Int.eq_ofNat_of_zero_le hn
  obtain ⟨y, rfl⟩ := Int.eq_ofNat_of_zero_le (Int.le_of_lt hd)
  have hy : 0 < y := by omega
  have g0 : 0 < Nat.gcd x y := Nat.gcd_pos_of_pos_right _ hy
  have e1 := Nat.mul_div_cancel' (Nat.gcd_dvd_left x y)
  have e2 := Nat.mul_div_cancel' (Nat.gcd_dvd_right x y)
  have hb : 0 < y / Nat.gcd x y := Nat.div_pos (Nat.gcd_le_right _ hy) g0
  have c1 := Nat.coprime_div_gcd_div_gcd g0
  refine ⟨(Nat.gcd x y : Nat), (x / Nat.gcd x y : Nat), (y / Nat.gcd x y : Nat), Int.natCast_pos.2 g0, Int.natCast_nonneg _, Int.natCast_pos.2 hb, by rw [← Int.natCast_mul, e1], by rw [← Int.natCast_mul, e2], ?_, ?_, ?_, ?_⟩
  · unfold fr gcdI
    simp only [Int.toNat_natCast, Int.natCast_ediv]
  · unfold gcdI
    simp only [Int.toNat_natCast]
    have : Nat.gcd (x / Nat.gcd x y) (y / Nat.gcd x y) = 1 := c1
    rw [this]; rfl
  · exact_mod_cast Nat.div_le_self x (Nat.gcd x y)
  · exact_mod_cast Nat.div_le_self y (Nat.gcd x y)
/-- A fraction with digits that are digits. -/
def FX (x : S_api_Rational) : Prop := U32 x.Num ∧ U32 x.Den ∧ True ∧ True
/-- Of any length. -/
theorem natural_valid_any (l : List Int) : natural_Valid l = some (decide (VN l)) := by
  by_cases h : l.length < 1000000
  · exact natural_valid_eq h
  · unfold natural_Valid
    rw [if_neg (by simp; omega), decide_eq_false (fun k : VN l => by have := k.1; omega)]
    rfl
theorem rl_ref10_valid_any (l : List Int) : rl_ref10_Valid l = some (decide (VN l)) := by
  by_cases h : l.length < 1000000
  · exact rl_ref10_valid_eq h
  · unfold rl_ref10_Valid
    rw [if_neg (by simp; omega), decide_eq_false (fun k : VN l => by have := k.1; omega)]
    rfl
theorem gcd_any {a b : List Int} (ha : U32 a) (hb : U32 b) : natural_GCD a b = some (gcdS a b) := by
  by_cases h : VN a ∧ VN b
  · exact natural_gcd_eq ha hb (by have := h.1.1; omega) (by have := h.2.1; omega)
  · unfold natural_GCD gcdS natural_both natural_both_k1
    rw [natural_valid_any, natural_valid_any, bind1_pure, bind1_pure, if_neg h]
    by_cases k : VN a <;> by_cases m : VN b <;> simp_all
def FV (x : S_api_Rational) : Prop := VN x.Num ∧ VN x.Den ∧ x.Den ≠ [] ∧ gcdI (val x.Num) (val x.Den) = 1
instance (x : S_api_Rational) : Decidable (FV x) := by unfold FV; infer_instance
theorem FV.pos {x : S_api_Rational} (h : FV x) (hx : FX x) : 0 ≤ val x.Num ∧ 0 < val x.Den ∧ val x.Num < bp 64 ∧ val x.Den < bp 64 := by
  have c := h.2.1.canon hx.2.1
  exact ⟨val_nonneg hx.1, Vm.Canon.pos c h.2.2.1, ((h.1.canon hx.1).len_le).1 h.1.1, (c.len_le).1 h.2.1.1⟩
theorem FV.fr {x : S_api_Rational} (h : FV x) (hx : FX x) : x = Go.Proofs.YtilpgjoidgfbiaaGreat.fr (val x.Num) (val x.Den) := by
  unfold Go.Proofs.YtilpgjoidgfbiaaGreat.fr
  rw [h.2.2.2, Int.ediv_one, Int.ediv_one, nat32_of (h.1.canon hx.1), nat32_of (h.2.1.canon hx.2.1)]
theorem fr_ok {n d : Int} (hn : 0 ≤ n) (hd : 0 < d) (h1 : n < bp 64) (h2 : d < bp 64) : FX (fr n d) ∧ FV (fr n d) := by
  obtain ⟨g, a, b, g0, a0, b0, e1, e2, e3, e4, e5, e6⟩ := fr_parts hn hd
  rw [e3]
  have la := nlen a0 (by omega)
  have lb := nlen (Int.le_of_lt b0) (by omega)
  refine ⟨⟨nat32_u32 a0, nat32_u32 (by omega), trivial, trivial⟩, (vn_iff a0).2 (by omega), (vn_iff (by omega)).2 (by omega), fun h => ?_, ?_⟩
  · have := (nat32_nil (by omega)).1 h; omega
  · show gcdI (val (nat32 a)) (val (nat32 b)) = 1
    rw [nat32_val a0, nat32_val (by omega), e4]
theorem one32 : nat32 1 = [1] := by decide
theorem rat_valid_eq {x : S_api_Rational} (hx : FX x) : rational_Valid x = some (decide (FV x)) := by
  obtain ⟨u1, u2, l1, l2⟩ := hx
  unfold rational_Valid
  rw [gcd_any u1 u2, natural_fromInt_eq (by decide), if_neg (by decide)]
  unfold gcdS
  by_cases h : VN x.Num ∧ VN x.Den
  · rw [if_pos h, bind2_pure, bind2_pure, if_pos (by simp)]
    by_cases hd : x.Den = []
    · rw [if_neg (by simp [hd])]
      unfold rational_Valid_k1
      rw [decide_eq_false (fun k : FV x => k.2.2.1 hd)]
    · have hl : 0 < x.Den.length := by cases hq : x.Den with | nil => exact absurd hq hd | cons => simp
      have g0 := gcdI_nonneg (val x.Num) (val x.Den)
      have hle := gcdI_le (val_nonneg u1) (val_nonneg u2)
      have b1 := ((h.1.canon u1).len_le).1 h.1.1
      have b2 := ((h.2.canon u2).len_le).1 h.2.1
      rw [if_pos (by simp; omega), natural_compare_eq (nat32_u32 g0) (nat32_u32 (by decide)) (by have := nlen g0 (by omega); omega) (by decide), bind1_pure, nat32_val g0, nat32_val (by decide)]
      unfold rational_Valid_k1
      congr 1
      by_cases c : gcdI (val x.Num) (val x.Den) = 1
      · rw [decide_eq_true (show FV x from ⟨h.1, h.2, hd, c⟩), c]; rfl
      · rw [decide_eq_false (fun k : FV x => c k.2.2.2)]
        have hh : ¬ ordI (gcdI (val x.Num) (val x.Den)) 1 = 0 := fun k => c (ordI_zero.1 k)
        simp
        exact hh
  · rw [if_neg h, bind2_pure, bind2_pure, if_neg (by simp)]
    unfold rational_Valid_k1
    rw [decide_eq_false (fun k : FV x => h ⟨k.1, k.2.1⟩)]
theorem ref_valid_eq {x : S_api_Rational} (hx : FX x) : rl_ref11_Valid x = some (decide (FV x)) := by
  obtain ⟨u1, u2, l1, l2⟩ := hx
  unfold rl_ref11_Valid
  rw [rl_ref10_valid_any, rl_ref10_valid_any, bind1_pure, bind1_pure]
  unfold rl_ref11_Valid_k1
  by_cases h1 : VN x.Num
  rotate_left
  · rw [if_pos (by simp [h1]), if_pos rfl, decide_eq_false (fun k : FV x => h1 k.1)]
  rw [if_neg (by simp [h1])]
  by_cases h2 : VN x.Den
  rotate_left
  · rw [if_pos (by simp [h2]), if_pos rfl, decide_eq_false (fun k : FV x => h2 k.2.1)]
  rw [if_neg (by simp [h2])]
  by_cases hd : x.Den = []
  · rw [if_pos (by simp [hd]), decide_eq_false (fun k : FV x => k.2.2.1 hd)]
  have g0 := gcdI_nonneg (val x.Num) (val x.Den)
  have hle := gcdI_le (val_nonneg u1) (val_nonneg u2)
  have b1 := ((h1.canon u1).len_le).1 h1.1
  have b2 := ((h2.canon u2).len_le).1 h2.1
  rw [if_neg (by simp [hd]), ref10_gcd_eq u1 u2 (by have := h1.1; omega) (by have := h2.1; omega)]
  unfold gcdS
  rw [if_pos ⟨h1, h2⟩, bind2_pure, same_eq (by have := nlen g0 (by omega); omega), bind1_pure, ← one32]
  congr 1
  by_cases c : gcdI (val x.Num) (val x.Den) = 1
  · rw [decide_eq_true (show FV x from ⟨h1, h2, hd, c⟩), c]; simp
  · rw [decide_eq_false (fun k : FV x => c k.2.2.2), decide_eq_false (fun k => c ((nat32_inj g0 (by decide)).1 k))]
theorem rsame_eq {x y : S_api_Rational} (hx : x.Num.length < 1000000 ∧ x.Den.length < 1000000) : rl_ref11_Same x y = some (decide (x = y)) := by
  unfold rl_ref11_Same rl_ref11_Same_k1
  obtain ⟨l1, l2⟩ := hx
  rw [same_eq l1, same_eq l2, bind1_pure, bind1_pure]
  obtain ⟨a, b⟩ := x
  obtain ⟨c, e⟩ := y
  by_cases h : a = c <;> by_cases k : b = e <;> simp [h, k]
end Go.Proofs.YtilpgjoidgfbiaaGreat
