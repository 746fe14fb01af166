/- Plain: what the functions of fractions return. -/
import Derived.Test.YtilpgjoidgfbiaaGreatRa
namespace Go.Proofs.YtilpgjoidgfbiaaGreat
open Vm
set_option linter.unusedVariables false
def NX (a : S_rational_number) : Prop := U32 a.n ∧ a.n.length < 100000
def wS (f : List Int → List Int → List Int × Int) (a b : S_rational_number) : S_rational_number := if a.e ≠ 0 then a else if b.e ≠ 0 then b else ⟨(f a.n b.n).1, (f a.n b.n).2⟩
section
variable {a b : S_rational_number}
theorem times_eq (ha : NX a) (hb : NX b) : rational_number_times a b = some (wS mulS a b) := by
  unfold rational_number_times rational_number_with_natural_Mul wS
  rw [natural_mul_eq ha.1 hb.1 ha.2 hb.2]
  by_cases h : a.e = 0 <;> by_cases k : b.e = 0 <;> simp [h, k, bind2]
theorem plus_eq (ha : NX a) (hb : NX b) : rational_number_plus a b = some (wS addS a b) := by
  unfold rational_number_plus rational_number_with_natural_Add wS
  rw [natural_add_eq ha.1 hb.1 ha.2 hb.2]
  by_cases h : a.e = 0 <;> by_cases k : b.e = 0 <;> simp [h, k, bind2]
theorem gcdw_eq (ha : NX a) (hb : NX b) : rational_number_with_natural_GCD a b = some (wS gcdS a b) := by
  unfold rational_number_with_natural_GCD wS
  rw [natural_gcd_eq ha.1 hb.1 ha.2 hb.2]
  by_cases h : a.e = 0 <;> by_cases k : b.e = 0 <;> simp [h, k, bind2]
def overS (x y : List Int) : List Int × Int := ((divS x y).1, (divS x y).2.2)
theorem over_eq (ha : NX a) (hb : NX b) : rational_number_with_rational_reduced_f1 a b = some (wS overS a b) := by
  unfold rational_number_with_rational_reduced_f1 rational_reduced_f1 wS overS
  rw [natural_divmod_eq ha.1 hb.1 ha.2 hb.2]
  by_cases h : a.e = 0 <;> by_cases k : b.e = 0 <;> simp [h, k, bind2, bind3]
theorem red_loop (x y : S_rational_number) : loop (fun v : Int => rational_reduced_l1 x y v) 0 = some (if x.e ≠ 0 then .inr x.e else if y.e ≠ 0 then .inr y.e else .inl ()) := by
  by_cases h : x.e = 0
  rotate_left
  · rw [if_pos h, loop_end (t := .inr x.e)]
    unfold rational_reduced_l1
    simp [h]
  rw [if_neg (by simpa using h), loop_next (s' := 1) (by unfold rational_reduced_l1; simp [h]; rfl)]
  by_cases k : y.e = 0
  rotate_left
  · rw [if_pos k, loop_end (t := .inr y.e)]
    unfold rational_reduced_l1
    simp [k]
  rw [if_neg (by simpa using k), loop_next (s' := 2) (by unfold rational_reduced_l1; simp [k]; rfl), loop_end (t := .inl ())]
  unfold rational_reduced_l1
  simp
end
def zr : S_api_Rational := ⟨[], []⟩
/-- A number of a computation: it, or that it has too many digits. -/
def nm (v : Int) : S_rational_number := ⟨(limN v).1, (limN v).2⟩
theorem nm_ok {v : Int} (h0 : 0 ≤ v) : NX (nm v) := by
  unfold nm limN NX
  split
  · rename_i h; exact ⟨nat32_u32 h0, nlen h0 h⟩
  · exact ⟨U32.nil, by decide⟩
theorem nm_small {v : Int} (h : v < bp 64) : nm v = ⟨nat32 v, 0⟩ := by unfold nm limN; rw [if_pos h]
theorem nm_large {v : Int} (h : ¬ v < bp 64) : nm v = ⟨[], 1⟩ := by unfold nm limN; rw [if_neg h]
theorem reduced_eq {n d : Int} (hn : 0 ≤ n) (hd : 0 < d) : rational_reduced (nm n) (nm d) = some (if n < bp 64 ∧ d < bp 64 then (fr n d, 0) else (zr, 1)) := by
  unfold rational_reduced
  have on := nm_ok hn
  have od := nm_ok (Int.le_of_lt hd)
  by_cases h : n < bp 64
  rotate_left
  · rw [if_neg (fun k => h k.1), gcdw_eq on od, bind1_pure]
    have e1 : wS gcdS (nm n) (nm d) = nm n := by rw [nm_large h]; unfold wS; rw [if_pos (by decide)]
    rw [e1, over_eq on on, bind1_pure, over_eq od on, bind1_pure, red_loop]
    have e2 : (wS overS (nm n) (nm n)).e = 1 := by rw [nm_large h]; unfold wS; rw [if_pos (by decide)]
    rw [e2]; rfl
  by_cases k : d < bp 64
  rotate_left
  · rw [if_neg (fun h => k h.2), gcdw_eq on od, bind1_pure]
    have e1 : wS gcdS (nm n) (nm d) = nm d := by rw [nm_large k, nm_small h]; unfold wS; rw [if_neg (by simp), if_pos (by decide)]
    rw [e1, over_eq on od, bind1_pure, over_eq od od, bind1_pure, red_loop]
    have e2 : (wS overS (nm n) (nm d)).e = 1 := by rw [nm_large k, nm_small h]; unfold wS; rw [if_neg (by simp), if_pos (by decide)]
    rw [e2]; rfl
  rw [if_pos ⟨h, k⟩, gcdw_eq on od, bind1_pure]
  have vn := (vn_iff hn).2 h
  have vd := (vn_iff (Int.le_of_lt hd)).2 k
  have g0 : 0 < gcdI n d := gcdI_pos hd
  have gle : gcdI n d ≤ d := by
    obtain ⟨y, rfl⟩ := Int.eq_ofNat_of_zero_le (Int.le_of_lt hd)
    unfold gcdI
    have : Nat.gcd n.toNat y ≤ y := Nat.gcd_le_right _ (by omega)
    simp only [Int.toNat_natCast]; omega
  have e1 : wS gcdS (nm n) (nm d) = nm (gcdI n d) := by
    rw [nm_small h, nm_small k, nm_small (by omega)]
    unfold wS gcdS
    simp only [ne_eq, not_true_eq_false, if_false]
    rw [if_pos ⟨vn, vd⟩, nat32_val hn, nat32_val (by omega)]
  have vg := (vn_iff (Int.le_of_lt g0)).2 (by omega : gcdI n d < bp 64)
  have hne : nat32 (gcdI n d) ≠ [] := fun h => by have := (nat32_nil (by omega)).1 h; omega
  rw [e1, over_eq on (nm_ok (by omega)), bind1_pure, over_eq od (nm_ok (by omega)), bind1_pure]
  have e2 : ∀ {v : Int}, 0 ≤ v → v < bp 64 → wS overS (nm v) (nm (gcdI n d)) = ⟨nat32 (v / gcdI n d), 0⟩ := fun {v} v0 v1 => by
    rw [nm_small v1, nm_small (by omega)]
    unfold wS overS divS
    simp only [ne_eq, not_true_eq_false, if_false]
    rw [if_pos ⟨(vn_iff v0).2 v1, vg⟩, if_neg hne, nat32_val v0, nat32_val (by omega)]
  rw [e2 hn h, e2 (by omega) k, red_loop]
  rfl
/-! The fraction of two lists of digits, of two numbers. -/
def makeS (p q : List Int) : S_api_Rational × Int := if VN p ∧ VN q then (if q = [] then (zr, 9) else (fr (val p) (val q), 0)) else (zr, 20)
theorem ne_pos {q : List Int} (h : VN q) (hu : U32 q) (hq : q ≠ []) : 0 < val q := Vm.Canon.pos (h.canon hu) hq
theorem vlt {q : List Int} (h : VN q) (hu : U32 q) : val q < bp 64 := ((h.canon hu).len_le).1 h.1
theorem nm_val {q : List Int} (h : VN q) (hu : U32 q) : (⟨q, 0⟩ : S_rational_number) = nm (val q) := by
  rw [nm_small (vlt h hu), nat32_of (h.canon hu)]
theorem make_any {p q : List Int} (hp : U32 p) (hq : U32 q) : rational_Make p q = some (makeS p q) := by
  unfold rational_Make makeS
  rw [natural_valid_any, natural_valid_any, bind1_pure, bind1_pure]
  unfold rational_Make_k1 rational_of
  by_cases h1 : VN p
  rotate_left
  · rw [if_pos (by simp [h1]), if_pos rfl, if_neg (fun k => h1 k.1)]; rfl
  rw [if_neg (by simp [h1])]
  by_cases h2 : VN q
  rotate_left
  · rw [if_pos (by simp [h2]), if_neg (fun k => h2 k.2)]; rfl
  rw [if_neg (by simp [h2]), if_pos (show VN p ∧ VN q from ⟨h1, h2⟩)]
  by_cases h3 : q = []
  · rw [if_pos (show ((q.length : Int) == 0) = true by simp [h3]), if_pos h3]; rfl
  rw [if_neg (show ¬ ((q.length : Int) == 0) = true by simp [h3]), if_neg h3, bind1_pure, bind1_pure, nm_val h1 hp, nm_val h2 hq, reduced_eq (val_nonneg hp) (ne_pos h2 hq h3), if_pos ⟨vlt h1 hp, vlt h2 hq⟩]
  rfl
theorem make_eq {p q : List Int} (hp : U32 p) (hq : U32 q) (lp : p.length < 100000) (lq : q.length < 100000) : rational_Make p q = some (makeS p q) := make_any hp hq
def ofS (n d : Int) : S_api_Rational × Int := if n < 0 ∨ d < 0 then (zr, 2) else if d = 0 then (zr, 9) else (fr n d, 0)
theorem small_lt {v : Int} (h : v < 9223372036854775808) : v < bp 64 := Int.lt_trans h (by decide)
theorem small_eq {v : Int} (h0 : 0 ≤ v) (h : v < 9223372036854775808) : rational_small v = some (nm v) := by
  unfold rational_small
  rw [natural_fromInt_eq h, if_neg (by omega), bind2_pure, nm_small (small_lt h)]
theorem of_eq {n d : Int} (hn : n < 9223372036854775808) (hd : d < 9223372036854775808) : rational_Of n d = some (ofS n d) := by
  unfold rational_Of ofS rational_Of_k1
  by_cases h1 : n < 0
  · rw [if_pos (show decide (n < 0) = true by simpa using h1), if_pos rfl, if_pos (show n < 0 ∨ d < 0 from .inl h1)]; rfl
  rw [if_neg (show ¬ decide (n < 0) = true by simpa using h1)]
  by_cases h2 : d < 0
  · rw [if_pos (show decide (d < 0) = true by simpa using h2), if_pos (show n < 0 ∨ d < 0 from .inr h2)]; rfl
  rw [if_neg (show ¬ decide (d < 0) = true by simpa using h2), if_neg (show ¬ (n < 0 ∨ d < 0) by omega)]
  by_cases h3 : d = 0
  · rw [if_pos (show (d == 0) = true by simpa using h3), if_pos h3]; rfl
  rw [if_neg (show ¬ (d == 0) = true by simpa using h3), if_neg h3, small_eq (by omega) hn, small_eq (by omega) hd, bind1_pure, bind1_pure, reduced_eq (by omega) (by omega), if_pos ⟨small_lt hn, small_lt hd⟩]
  rfl
theorem nm_times {p q : List Int} (v1 : VN p) (u1 : U32 p) (v2 : VN q) (u2 : U32 q) : rational_number_times ⟨p, 0⟩ ⟨q, 0⟩ = some (nm (val p * val q)) := by
  rw [times_eq ⟨u1, by have := v1.1; show p.length < 100000; omega⟩ ⟨u2, by have := v2.1; show q.length < 100000; omega⟩]
  unfold wS mulS
  simp only [ne_eq, not_true_eq_false, if_false]
  rw [if_pos ⟨v1, v2⟩]; rfl
end Go.Proofs.YtilpgjoidgfbiaaGreat
