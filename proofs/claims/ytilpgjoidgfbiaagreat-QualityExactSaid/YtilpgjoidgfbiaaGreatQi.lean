/- Natural numbers: a multiple taken away in place, a divisor added again, a number shifted back. -/
import Derived.Test.YtilpgjoidgfbiaaGreatQh
namespace Go.Proofs.YtilpgjoidgfbiaaGreat
set_option linter.unusedVariables false
set_option linter.unusedSimpArgs false
open Vm
theorem take_set_lo {l : List Int} {i o : Nat} (h : o ≤ i) (x : Int) : (l.set i x).take o = l.take o := List.take_set_of_le h
theorem less_eq {N d : List Int} {o len : Nat} {q : Int} (hN : U32 N) (hd : U32 d) (hol : o + len ≤ N.length) (hdl : d.length + 1 ≤ len) (hn : N.length < 1000000) (q0 : 0 ≤ q) (q1 : q < 4294967296) :
    ∃ out bw, natural_less N o len d q = some (decide (bw > 0), out) ∧ U32 out ∧ out.length = N.length ∧ 0 ≤ bw ∧ bw ≤ 1 ∧ val out - bw * bp (o + len) = val N - q * val d * bp o ∧ (∀ k, o + len ≤ k → out.getD k 0 = N.getD k 0) ∧ out.take o = N.take o := by
  obtain ⟨⟨bw, out⟩, h1, h2⟩ := loop_inv (step := fun v : List Int × Int × Int × Int => natural_less_l1 o len d q v.1 v.2.1 v.2.2.1 v.2.2.2) len
    (fun i v => v.2.2.2 = (i : Int) ∧ U32 v.1 ∧ v.1.length = N.length ∧ 0 ≤ v.2.1 ∧ v.2.1 < 4294967296 ∧ 0 ≤ v.2.2.1 ∧ v.2.2.1 ≤ 1 ∧ val v.1 - v.2.2.1 * bp (o + i) = val N - q * val (d.take i) * bp o + v.2.1 * bp (o + i) ∧ v.2.1 * bp i ≤ q * val (d.take i) ∧ (∀ k, o + i ≤ k → v.1.getD k 0 = N.getD k 0) ∧ v.1.take o = N.take o)
    (fun t => U32 t.2 ∧ t.2.length = N.length ∧ 0 ≤ t.1 ∧ t.1 ≤ 1 ∧ val t.2 - t.1 * bp (o + len) = val N - q * val d * bp o ∧ (∀ k, o + len ≤ k → t.2.getD k 0 = N.getD k 0) ∧ t.2.take o = N.take o) (by
    rintro i hi ⟨out, c, bw, j⟩ ⟨g0, g1, g2, g3, g4, g5, g6, g7, g8, g9, g10⟩
    simp only at g0 g1 g2 g3 g4 g5 g6 g7 g8 g9 g10
    subst g0
    left
    have gd := hd.get i
    have gn := hN.get (o + i)
    have vd := val_takeA d i
    have hp := prod_lt ⟨q0, q1⟩ gd ⟨g3, g4⟩ ⟨Int.le_refl 0, by decide⟩
    have fin : ∀ z : Int, z = c + q * d.getD i 0 → ∃ s', natural_less_k2 o len out bw (i : Int) z = some (.inl s') ∧ s'.2.2.2 = ((i + 1 : Nat) : Int) ∧ U32 s'.1 ∧ s'.1.length = N.length ∧ 0 ≤ s'.2.1 ∧ s'.2.1 < 4294967296 ∧ 0 ≤ s'.2.2.1 ∧ s'.2.2.1 ≤ 1 ∧ val s'.1 - s'.2.2.1 * bp (o + (i + 1)) = val N - q * val (d.take (i + 1)) * bp o + s'.2.1 * bp (o + (i + 1)) ∧ s'.2.1 * bp (i + 1) ≤ q * val (d.take (i + 1)) ∧ (∀ k, o + (i + 1) ≤ k → s'.1.getD k 0 = N.getD k 0) ∧ s'.1.take o = N.take o := by
      intro z hz
      have e0 := g9 (o + i) (Nat.le_refl _)
      have hzm : z % 4294967296 = z - 4294967296 * (z / 4294967296) := by omega
      obtain ⟨dg, c', e1, e2, d0, d1, c0, c1, e3⟩ := sub_word (t := N.getD (o + i) 0 - z % 4294967296 - bw) (by omega) (by omega)
      simp only [natural_less_k2, Int.toNat_natCast]
      rw [if_pos (by omega), if_pos (by omega), if_pos (by omega), e0, wu64 (n := N.getD (o + i) 0) (by omega) (by omega), low_u64 (x := z) (by omega) (by omega)]
      have ew : IntKind.u64.wrap (IntKind.u64.wrap (N.getD (o + i) 0 - z % 4294967296) - bw) = IntKind.u64.wrap (N.getD (o + i) 0 - z % 4294967296 - bw) := by rw [wu64_eq, wu64_eq, wu64_eq]; omega
      rw [ew, bind1_pure, e1, e2, shr32, wi64 (by omega) (by omega)]
      refine ⟨_, rfl, rfl, g1.set _ ⟨d0, d1⟩, by simp only [List.length_set]; exact g2, by simp only; omega, by simp only; omega, c0, c1, ?_, ?_, ?_, ?_⟩
      · simp only
        rw [val_set (by omega), e0, vd, show o + (i + 1) = (o + i) + 1 by omega, bp, bp_add o i]
        rw [bp_add o i] at g7
        have h3 := e3 (by omega)
        rw [hzm] at h3
        subst hz
        generalize (c + q * d.getD i 0) / 4294967296 = y at *
        grind
      · simp only
        rw [vd, bp]
        have hb := bp_pos i
        have h4 : z / 4294967296 * 4294967296 ≤ z := by omega
        have h5 : z / 4294967296 * 4294967296 * bp i ≤ z * bp i := Int.mul_le_mul_of_nonneg_right h4 (Int.le_of_lt hb)
        rw [hz] at h5 ⊢
        generalize (c + q * d.getD i 0) / 4294967296 = y at *
        have e6 : y * (4294967296 * bp i) = y * 4294967296 * bp i := by grind
        have e7 : (c + q * d.getD i 0) * bp i = c * bp i + q * (d.getD i 0 * bp i) := by grind
        rw [e6, Int.mul_add]
        omega
      · intro k hk
        simp only
        rw [getD_set (by omega), if_neg (by omega)]
        exact g9 k (by omega)
      · simp only
        rw [take_set_lo (by omega)]
        exact g10
    simp only [natural_less_l1, Int.toNat_natCast]
    rw [if_pos (by simpa using hi)]
    by_cases hi2 : i < d.length
    · rw [if_pos (by simpa using hi2), if_pos (by omega), if_pos (by omega), wu64 (n := d.getD i 0) (by omega) (by omega), wu64 (n := q * d.getD i 0) (by omega) (by omega), wu64 (n := c + q * d.getD i 0) (by omega) (by omega), bind1_pure]
      exact fin _ rfl
    · rw [if_neg (by simp; omega)]
      exact fin _ (by rw [getD_out (l := d) (by omega)]; omega)) (by
    rintro ⟨out, c, bw, j⟩ ⟨g0, g1, g2, g3, g4, g5, g6, g7, g8, g9, g10⟩
    simp only at g0 g1 g2 g3 g4 g5 g6 g7 g8 g9 g10
    subst g0
    rw [List.take_of_length_le (by omega)] at g7 g8
    have hc0 : c = 0 := by
      have h1 := val_lt hd
      have h2 := val_nonneg hd
      have h3 : q * val d ≤ 4294967296 * val d := Int.mul_le_mul_of_nonneg_right (by omega) h2
      have h4 : bp (d.length + 1) ≤ bp len := bp_le hdl
      simp only [bp] at h4
      rcases (show c = 0 ∨ 1 ≤ c by omega) with h | h
      · exact h
      · have : 1 * bp len ≤ c * bp len := Int.mul_le_mul_of_nonneg_right h (Int.le_of_lt (bp_pos _))
        omega
    subst hc0
    refine ⟨(bw, out), ?_, g1, g2, g5, g6, by simp only; omega, g9, g10⟩
    simp only [natural_less_l1]
    rw [if_neg (by simp)]) (s := (N, 0, 0, 0)) ⟨rfl, hN, rfl, Int.le_refl 0, by simp, Int.le_refl 0, by simp, by simp [val], by simp [val], fun k _ => rfl, rfl⟩
  refine ⟨out, bw, ?_, h2⟩
  unfold natural_less
  rw [h1, bind2_pure]
theorem more_eq {N d : List Int} {o len : Nat} (hN : U32 N) (hd : U32 d) (hol : o + len ≤ N.length) (hdl : d.length + 1 ≤ len) (hn : N.length < 1000000) :
    ∃ out c, natural_more N o len d = some out ∧ U32 out ∧ out.length = N.length ∧ 0 ≤ c ∧ c ≤ 1 ∧ val out + c * bp (o + len) = val N + val d * bp o ∧ (∀ k, o + len ≤ k → out.getD k 0 = N.getD k 0) ∧ out.take o = N.take o := by
  obtain ⟨out, h1, c, h2⟩ := loop_inv (step := fun v : List Int × Int × Int => natural_more_l1 o len d v.1 v.2.1 v.2.2) len
    (fun i v => v.2.2 = (i : Int) ∧ U32 v.1 ∧ v.1.length = N.length ∧ 0 ≤ v.2.1 ∧ v.2.1 ≤ 1 ∧ val v.1 + v.2.1 * bp (o + i) = val N + val (d.take i) * bp o ∧ (∀ k, o + i ≤ k → v.1.getD k 0 = N.getD k 0) ∧ v.1.take o = N.take o)
    (fun t => ∃ c : Int, U32 t ∧ t.length = N.length ∧ 0 ≤ c ∧ c ≤ 1 ∧ val t + c * bp (o + len) = val N + val d * bp o ∧ (∀ k, o + len ≤ k → t.getD k 0 = N.getD k 0) ∧ t.take o = N.take o) (by
    rintro i hi ⟨out, c, j⟩ ⟨g0, g1, g2, g3, g4, g5, g6, g7⟩
    simp only at g0 g1 g2 g3 g4 g5 g6 g7
    subst g0
    left
    have gd := hd.get i
    have gn := hN.get (o + i)
    have vd := val_takeA d i
    have e0 := g6 (o + i) (Nat.le_refl _)
    have fin : ∀ z : Int, z = c + N.getD (o + i) 0 + d.getD i 0 → ∃ s', natural_more_k2 o out (i : Int) z = some (.inl s') ∧ s'.2.2 = ((i + 1 : Nat) : Int) ∧ U32 s'.1 ∧ s'.1.length = N.length ∧ 0 ≤ s'.2.1 ∧ s'.2.1 ≤ 1 ∧ val s'.1 + s'.2.1 * bp (o + (i + 1)) = val N + val (d.take (i + 1)) * bp o ∧ (∀ k, o + (i + 1) ≤ k → s'.1.getD k 0 = N.getD k 0) ∧ s'.1.take o = N.take o := by
      intro z hz
      have hzm : z % 4294967296 = z - 4294967296 * (z / 4294967296) := by omega
      simp only [natural_more_k2, Int.toNat_natCast]
      rw [wu32_eq, shr32, wi64 (by omega) (by omega)]
      refine ⟨_, rfl, rfl, g1.set _ (by omega), by simp only [List.length_set]; exact g2, by simp only; omega, by simp only; omega, ?_, ?_, ?_⟩
      · simp only
        rw [val_set (by omega), e0, vd, show o + (i + 1) = (o + i) + 1 by omega, bp, bp_add o i, hzm]
        rw [bp_add o i] at g5
        subst hz
        generalize (c + N.getD (o + i) 0 + d.getD i 0) / 4294967296 = y at *
        grind
      · intro k hk
        simp only
        rw [getD_set (by omega), if_neg (by omega)]
        exact g6 k (by omega)
      · simp only
        rw [take_set_lo (by omega)]
        exact g7
    simp only [natural_more_l1, Int.toNat_natCast]
    rw [if_pos (by simpa using hi), if_pos (by omega), if_pos (by omega), if_pos (by omega), e0, wu64 (n := N.getD (o + i) 0) (by omega) (by omega), wu64 (n := c + N.getD (o + i) 0) (by omega) (by omega), bind1_pure]
    by_cases hi2 : i < d.length
    · rw [if_pos (by simpa using hi2), if_pos (by omega), wu64 (n := d.getD i 0) (by omega) (by omega), wu64 (n := c + N.getD (o + i) 0 + d.getD i 0) (by omega) (by omega), bind1_pure]
      exact fin _ rfl
    · rw [if_neg (by simp; omega)]
      exact fin _ (by rw [getD_out (l := d) (by omega)]; omega)) (by
    rintro ⟨out, c, j⟩ ⟨g0, g1, g2, g3, g4, g5, g6, g7⟩
    simp only at g0 g1 g2 g3 g4 g5 g6 g7
    subst g0
    rw [List.take_of_length_le (by omega)] at g5
    refine ⟨out, ?_, c, g1, g2, g3, g4, g5, g6, g7⟩
    simp only [natural_more_l1]
    rw [if_neg (by simp)]) (s := (N, 0, 0)) ⟨rfl, hN, rfl, Int.le_refl 0, by simp, by simp [val], fun k _ => rfl, rfl⟩
  refine ⟨out, c, ?_, h2⟩
  unfold natural_more
  rw [h1, bind1_pure]
theorem clone32_eq {l : List Int} (h : l.length < 1000000) : slices_Clone_uint32 l = some l := by
  grind [slices_Clone_uint32, orBoth]
/-- a digit of a number -/
theorem mod_bp (W : Int) (i : Nat) : W % bp (i + 1) = W % bp i + (W / bp i % 4294967296) * bp i := by
  have h0 := bp_pos i
  have e1 := Int.mul_ediv_add_emod W (bp i)
  have e2 := Int.mul_ediv_add_emod (W / bp i) 4294967296
  have h1 := Int.emod_nonneg W (show bp i ≠ 0 by omega)
  have h2 := Int.emod_lt_of_pos W h0
  have h3 := Int.emod_nonneg (W / bp i) (show (4294967296 : Int) ≠ 0 by decide)
  have h4 := Int.emod_lt_of_pos (W / bp i) (show (0 : Int) < 4294967296 by decide)
  have hr : W = (W % bp i + (W / bp i % 4294967296) * bp i) + bp (i + 1) * (W / bp i / 4294967296) := by
    simp only [bp]
    grind
  have r0 : 0 ≤ W % bp i + (W / bp i % 4294967296) * bp i := by
    have := Int.mul_nonneg h3 (Int.le_of_lt h0); omega
  have r1 : W % bp i + (W / bp i % 4294967296) * bp i < bp (i + 1) := by
    have : (W / bp i % 4294967296 + 1) * bp i ≤ 4294967296 * bp i := Int.mul_le_mul_of_nonneg_right (by omega) (Int.le_of_lt h0)
    rw [Int.add_mul] at this
    simp only [bp]; omega
  conv => lhs; rw [hr]
  rw [Int.add_mul_emod_self_left, Int.emod_eq_of_lt r0 r1]
theorem back_eq {n : List Int} (hu : U32 n) (hl : n.length < 100000) {k : Nat} (hk : k ≤ 31) : natural_back n (k : Int) = some (nat32 (val n / ((2 ^ k : Nat) : Int))) := by
  have hp := pow_le31 hk
  have hpp := pow_part hk
  have v0 := val_nonneg hu
  have v1 := val_lt hu
  have hW0 : 0 ≤ val n / ((2 ^ k : Nat) : Int) := Int.ediv_nonneg v0 (by omega)
  have hW1 : val n / ((2 ^ k : Nat) : Int) ≤ val n := Int.ediv_le_self _ v0
  obtain ⟨out, h1, h2, h3, h4⟩ := loop_inv (step := fun v : List Int × Int => natural_back_l1 n k n v.1 v.2) n.length
    (fun i v => v.2 = (i : Int) ∧ U32 v.1 ∧ v.1.length = n.length ∧ val (v.1.take i) = val n / ((2 ^ k : Nat) : Int) % bp i)
    (fun t => U32 t ∧ t.length = n.length ∧ val t = val n / ((2 ^ k : Nat) : Int)) (by
    rintro i hi ⟨out, j⟩ ⟨g0, g1, g2, g3⟩
    simp only at g0 g1 g2 g3
    subst g0
    left
    have gn := hu.get i
    have gn1 := hu.get (i + 1)
    have hdig : val n / ((2 ^ k : Nat) : Int) / bp i % 4294967296 = (n.getD i 0 + 4294967296 * n.getD (i + 1) 0) / ((2 ^ k : Nat) : Int) % 4294967296 := by
      have e1 : val n / ((2 ^ k : Nat) : Int) / bp i = val (n.drop i) / ((2 ^ k : Nat) : Int) := by
        rw [Int.ediv_ediv_of_nonneg (by omega), Int.mul_comm, ← Int.ediv_ediv_of_nonneg (Int.le_of_lt (bp_pos i))]
        congr 1
        rw [val_split n (i := i) (by omega), Int.add_mul_ediv_left _ _ (by have := bp_pos i; omega)]
        have a := val_nonneg (hu.take i)
        have b := val_lt (hu.take i)
        rw [List.length_take, Nat.min_eq_left (by omega)] at b
        rw [Int.ediv_eq_zero_of_lt a b]; omega
      have e2 : val (n.drop i) = (n.getD i 0 + 4294967296 * n.getD (i + 1) 0) + ((2 ^ k : Nat) : Int) * (4294967296 * (((2 ^ (32 - k) : Nat) : Int) * val (n.drop (i + 2)))) := by
        rw [val_drop hi]
        by_cases hi2 : i + 1 < n.length
        · rw [val_drop hi2]
          generalize ((2 ^ k : Nat) : Int) = p at *
          generalize ((2 ^ (32 - k) : Nat) : Int) = r at *
          have : p * (4294967296 * (r * val (n.drop (i + 2)))) = 4294967296 * ((r * p) * val (n.drop (i + 2))) := by grind
          rw [this, hpp]
          show _ = _
          rw [show i + 1 + 1 = i + 2 from rfl]
          omega
        · rw [val_drop_zero (by omega), getD_out (l := n) (i := i + 1) (by omega), val_drop_zero (by omega)]; simp
      rw [e1, e2, Int.add_mul_ediv_left _ _ (by omega), Int.add_mul_emod_self_left]
    have fin : ∀ z : Int, z = n.getD i 0 + 4294967296 * n.getD (i + 1) 0 → ∃ s', natural_back_k2 (k : Int) out (i : Int) z = some (.inl s') ∧ s'.2 = ((i + 1 : Nat) : Int) ∧ U32 s'.1 ∧ s'.1.length = n.length ∧ val (s'.1.take (i + 1)) = val n / ((2 ^ k : Nat) : Int) % bp (i + 1) := by
      intro z hz
      simp only [natural_back_k2, Int.toNat_natCast, Nat.zero_add]
      rw [if_pos (by omega), if_pos (by omega), wu32_eq, shr_eqN .u64 z (s := k) (show k ≤ 64 by omega), wi64 (by omega) (by omega)]
      refine ⟨_, rfl, rfl, g1.set _ (by omega), by simp only [List.length_set]; exact g2, ?_⟩
      simp only
      rw [val_take_set (by omega), g3, mod_bp, hdig, hz]
    simp only [natural_back_l1, Int.toNat_natCast]
    rw [if_pos (by simpa using hi), if_pos (by omega), if_pos (by omega), wi64 (n := (i : Int) + 1) (by omega) (by omega)]
    by_cases hi2 : i + 1 < n.length
    · rw [if_pos (by simp; omega), if_pos (by omega), if_pos (by omega), show ((i : Int) + 1).toNat = i + 1 by omega, wu64 (n := n.getD i 0) (by omega) (by omega), wu64 (n := n.getD (i + 1) 0) (by omega) (by omega)]
      have s1 := shl_u64 (n.getD (i + 1) 0) (s := 32) (by decide)
      rw [show ((32 : Nat) : Int) = 32 from rfl, show ((2 ^ 32 : Nat) : Int) = 4294967296 by decide, Int.emod_eq_of_lt (by omega) (by omega)] at s1
      have s2 := (or_u64 (a := n.getD (i + 1) 0) (b := n.getD i 0) (i := 32) gn1.1 gn.1 (by rw [show ((2 ^ 32 : Nat) : Int) = 4294967296 by decide]; omega) (by rw [show ((2 ^ 32 : Nat) : Int) = 4294967296 by decide]; omega)).1
      rw [show ((2 ^ 32 : Nat) : Int) = 4294967296 by decide] at s2
      rw [s1, s2, bind1_pure]
      exact fin _ (by omega)
    · rw [if_neg (by simp; omega), wu64 (n := n.getD i 0) (by omega) (by omega)]
      exact fin _ (by rw [getD_out (l := n) (i := i + 1) (by omega)]; omega)) (by
    rintro ⟨out, j⟩ ⟨g0, g1, g2, g3⟩
    simp only at g0 g1 g2 g3
    subst g0
    rw [List.take_of_length_le (by omega), Int.emod_eq_of_lt hW0 (by omega)] at g3
    refine ⟨out, ?_, g1, g2, g3⟩
    simp only [natural_back_l1]
    rw [if_neg (by simp)]) (s := (n, 0)) ⟨rfl, hu, rfl, by simp [val, bp, Int.emod_one]⟩
  unfold natural_back
  rw [clone32_eq (by omega), bind1_pure, h1, bind1_pure, natural_trim_eq (by omega), bind1_pure, trimL_nat h2, h4]
end Go.Proofs.YtilpgjoidgfbiaaGreat
