/- Natural numbers: the reference's greatest common divisor. -/
import Derived.Test.YtilpgjoidgfbiaaGreatQn
import Derived.Test.YtilpgjoidgfbiaaGreatQl
namespace Go.Proofs.YtilpgjoidgfbiaaGreat
set_option linter.unusedVariables false
set_option linter.unusedSimpArgs false
open Vm
theorem half_word {g h : Int} (g0 : 0 ≤ g) (g1 : g < 4294967296) (h0 : 0 ≤ h) (h1 : h < 4294967296) : ior .u32 (ishr .u32 g 1) (ishl .u32 h 31) = g / 2 + 2147483648 * (h % 2) := by
  have e1 : ishr .u32 g 1 = g / 2 := by
    have := shr_eqN .u32 g (s := 1) (by decide)
    exact this
  have e2 : ishl .u32 h 31 = h % 2 * ((2 ^ 31 : Nat) : Int) := by
    have := shl_u32 h (s := 31) (by decide)
    rw [show ((31 : Nat) : Int) = 31 from rfl] at this
    rw [this]
    show h * 2147483648 % 4294967296 = h % 2 * 2147483648
    omega
  rw [e1, e2]
  have := (or_u32 (a := h % 2) (b := g / 2) (i := 31) (by omega) (by omega) (show g / 2 < 2147483648 by omega) (show h % 2 * 2147483648 + g / 2 < 4294967296 by omega)).1
  rw [this]
  show h % 2 * 2147483648 + g / 2 = _
  omega
theorem half_eq {a : List Int} (ha : U32 a) (la : a.length < 100000) : rl_ref10_half a = some (nat32 (val a / 2)) := by
  obtain ⟨t, k1, k2, k3, k4⟩ := loop_inv (step := fun v : List Int × Int => rl_ref10_half_l1 a v.1 v.2) a.length (fun i s => s.2 = (i : Int) ∧ U32 s.1 ∧ s.1.length = i ∧ val s.1 + bp i * (val (a.drop i) / 2) = val a / 2) (fun t => U32 t ∧ t.length = a.length ∧ val t = val a / 2) (fun i hi => by
    rintro ⟨x, y⟩ ⟨e1, e2, e3, e4⟩
    simp only at e1 e2 e3 e4
    subst e1
    left
    have hg := ha.get i
    have hd := val_drop hi
    have hn : ∀ z : Int, z = a.getD i 0 / 2 + 2147483648 * (val (a.drop (i + 1)) % 2) → ∃ s', rl_ref10_half_k2 x (i : Int) z = some (.inl s') ∧ s'.2 = ((i + 1 : Nat) : Int) ∧ U32 s'.1 ∧ s'.1.length = i + 1 ∧ val s'.1 + bp (i + 1) * (val (a.drop (i + 1)) / 2) = val a / 2 := by
      intro z hz
      unfold rl_ref10_half_k2
      rw [if_pos (by simp; omega), wi64 (by omega) (by omega)]
      refine ⟨_, rfl, by simp only; omega, e2.append (U32.cons (by omega) U32.nil), by simp only [List.length_append, e3]; rfl, ?_⟩
      simp only
      rw [val_append, e3, show val [z] = z by simp [val], bp_succ, ← e4, hd, hz]
      generalize val (a.drop (i + 1)) = R
      generalize a.getD i 0 = g
      have : (g + 4294967296 * R) / 2 = g / 2 + 2147483648 * (R % 2) + 4294967296 * (R / 2) := by omega
      rw [this]
      grind
    simp only [rl_ref10_half_l1]
    rw [if_pos (by simp; omega), if_pos (by omega), if_pos (by omega), wi64 (by omega) (by omega)]
    by_cases c : i + 1 < a.length
    · have hg2 := ha.get (i + 1)
      have hd2 := val_drop c
      rw [if_pos (by simp; omega), if_pos (by omega), if_pos (by omega), bind1_pure, Int.toNat_natCast, show ((i : Int) + 1).toNat = i + 1 by omega, half_word hg.1 hg.2 hg2.1 hg2.2]
      exact hn _ (by omega)
    · have hz := val_drop_zero (l := a) (i := i + 1) (by omega)
      rw [if_neg (by simp; omega), Int.toNat_natCast]
      refine hn _ ?_
      have := shr_eqN .u32 (a.getD i 0) (s := 1) (by decide)
      rw [hz]
      rw [show ((1 : Nat) : Int) = 1 from rfl] at this
      rw [this]
      show a.getD i 0 / 2 = _
      omega) (by
    rintro ⟨x, y⟩ ⟨e1, e2, e3, e4⟩
    simp only at e1 e2 e3 e4
    subst e1
    simp only [rl_ref10_half_l1]
    rw [if_neg (by simp)]
    have hz := val_drop_zero (l := a) (i := a.length) (Nat.le_refl _)
    rw [hz] at e4
    exact ⟨x, rfl, e2, e3, by omega⟩) (s := ([], 0)) ⟨rfl, U32.nil, rfl, by simp [val, bp]⟩
  unfold rl_ref10_half
  rw [k1, bind1_pure, rl_ref10_trim_eq (by omega), bind1_pure, trimL_nat k2, k4]
theorem nat_dig {x : Nat} (hx : 0 < x) : 0 < (nat32 (x : Int)).length ∧ iand .u32 ((nat32 (x : Int)).getD 0 0) 1 = ((x % 2 : Nat) : Int) := by
  have h0 : (0 : Int) ≤ (x : Int) := by omega
  have hn : nat32 (x : Int) ≠ [] := fun e => by have := (nat32_nil h0).1 e; omega
  have hl : 0 < (nat32 (x : Int)).length := List.length_pos_iff.2 hn
  have hu := nat32_u32 h0
  refine ⟨hl, ?_⟩
  rw [one_u32 (hu.get 0).1 (hu.get 0).2]
  have hd := val_drop hl
  rw [List.drop_zero, nat32_val h0] at hd
  omega
theorem gcd_half {x y : Nat} (h : x % 2 = 0) (hg : Nat.gcd x y % 2 = 1) : Nat.gcd (x / 2) y = Nat.gcd x y := by
  have hx : x = 2 * (x / 2) := by omega
  apply Nat.dvd_antisymm
  · apply Nat.dvd_gcd
    · exact Nat.dvd_trans (Nat.gcd_dvd_left _ _) ⟨2, by omega⟩
    · exact Nat.gcd_dvd_right _ _
  · apply Nat.dvd_gcd
    · have hc : Nat.Coprime (Nat.gcd x y) 2 := by
        show Nat.gcd (Nat.gcd x y) 2 = 1
        rw [Nat.gcd_comm, Nat.gcd_rec, hg]
        rfl
      have hd : Nat.gcd x y ∣ 2 * (x / 2) := by
        have := Nat.gcd_dvd_left x y
        rwa [← hx]
      exact hc.dvd_of_dvd_mul_left hd
    · exact Nat.gcd_dvd_right _ _
theorem odd_loop {step : List Int → Option (List Int ⊕ List Int)} (hs : ∀ v, step v = if (0 : Int) < ((v.length : Nat) : Int) then (if ((iand .u32 (v.getD 0 0) 1) == 0) = true then ((rl_ref10_half v).bind fun y => some (.inl y)) else some (.inr v)) else none) {x y : Nat} (hx : 0 < x) (hl : (x : Int) < bp 1000) (hg : Nat.gcd x y % 2 = 1) : ∃ z : Nat, loop step (nat32 (x : Int)) = some (nat32 (z : Int)) ∧ 0 < z ∧ z ≤ x ∧ Nat.gcd z y = Nat.gcd x y := by
  obtain ⟨t, h1, z, h2, h3⟩ := loop_of (step := step) (fun v => ∃ z : Nat, v = nat32 (z : Int) ∧ 0 < z ∧ z ≤ x ∧ Nat.gcd z y = Nat.gcd x y) (fun v => (val v).toNat) (fun t => ∃ z : Nat, t = nat32 (z : Int) ∧ 0 < z ∧ z ≤ x ∧ Nat.gcd z y = Nat.gcd x y) (by
    rintro v ⟨z, rfl, z0, z1, z2⟩
    obtain ⟨d1, d2⟩ := nat_dig z0
    have zl : (nat32 (z : Int)).length ≤ 1000 := nat32_len_le (by omega) (by omega)
    rw [hs, if_pos (by omega), d2]
    by_cases c : z % 2 = 0
    · left
      rw [if_pos (by simp; omega), half_eq (nat32_u32 (by omega)) (by omega), bind1_pure, nat32_val (by omega)]
      refine ⟨_, rfl, ⟨z / 2, by rw [Int.natCast_ediv]; rfl, by omega, by omega, ?_⟩, ?_⟩
      · rw [gcd_half c (by omega), z2]
      · rw [nat32_val (by omega)]; omega
    · right
      rw [if_neg (by simp; omega)]
      exact ⟨_, rfl, z, rfl, z0, z1, z2⟩) (nat32 (x : Int)) ⟨x, rfl, hx, Nat.le_refl _, rfl⟩
  exact ⟨z, h1.trans (by rw [h2]), h3⟩
theorem ref10_gcd_both {x y : Nat} (hx : 0 < x) (hy : 0 < y) (lx : (x : Int) < bp 1000) (ly : (y : Int) < bp 1000) : ∃ (z u n : Nat), loop (fun v : List Int × List Int × Int => rl_ref10_GCD_l3 v.1 v.2.1 v.2.2) (nat32 (x : Int), nat32 (y : Int), 0) = some (nat32 (z : Int), nat32 (u : Int), (n : Int)) ∧ 0 < z ∧ 0 < u ∧ x = z * 2 ^ n ∧ y = u * 2 ^ n ∧ ¬ (z % 2 = 0 ∧ u % 2 = 0) ∧ n < 40000 := by
  obtain ⟨t, h1, z, u, n, h2, h3⟩ := loop_of (step := fun v : List Int × List Int × Int => rl_ref10_GCD_l3 v.1 v.2.1 v.2.2) (fun v => ∃ z u n : Nat, v = (nat32 (z : Int), nat32 (u : Int), (n : Int)) ∧ 0 < z ∧ 0 < u ∧ x = z * 2 ^ n ∧ y = u * 2 ^ n ∧ n + z ≤ x ∧ n < 40000) (fun v => (val v.1).toNat)
    (fun t => ∃ z u n : Nat, t = (nat32 (z : Int), nat32 (u : Int), (n : Int)) ∧ 0 < z ∧ 0 < u ∧ x = z * 2 ^ n ∧ y = u * 2 ^ n ∧ ¬ (z % 2 = 0 ∧ u % 2 = 0) ∧ n < 40000) (by
    rintro v ⟨z, u, n, rfl, z0, u0, hz, hu, hn, hn2⟩
    have le : ∀ m : Nat, m ≤ m * 2 ^ n := fun m => Nat.le_mul_of_pos_right m (Nat.pow_pos (by decide))
    have lz := le z
    have lu := le u
    obtain ⟨d1, d2⟩ := nat_dig z0
    obtain ⟨f1, f2⟩ := nat_dig u0
    have zl : (nat32 (z : Int)).length ≤ 1000 := nat32_len_le (by omega) (by omega)
    have ul : (nat32 (u : Int)).length ≤ 1000 := nat32_len_le (by omega) (by omega)
    simp only [rl_ref10_GCD_l3]
    rw [if_pos (by omega), d2]
    by_cases c : z % 2 = 0
    · rw [if_pos (by simp; omega), if_pos (by omega), f2]
      by_cases c2 : u % 2 = 0
      · left
        have hn3 : n + 1 < 40000 := by
          have h5 : 2 ^ n ≤ x := by rw [hz]; exact Nat.le_mul_of_pos_left _ z0
          have h6 : (2 : Nat) ^ n < 2 ^ 32000 := by
            have h7 := pw_bp 1000
            have h8 : ((2 ^ n : Nat) : Int) < pw 32000 := by rw [show 32000 = 32 * 1000 from rfl, h7]; omega
            unfold pw at h8
            omega
          have := (Nat.pow_lt_pow_iff_right (by decide)).1 h6
          omega
        rw [show (((u % 2 : Nat) : Int) == 0) = true by simp; omega]
        unfold rl_ref10_GCD_k4
        rw [if_pos rfl, half_eq (nat32_u32 (by omega)) (by omega), bind1_pure, half_eq (nat32_u32 (by omega)) (by omega), bind1_pure, nat32_val (by omega), nat32_val (by omega), wi64 (by omega) (by omega)]
        refine ⟨_, rfl, ⟨z / 2, u / 2, n + 1, by rw [Int.natCast_ediv, Int.natCast_ediv, Int.natCast_add]; rfl, by omega, by omega, ?_, ?_, by omega, hn3⟩, ?_⟩
        · rw [Nat.pow_succ, hz]
          have : z = 2 * (z / 2) := by omega
          grind
        · rw [Nat.pow_succ, hu]
          have : u = 2 * (u / 2) := by omega
          grind
        · rw [nat32_val (by omega)]; omega
      · right
        rw [show (((u % 2 : Nat) : Int) == 0) = false by simp; omega]
        unfold rl_ref10_GCD_k4
        rw [if_neg (by simp)]
        exact ⟨_, rfl, z, u, n, rfl, z0, u0, hz, hu, fun h => c2 h.2, by omega⟩
    · right
      rw [if_neg (by simp; omega)]
      unfold rl_ref10_GCD_k4
      rw [if_neg (by simp)]
      exact ⟨_, rfl, z, u, n, rfl, z0, u0, hz, hu, fun h => c h.1, by omega⟩) (nat32 (x : Int), nat32 (y : Int), 0) ⟨x, y, 0, rfl, hx, hy, by simp, by simp, by omega, by decide⟩
  exact ⟨z, u, n, h1.trans (by rw [h2]), h3⟩
theorem ref10_gcd_odd {x y : Nat} (hx : 0 < x) (hy : 0 < y) (lx : (x : Int) < bp 1000) (ly : (y : Int) < bp 1000) (hg : Nat.gcd x y % 2 = 1) : loop (fun v : List Int × List Int => rl_ref10_GCD_l5 v.1 v.2) (nat32 (x : Int), nat32 (y : Int)) = some (nat32 ((Nat.gcd x y : Nat) : Int)) := by
  obtain ⟨t, h1, h2⟩ := loop_of (step := fun v : List Int × List Int => rl_ref10_GCD_l5 v.1 v.2) (fun v => ∃ z u : Nat, v = (nat32 (z : Int), nat32 (u : Int)) ∧ 0 < u ∧ (z : Int) < bp 1000 ∧ (u : Int) < bp 1000 ∧ Nat.gcd z u = Nat.gcd x y) (fun v => (val v.1).toNat + (val v.2).toNat) (fun t => t = nat32 ((Nat.gcd x y : Nat) : Int)) (by
    rintro v ⟨z, u, rfl, u0, lz, lu, hgg⟩
    simp only [rl_ref10_GCD_l5]
    by_cases c : z = 0
    · subst c
      right
      rw [show nat32 ((0 : Nat) : Int) = [] from rfl, if_neg (by simp)]
      rw [Nat.gcd_zero_left] at hgg
      exact ⟨_, rfl, by rw [hgg]⟩
    · left
      have z0 : 0 < z := by omega
      obtain ⟨d1, d2⟩ := nat_dig z0
      obtain ⟨z', a1, a2, a3, a4⟩ := odd_loop (step := fun v => rl_ref10_GCD_l6 v) (fun v => rfl) z0 lz (y := u) (by omega)
      obtain ⟨u', b1, b2, b3, b4⟩ := odd_loop (step := fun v => rl_ref10_GCD_l7 v) (fun v => rfl) u0 lu (y := z') (by rw [Nat.gcd_comm, a4]; omega)
      have hG : Nat.gcd z' u' = Nat.gcd x y := by rw [Nat.gcd_comm, b4, Nat.gcd_comm, a4, hgg]
      have zl : (nat32 (z' : Int)).length ≤ 1000 := nat32_len_le (by omega) (by omega)
      have ul : (nat32 (u' : Int)).length ≤ 1000 := nat32_len_le (by omega) (by omega)
      rw [if_pos (by simp; omega), a1, bind1_pure, b1, bind1_pure, ref10_compare_eq (nat32_u32 (by omega)) (nat32_u32 (by omega)) (by omega) (by omega), bind1_pure, nat32_val (by omega), nat32_val (by omega)]
      unfold rl_ref10_GCD_k8
      by_cases c2 : z' < u'
      · rw [if_pos (by have : ordI (z' : Int) u' < 0 := ordI_neg.2 (by omega)
                       simpa using this), ref10_less_eq (nat32_u32 (by omega)) (nat32_canon (by omega)) (by omega) (by omega) (by rw [nat32_val (by omega), nat32_val (by omega)]; omega), bind1_pure, nat32_val (by omega), nat32_val (by omega)]
        refine ⟨_, rfl, ⟨u' - z', z', by rw [show ((u' - z' : Nat) : Int) = (u' : Int) - z' by omega], by omega, by omega, by omega, ?_⟩, ?_⟩
        · rw [← hG, Nat.gcd_sub_self_left (by omega), Nat.gcd_comm]
        · simp only
          rw [nat32_val (by omega), nat32_val (by omega), nat32_val (by omega), nat32_val (by omega)]; omega
      · rw [if_neg (by have : ¬ ordI (z' : Int) u' < 0 := fun h => by have := ordI_neg.1 h; omega
                       simpa using this), ref10_less_eq (nat32_u32 (by omega)) (nat32_canon (by omega)) (by omega) (by omega) (by rw [nat32_val (by omega), nat32_val (by omega)]; omega), bind1_pure, nat32_val (by omega), nat32_val (by omega)]
        refine ⟨_, rfl, ⟨z' - u', u', by rw [show ((z' - u' : Nat) : Int) = (z' : Int) - u' by omega], by omega, by omega, by omega, ?_⟩, ?_⟩
        · rw [← hG, Nat.gcd_sub_self_left (by omega)]
        · simp only
          rw [nat32_val (by omega), nat32_val (by omega), nat32_val (by omega), nat32_val (by omega)]; omega) (nat32 (x : Int), nat32 (y : Int)) ⟨x, y, rfl, hy, lx, ly, rfl⟩
  rw [h1, h2]
theorem ref10_gcd_shift {g n : Nat} (hn : n < 40000) (hl : ((g * 2 ^ n : Nat) : Int) < bp 1000) : loop (fun v : List Int × Int => rl_ref10_GCD_l9 (n : Int) v.1 v.2) (nat32 (g : Int), 0) = some (nat32 ((g * 2 ^ n : Nat) : Int)) := by
  refine loop_for (fun i => (nat32 ((g * 2 ^ i : Nat) : Int), (i : Int))) n _ (fun i hi => ?_) ?_ (by simp)
  · simp only [rl_ref10_GCD_l9]
    have h2 : g * 2 ^ i ≤ g * 2 ^ n := Nat.mul_le_mul_left _ (Nat.pow_le_pow_right (by decide) (by omega))
    have hgl : (nat32 ((g * 2 ^ i : Nat) : Int)).length ≤ 1000 := nat32_len_le (by omega) (by omega)
    rw [if_pos (by simp; omega), ref10_sum_eq (nat32_u32 (by omega)) (nat32_u32 (by omega)) (by omega) (by omega), bind1_pure, nat32_val (by omega), wi64 (by omega) (by omega)]
    have : ((g * 2 ^ (i + 1) : Nat) : Int) = ((g * 2 ^ i : Nat) : Int) + ((g * 2 ^ i : Nat) : Int) := by
      have : g * 2 ^ (i + 1) = g * 2 ^ i + g * 2 ^ i := by rw [Nat.pow_succ]; grind
      omega
    rw [this]
    rfl
  · simp only [rl_ref10_GCD_l9]
    rw [if_neg (by simp)]
theorem gcdI_nat (x y : Nat) : gcdI (x : Int) (y : Int) = ((Nat.gcd x y : Nat) : Int) := by
  unfold gcdI; simp only [Int.toNat_natCast]
theorem gcdI_left {a : Int} (h : 0 ≤ a) : gcdI 0 a = a := by unfold gcdI; simp; omega
theorem ref10_gcd_main {a b : List Int} (ha : Canon a) (hb : Canon b) (ha0 : a ≠ []) (hb0 : b ≠ []) (la : a.length ≤ 64) (lb : b.length ≤ 64) : rl_ref10_GCD_k2 a b false = some (nat32 (gcdI (val a) (val b)), 0) := by
  have av := ha.pos ha0
  have bv := hb.pos hb0
  have al := val_lt ha.1
  have bl := val_lt hb.1
  have a1 := bp_le (show a.length ≤ 1000 by omega)
  have b1 := bp_le (show b.length ≤ 1000 by omega)
  have ea := nat32_of ha
  have eb := nat32_of hb
  obtain ⟨x, hx⟩ := nat_of (val_nonneg ha.1)
  obtain ⟨y, hy⟩ := nat_of (val_nonneg hb.1)
  rw [hx] at ea av al
  rw [hy] at eb bv bl
  obtain ⟨z, u, n, k1, z0, u0, k2, k3, k4, k5⟩ := ref10_gcd_both (x := x) (y := y) (by omega) (by omega) (by omega) (by omega)
  have zx : z ≤ x := by rw [k2]; exact Nat.le_mul_of_pos_right z (Nat.pow_pos (by decide))
  have uy : u ≤ y := by rw [k3]; exact Nat.le_mul_of_pos_right u (Nat.pow_pos (by decide))
  have hodd : Nat.gcd z u % 2 = 1 := by
    have h1 := Nat.gcd_dvd_left z u
    have h2 := Nat.gcd_dvd_right z u
    by_cases c : Nat.gcd z u % 2 = 1
    · exact c
    · exfalso
      have h3 : 2 ∣ Nat.gcd z u := Nat.dvd_of_mod_eq_zero (by omega)
      exact k4 ⟨Nat.mod_eq_zero_of_dvd (Nat.dvd_trans h3 h1), Nat.mod_eq_zero_of_dvd (Nat.dvd_trans h3 h2)⟩
  have hG : Nat.gcd x y = Nat.gcd z u * 2 ^ n := by
    have := Nat.gcd_mul_right z (2 ^ n) u
    rw [← k2, ← k3] at this
    exact this
  have gle : Nat.gcd x y ≤ x := Nat.le_of_dvd (by omega) (Nat.gcd_dvd_left x y)
  have gle2 : Nat.gcd z u ≤ z := Nat.le_of_dvd z0 (Nat.gcd_dvd_left z u)
  have gl : (nat32 ((Nat.gcd z u : Nat) : Int)).length ≤ 1000 := nat32_len_le (by omega) (by omega)
  have e1 := ref10_gcd_odd z0 u0 (by omega) (by omega) hodd
  have e2 := ref10_gcd_shift (g := Nat.gcd z u) (n := n) k5 (by rw [← hG]; omega)
  unfold rl_ref10_GCD_k2
  rw [if_neg (by simp)]
  rw [hx, hy, gcdI_nat, hG, ← ea, ← eb, k1, bind3_pure, e1, bind1_pure, if_pos (by omega), List.nil_append, e2, bind1_pure]
theorem ref10_gcd_eq {a b : List Int} (ha : U32 a) (hb : U32 b) (la : a.length < 100000) (lb : b.length < 100000) : rl_ref10_GCD a b = some (gcdS a b) := by
  unfold rl_ref10_GCD
  rw [rl_ref10_valid_eq (by omega), rl_ref10_valid_eq (by omega), bind1_pure, bind1_pure]
  by_cases h : VN a ∧ VN b
  · have e : rl_ref10_GCD_k1 a b false = some (gcdS a b) := by
      have hca := h.1.canon ha
      have hcb := h.2.canon hb
      unfold rl_ref10_GCD_k1 gcdS
      rw [if_neg (by simp), if_pos h]
      by_cases c : a = []
      · subst c
        rw [if_pos (by simp)]
        unfold rl_ref10_GCD_k2
        rw [if_pos rfl, if_pos (by simp), if_pos (by simp; omega)]
        simp only [val, List.nil_append]
        rw [gcdI_left (val_nonneg hb), nat32_of hcb]
      · have hal : a.length ≠ 0 := fun e => c (List.length_eq_zero_iff.1 e)
        rw [if_neg (by simp only [beq_iff_eq]; omega)]
        by_cases c2 : b = []
        · subst c2
          rw [show ((([] : List Int).length : Nat) : Int) = 0 from rfl, beq_self_eq_true]
          unfold rl_ref10_GCD_k2
          rw [if_pos rfl, if_pos (by simp; omega), if_pos (by simp; omega)]
          simp only [val, List.nil_append, List.append_nil]
          rw [gcdI_zero (val_nonneg ha), nat32_of hca]
        · have hbl : b.length ≠ 0 := fun e => c2 (List.length_eq_zero_iff.1 e)
          rw [show (((b.length : Nat) : Int) == 0) = false by simp only [beq_eq_false_iff_ne]; omega]
          exact ref10_gcd_main hca hcb c c2 h.1.1 h.2.1
    rw [decide_eq_true h.1, decide_eq_true h.2, if_neg (by simp)]
    exact e
  · have e : rl_ref10_GCD_k1 a b true = some (gcdS a b) := by
      unfold rl_ref10_GCD_k1 gcdS
      rw [if_pos rfl, if_neg h]
    by_cases c : VN a
    · have c2 : ¬ VN b := fun k => h ⟨c, k⟩
      rw [decide_eq_true c, decide_eq_false c2, if_neg (by simp)]
      exact e
    · rw [decide_eq_false c, if_pos (by simp)]
      exact e
end Go.Proofs.YtilpgjoidgfbiaaGreat
