/- Natural numbers: the reference's division, bit by bit. -/
import Derived.Test.YtilpgjoidgfbiaaGreatBw
import Derived.Test.YtilpgjoidgfbiaaGreatQe
import Derived.Test.YtilpgjoidgfbiaaGreatQg
import Derived.Test.YtilpgjoidgfbiaaGreatQk
namespace Go.Proofs.YtilpgjoidgfbiaaGreat
set_option linter.unusedVariables false
set_option linter.unusedSimpArgs false
open Vm
/-- a power of two -/
def pw (k : Nat) : Int := ((2 ^ k : Nat) : Int)
theorem pw_pos (k : Nat) : 0 < pw k := by
  unfold pw
  have : 1 ≤ 2 ^ k := Nat.pow_pos (by decide)
  omega
theorem pw_succ (k : Nat) : pw (k + 1) = 2 * pw k := by
  unfold pw; rw [Nat.pow_succ]; omega
theorem pw_add (j k : Nat) : pw (j + k) = pw j * pw k := by
  unfold pw; rw [Nat.pow_add, Int.natCast_mul]
theorem pw_bp (i : Nat) : pw (32 * i) = bp i := by
  induction i with
  | zero => rfl
  | succ i ih =>
    rw [show 32 * (i + 1) = 32 + 32 * i by omega, pw_add, ih]
    show 4294967296 * bp i = bp (i + 1)
    simp only [bp]
theorem pw_split (j : Nat) : pw j = bp (j / 32) * pw (j % 32) := by
  rw [← pw_bp, ← pw_add, show 32 * (j / 32) + j % 32 = j by omega]
theorem pw_part {m : Nat} (h : m ≤ 31) : 4294967296 = 2 * pw (31 - m) * pw m := by
  rw [Int.mul_assoc, ← pw_add, ← pw_succ, show 31 - m + m + 1 = 32 by omega]; rfl
theorem pw_half (x : Int) (j : Nat) : x / pw j = 2 * (x / pw (j + 1)) + x / pw j % 2 := by
  have : x / pw (j + 1) = x / pw j / 2 := by
    rw [pw_succ, Int.mul_comm, ← Int.ediv_ediv_of_nonneg (Int.le_of_lt (pw_pos j))]
  omega
theorem val_bit {a : List Int} (ha : U32 a) {j : Nat} (hi : j / 32 < a.length) : val a / pw j % 2 = a.getD (j / 32) 0 / pw (j % 32) % 2 := by
  have hb := bp_pos (j / 32)
  have hP := pw_pos (j % 32)
  have hp := pw_part (show j % 32 ≤ 31 by omega)
  have h1 := val_lt (ha.take (j / 32))
  have h0 := val_nonneg (ha.take (j / 32))
  have hl : (a.take (j / 32)).length = j / 32 := by rw [List.length_take]; omega
  rw [hl] at h1
  rw [pw_split, ← Int.ediv_ediv_of_nonneg (Int.le_of_lt hb), val_split a (Nat.le_of_lt hi), Int.add_mul_ediv_left _ _ (by omega), Int.ediv_eq_zero_of_lt h0 h1, Int.zero_add, val_drop hi]
  generalize val (a.drop (j / 32 + 1)) = R
  generalize a.getD (j / 32) 0 = g
  rw [hp, show g + 2 * pw (31 - j % 32) * pw (j % 32) * R = g + pw (j % 32) * (2 * (pw (31 - j % 32) * R)) by grind, Int.add_mul_ediv_left _ _ (by omega)]
  omega
theorem bp_succ (n : Nat) : bp (n + 1) = 4294967296 * bp n := by simp only [bp]
theorem or_bit : ∀ (m x : Nat), x / 2 ^ m % 2 = 0 → x ||| 2 ^ m = x + 2 ^ m := by
  intro m
  induction m with
  | zero =>
    intro x h
    have h1 : (x ||| 2 ^ 0) / 2 = x / 2 := by rw [Nat.or_div_two]; simp
    have h2 : (x ||| 2 ^ 0) % 2 = 1 := Nat.or_mod_two_eq_one.2 (.inr rfl)
    simp only [Nat.pow_zero, Nat.div_one] at h h1 h2 ⊢
    omega
  | succ m ih =>
    intro x h
    have hh := ih (x / 2) (by rw [Nat.div_div_eq_div_mul, Nat.mul_comm, ← Nat.pow_succ]; exact h)
    have h1 : (x ||| 2 ^ (m + 1)) / 2 = x / 2 + 2 ^ m := by
      rw [Nat.or_div_two, Nat.pow_succ, Nat.mul_div_cancel _ (by decide)]; exact hh
    have h2 : (x ||| 2 ^ (m + 1)) % 2 = 1 ↔ x % 2 = 1 := by
      rw [Nat.or_mod_two_eq_one, Nat.pow_succ]
      omega
    rw [Nat.pow_succ] at h1 h2 ⊢
    omega
theorem setbit {g : Int} {m : Nat} (hm : m ≤ 31) (h0 : 0 ≤ g) (h1 : g < 4294967296) (h : g / pw m % 2 = 0) : ior .u32 g (ishl .u32 1 (m : Int)) = g + pw m ∧ g + pw m < 4294967296 := by
  have hp := pow_le31 hm
  rw [shl_u32 _ (show m ≤ 32 by omega), Int.one_mul, Int.emod_eq_of_lt (by omega) (by omega)]
  obtain ⟨g, rfl⟩ := nat_of h0
  have hx : g / 2 ^ m % 2 = 0 := by
    unfold pw at h
    rw [← Int.natCast_ediv] at h
    omega
  rw [bor_u32 (by omega) (by omega), or_bit m g hx]
  have hlt : g ||| 2 ^ m < 2 ^ 32 := Nat.or_lt_two_pow (by omega) (by omega)
  rw [or_bit m g hx] at hlt
  unfold pw
  omega
theorem ref10_divmod_loop {a b : List Int} (ha : U32 a) (hb : Canon b) (hb0 : 0 < val b) (la : a.length ≤ 1000) (lb : b.length ≤ 1000) : ∃ t, loop (fun v : List Int × List Int × Int => rl_ref10_DivMod_l2 a b v.1 v.2.1 v.2.2) (List.replicate a.length 0, [], 32 * (a.length : Int) - 1) = some t ∧ trimL t.1 = nat32 (val a / val b) ∧ t.1.length = a.length ∧ t.2 = nat32 (val a % val b) := by
  have hbl := val_lt hb.1
  have hb1 : val b < bp 1000 := by have := bp_le lb; omega
  refine loop_of (step := fun v : List Int × List Int × Int => rl_ref10_DivMod_l2 a b v.1 v.2.1 v.2.2)
    (fun v => ∃ (k : Nat) (q r : Int), v.2.2 = (k : Int) - 1 ∧ k ≤ 32 * a.length ∧ U32 v.1 ∧ v.1.length = a.length ∧ v.2.1 = nat32 r ∧ 0 ≤ r ∧ r < val b ∧ 0 ≤ q ∧ val v.1 = q * pw k ∧ q * val b + r = val a / pw k) (fun v => (v.2.2 + 1).toNat) (fun t => trimL t.1 = nat32 (val a / val b) ∧ t.1.length = a.length ∧ t.2 = nat32 (val a % val b)) ?_ (List.replicate a.length 0, [], 32 * (a.length : Int) - 1)
    ⟨32 * a.length, 0, 0, by simp, Nat.le_refl _, U32.rep _, by simp, rfl, Int.le_refl _, hb0, Int.le_refl _, by simp [val_rep], by
      rw [pw_bp, Int.ediv_eq_zero_of_lt (val_nonneg ha) (val_lt ha)]; simp⟩
  rintro ⟨Q, R, k1⟩ ⟨k, q, r, e1, e2, e3, e4, e5, e6, e7, e8, e9, e10⟩
  simp only at e1 e2 e3 e4 e5 e9
  subst e1; subst e5
  simp only [rl_ref10_DivMod_l2]
  cases k with
  | zero =>
    right
    refine ⟨(Q, nat32 r), by rw [if_neg (by simp)], ?_, e4, ?_⟩
    · rw [show pw 0 = 1 from rfl, Int.mul_one] at e9
      rw [show pw 0 = 1 from rfl, Int.ediv_one] at e10
      rw [trimL_nat e3, e9, ← e10, Int.add_comm, Int.add_mul_ediv_right _ _ (by omega), Int.ediv_eq_zero_of_lt e6 e7, Int.zero_add]
    · rw [show pw 0 = 1 from rfl, Int.ediv_one] at e10
      simp only
      rw [← e10, Int.add_comm, Int.add_mul_emod_self_right, Int.emod_eq_of_lt e6 e7]
  | succ j =>
    left
    have hi : j / 32 < a.length := by omega
    have hm : j % 32 ≤ 31 := by omega
    have hbit := val_bit ha hi
    have hg := ha.get (j / 32)
    have hhalf := pw_half (val a) j
    have hqb : val Q / pw j % 2 = 0 := by
      rw [e9, pw_succ, show q * (2 * pw j) = pw j * (2 * q) by grind, Int.mul_ediv_cancel_left _ (by have := pw_pos j; omega)]
      omega
    rw [val_bit e3 (by omega)] at hqb
    have hQ := e3.get (j / 32)
    obtain ⟨s1, s2⟩ := setbit hm hQ.1 hQ.2 hqb
    have hP := pw_pos (j % 32)
    have hsplit := pw_split j
    have r1000 : r < bp 1000 := by omega
    have rl : (nat32 r).length ≤ 1000 := nat32_len_le e6 r1000
    have r2 : (nat32 (r + r)).length ≤ 1001 := nat32_len_le (by omega) (bp_sum r1000 r1000)
    have r3 : (nat32 (r + r + 1)).length ≤ 1001 := nat32_len_le (by omega) (by rw [bp_succ 1000]; omega)
    have d1 : IntKind.i64.wrap (Int.tdiv ((j + 1 : Nat) - 1 : Int) 32) = ((j / 32 : Nat) : Int) := by
      rw [show (((j + 1 : Nat) : Int) - 1) = (j : Int) by omega, Int.tdiv_eq_ediv_of_nonneg (by omega), wi64 (by omega) (by omega)]; omega
    have d2 : Int.tmod ((j + 1 : Nat) - 1 : Int) 32 = ((j % 32 : Nat) : Int) := by
      rw [show (((j + 1 : Nat) : Int) - 1) = (j : Int) by omega, Int.tmod_eq_emod_of_nonneg (by omega)]; omega
    have key : ∀ x : Int, x = r + r + val a / pw j % 2 → (nat32 x).length ≤ 1001 → ∃ s', rl_ref10_DivMod_k4 b Q (((j + 1 : Nat) : Int) - 1) (nat32 x) = some (.inl s') ∧ (∃ (k : Nat) (q r : Int), s'.2.2 = (k : Int) - 1 ∧ k ≤ 32 * a.length ∧ U32 s'.1 ∧ s'.1.length = a.length ∧ s'.2.1 = nat32 r ∧ 0 ≤ r ∧ r < val b ∧ 0 ≤ q ∧ val s'.1 = q * pw k ∧ q * val b + r = val a / pw k) ∧ (s'.2.2 + 1).toNat < ((((j + 1 : Nat) : Int) - 1) + 1).toNat := by
      intro x hx hxl
      have x0 : 0 ≤ x := by omega
      unfold rl_ref10_DivMod_k4
      rw [ref10_compare_eq (nat32_u32 x0) hb.1 (by omega) (by omega), bind1_pure, nat32_val x0]
      by_cases c : val b ≤ x
      · rw [if_pos (by have : ¬ ordI x (val b) < 0 := fun h => by have := ordI_neg.1 h; omega
                       simp only [decide_eq_true_eq]; omega), ref10_less_eq (nat32_u32 x0) hb (by omega) (by omega) (by rw [nat32_val x0]; exact c), bind1_pure, nat32_val x0, d1, d2, if_pos (by omega), if_pos (by omega), if_pos (by omega), Nat.zero_add, Int.toNat_natCast, s1]
        simp only [rl_ref10_DivMod_k3]
        rw [wi64 (by omega) (by omega)]
        refine ⟨_, rfl, ⟨j, 2 * q + 1, x - val b, by simp only; omega, by omega, e3.set _ ⟨by omega, s2⟩, by simp only [List.length_set]; exact e4, rfl, by omega, by omega, by omega, ?_, by grind⟩, by simp only; omega⟩
        simp only
        rw [val_set (by omega), e9, pw_succ, hsplit]
        grind
      · rw [if_neg (by have : ordI x (val b) < 0 := ordI_neg.2 (by omega)
                       simp only [decide_eq_true_eq]; omega)]
        simp only [rl_ref10_DivMod_k3]
        rw [wi64 (by omega) (by omega)]
        refine ⟨_, rfl, ⟨j, 2 * q, x, by simp only; omega, by omega, e3, e4, rfl, by omega, by omega, by omega, ?_, by grind⟩, by simp only; omega⟩
        simp only
        rw [e9, pw_succ]
        grind
    rw [if_pos (by simp only [decide_eq_true_eq]; omega), ref10_sum_eq (nat32_u32 e6) (nat32_u32 e6) (by omega) (by omega), bind1_pure, nat32_val e6, d1, d2, if_pos (by omega), if_pos (by omega), if_pos (by omega), Int.toNat_natCast, shr_eqN .u32 _ (show j % 32 ≤ 32 by omega), one_u32 (Int.ediv_nonneg hg.1 (by have := pow_le31 hm; omega)) (by
      have := pow_le31 hm
      exact Int.lt_of_le_of_lt (Int.ediv_le_self _ hg.1) hg.2)]
    have hbit' : a.getD (j / 32) 0 / ((2 ^ (j % 32) : Nat) : Int) % 2 = val a / pw j % 2 := hbit.symm
    rw [hbit']
    by_cases c : val a / pw j % 2 = 1
    · rw [if_pos (by simpa using c), ref10_sum_eq (nat32_u32 (by omega)) (U32.cons (by decide) U32.nil) (by omega) (by simp), bind1_pure, nat32_val (by omega), show val [1] = 1 from rfl]
      exact key (r + r + 1) (by omega) r3
    · rw [if_neg (by simpa using c)]
      exact key (r + r) (by omega) r2
theorem ref10_divmod_eq {a b : List Int} (ha : U32 a) (hb : U32 b) (la : a.length < 100000) (lb : b.length < 100000) : rl_ref10_DivMod a b = some (divS a b) := by
  unfold rl_ref10_DivMod
  rw [rl_ref10_valid_eq (by omega), rl_ref10_valid_eq (by omega), bind1_pure, bind1_pure]
  by_cases h : VN a ∧ VN b
  · have e : rl_ref10_DivMod_k1 a b false = some (divS a b) := by
      unfold rl_ref10_DivMod_k1 divS
      rw [if_neg (by simp), if_pos h]
      by_cases c : b = []
      · subst c
        rw [if_pos (by simp), if_pos rfl]
      · have hbl : b.length ≠ 0 := fun e => c (List.length_eq_zero_iff.1 e)
        have hc := h.2.canon hb
        have h1 := h.1.1
        have h2 := h.2.1
        rw [if_neg (by simp only [beq_iff_eq]; omega), if_neg c, if_pos (by omega), if_pos (by omega), bind1_pure, wi64 (n := 32 * (a.length : Int)) (by omega) (by omega), wi64 (by omega) (by omega), Int.toNat_natCast]
        obtain ⟨⟨t1, t2⟩, k1, k2, k3, k4⟩ := ref10_divmod_loop ha hc (hc.pos c) (by omega) (by omega)
        rw [k1, bind2_pure, rl_ref10_trim_eq (by simp only at k3; omega), bind1_pure]
        simp only at k2 k4
        rw [k2, k4]
    rw [decide_eq_true h.1, decide_eq_true h.2, if_neg (by simp)]
    exact e
  · have e : rl_ref10_DivMod_k1 a b true = some (divS a b) := by
      unfold rl_ref10_DivMod_k1 divS
      rw [if_pos rfl, if_neg h]
    by_cases c : VN a
    · have c2 : ¬ VN b := fun k => h ⟨c, k⟩
      rw [decide_eq_true c, decide_eq_false c2, if_neg (by simp)]
      exact e
    · rw [decide_eq_false c, if_pos (by simp)]
      exact e
end Go.Proofs.YtilpgjoidgfbiaaGreat
