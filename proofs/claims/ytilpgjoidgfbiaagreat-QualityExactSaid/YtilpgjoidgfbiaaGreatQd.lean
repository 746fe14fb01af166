/- Natural numbers: products. -/
import Derived.Test.YtilpgjoidgfbiaaGreatQc
namespace Go.Proofs.YtilpgjoidgfbiaaGreat
set_option linter.unusedVariables false
set_option linter.unusedSimpArgs false
open Vm
theorem prod_lt {x y u c : Int} (hx : 0 ≤ x ∧ x < 4294967296) (hy : 0 ≤ y ∧ y < 4294967296) (hu : 0 ≤ u ∧ u < 4294967296) (hc : 0 ≤ c ∧ c < 4294967296) : 0 ≤ x * y ∧ x * y ≤ 18446744065119617025 ∧ x * y + u + c < 18446744073709551616 := by
  have h1 : 0 ≤ x * y := Int.mul_nonneg hx.1 hy.1
  have h2 : x * y ≤ 4294967295 * 4294967295 := Int.mul_le_mul (by omega) (by omega) hy.1 (by omega)
  exact ⟨h1, by omega, by omega⟩
theorem mul_inner {step : List Int × Int × Int → Option ((List Int × Int × Int) ⊕ (List Int × Int))} {x : Int} {b : List Int} {i n : Nat} (hx : 0 ≤ x ∧ x < 4294967296) (hb : U32 b) (hin : i + b.length < n) (hn : n < 1000000)
    (hs : ∀ (j : Nat) (out : List Int) (c : Int), j < b.length → out.length = n → (0 ≤ out.getD (i + j) 0 ∧ out.getD (i + j) 0 < 4294967296) → 0 ≤ c → c < 4294967296 → step (out, c, (j : Int)) = some (.inl (out.set (i + j) ((x * b.getD j 0 + out.getD (i + j) 0 + c) % 4294967296), (x * b.getD j 0 + out.getD (i + j) 0 + c) / 4294967296, ((j + 1 : Nat) : Int))))
    (he : ∀ (out : List Int) (c : Int), step (out, c, (b.length : Int)) = some (.inr (out, c))) {out0 : List Int} (h0 : U32 out0) (hl : out0.length = n) :
    ∃ out c, loop step (out0, 0, 0) = some (out, c) ∧ U32 out ∧ out.length = n ∧ 0 ≤ c ∧ c < 4294967296 ∧ val out + c * bp (i + b.length) = val out0 + x * val b * bp i ∧ ∀ k, i + b.length ≤ k → out.getD k 0 = out0.getD k 0 := by
  obtain ⟨⟨out, c⟩, h1, h2⟩ := loop_inv (step := step) b.length
    (fun j v => v.2.2 = (j : Int) ∧ U32 v.1 ∧ v.1.length = n ∧ 0 ≤ v.2.1 ∧ v.2.1 < 4294967296 ∧ val v.1 + v.2.1 * bp (i + j) = val out0 + x * val (b.take j) * bp i ∧ ∀ k, i + b.length ≤ k → v.1.getD k 0 = out0.getD k 0)
    (fun t => U32 t.1 ∧ t.1.length = n ∧ 0 ≤ t.2 ∧ t.2 < 4294967296 ∧ val t.1 + t.2 * bp (i + b.length) = val out0 + x * val b * bp i ∧ ∀ k, i + b.length ≤ k → t.1.getD k 0 = out0.getD k 0) (by
    rintro j hj ⟨out, c, k⟩ ⟨g0, g1, g2, g3, g4, g5, g6⟩
    simp only at g0 g1 g2 g3 g4 g5 g6
    subst g0
    left
    have gb := hb.get j
    have go := g1.get (i + j)
    have vb := val_takeA b j
    have hp := prod_lt hx gb go ⟨g3, g4⟩
    refine ⟨_, hs j out c hj g2 go g3 g4, rfl, g1.set _ (by omega), by simp only [List.length_set]; exact g2, by simp only; omega, by simp only; omega, ?_, ?_⟩
    · simp only
      rw [val_set (by omega), vb, show i + (j + 1) = (i + j) + 1 by omega, bp, bp_add i j]
      rw [bp_add i j] at g5
      have : (x * b.getD j 0 + out.getD (i + j) 0 + c) % 4294967296 = (x * b.getD j 0 + out.getD (i + j) 0 + c) - 4294967296 * ((x * b.getD j 0 + out.getD (i + j) 0 + c) / 4294967296) := by omega
      rw [this]
      generalize (x * b.getD j 0 + out.getD (i + j) 0 + c) / 4294967296 = q
      grind
    · intro k hk
      simp only
      rw [getD_set (by omega), if_neg (by omega)]
      exact g6 k hk) (by
    rintro ⟨out, c, k⟩ ⟨g0, g1, g2, g3, g4, g5, g6⟩
    simp only at g0 g1 g2 g3 g4 g5 g6
    subst g0
    rw [List.take_length] at g5
    exact ⟨_, he out c, g1, g2, g3, g4, g5, g6⟩) (s := (out0, 0, 0)) ⟨rfl, h0, hl, Int.le_refl 0, by simp, by simp [val], fun k _ => rfl⟩
  exact ⟨out, c, h1, h2⟩
theorem mul_outer {step : List Int × Int → Option ((List Int × Int) ⊕ List Int)} {a b : List Int} (ha : U32 a) (hb : U32 b)
    (hs : ∀ (i : Nat) (out : List Int), i < a.length → U32 out → out.length = a.length + b.length → ∃ out' c, U32 out' ∧ out'.length = a.length + b.length ∧ 0 ≤ c ∧ c < 4294967296 ∧ val out' + c * bp (i + b.length) = val out + a.getD i 0 * val b * bp i ∧ (∀ k, i + b.length ≤ k → out'.getD k 0 = out.getD k 0) ∧ step (out, (i : Int)) = some (.inl (out'.set (i + b.length) c, ((i + 1 : Nat) : Int))))
    (he : ∀ out : List Int, step (out, (a.length : Int)) = some (.inr out)) : ∃ out, loop step (List.replicate (a.length + b.length) 0, 0) = some out ∧ U32 out ∧ out.length = a.length + b.length ∧ val out = val a * val b := by
  refine loop_inv (step := step) a.length (fun i v => v.2 = (i : Int) ∧ U32 v.1 ∧ v.1.length = a.length + b.length ∧ val v.1 = val (a.take i) * val b ∧ ∀ k, i + b.length ≤ k → v.1.getD k 0 = 0) _ ?_ ?_ (s := (List.replicate (a.length + b.length) 0, 0)) ⟨rfl, U32.rep _, by simp, by simp [val_rep, val], fun k _ => ?_⟩
  · rintro i hi ⟨out, k⟩ ⟨g0, g1, g2, g3, g4⟩
    simp only at g0 g1 g2 g3 g4
    subst g0
    left
    obtain ⟨out', c, k1, k2, k3, k4, k5, k6, k7⟩ := hs i out hi g1 g2
    refine ⟨_, k7, rfl, k1.set _ ⟨k3, k4⟩, by simp only [List.length_set]; exact k2, ?_, ?_⟩
    · simp only
      rw [val_set (by omega), k6 _ (Nat.le_refl _), g4 _ (Nat.le_refl _), val_take hi]
      grind
    · intro k hk
      simp only
      rw [getD_set (by omega), if_neg (by omega), k6 k (by omega)]
      exact g4 k (by omega)
  · rintro ⟨out, k⟩ ⟨g0, g1, g2, g3, g4⟩
    simp only at g0 g1 g2 g3 g4
    subst g0
    rw [List.take_length] at g3
    exact ⟨_, he out, g1, g2, g3⟩
  · simp only [List.getD_eq_getElem?_getD, List.getElem?_replicate]
    split <;> rfl
theorem natural_times_eq {a b : List Int} (ha : U32 a) (hb : U32 b) (la : a.length < 100000) (lb : b.length < 100000) : natural_times a b = some (nat32 (val a * val b)) := by
  obtain ⟨out, h1, h2, h3, h4⟩ := mul_outer (step := fun v : List Int × Int => natural_times_l1 a b v.1 v.2) ha hb (fun i out hi hu hl => by
    obtain ⟨out', c, k1, k2, k3, k4, k5, k6, k7⟩ := mul_inner (step := fun v : List Int × Int × Int => natural_times_l2 a b i v.1 v.2.1 v.2.2) (x := a.getD i 0) (b := b) (i := i) (n := a.length + b.length) (ha.get i) hb (by omega) (by omega) (fun j out c hj hl hu h0 h1 => by
      have hp := prod_lt (ha.get i) (hb.get j) hu ⟨h0, h1⟩
      have ga := ha.get i
      have gb := hb.get j
      simp only [natural_times_l2, Int.toNat_natCast]
      rw [if_pos (by simpa using hj), if_pos (by omega), if_pos (by omega), wi64 (n := (i : Int) + j) (by omega) (by omega), if_pos (by omega), if_pos (by omega), show ((i : Int) + (j : Int)).toNat = i + j by omega, Nat.zero_add, wu64 (n := a.getD i 0) (by omega) (by omega), wu64 (n := b.getD j 0) (by omega) (by omega), wu64 (n := out.getD (i + j) 0) (by omega) (by omega), wu64 (n := a.getD i 0 * b.getD j 0) (by omega) (by omega)]
      rw [wu64 (n := a.getD i 0 * b.getD j 0 + out.getD (i + j) 0) (by omega) (by omega), wu64 (by omega) (by omega), bind1_pure, wu32_eq, shr32, wi64 (by omega) (by omega), Int.add_comm c]
      rfl) (fun out c => by simp [natural_times_l2]) hu hl
    refine ⟨out', c, k2, k3, k4, k5, k6, k7, ?_⟩
    simp only [natural_times_l1]
    rw [if_pos (by simpa using hi), if_pos (by omega), if_pos (by omega), k1, bind2_pure, wi64 (n := (i : Int) + _) (by omega) (by omega), if_pos (by omega), if_pos (by omega), wu32 k4 k5, wi64 (by omega) (by omega), show ((i : Int) + ((b.length : Nat) : Int)).toNat = i + b.length by omega, Nat.zero_add]
    rfl) (fun out => by simp [natural_times_l1])
  unfold natural_times
  rw [wi64 (by omega) (by omega), if_pos (by omega), if_pos (by omega), show (((a.length : Nat) : Int) + ((b.length : Nat) : Int)).toNat = a.length + b.length by omega, h1, bind1_pure, natural_trim_eq (by omega), bind1_pure, trimL_nat h2, h4]
theorem ref10_product_eq {a b : List Int} (ha : U32 a) (hb : U32 b) (la : a.length < 100000) (lb : b.length < 100000) : rl_ref10_product a b = some (nat32 (val a * val b)) := by
  obtain ⟨out, h1, h2, h3, h4⟩ := mul_outer (step := fun v : List Int × Int => rl_ref10_product_l1 a b v.1 v.2) ha hb (fun i out hi hu hl => by
    obtain ⟨out', c, k1, k2, k3, k4, k5, k6, k7⟩ := mul_inner (step := fun v : List Int × Int × Int => rl_ref10_product_l2 a b i v.1 v.2.1 v.2.2) (x := a.getD i 0) (b := b) (i := i) (n := a.length + b.length) (ha.get i) hb (by omega) (by omega) (fun j out c hj hl hu h0 h1 => by
      have hp := prod_lt (ha.get i) (hb.get j) hu ⟨h0, h1⟩
      have ga := ha.get i
      have gb := hb.get j
      simp only [rl_ref10_product_l2, Int.toNat_natCast]
      rw [if_pos (by simpa using hj), if_pos (by omega), if_pos (by omega), if_pos (by omega), if_pos (by omega), wi64 (n := (i : Int) + j) (by omega) (by omega), if_pos (by omega), if_pos (by omega), show ((i : Int) + (j : Int)).toNat = i + j by omega, Nat.zero_add, wu64 (n := a.getD i 0) (by omega) (by omega), wu64 (n := b.getD j 0) (by omega) (by omega), wu64 (n := out.getD (i + j) 0) (by omega) (by omega), wu64 (n := a.getD i 0 * b.getD j 0) (by omega) (by omega)]
      rw [wu64 (n := a.getD i 0 * b.getD j 0 + out.getD (i + j) 0) (by omega) (by omega), wu64 (by omega) (by omega), bind1_pure, wu32_eq, shr32, wi64 (by omega) (by omega)]
      rfl) (fun out c => by simp [rl_ref10_product_l2]) hu hl
    refine ⟨out', c, k2, k3, k4, k5, k6, k7, ?_⟩
    simp only [rl_ref10_product_l1]
    rw [if_pos (by simpa using hi), k1, bind2_pure, wi64 (n := (i : Int) + _) (by omega) (by omega), if_pos (by omega), if_pos (by omega), wu32 k4 k5, wi64 (by omega) (by omega), show ((i : Int) + ((b.length : Nat) : Int)).toNat = i + b.length by omega, Nat.zero_add]
    rfl) (fun out => by simp [rl_ref10_product_l1])
  unfold rl_ref10_product
  rw [wi64 (by omega) (by omega), if_pos (by omega), if_pos (by omega), show (((a.length : Nat) : Int) + ((b.length : Nat) : Int)).toNat = a.length + b.length by omega, h1, bind1_pure, rl_ref10_trim_eq (by omega), bind1_pure, trimL_nat h2, h4]
def mulS (a b : List Int) : List Int × Int := if VN a ∧ VN b then limN (val a * val b) else ([], 20)
theorem nat32_u32 {v : Int} (h : 0 ≤ v) : U32 (nat32 v) := (nat32_canon h).1
theorem nat32_len_le {v : Int} {n : Nat} (h : 0 ≤ v) (hv : v < bp n) : (nat32 v).length ≤ n := (nat32_len h).2 hv
theorem natural_mul_eq {a b : List Int} (ha : U32 a) (hb : U32 b) (la : a.length < 100000) (lb : b.length < 100000) : natural_Mul a b = some (mulS a b) := by
  unfold natural_Mul mulS
  rw [natural_both_eq (by omega) (by omega), bind1_pure]
  by_cases h : VN a ∧ VN b
  · have hv := Int.mul_nonneg (val_nonneg ha) (val_nonneg hb)
    have hlen : val a * val b < bp (a.length + b.length) := by
      rw [bp_add]
      have h1 := val_lt ha
      have h2 := val_lt hb
      have h3 := val_nonneg ha
      have h4 := val_nonneg hb
      have := bp_pos a.length
      calc val a * val b ≤ val a * bp b.length := Int.mul_le_mul_of_nonneg_left (by omega) h3
        _ < bp a.length * bp b.length := Int.mul_lt_mul_of_pos_right h1 (bp_pos _)
    rw [if_pos h, if_neg (by simp), if_pos h, natural_times_eq ha hb la lb, bind1_pure, natural_done_eq (nat32_u32 hv) (by have := nat32_len_le hv hlen; omega), nat32_val hv]
    rfl
  · rw [if_neg h, if_pos (by simp), if_neg h]
theorem ref10_limited_eq {v : Int} (h : 0 ≤ v) : rl_ref10_limited (nat32 v) = some (limN v) := by
  have := nat32_len (v := v) h (n := 64)
  unfold rl_ref10_limited limN
  by_cases c : v < bp 64
  · rw [if_neg (by simp only [decide_eq_true_eq]; have := this.2 c; omega), if_pos c]
  · rw [if_pos (by simp only [decide_eq_true_eq]; have h2 : ¬ (nat32 v).length ≤ 64 := fun h => c (this.1 h); omega), if_neg c]
theorem ref10_add_eq {a b : List Int} (ha : U32 a) (hb : U32 b) (la : a.length < 100000) (lb : b.length < 100000) : rl_ref10_Add a b = some (addS a b) := by
  have h0 : 0 ≤ val a + val b := by have := val_nonneg ha; have := val_nonneg hb; omega
  unfold rl_ref10_Add rl_ref10_Add_k1 addS
  rw [rl_ref10_valid_eq (by omega), rl_ref10_valid_eq (by omega), bind1_pure, ref10_sum_eq ha hb la lb, bind1_pure, ref10_limited_eq h0]
  by_cases h1 : VN a
  · by_cases h2 : VN b
    · rw [decide_eq_true h1, decide_eq_true h2, if_neg (by simp), if_pos ⟨h1, h2⟩, bind1_pure, if_neg (by simp)]
      rfl
    · rw [decide_eq_true h1, decide_eq_false h2, if_neg (by simp), if_neg (fun h => h2 h.2), bind1_pure, if_pos (by simp)]
  · rw [decide_eq_false h1, if_pos (by simp), if_pos rfl, if_neg (fun h => h1 h.1)]
theorem ref10_mul_eq {a b : List Int} (ha : U32 a) (hb : U32 b) (la : a.length < 100000) (lb : b.length < 100000) : rl_ref10_Mul a b = some (mulS a b) := by
  have h0 := Int.mul_nonneg (val_nonneg ha) (val_nonneg hb)
  unfold rl_ref10_Mul rl_ref10_Mul_k1 mulS
  rw [rl_ref10_valid_eq (by omega), rl_ref10_valid_eq (by omega), bind1_pure, ref10_product_eq ha hb la lb, bind1_pure, ref10_limited_eq h0]
  by_cases h1 : VN a
  · by_cases h2 : VN b
    · rw [decide_eq_true h1, decide_eq_true h2, if_neg (by simp), if_pos ⟨h1, h2⟩, bind1_pure, if_neg (by simp)]
      rfl
    · rw [decide_eq_true h1, decide_eq_false h2, if_neg (by simp), if_neg (fun h => h2 h.2), bind1_pure, if_pos (by simp)]
  · rw [decide_eq_false h1, if_pos (by simp), if_pos rfl, if_neg (fun h => h1 h.1)]
end Go.Proofs.YtilpgjoidgfbiaaGreat
