/- Plain: the reference's logarithm. -/
import Derived.Test.YtafmpnilgknfhaaWf
namespace Go.Proofs.Ytafmpnilgknfhaa
open Vm
set_option linter.unusedVariables false
theorem half_floor (s : Int) : s.tdiv 2 = (if s < 0 ∧ s.tmod 2 ≠ 0 then s / 2 + 1 else s / 2) := by
  by_cases h : 0 ≤ s
  · rw [tdiv_nn h, if_neg (by omega)]
  · obtain ⟨n, rfl⟩ : ∃ n : Int, s = -n := ⟨-s, by omega⟩
    rw [Int.neg_tdiv, Int.neg_tmod, tdiv_nn (by omega), tmod_nn (by omega)]
    split <;> omega
theorem r25_power {k : Nat} (hk : k ≤ 300) : rl_ref25_power (k : Int) = some (nat32 ((2 ^ k : Nat) : Int)) := by
  unfold rl_ref25_power
  have pl : ((2 ^ k : Nat) : Int) < bp 64 := b64_pow (k := k + 1) (Nat.pow_lt_pow_right (by decide) (by omega)) (by omega)
  have tl : (2 : Int) < bp 64 := b64_pow (v := 2) (k := 2) (by decide) (by decide)
  have e : (2 : Int) ^ k = ((2 ^ k : Nat) : Int) := by rw [Int.natCast_pow]; rfl
  rw [rl_ref10_fromInt_eq (by decide), if_neg (by decide), bind2_pure, ref10_power_eq (nat32_u32 (by decide)) (nlen (by decide) tl)]
  unfold powS
  rw [if_pos ((vn_iff (by decide)).2 tl), if_neg (show ¬ ((k : Int) < 0 ∨ (k : Int) > 4096) by omega), nat32_val (by decide), Int.toNat_natCast, e, nlim pl, bind2_pure]
theorem r25_pow16 {n : Nat} (h1 : n ≤ 65536) : rl_ref10_Power (nat32 (n : Int)) 16 = some (nat32 ((n ^ 16 : Nat) : Int), 0) := by
  have n0 : (0 : Int) ≤ n := Int.natCast_nonneg _
  have nl : (n : Int) < bp 64 := b64_pow (k := 17) (by omega) (by decide)
  rw [ref10_power_eq (nat32_u32 n0) (nlen n0 nl)]
  unfold powS
  rw [if_pos ((vn_iff n0).2 nl), if_neg (by decide), nat32_val n0, show (16 : Int).toNat = 16 from rfl, ← Int.natCast_pow, nlim (b64_pow (k := 257) (pow16_lt h1) (by decide))]
theorem r25_mul {v k : Nat} (hv : v < 2 ^ 258) (hk : k ≤ 300) : rl_ref10_Mul (nat32 (v : Int)) (nat32 ((2 ^ k : Nat) : Int)) = some (nat32 ((v * 2 ^ k : Nat) : Int), 0) ∧ ((v * 2 ^ k : Nat) : Int) < bp 64 := by
  have v0 : (0 : Int) ≤ v := Int.natCast_nonneg _
  have p0 : (0 : Int) ≤ ((2 ^ k : Nat) : Int) := Int.natCast_nonneg _
  have pl : ((2 ^ k : Nat) : Int) < bp 64 := b64_pow (k := k + 1) (Nat.pow_lt_pow_right (by decide) (by omega)) (by omega)
  have vl : (v : Int) < bp 64 := b64_pow (k := 258) hv (by decide)
  have hm : v * 2 ^ k < 2 ^ (258 + k) := mulp (m := 258) hv
  have ml : ((v * 2 ^ k : Nat) : Int) < bp 64 := b64_pow hm (by omega)
  refine ⟨?_, ml⟩
  rw [ref10_mul_eq (nat32_u32 v0) (nat32_u32 p0) (nlen v0 vl) (nlen p0 pl), mulS_nat v0 p0 vl pl, ← Int.natCast_mul, nlim ml]
theorem r25_cmp {x y : Nat} (hx : (x : Int) < bp 64) (hy : (y : Int) < bp 64) : rl_ref25_least_k1 (nat32 (y : Int)) (nat32 (x : Int)) = some (decide (x ≤ y)) := by
  unfold rl_ref25_least_k1
  have x0 : (0 : Int) ≤ x := Int.natCast_nonneg _
  have y0 : (0 : Int) ≤ y := Int.natCast_nonneg _
  have l1 := nlen x0 hx
  have l2 := nlen y0 hy
  rw [ref10_compare_eq (nat32_u32 x0) (nat32_u32 y0) (by omega) (by omega), bind1_pure, nat32_val x0, nat32_val y0]
  congr 1
  unfold ordI
  by_cases h : x ≤ y
  · rw [decide_eq_true h]
    split
    · rfl
    · rw [if_neg (by omega)]; rfl
  · rw [decide_eq_false h, if_neg (by omega), if_pos (by omega)]; rfl
theorem r25_least {n d : Nat} (n1 : n ≤ 65536) (d1 : d ≤ 65536) {x : Int} (x0 : -257 ≤ x) (x1 : x ≤ 257) : rl_ref25_least x (n : Int) (d : Int) = some (decide (d ^ 16 * E2 x ≤ n ^ 16 * E2 0)) := by
  unfold rl_ref25_least
  rw [rl_ref10_fromInt_eq (by omega), if_neg (by omega), bind2_pure, rl_ref10_fromInt_eq (by omega), if_neg (by omega), bind2_pure, r25_pow16 n1, bind2_pure, r25_pow16 d1, bind2_pure]
  have la := pow16_lt n1
  have lb := pow16_lt d1
  generalize n ^ 16 = a at *
  generalize d ^ 16 = b at *
  have la2 : a < 2 ^ 258 := Nat.lt_trans la (lt2 (m := 257) (n := 258) (by decide))
  have lb2 : b < 2 ^ 258 := Nat.lt_trans lb (lt2 (m := 257) (n := 258) (by decide))
  by_cases h : 0 ≤ x
  · obtain ⟨k, rfl⟩ := Int.eq_ofNat_of_zero_le h
    obtain ⟨m1, m2⟩ := r25_mul lb2 (k := k) (by omega)
    rw [if_pos (by simp), r25_power (by omega), bind1_pure, m1, bind2_pure, r25_cmp m2 (b64_pow (k := 257) la (by decide))]
    rw [Option.some.injEq, decide_eq_decide]
    have e : E2 (k : Int) = 2 ^ k * E2 0 := by
      unfold E2
      rw [← Nat.pow_add]
      exact congrArg (fun k => 2 ^ k) (by omega)
    rw [e, ← Nat.mul_assoc, Nat.mul_le_mul_right_iff (E2_pos 0)]
  · obtain ⟨k, hk⟩ := Int.eq_ofNat_of_zero_le (show 0 ≤ 0 - x by omega)
    obtain ⟨m1, m2⟩ := r25_mul la2 (k := k) (by omega)
    rw [if_neg (by simp; omega), wi64 (n := 0 - x) (by omega) (by omega), hk, r25_power (by omega), bind1_pure, m1, bind2_pure, r25_cmp (b64_pow (k := 257) lb (by decide)) m2]
    rw [Option.some.injEq, decide_eq_decide]
    have e : E2 0 = 2 ^ k * E2 x := by
      unfold E2
      rw [← Nat.pow_add]
      exact congrArg (fun k => 2 ^ k) (by omega)
    rw [e, ← Nat.mul_assoc, Nat.mul_le_mul_right_iff (E2_pos x)]
theorem isLog.low {a b : Nat} {x : Int} (ha : 0 < a) (hb : b ≤ 2 ^ 256) (h : isLog a b x) : -257 ≤ x := by
  have h1 := h.2.2.2
  have h0 := h.1
  have h2 : 1 * E2 0 ≤ a * E2 0 := Nat.mul_le_mul_right _ ha
  have h3 : b * E2 (x + 1) ≤ 2 ^ 256 * E2 (x + 1) := Nat.mul_le_mul_right _ hb
  have h4 : 2 ^ 256 * E2 (x + 1) = E2 (x + 1 + 256) := by
    unfold E2
    rw [← Nat.pow_add]
    exact congrArg (fun k => 2 ^ k) (by omega)
  have := E2_of_lt (show E2 0 < E2 (x + 1 + 256) by omega)
  omega
theorem r25_log {n d : Nat} (n0 : 1 ≤ n) (n1 : n ≤ 65536) (d0 : 1 ≤ d) (d1 : d ≤ 65536) {x : Int} (hx : isLog (n ^ 16) (d ^ 16) x) (x1 : x ≤ 256) : rl_ref25_Log (n : Int) (d : Int) = some (x, 0) := by
  have pb : 0 < d ^ 16 := Nat.pow_pos d0
  have x0 := hx.low (Nat.pow_pos n0) (pow16_le d1)
  have key : ∀ (f : Nat) (u v : Int), v - u ≤ f → -257 ≤ u → v ≤ 257 → u ≤ x → x < v → loop (fun v : Int × Int => rl_ref25_Log_l2 (n : Int) (d : Int) v.1 v.2) (u, v) = some x := by
    intro f
    induction f with
    | zero => intro u v h1 h2 h3 h4 h5; omega
    | succ f ih =>
      intro u v h1 h2 h3 h4 h5
      by_cases h : v - u > 1
      · obtain ⟨m, hm⟩ : ∃ m : Int, m = (u + v) / 2 := ⟨_, rfl⟩
        have hs : rl_ref25_Log_l2 (n : Int) (d : Int) u v = if m ≤ x then some (.inl (m, v)) else some (.inl (u, m)) := by
          have k3 : rl_ref25_Log_k3 (n : Int) (d : Int) u v m = if m ≤ x then some (.inl (m, v)) else some (.inl (u, m)) := by
            unfold rl_ref25_Log_k3
            rw [r25_least n1 d1 (by omega) (by omega), bind1_pure]
            by_cases c : m ≤ x
            · rw [if_pos c, decide_eq_true ((hx.le pb (by omega)).2 c), if_pos rfl]
            · rw [if_neg c, decide_eq_false (fun k => c ((hx.le pb (by omega)).1 k)), if_neg (by decide)]
          have hf := half_floor (u + v)
          unfold rl_ref25_Log_l2 rl_ref25_Log_k4
          rw [wi64 (n := v - u) (by omega) (by omega), wi64 (n := u + v) (by omega) (by omega), if_pos (by rw [decide_eq_true_eq]; exact h)]
          by_cases c : u + v < 0
          · rw [if_pos (by rw [decide_eq_true_eq]; exact c)]
            by_cases c2 : (u + v).tmod 2 = 0
            · rw [if_neg (by simp [c2])]
              rw [if_neg (fun k => k.2 c2)] at hf
              rw [hf, wi64 (by omega) (by omega), ← hm, k3]
            · rw [if_pos (by simpa using c2)]
              rw [if_pos ⟨c, c2⟩] at hf
              rw [hf, wi64 (n := (u + v) / 2 + 1) (by omega) (by omega), bind1_pure, wi64 (by omega) (by omega), show (u + v) / 2 + 1 - 1 = m by omega, k3]
          · rw [if_neg (by rw [decide_eq_true_eq]; exact c), if_neg (by decide)]
            rw [if_neg (fun k => c k.1)] at hf
            rw [hf, wi64 (by omega) (by omega), ← hm, k3]
        by_cases c : m ≤ x
        · rw [if_pos c] at hs
          rw [loop_next hs]
          exact ih m v (by omega) (by omega) h3 c h5
        · rw [if_neg c] at hs
          rw [loop_next hs]
          exact ih u m (by omega) h2 (by omega) h4 (by omega)
      · have hs : rl_ref25_Log_l2 (n : Int) (d : Int) u v = some (.inr x) := by
          unfold rl_ref25_Log_l2
          rw [wi64 (n := v - u) (by omega) (by omega), if_neg (by rw [decide_eq_true_eq]; exact h), show u = x by omega]
        exact loop_end hs
  unfold rl_ref25_Log rl_ref25_Log_k1
  rw [if_neg (by simp; omega), if_neg (by simp; omega), if_neg (by simp; omega), if_neg (by simp; omega), key 1000 (-257) 257 (by decide) (by decide) (by decide) x0 (by omega)]
  rfl
theorem r25_out {n d : Int} (h : ¬ (1 ≤ n ∧ n ≤ 65536 ∧ 1 ≤ d ∧ d ≤ 65536)) : rl_ref25_Log n d = some (0, 2) := by
  unfold rl_ref25_Log rl_ref25_Log_k1
  by_cases h1 : n < 1
  · rw [if_pos (by simpa using h1), if_pos rfl]
  rw [if_neg (by simpa using h1)]
  by_cases h2 : n > 65536
  · rw [if_pos (by simpa using h2), if_pos rfl]
  rw [if_neg (by simpa using h2)]
  by_cases h3 : d < 1
  · rw [if_pos (by simpa using h3), if_pos rfl]
  rw [if_neg (by simpa using h3), if_pos (by simp; omega)]
theorem log_same : rl_ref25_Log = weight_Log := by
  funext n d
  by_cases h : 1 ≤ n ∧ n ≤ 65536 ∧ 1 ≤ d ∧ d ≤ 65536
  · obtain ⟨a, rfl⟩ := Int.eq_ofNat_of_zero_le (show 0 ≤ n by omega)
    obtain ⟨b, rfl⟩ := Int.eq_ofNat_of_zero_le (show 0 ≤ d by omega)
    obtain ⟨x, h1, h2, h3, h4⟩ := glog a b (by omega) (by omega) (by omega) (by omega)
    rw [h1, r25_log (by omega) (by omega) (by omega) (by omega) h2 h4]
  · rw [wlog_out h, r25_out h]
theorem of_same (m : S_api_Model) : rl_ref25_Of m = weight_Of m := by
  have hl : rl_ref25_Of_l1 m = weight_Of_l1 m := by
    unfold rl_ref25_Of_l1 weight_Of_l1
    rw [log_same]
  unfold rl_ref25_Of weight_Of
  rw [ref24_check_eq, em_check_eq, log_same, hl]
theorem bounds_same (w : S_api_Weights) : rl_ref25_Bounds w = weight_Bounds w := by
  rw [weight_bounds_eq]
  unfold rl_ref25_Bounds
  rw [ref25_check_eq, bind1_pure]
  by_cases h : WV w
  · rw [if_pos h, if_pos h, if_neg (by decide)]
    have hl := h.2.2.1
    have hL : loop (fun v : Int × Int × Int => rl_ref25_Bounds_l1 w v.1 v.2.1 v.2.2) (w.Prior, w.Prior, 0) = some (lowS w w.Agree.length, highS w w.Agree.length) := by
      refine loop_for (fun i => (lowS w i, highS w i, (i : Int))) w.Agree.length _ (fun i hi => ?_) ?_ rfl
      · have s1 := sums_small h (Nat.le_of_lt hi)
        have o1 := in_order w [] i
        have s2 := h.2.2.2.2 i hi
        unfold fits at s2
        simp only [rl_ref25_Bounds_l1]
        rw [if_pos (by simpa using hi), if_pos (by omega), if_pos (by omega), if_pos (by have := h.1; omega)]
        simp only [bind1_pure, Int.toNat_natCast]
        simp only [lowS, highS]
        generalize w.Agree.getD i 0 = a at *
        generalize w.Differ.getD i 0 = d at *
        generalize lowS w i = u at *
        generalize highS w i = v at *
        have m1 : (if (if d < a then d else a) < 0 then (if d < a then d else a) else 0) = min (min a d) 0 := by split <;> split <;> omega
        have m2 : (if (if d > a then d else a) > 0 then (if d > a then d else a) else 0) = max (max a d) 0 := by split <;> split <;> omega
        rw [m1, m2, wi64 (n := u + _) (by omega) (by omega), wi64 (n := v + _) (by omega) (by omega), wi64 (by omega) (by omega)]
        rfl
      · simp only [rl_ref25_Bounds_l1]
        rw [if_neg (by simp)]
    rw [hL]
    rfl
  · rw [if_neg h, if_neg h, if_pos (by decide)]
theorem r25_digits (w : S_api_Weights) (p : Int) : rl_ref25_digits w p = some (if WV w then (if 0 ≤ p ∧ p < ((3 ^ w.Agree.length : Nat) : Int) then (digs w.Agree.length p, 0) else ([], 2)) else ([], 40)) := by
  unfold rl_ref25_digits
  rw [ref25_check_eq, bind1_pure]
  by_cases h : WV w
  · rw [if_pos h, if_pos h, if_neg (by decide), ref17_digits_eq, if_pos ⟨by have := h.2.1; omega, by have := h.2.2.1; omega⟩, Int.toNat_natCast]
    by_cases hp : 0 ≤ p ∧ p < ((3 ^ w.Agree.length : Nat) : Int)
    · rw [if_pos hp]; rfl
    · rw [if_neg hp]; rfl
  · rw [if_neg h, if_neg h]; rfl
theorem score_same (w : S_api_Weights) (p : Int) : rl_ref25_Score w p = weight_Score w p := by
  rw [weight_score_eq]
  unfold rl_ref25_Score
  rw [r25_digits]
  by_cases h : WV w
  · rw [if_pos h, if_pos h]
    have hl := h.2.2.1
    by_cases hp : 0 ≤ p ∧ p < ((3 ^ w.Agree.length : Nat) : Int)
    · rw [if_pos hp, if_pos hp, bind2_pure, if_neg (by decide)]
      have hm := digs_mem w.Agree.length p
      have hd := digs_length w.Agree.length p
      generalize digs w.Agree.length p = ds at *
      have hL : loop (fun v : Int × Int => rl_ref25_Score_l1 w ds v.1 v.2) (w.Prior, 0) = some (scoreS w ds w.Agree.length) := by
        refine loop_for (fun i => (scoreS w ds i, (i : Int))) w.Agree.length _ (fun i hi => ?_) ?_ rfl
        · have s1 := sums_small h (Nat.le_of_lt hi)
          have o1 := in_order w ds i
          have s2 := h.2.2.2.2 i hi
          unfold fits at s2
          have hi2 : i < ds.length := by omega
          have hdl := h.1
          simp only [rl_ref25_Score_l1, rl_ref25_Score_k3, rl_ref25_Score_k2, Int.toNat_natCast, Nat.zero_add, scoreS]
          rw [if_pos (by simpa using hi2), if_pos (by omega), if_pos (by omega)]
          unfold pick
          by_cases c2 : ds.getD i 0 = 2
          · rw [c2, if_pos (by decide), if_pos (by omega), if_pos (by omega), if_pos (by omega), if_neg (by decide), if_pos rfl, wi64 (n := scoreS w ds i + _) (by omega) (by omega), wi64 (by omega) (by omega)]
            rfl
          · rw [if_neg (by simpa using c2), if_pos (by omega), if_pos (by omega), if_neg c2]
            by_cases c1 : ds.getD i 0 = 1
            · rw [c1, if_pos (by decide), if_pos (by omega), if_pos rfl, wi64 (n := scoreS w ds i + _) (by omega) (by omega), wi64 (by omega) (by omega)]
              rfl
            · rw [if_neg (by simpa using c1), if_neg c1, wi64 (by omega) (by omega), Int.add_zero]
              rfl
        · simp only [rl_ref25_Score_l1]
          rw [if_neg (by simp [hd])]
      rw [hL]
      rfl
    · rw [if_neg hp, if_neg hp]
      rfl
  · rw [if_neg h, if_neg h]
    rfl
/-- What the reference's best score has over the score, field by field. -/
def gainS (w : S_api_Weights) (ds : List Int) : Nat → Int
  | 0 => 0
  | n + 1 => gainS w ds n + max (w.Agree.getD n 0 - pick (ds.getD n 0) (w.Agree.getD n 0) (w.Differ.getD n 0)) 0
theorem gain_best (w : S_api_Weights) (ds : List Int) (n : Nat) : scoreS w ds n + gainS w ds n = bestS w ds n := by
  induction n with
  | zero => simp [scoreS, gainS, bestS]
  | succ n ih =>
    simp only [scoreS, gainS, bestS]
    omega
theorem best_same (w : S_api_Weights) (p : Int) : rl_ref25_Best w p = weight_Best w p := by
  rw [weight_best_eq]
  unfold rl_ref25_Best
  rw [r25_digits]
  by_cases h : WV w
  · rw [if_pos h, if_pos h]
    have hl := h.2.2.1
    by_cases hp : 0 ≤ p ∧ p < ((3 ^ w.Agree.length : Nat) : Int)
    · rw [if_pos hp, if_pos hp, bind2_pure, if_neg (by decide), score_same, weight_score_eq, if_pos h, if_pos hp, bind2_pure]
      have hm := digs_mem w.Agree.length p
      have hd := digs_length w.Agree.length p
      generalize digs w.Agree.length p = ds at *
      have hL : loop (fun v : Int × Int => rl_ref25_Best_l1 w ds v.1 v.2) (scoreS w ds w.Agree.length, 0) = some (bestS w ds w.Agree.length) := by
        rw [← gain_best]
        refine loop_for (fun i => (scoreS w ds w.Agree.length + gainS w ds i, (i : Int))) w.Agree.length _ (fun i hi => ?_) ?_ (by simp [gainS])
        · have s1 := sums_small h (Nat.le_of_lt hi)
          have o1 := in_order w ds i
          have s3 := sums_small h (Nat.le_refl w.Agree.length)
          have o3 := in_order w ds w.Agree.length
          have g1 := gain_best w ds i
          have s2 := h.2.2.2.2 i hi
          unfold fits at s2
          have hi2 : i < ds.length := by omega
          have hdl := h.1
          have hx : 0 ≤ ds.getD i 0 ∧ ds.getD i 0 ≤ 2 := hm _ (by rw [List.getD_eq_getElem?_getD, List.getElem?_eq_getElem hi2]; exact List.getElem_mem hi2)
          have hg : rl_ref25_Gain w (i : Int) (ds.getD i 0) = some (w.Agree.getD i 0 - pick (ds.getD i 0) (w.Agree.getD i 0) (w.Differ.getD i 0)) := by
            unfold rl_ref25_Gain pick
            rw [Int.toNat_natCast]
            by_cases c0 : ds.getD i 0 = 0
            · rw [c0, if_pos (by decide), if_pos (by omega), if_pos (by omega), if_neg (by decide), if_neg (by decide), Int.sub_zero]
            · rw [if_neg (by simpa using c0)]
              by_cases c1 : ds.getD i 0 = 1
              · rw [c1, if_pos (by decide), if_pos (by omega), if_pos (by omega), if_pos (by omega), wi64 (by omega) (by omega), bind1_pure, if_neg (by decide), if_pos rfl]
              · rw [if_neg (by simpa using c1), if_pos (show ds.getD i 0 = 2 by omega), Int.sub_self]
          have hk : -131072 ≤ w.Agree.getD i 0 - pick (ds.getD i 0) (w.Agree.getD i 0) (w.Differ.getD i 0) ∧ w.Agree.getD i 0 - pick (ds.getD i 0) (w.Agree.getD i 0) (w.Differ.getD i 0) ≤ 131072 := by
            unfold pick
            split
            · omega
            · split <;> omega
          simp only [rl_ref25_Best_l1, Int.toNat_natCast, Nat.zero_add, gainS]
          rw [if_pos (by simpa using hi2), if_pos (by omega), if_pos (by omega), hg, bind1_pure]
          generalize w.Agree.getD i 0 - pick (ds.getD i 0) (w.Agree.getD i 0) (w.Differ.getD i 0) = k at *
          rw [show (if k > 0 then k else 0) = max k 0 by split <;> omega, ← Int.add_assoc]
          generalize hS : scoreS w ds w.Agree.length = S at *
          rw [wi64 (n := S + gainS w ds i + _) (by omega) (by omega), wi64 (by omega) (by omega)]
          rfl
        · simp only [rl_ref25_Best_l1]
          rw [if_neg (by simp [hd])]
      rw [hL]
      rfl
    · rw [if_neg hp, if_neg hp]
      rfl
  · rw [if_neg h, if_neg h]
    rfl
theorem ints_self {l : List Int} (hl : l.length < 9223372036854775807) : rl_ref25_Ints l l = some true := by
  unfold rl_ref25_Ints
  rw [if_neg (by simp)]
  have hL : loop (fun v : Int => rl_ref25_Ints_l1 l l v) 0 = some (.inl ()) := by
    refine loop_for (fun i => (i : Int)) l.length _ (fun i hi => ?_) ?_ rfl
    · simp only [rl_ref25_Ints_l1, Int.toNat_natCast]
      rw [if_pos (by simpa using hi), if_pos (by omega), if_pos (by omega), if_pos (by omega), if_neg (by simp), wi64 (by omega) (by omega)]
      rfl
    · simp only [rl_ref25_Ints_l1]
      rw [if_neg (by simp)]
  rw [hL]
  rfl
theorem same_self {w : S_api_Weights} (h1 : w.Agree.length < 9223372036854775807) (h2 : w.Differ.length < 9223372036854775807) : rl_ref25_Same w w = some true := by
  unfold rl_ref25_Same rl_ref25_Same_k1
  rw [if_pos (by simp), ints_self h1, bind1_pure, if_pos rfl, ints_self h2, bind1_pure]
theorem of_both (m : S_api_Model) : ∃ w e, weight_Of m = some (w, e) ∧ rl_ref25_Of m = some (w, e) ∧ rl_ref25_Same w w = some true := by
  by_cases h : MV m
  · obtain ⟨w, h1, h2, h3, _⟩ := of_yes h
    have h4 := h2.1
    have h5 := h2.2.2.1
    exact ⟨w, 0, h1, by rw [of_same, h1], same_self (by omega) (by omega)⟩
  · have h1 : weight_Of m = some (⟨0, [], []⟩, 18) := by
      unfold weight_Of
      rw [em_check_eq, if_neg h, bind1_pure, if_pos (by decide)]
    exact ⟨_, _, h1, by rw [of_same, h1], same_self (by decide) (by decide)⟩
theorem bent_yes {d : S_recordlinkmake_Deck} (h : DeckOk d) {n : Nat} (h1 : 1 ≤ n) (h2 : n ≤ 5) : ∃ w d', rl_play_BentWeights d (n : Int) = some (w, d') ∧ DeckOk d' := by
  unfold rl_play_BentWeights
  obtain ⟨w, d1, he, wl, wv, hd1⟩ := weights_yes h h1 h2
  rw [he]; clear he; first | rw [bind2_pure] | rw [bind3_pure] | rw [bind4_pure] | rw [bind1_pure]
  obtain ⟨k, d2, he, k0, k1, hd2⟩ := next_yes hd1 (n := 8) (by decide) (by decide)
  rw [he]; clear he; first | rw [bind2_pure] | rw [bind3_pure] | rw [bind4_pure] | rw [bind1_pure]
  have hdl := wv.1
  have k1 : ∀ (d3 : S_recordlinkmake_Deck) (p : Int) (m : Nat) (l : List Int), DeckOk d3 → m ≤ w.Agree.length → ∃ w' d', rl_play_BentWeights_k1 w d3.list d3.at_ d3.state p m l = some (w', d') ∧ DeckOk d' := by
    intro d3 p m l hd3 hm
    unfold rl_play_BentWeights_k1
    rw [if_pos hm]
    exact ⟨_, _, rfl, hd3⟩
  by_cases c0 : k = 0
  · rw [if_pos (by simpa using c0), wi64 (by omega) (by omega)]
    obtain ⟨x, d3, he, x0, x1, hd3⟩ := next_yes hd2 (n := ((w.Agree.length : Nat) : Int) + 1) (by omega) (by omega)
    rw [he]; clear he; first | rw [bind2_pure] | rw [bind3_pure] | rw [bind4_pure] | rw [bind1_pure]
    rw [if_pos x0, if_pos (by omega)]
    exact k1 _ _ _ _ hd3 (by omega)
  rw [if_neg (by simpa using c0)]
  by_cases c1 : k = 1
  · rw [if_pos (by simpa using c1)]
    obtain ⟨x, d3, he, x0, x1, hd3⟩ := next_yes hd2 (n := 3) (by decide) (by decide)
    rw [he]; clear he; first | rw [bind2_pure] | rw [bind3_pure] | rw [bind4_pure] | rw [bind1_pure]
    rw [if_pos x0, if_pos (by simp; omega)]
    exact k1 _ _ _ _ hd3 (Nat.le_refl _)
  rw [if_neg (by simpa using c1)]
  by_cases c2 : k = 2
  · rw [if_pos (by simpa using c2), if_pos (by simp; omega)]
    obtain ⟨x, d3, he, x0, x1, hd3⟩ := next_yes hd2 (n := ((w.Differ.length : Nat) : Int)) (by omega) (by omega)
    rw [he]; clear he; first | rw [bind2_pure] | rw [bind3_pure] | rw [bind4_pure] | rw [bind1_pure]
    obtain ⟨y, d4, he, y0, y1, hd4⟩ := next_yes hd3 (n := 3) (by decide) (by decide)
    rw [he]; clear he; first | rw [bind2_pure] | rw [bind3_pure] | rw [bind4_pure] | rw [bind1_pure]
    rw [if_pos y0, if_pos (by simp; omega), if_pos x0, if_pos (by omega)]
    exact k1 _ _ _ _ hd4 (Nat.le_refl _)
  rw [if_neg (by simpa using c2)]
  exact k1 _ _ _ _ hd2 (Nat.le_refl _)
end Go.Proofs.Ytafmpnilgknfhaa
