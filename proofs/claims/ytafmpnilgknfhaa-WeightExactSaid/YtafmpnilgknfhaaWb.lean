/- Plain: the program's logarithm. -/
import Derived.Test.YtafmpnilgknfhaaWa
namespace Go.Proofs.Ytafmpnilgknfhaa
open Vm
set_option linter.unusedVariables false
theorem b64_pow {v : Nat} {k : Nat} (h : v < 2 ^ k) (hk : k ≤ 2048) : (v : Int) < bp 64 := by
  rw [bp_pow]
  have := Nat.pow_le_pow_right (show 0 < 2 by decide) hk
  have e : 32 * 64 = 2048 := by decide
  rw [e]
  omega
theorem nlim {v : Int} (h : v < bp 64) : limN v = (nat32 v, 0) := by unfold limN; rw [if_pos h]
theorem mulp {v k m : Nat} (h : v < 2 ^ m) : v * 2 ^ k < 2 ^ (m + k) := by rw [Nat.pow_add]; exact Nat.mul_lt_mul_of_pos_right h (Nat.pow_pos (by decide))
theorem lt2 {m n : Nat} (h : m < n) : 2 ^ m < 2 ^ n := Nat.pow_lt_pow_right (by decide) h
theorem le2 {m n : Nat} (h : m ≤ n) : 2 ^ m ≤ 2 ^ n := Nat.pow_le_pow_right (by decide) h
theorem mul2 {a b m n k : Nat} (h : a < 2 ^ m) (h1 : b ≤ 2 ^ n) (h2 : m + n < k) : a * b < 2 ^ k := Nat.lt_of_le_of_lt (by rw [Nat.pow_add]; exact Nat.mul_le_mul (Nat.le_of_lt h) h1) (lt2 h2)
theorem pow16_le {n : Nat} (h1 : n ≤ 65536) : n ^ 16 ≤ 2 ^ 256 := Nat.le_trans (Nat.pow_le_pow_left h1 16) (by decide)
theorem pow16_lt {n : Nat} (h1 : n ≤ 65536) : n ^ 16 < 2 ^ 257 := Nat.lt_of_le_of_lt (pow16_le h1) (lt2 (m := 256) (n := 257) (by decide))
theorem wpow_eq {n : Nat} (h1 : n ≤ 65536) : weight_power (n : Int) = some (nat32 ((n ^ 16 : Nat) : Int)) := by
  unfold weight_power
  have n0 : (0 : Int) ≤ n := Int.natCast_nonneg _
  have nl : (n : Int) < bp 64 := b64_pow (k := 17) (by omega) (by decide)
  rw [natural_fromInt_eq (by omega), if_neg (by omega), bind2_pure, natural_power_eq (nat32_u32 n0) (nlen n0 nl)]
  unfold powS
  rw [if_pos ((vn_iff n0).2 nl), if_neg (by decide), nat32_val n0, show (16 : Int).toNat = 16 from rfl, ← Int.natCast_pow, nlim (b64_pow (k := 257) (pow16_lt h1) (by decide)), bind2_pure]
theorem wshift_eq {v k : Nat} (hv : v < 2 ^ 258) (hk : k ≤ 300) : weight_shifted (nat32 (v : Int)) (k : Int) = some (nat32 ((v * 2 ^ k : Nat) : Int)) := by
  unfold weight_shifted
  have v0 : (0 : Int) ≤ v := Int.natCast_nonneg _
  have p0 : (0 : Int) ≤ ((2 ^ k : Nat) : Int) := Int.natCast_nonneg _
  have pl : ((2 ^ k : Nat) : Int) < bp 64 := b64_pow (k := k + 1) (Nat.pow_lt_pow_right (by decide) (by omega)) (by omega)
  have vl : (v : Int) < bp 64 := b64_pow (k := 258) hv (by decide)
  have tl : (2 : Int) < bp 64 := b64_pow (v := 2) (k := 2) (by decide) (by decide)
  have hm : v * 2 ^ k < 2 ^ (258 + k) := mulp (m := 258) hv
  rw [natural_fromInt_eq (by decide), if_neg (by decide), bind2_pure, natural_power_eq (nat32_u32 (by decide)) (nlen (by decide) tl)]
  unfold powS
  have e : (2 : Int) ^ k = ((2 ^ k : Nat) : Int) := by rw [Int.natCast_pow]; rfl
  rw [if_pos ((vn_iff (by decide)).2 tl), if_neg (show ¬ ((k : Int) < 0 ∨ (k : Int) > 4096) by omega), nat32_val (by decide), Int.toNat_natCast, e, nlim pl, bind2_pure, natural_mul_eq (nat32_u32 v0) (nat32_u32 p0) (nlen v0 vl) (nlen p0 pl), mulS_nat v0 p0 vl pl, ← Int.natCast_mul, nlim (b64_pow hm (by omega)), bind2_pure]
theorem log_of {a b sa sb : Nat} (ha : BL a sa) (hb : BL b sb) (l1 : sa ≤ 280) (l2 : sb ≤ 280) : isLog a b (if b * 2 ^ (sa - sb) > a * 2 ^ (sb - sa) then (sa : Int) - sb - 1 else (sa : Int) - sb) := by
  obtain ⟨a1, a2, a3⟩ := ha
  obtain ⟨b1, b2, b3⟩ := hb
  have up : a * E2 0 < b * E2 ((sa : Int) - sb + 1) := by
    have h1 : a * E2 0 < 2 ^ sa * E2 0 := Nat.mul_lt_mul_of_pos_right a3 (E2_pos 0)
    have h2 : 2 ^ (sb - 1) * E2 ((sa : Int) - sb + 1) ≤ b * E2 ((sa : Int) - sb + 1) := Nat.mul_le_mul_right _ b2
    have h3 : 2 ^ (sb - 1) * E2 ((sa : Int) - sb + 1) = 2 ^ sa * E2 0 := by
      unfold E2
      rw [← Nat.pow_add, ← Nat.pow_add]
      congr 1
      omega
    omega
  have low : b * E2 ((sa : Int) - sb - 1) ≤ a * E2 0 := by
    have h1 : 2 ^ (sa - 1) * E2 0 ≤ a * E2 0 := Nat.mul_le_mul_right _ a2
    have h2 : b * E2 ((sa : Int) - sb - 1) ≤ 2 ^ sb * E2 ((sa : Int) - sb - 1) := Nat.mul_le_mul_right _ (Nat.le_of_lt b3)
    have h3 : 2 ^ sb * E2 ((sa : Int) - sb - 1) = 2 ^ (sa - 1) * E2 0 := by
      unfold E2
      rw [← Nat.pow_add, ← Nat.pow_add]
      congr 1
      omega
    omega
  have mid : b * E2 ((sa : Int) - sb) ≤ a * E2 0 ↔ b * 2 ^ (sa - sb) ≤ a * 2 ^ (sb - sa) := by
    have h1 : E2 ((sa : Int) - sb) * 2 ^ (sb - sa) = 2 ^ (sa - sb) * E2 0 := by
      unfold E2
      rw [← Nat.pow_add, ← Nat.pow_add]
      congr 1
      omega
    have p1 : 0 < 2 ^ (sb - sa) := Nat.pow_pos (by decide)
    have p2 := E2_pos 0
    have e1 : b * E2 ((sa : Int) - sb) * 2 ^ (sb - sa) = b * (E2 ((sa : Int) - sb) * 2 ^ (sb - sa)) := by grind
    have e2' : b * 2 ^ (sa - sb) * E2 0 = b * (2 ^ (sa - sb) * E2 0) := by grind
    have e3 : a * E2 0 * 2 ^ (sb - sa) = a * 2 ^ (sb - sa) * E2 0 := by grind
    constructor
    · intro h
      have := Nat.mul_le_mul_right (2 ^ (sb - sa)) h
      rw [e1, h1, ← e2', e3] at this
      exact Nat.le_of_mul_le_mul_right this p2
    · intro h
      have := Nat.mul_le_mul_right (E2 0) h
      rw [e2', ← h1, ← e1, ← e3] at this
      exact Nat.le_of_mul_le_mul_right this p1
  by_cases h : b * 2 ^ (sa - sb) > a * 2 ^ (sb - sa)
  · rw [if_pos h]
    refine ⟨by omega, by omega, low, ?_⟩
    rw [show (sa : Int) - sb - 1 + 1 = (sa : Int) - sb by omega]
    rcases Nat.lt_or_ge (a * E2 0) (b * E2 ((sa : Int) - sb)) with k | k
    · exact k
    · have := mid.1 k; omega
  · rw [if_neg h]
    exact ⟨by omega, by omega, mid.2 (by omega), up⟩
theorem BL.le257 {v s : Nat} (h : BL v s) (hv : v ≤ 2 ^ 256) : s ≤ 257 := by
  rcases Nat.lt_or_ge 257 s with k | k
  · have := Nat.pow_lt_pow_right (a := 2) (by decide) (show 256 < s - 1 by omega)
    have := h.2.1
    omega
  · exact k
theorem wlog_out {n d : Int} (h : ¬ (1 ≤ n ∧ n ≤ 65536 ∧ 1 ≤ d ∧ d ≤ 65536)) : weight_Log n d = some (0, 2) := by
  unfold weight_Log weight_Log_k1
  by_cases h1 : n < 1
  · rw [if_pos (by simpa using h1), if_pos rfl]
  rw [if_neg (by simpa using h1)]
  by_cases h2 : n > 65536
  · rw [if_pos (by simpa using h2), if_pos rfl]
  rw [if_neg (by simpa using h2)]
  by_cases h3 : d < 1
  · rw [if_pos (by simpa using h3), if_pos rfl]
  rw [if_neg (by simpa using h3), if_pos (by simp; omega)]
theorem wlog_eq {n d : Nat} (n0 : 1 ≤ n) (n1 : n ≤ 65536) (d0 : 1 ≤ d) (d1 : d ≤ 65536) : ∃ x, weight_Log (n : Int) (d : Int) = some (x, 0) ∧ isLog (n ^ 16) (d ^ 16) x := by
  unfold weight_Log weight_Log_k1
  rw [if_neg (by simp; omega), if_neg (by simp; omega), if_neg (by simp; omega), if_neg (by simp; omega), wpow_eq n1, bind1_pure, wpow_eq d1, bind1_pure]
  have pa : 0 < n ^ 16 := Nat.pow_pos n0
  have pb : 0 < d ^ 16 := Nat.pow_pos d0
  have la := pow16_lt n1
  have lb := pow16_lt d1
  have la' := pow16_le n1
  have lb' := pow16_le d1
  generalize n ^ 16 = a at *
  generalize d ^ 16 = b at *
  obtain ⟨sa, ea, ha⟩ := length_eq pa (b64_pow (k := 257) la (by decide))
  obtain ⟨sb, eb, hb⟩ := length_eq pb (b64_pow (k := 257) lb (by decide))
  have ma := ha.le257 la'
  have mb := hb.le257 lb'
  have mx1 : (if (0 : Int) > (sa : Int) - sb then 0 else (sa : Int) - sb) = ((sa - sb : Nat) : Int) := by split <;> omega
  have mx2 : (if (0 : Int) > 0 - ((sa : Int) - sb) then 0 else 0 - ((sa : Int) - sb)) = ((sb - sa : Nat) : Int) := by split <;> omega
  have hl := log_of ha hb (by omega) (by omega)
  have ha2 : a * 2 ^ (sb - sa) < 2 ^ 600 := by
    have h1 : 2 ^ (sb - sa) ≤ 2 ^ 257 := le2 (m := sb - sa) (n := 257) (by omega)
    exact mul2 (m := 257) (n := 257) (k := 600) la h1 (by decide)
  have hb2 : b * 2 ^ (sa - sb) < 2 ^ 600 := by
    have h1 : 2 ^ (sa - sb) ≤ 2 ^ 257 := le2 (m := sa - sb) (n := 257) (by omega)
    exact mul2 (m := 257) (n := 257) (k := 600) lb h1 (by decide)
  have ha3 := b64_pow (k := 600) ha2 (by decide)
  have hb3 := b64_pow (k := 600) hb2 (by decide)
  have ha4 := nlen (Int.natCast_nonneg _) ha3
  have hb4 := nlen (Int.natCast_nonneg _) hb3
  rw [ea, bind1_pure, eb, bind1_pure, wi64 (n := (sa : Int) - sb) (by omega) (by omega), wi64 (n := 0 - ((sa : Int) - sb)) (by omega) (by omega), mx1, mx2, wshift_eq (Nat.lt_trans lb (lt2 (m := 257) (n := 258) (by decide))) (by omega), bind1_pure, wshift_eq (Nat.lt_trans la (lt2 (m := 257) (n := 258) (by decide))) (by omega), bind1_pure,
    natural_compare_eq (nat32_u32 (Int.natCast_nonneg _)) (nat32_u32 (Int.natCast_nonneg _)) (by omega) (by omega), bind1_pure, nat32_val (Int.natCast_nonneg _), nat32_val (Int.natCast_nonneg _), wi64 (n := (sa : Int) - sb - 1) (by omega) (by omega)]
  unfold weight_Log_k2
  by_cases h : b * 2 ^ (sa - sb) > a * 2 ^ (sb - sa)
  · rw [if_pos h] at hl
    refine ⟨_, ?_, hl⟩
    rw [if_pos]
    unfold ordI
    rw [if_neg (by omega), if_pos (by omega)]
    decide
  · rw [if_neg h] at hl
    refine ⟨_, ?_, hl⟩
    rw [if_neg]
    unfold ordI
    by_cases k : ((b * 2 ^ (sa - sb) : Nat) : Int) < ((a * 2 ^ (sb - sa) : Nat) : Int)
    · rw [if_pos k]; decide
    · rw [if_neg k, if_neg (by omega)]; decide
end Go.Proofs.Ytafmpnilgknfhaa
