/- The number of bits of a word: the sums of fields that math/bits computes are that number. -/
import Derived.Test.YtknlckjpgmjenaaNb
namespace Go.Proofs.Ytknlckjpgmjenaa

/-- The bits that are set among the first f. -/
def popN : Nat → Nat → Nat
  | 0, _ => 0
  | f + 1, x => x % 2 + popN f (x / 2)
def pop (x : UInt64) : Nat := popN 64 x.toNat

theorem and_split (a b c d : Nat) (hb : b < 256) (hd : d < 256) : (256 * a + b) &&& (256 * c + d) = 256 * (a &&& c) + (b &&& d) := by
  apply Nat.eq_of_testBit_eq
  intro j
  have hb' : b < 2 ^ 8 := hb
  have hd' : d < 2 ^ 8 := hd
  have hbd : b &&& d < 2 ^ 8 := Nat.and_lt_two_pow _ hd'
  rw [show (256 : Nat) = 2 ^ 8 from rfl, Nat.testBit_and, Nat.testBit_two_pow_mul_add _ hb', Nat.testBit_two_pow_mul_add _ hd', Nat.testBit_two_pow_mul_add _ hbd]
  split <;> simp [Nat.testBit_and]

def rep (m : Nat) : Nat → Nat
  | 0 => 0
  | k + 1 => 256 * rep m k + m
theorem rep_succ (m k : Nat) : rep m (k + 1) = 256 * rep m k + m := rfl
def sA (k x : Nat) : Nat := (x / 2 &&& rep 85 k) + (x &&& rep 85 k)
def sB (k x : Nat) : Nat := (x / 4 &&& rep 51 k) + (x &&& rep 51 k)
def sC (k x : Nat) : Nat := (x / 16 + x) &&& rep 15 k
theorem byteA : ∀ l, l < 256 → ∀ c, c < 2 → (128 * c + l / 2) &&& 85 = (l / 2) &&& 85 := by decide +kernel
theorem byteA' : ∀ l, l < 256 → ((l / 2) &&& 85) + (l &&& 85) < 171 := by decide +kernel
theorem byteB : ∀ l, l < 171 → ∀ c, c < 4 → (64 * c + l / 4) &&& 51 = (l / 4) &&& 51 := by decide +kernel
theorem sA_step (k h l : Nat) (hl : l < 256) : sA (k + 1) (256 * h + l) = 256 * sA k h + (((l / 2) &&& 85) + (l &&& 85)) := by
  unfold sA
  rw [rep_succ]
  rw [show (256 * h + l) / 2 = 256 * (h / 2) + (128 * (h % 2) + l / 2) by omega, and_split _ _ _ _ (by omega) (by omega), and_split _ _ _ _ hl (by omega), byteA l hl _ (by omega)]
  omega
theorem sB_step (k h l : Nat) (hl : l < 171) : sB (k + 1) (256 * h + l) = 256 * sB k h + (((l / 4) &&& 51) + (l &&& 51)) := by
  unfold sB
  rw [rep_succ]
  rw [show (256 * h + l) / 4 = 256 * (h / 4) + (64 * (h % 4) + l / 4) by omega, and_split _ _ _ _ (by omega) (by omega), and_split _ _ _ _ (by omega) (by omega), byteB l hl _ (by omega)]
  omega
/-- Every nibble is at most 4. -/
def nib : Nat → Nat → Prop
  | 0, x => x = 0
  | k + 1, x => x % 16 ≤ 4 ∧ x / 16 % 16 ≤ 4 ∧ nib k (x / 256)
theorem byteC : ∀ c, c < 5 → ∀ u, u < 5 → ∀ v, v < 5 → (16 * c + (16 * u + v) / 16 + (16 * u + v)) &&& 15 = u + v := by decide +kernel
theorem nib_low {k x : Nat} (h : nib k x) : x % 16 ≤ 4 := by
  cases k with
  | zero => have : x = 0 := h; omega
  | succ k => exact h.1
theorem sC_step (k h l : Nat) (hl : l < 256) (h0 : l % 16 ≤ 4) (h1 : l / 16 ≤ 4) (hn : nib k h) : sC (k + 1) (256 * h + l) = 256 * sC k h + (l / 16 + l % 16) := by
  unfold sC
  rw [rep_succ]
  have hc := nib_low hn
  have e := byteC (h % 16) (by omega) (l / 16) (by omega) (l % 16) (by omega)
  rw [show 16 * (l / 16) + l % 16 = l by omega] at e
  rw [show (256 * h + l) / 16 + (256 * h + l) = 256 * (h / 16 + h) + (16 * (h % 16) + l / 16 + l) by omega, and_split _ _ _ _ (by omega) (by omega), e]
/-- The counts of the bytes, one below the other. -/
def counts : Nat → Nat → Nat
  | 0, _ => 0
  | k + 1, x => 256 * counts k (x / 256) + popN 8 (x % 256)
theorem byte1 : ∀ l, l < 256 → ((((l / 2) &&& 85) + (l &&& 85)) / 4 &&& 51) + ((((l / 2) &&& 85) + (l &&& 85)) &&& 51) < 256 ∧ (((((l / 2) &&& 85) + (l &&& 85)) / 4 &&& 51) + ((((l / 2) &&& 85) + (l &&& 85)) &&& 51)) % 16 ≤ 4 ∧
    (((((l / 2) &&& 85) + (l &&& 85)) / 4 &&& 51) + ((((l / 2) &&& 85) + (l &&& 85)) &&& 51)) / 16 ≤ 4 ∧
    (((((l / 2) &&& 85) + (l &&& 85)) / 4 &&& 51) + ((((l / 2) &&& 85) + (l &&& 85)) &&& 51)) / 16 + (((((l / 2) &&& 85) + (l &&& 85)) / 4 &&& 51) + ((((l / 2) &&& 85) + (l &&& 85)) &&& 51)) % 16 = popN 8 l := by decide +kernel
theorem sums (k : Nat) : ∀ x, x < 256 ^ k → nib k (sB k (sA k x)) ∧ sC k (sB k (sA k x)) = counts k x := by
  induction k with
  | zero => intro x hx; have : x = 0 := by simpa using hx
            subst this; exact ⟨rfl, rfl⟩
  | succ k ih =>
    intro x hx
    have hx' : x / 256 < 256 ^ k := by rw [Nat.pow_succ] at hx; omega
    obtain ⟨i1, i2⟩ := ih _ hx'
    have hl : x % 256 < 256 := Nat.mod_lt _ (by omega)
    obtain ⟨b1, b2, b3, b4⟩ := byte1 _ hl
    have hd : x = 256 * (x / 256) + x % 256 := by omega
    have e1 : sB (k + 1) (sA (k + 1) x) = 256 * sB k (sA k (x / 256)) + ((((x % 256 / 2) &&& 85) + (x % 256 &&& 85)) / 4 &&& 51) + ((((x % 256 / 2) &&& 85) + (x % 256 &&& 85)) &&& 51) := by
      conv => lhs; rw [hd]
      rw [sA_step _ _ _ hl, sB_step _ _ _ (byteA' _ hl)]
      omega
    rw [e1]
    generalize ((((x % 256 / 2) &&& 85) + (x % 256 &&& 85)) / 4 &&& 51) = p at *
    generalize ((((x % 256 / 2) &&& 85) + (x % 256 &&& 85)) &&& 51) = q at *
    rw [Nat.add_assoc]
    refine ⟨⟨by omega, by omega, ?_⟩, ?_⟩
    · rw [show (256 * sB k (sA k (x / 256)) + (p + q)) / 256 = sB k (sA k (x / 256)) by omega]; exact i1
    · rw [sC_step _ _ _ b1 b2 b3 i1, i2, b4]; rfl
theorem popN_split (f : Nat) : ∀ n x, popN (f + n) x = popN f x + popN n (x / 2 ^ f) := by
  induction f with
  | zero => intro n x; simp [popN]
  | succ f ih =>
    intro n x
    rw [show f + 1 + n = (f + n) + 1 by omega, popN, popN, ih, Nat.div_div_eq_div_mul, Nat.pow_succ, Nat.mul_comm 2]
    omega
theorem popN_mod (f : Nat) : ∀ x, popN f (x % 2 ^ f) = popN f x := by
  induction f with
  | zero => intro x; rfl
  | succ f ih =>
    intro x
    have h1 : x % 2 ^ (f + 1) % 2 = x % 2 := Nat.mod_mod_of_dvd _ (by rw [Nat.pow_succ]; exact Nat.dvd_mul_left ..)
    have h2 : x % 2 ^ (f + 1) / 2 = x / 2 % 2 ^ f := by rw [Nat.pow_succ, Nat.mul_comm]; exact Nat.mod_mul_right_div_self ..
    rw [popN, popN, h1, h2, ih]
theorem popN_le (f : Nat) : ∀ x, popN f x ≤ f := by
  induction f with
  | zero => intro x; simp [popN]
  | succ f ih => intro x; have := ih (x / 2); rw [popN]; omega
def total : Nat → Nat → Nat
  | 0, _ => 0
  | k + 1, x => x % 256 + total k (x / 256)
theorem counts_total (k : Nat) : ∀ x, total k (counts k x) = popN (8 * k) x := by
  induction k with
  | zero => intro x; rfl
  | succ k ih =>
    intro x
    have h := popN_le 8 (x % 256)
    have hm := popN_mod 8 x
    rw [show (2 : Nat) ^ 8 = 256 from rfl] at hm
    rw [counts, total, show (256 * counts k (x / 256) + popN 8 (x % 256)) / 256 = counts k (x / 256) by omega, ih, show 8 * (k + 1) = 8 + 8 * k by omega, popN_split 8, show (2 : Nat) ^ 8 = 256 from rfl, ← hm]
    omega
def small : Nat → Nat → Prop
  | 0, y => y = 0
  | k + 1, y => ∃ c z, c ≤ 8 ∧ small k z ∧ y = c + 256 * z
theorem counts_small (k : Nat) : ∀ x, small k (counts k x) := by
  induction k with
  | zero => intro x; rfl
  | succ k ih => intro x; exact ⟨_, _, popN_le 8 (x % 256), ih (x / 256), by rw [counts]; omega⟩
theorem dv (a b m : Nat) (h : a < m) : (a + m * b) / m = b := by
  rw [Nat.add_mul_div_left _ _ (by omega), Nat.div_eq_of_lt h, Nat.zero_add]
theorem total_step (k c z : Nat) (h : c ≤ 8) : total (k + 1) (c + 256 * z) = c + total k z := by
  rw [total, dv c z 256 (by omega), Nat.add_mul_mod_self_left, Nat.mod_eq_of_lt (by omega)]
set_option maxHeartbeats 2000000 in
/-- The last steps: the bytes added up. -/
theorem fold_bytes (y : Nat) (h : small 8 y) :
    ∃ z u v, y + y / 256 = z ∧ z + z / 65536 = u ∧ u + u / 4294967296 = v ∧ v % 128 = total 8 y ∧ z < 18446744073709551616 ∧ u < 18446744073709551616 ∧ v < 18446744073709551616 := by
  obtain ⟨c0, y1, l0, ⟨c1, y2, l1, ⟨c2, y3, l2, ⟨c3, y4, l3, ⟨c4, y5, l4, ⟨c5, y6, l5, ⟨c6, y7, l6, ⟨c7, y8, l7, h8, rfl⟩, rfl⟩, rfl⟩, rfl⟩, rfl⟩, rfl⟩, rfl⟩, rfl⟩ := h
  have h8 : y8 = 0 := h8
  subst h8
  rw [total_step _ _ _ l0, total_step _ _ _ l1, total_step _ _ _ l2, total_step _ _ _ l3, total_step _ _ _ l4, total_step _ _ _ l5, total_step _ _ _ l6, total_step _ _ _ l7, dv c0 _ 256 (by omega)]
  have ez : c0 + 256 * (c1 + 256 * (c2 + 256 * (c3 + 256 * (c4 + 256 * (c5 + 256 * (c6 + 256 * (c7 + 256 * 0))))))) + (c1 + 256 * (c2 + 256 * (c3 + 256 * (c4 + 256 * (c5 + 256 * (c6 + 256 * (c7 + 256 * 0))))))) =
      ((c0 + c1) + 256 * (c1 + c2)) + 65536 * (((c2 + c3) + 256 * (c3 + c4)) + 65536 * (((c4 + c5) + 256 * (c5 + c6)) + 65536 * ((c6 + c7) + 256 * c7))) := by omega
  rw [ez]
  have eu : ((c0 + c1) + 256 * (c1 + c2)) + 65536 * (((c2 + c3) + 256 * (c3 + c4)) + 65536 * (((c4 + c5) + 256 * (c5 + c6)) + 65536 * ((c6 + c7) + 256 * c7))) + (((c2 + c3) + 256 * (c3 + c4)) + 65536 * (((c4 + c5) + 256 * (c5 + c6)) + 65536 * ((c6 + c7) + 256 * c7))) =
      ((c0 + c1 + c2 + c3) + 256 * (c1 + c2 + c3 + c4) + 65536 * (c2 + c3 + c4 + c5) + 16777216 * (c3 + c4 + c5 + c6)) + 4294967296 * ((c4 + c5 + c6 + c7) + 256 * (c5 + c6 + c7) + 65536 * (c6 + c7) + 16777216 * c7) := by omega
  have ev : ((c0 + c1 + c2 + c3) + 256 * (c1 + c2 + c3 + c4) + 65536 * (c2 + c3 + c4 + c5) + 16777216 * (c3 + c4 + c5 + c6)) + 4294967296 * ((c4 + c5 + c6 + c7) + 256 * (c5 + c6 + c7) + 65536 * (c6 + c7) + 16777216 * c7) + ((c4 + c5 + c6 + c7) + 256 * (c5 + c6 + c7) + 65536 * (c6 + c7) + 16777216 * c7) =
      (c0 + c1 + c2 + c3 + c4 + c5 + c6 + c7) + 128 * (2 * (c1 + c2 + c3 + c4 + c5 + c6 + c7) + 512 * (c2 + c3 + c4 + c5 + c6 + c7) + 131072 * (c3 + c4 + c5 + c6 + c7) + 33554432 * ((c4 + c5 + c6 + c7) + 256 * (c5 + c6 + c7) + 65536 * (c6 + c7) + 16777216 * c7)) := by omega
  refine ⟨_, _, _, rfl, rfl, rfl, ?_, ?_, ?_, ?_⟩
  · rw [dv ((c0 + c1) + 256 * (c1 + c2)) _ 65536 (by omega), eu, dv ((c0 + c1 + c2 + c3) + 256 * (c1 + c2 + c3 + c4) + 65536 * (c2 + c3 + c4 + c5) + 16777216 * (c3 + c4 + c5 + c6)) _ 4294967296 (by omega), ev, Nat.add_mul_mod_self_left, Nat.mod_eq_of_lt (by omega)]
    have t0 : total 0 0 = 0 := rfl
    rw [t0]
    omega
  · omega
  · rw [dv ((c0 + c1) + 256 * (c1 + c2)) _ 65536 (by omega), eu]; omega
  · rw [dv ((c0 + c1) + 256 * (c1 + c2)) _ 65536 (by omega), eu, dv ((c0 + c1 + c2 + c3) + 256 * (c1 + c2 + c3 + c4) + 65536 * (c2 + c3 + c4 + c5) + 16777216 * (c3 + c4 + c5 + c6)) _ 4294967296 (by omega), ev]; omega
end Go.Proofs.Ytknlckjpgmjenaa
