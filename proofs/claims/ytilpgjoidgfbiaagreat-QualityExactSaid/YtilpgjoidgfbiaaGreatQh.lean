/- Natural numbers: the parts of a division. -/
import Derived.Test.YtilpgjoidgfbiaaGreatQg
import Derived.Test.YtilpgjoidgfbiaaGreatBw
namespace Go.Proofs.YtilpgjoidgfbiaaGreat
set_option linter.unusedVariables false
set_option linter.unusedSimpArgs false
open Vm
theorem pow_le31 {k : Nat} (h : k ≤ 31) : 1 ≤ ((2 ^ k : Nat) : Int) ∧ ((2 ^ k : Nat) : Int) ≤ 2147483648 := by
  have h1 : 1 ≤ 2 ^ k := Nat.pow_pos (by decide)
  have h2 : 2 ^ k ≤ 2 ^ 31 := Nat.pow_le_pow_right (by decide) h
  have h3 : (2 : Nat) ^ 31 = 2147483648 := by decide
  generalize 2 ^ k = p at *
  omega
theorem pow_part {k : Nat} (h : k ≤ 31) : ((2 ^ (32 - k) : Nat) : Int) * ((2 ^ k : Nat) : Int) = 4294967296 := by
  rw [← Int.natCast_mul, ← Nat.pow_add, show 32 - k + k = 32 by omega]
  decide
theorem bigS_len : ∀ i : Fin 256, i.val = 0 ∨ (1 ≤ (bigS0.data.toList.getD i.val 0).toNat ∧ (bigS0.data.toList.getD i.val 0).toNat ≤ 8 ∧ 2 ^ ((bigS0.data.toList.getD i.val 0).toNat - 1) ≤ i.val ∧ i.val < 2 ^ (bigS0.data.toList.getD i.val 0).toNat) := by decide +kernel
theorem wu8 {n : Int} (h0 : 0 ≤ n) (h1 : n < 256) : IntKind.u8.wrap n = n := by
  simp only [IntKind.wrap, IntKind.bits, IntKind.signed]
  simp
  omega
theorem lz_eq {x : Int} (h0 : 1 ≤ x) (h1 : x < 4294967296) : ∃ s : Nat, bits_LeadingZeros32 x = some (s : Int) ∧ s ≤ 31 ∧ 2147483648 ≤ x * ((2 ^ s : Nat) : Int) ∧ x * ((2 ^ s : Nat) : Int) < 4294967296 := by
  have key : ∀ (off : Nat) (y : Int), off ≤ 24 → 1 ≤ y → y < 256 → (∃ r : Int, 0 ≤ r ∧ r < ((2 ^ off : Nat) : Int) ∧ x = y * ((2 ^ off : Nat) : Int) + r) → ∃ s : Nat, ((bits_Len32_k2 y (off : Int)).bind fun y1 => some (IntKind.i64.wrap (32 - y1))) = some (s : Int) ∧ s ≤ 31 ∧ 2147483648 ≤ x * ((2 ^ s : Nat) : Int) ∧ x * ((2 ^ s : Nat) : Int) < 4294967296 := by
    intro off y ho y0 y1 ⟨r, r0, r1, hx⟩
    obtain ⟨m, rfl⟩ := nat_of (show 0 ≤ y by omega)
    have ht : m = 0 ∨ (1 ≤ (bigS0.data.toList.getD m 0).toNat ∧ (bigS0.data.toList.getD m 0).toNat ≤ 8 ∧ 2 ^ ((bigS0.data.toList.getD m 0).toNat - 1) ≤ m ∧ m < 2 ^ (bigS0.data.toList.getD m 0).toNat) := bigS_len ⟨m, by omega⟩
    have hsz : bigS0.size = 256 := by decide +kernel
    unfold bits_Len32_k2
    rw [wu8 (by omega) (by omega), if_pos (by omega), if_pos (by rw [hsz]; omega), bind1_pure, bind1_pure, Int.toNat_natCast]
    generalize (bigS0.data.toList.getD m 0).toNat = L at *
    obtain ⟨l1, l2, l3, l4⟩ : 1 ≤ L ∧ L ≤ 8 ∧ 2 ^ (L - 1) ≤ m ∧ m < 2 ^ L := by
      rcases ht with h | h
      · omega
      · exact h
    rw [wi64 (n := (L : Int)) (by omega) (by omega), wi64 (n := (off : Int) + L) (by omega) (by omega), wi64 (by omega) (by omega)]
    refine ⟨32 - (off + L), by congr 1; omega, by omega, ?_⟩
    have e1 : (2 : Nat) ^ (32 - (off + L)) * 2 ^ off * 2 ^ (L - 1) = 2147483648 := by
      rw [← Nat.pow_add, ← Nat.pow_add, show 32 - (off + L) + off + (L - 1) = 31 by omega]
    have e2 : (2 : Nat) ^ L = 2 * 2 ^ (L - 1) := by rw [show L = (L - 1) + 1 by omega, Nat.pow_succ, Nat.add_sub_cancel, Nat.mul_comm]
    rw [e2] at l4
    have p1 : 1 ≤ (2 : Nat) ^ (32 - (off + L)) := Nat.pow_pos (by decide)
    generalize (2 : Nat) ^ (32 - (off + L)) = S at *
    generalize (2 : Nat) ^ off = O at *
    generalize (2 : Nat) ^ (L - 1) = M at *
    obtain ⟨r, rfl⟩ := nat_of r0
    have hx2 : x * (S : Int) = ((S * O * m + S * r : Nat) : Int) := by rw [hx]; simp only [Int.natCast_add, Int.natCast_mul]; grind
    have hr : S * r < S * O := Nat.mul_lt_mul_of_pos_left (by omega) (by omega)
    have h5 : S * O * M ≤ S * O * m := Nat.mul_le_mul_left _ l3
    have h6 : S * O * (m + 1) ≤ S * O * (2 * M) := Nat.mul_le_mul_left _ l4
    rw [Nat.mul_add] at h6
    have h7 : S * O * (2 * M) = 2 * (S * O * M) := by grind
    rw [hx2]
    generalize S * O * m = u at *
    generalize S * r = v at *
    generalize S * O = w at *
    omega
  unfold bits_LeadingZeros32 bits_Len32
  by_cases a : 65536 ≤ x
  · rw [if_pos (by simpa using a), show ishr .u32 x 16 = x / 65536 from shr_eqN .u32 x (s := 16) (by decide)]
    unfold bits_Len32_k1
    by_cases b : 256 ≤ x / 65536
    · rw [if_pos (by simpa using b), show ishr .u32 (x / 65536) 8 = x / 65536 / 256 from shr_eqN .u32 _ (s := 8) (by decide), show IntKind.i64.wrap (16 + 8) = ((24 : Nat) : Int) by decide]
      exact key 24 _ (by decide) (by omega) (by omega) ⟨x % 16777216, by omega, by simp; omega, by simp; omega⟩
    · rw [if_neg (by simpa using b)]
      exact key 16 _ (by decide) (by omega) (by omega) ⟨x % 65536, by omega, by simp; omega, by simp; omega⟩
  · rw [if_neg (by simpa using a)]
    unfold bits_Len32_k1
    by_cases b : 256 ≤ x
    · rw [if_pos (by simpa using b), show ishr .u32 x 8 = x / 256 from shr_eqN .u32 _ (s := 8) (by decide), show IntKind.i64.wrap (0 + 8) = ((8 : Nat) : Int) by decide]
      exact key 8 _ (by decide) (by omega) (by omega) ⟨x % 256, by omega, by simp; omega, by simp; omega⟩
    · rw [if_neg (by simpa using b)]
      exact key 0 _ (by decide) (by omega) (by omega) ⟨0, by omega, by simp, by simp⟩
theorem shift_eq {n : List Int} (hu : U32 n) (hl : n.length < 100000) {k : Nat} (hk : k ≤ 31) : ∃ out, natural_shift n (k : Int) = some out ∧ U32 out ∧ out.length = n.length + 1 ∧ val out = val n * ((2 ^ k : Nat) : Int) ∧ out.getD n.length 0 < ((2 ^ k : Nat) : Int) := by
  have hp := pow_le31 hk
  have hpp := pow_part hk
  obtain ⟨out, h1, h2, h3, h4, h5⟩ := loop_inv (step := fun v : List Int × Int => natural_shift_l1 n k v.1 v.2) n.length
    (fun i v => v.2 = (i : Int) ∧ U32 v.1 ∧ v.1.length = n.length + 1 ∧ val v.1 = val (n.take i) * ((2 ^ k : Nat) : Int) ∧ v.1.getD i 0 < ((2 ^ k : Nat) : Int) ∧ ∀ j, i < j → v.1.getD j 0 = 0)
    (fun t => U32 t ∧ t.length = n.length + 1 ∧ val t = val n * ((2 ^ k : Nat) : Int) ∧ t.getD n.length 0 < ((2 ^ k : Nat) : Int)) (by
    rintro i hi ⟨out, j⟩ ⟨g0, g1, g2, g3, g4, g5⟩
    simp only at g0 g1 g2 g3 g4 g5
    subst g0
    left
    have gn := hu.get i
    have go := g1.get i
    have vn := val_take (l := n) hi
    have z1 := g5 (i + 1) (by omega)
    generalize hd : n.getD i 0 = d at *
    have hx0 : 0 ≤ d * ((2 ^ k : Nat) : Int) := Int.mul_nonneg gn.1 (by omega)
    have hx1 : d * ((2 ^ k : Nat) : Int) ≤ 4294967295 * 2147483648 := Int.mul_le_mul (by omega) hp.2 (by omega) (by omega)
    have hlow : d * ((2 ^ k : Nat) : Int) % 4294967296 = (d % ((2 ^ (32 - k) : Nat) : Int)) * ((2 ^ k : Nat) : Int) := by
      rw [← hpp, Int.mul_comm d, Int.mul_comm ((2 ^ (32 - k) : Nat) : Int), Int.mul_emod_mul_of_pos _ _ (by omega), Int.mul_comm]
    have hhi : d * ((2 ^ k : Nat) : Int) / 4294967296 < ((2 ^ k : Nat) : Int) := by
      apply Int.ediv_lt_of_lt_mul (by decide)
      have := Int.mul_lt_mul_of_pos_right gn.2 (show (0 : Int) < ((2 ^ k : Nat) : Int) by omega)
      omega
    have ha0 : 0 ≤ d % ((2 ^ (32 - k) : Nat) : Int) := Int.emod_nonneg _ (by have : 1 ≤ 2 ^ (32 - k) := Nat.pow_pos (by decide); omega)
    have hor := (or_u32 (a := d % ((2 ^ (32 - k) : Nat) : Int)) (b := out.getD i 0) (i := k) ha0 go.1 g4 (by
      have hm : d % ((2 ^ (32 - k) : Nat) : Int) + 1 ≤ ((2 ^ (32 - k) : Nat) : Int) := by
        have := Int.emod_lt_of_pos d (show (0 : Int) < ((2 ^ (32 - k) : Nat) : Int) by have : 1 ≤ 2 ^ (32 - k) := Nat.pow_pos (by decide); omega)
        omega
      have := Int.mul_le_mul_of_nonneg_right hm (show (0 : Int) ≤ ((2 ^ k : Nat) : Int) by omega)
      rw [hpp, Int.add_mul] at this
      omega)).1
    simp only [natural_shift_l1, Int.toNat_natCast, Nat.zero_add, hd]
    rw [if_pos (by simpa using hi), if_pos (by omega), if_pos (by omega), if_pos (by omega), if_pos (by omega), wi64 (n := (i : Int) + 1) (by omega) (by omega), if_pos (by omega), if_pos (by omega), show ((i : Int) + 1).toNat = i + 1 by omega]
    rw [wu64 (n := d) (by omega) (by omega), shl_u64 d (by omega), Int.emod_eq_of_lt hx0 (by omega), wu32_eq, shr32, wu32_eq, hlow, hor]
    refine ⟨_, rfl, by simp only; omega, ?_, by simp only [List.length_set]; exact g2, ?_, ?_, ?_⟩
    · have hs : 0 ≤ d % ((2 ^ (32 - k) : Nat) : Int) * ((2 ^ k : Nat) : Int) + out.getD i 0 ∧ d % ((2 ^ (32 - k) : Nat) : Int) * ((2 ^ k : Nat) : Int) + out.getD i 0 < 4294967296 := by
        have hm : d % ((2 ^ (32 - k) : Nat) : Int) + 1 ≤ ((2 ^ (32 - k) : Nat) : Int) := by
          have := Int.emod_lt_of_pos d (show (0 : Int) < ((2 ^ (32 - k) : Nat) : Int) by have : 1 ≤ 2 ^ (32 - k) := Nat.pow_pos (by decide); omega)
          omega
        have h8 := Int.mul_le_mul_of_nonneg_right hm (show (0 : Int) ≤ ((2 ^ k : Nat) : Int) by omega)
        rw [hpp, Int.add_mul] at h8
        have h9 := Int.mul_nonneg ha0 (show (0 : Int) ≤ ((2 ^ k : Nat) : Int) by omega)
        omega
      exact (g1.set i hs).set (i + 1) (by omega)
    · simp only
      rw [val_set (by rw [List.length_set]; omega), val_set (by omega), getD_set (by omega), if_neg (by omega), z1, g3, vn, ← hlow, bp]
      have e : d * ((2 ^ k : Nat) : Int) / 4294967296 % 4294967296 = d * ((2 ^ k : Nat) : Int) / 4294967296 := by omega
      rw [e]
      have e2 : d * ((2 ^ k : Nat) : Int) % 4294967296 = d * ((2 ^ k : Nat) : Int) - 4294967296 * (d * ((2 ^ k : Nat) : Int) / 4294967296) := by omega
      rw [e2]
      generalize d * ((2 ^ k : Nat) : Int) / 4294967296 = q
      grind
    · simp only
      rw [getD_set (by rw [List.length_set]; omega), if_pos rfl]
      omega
    · intro j hj
      simp only
      rw [getD_set (by rw [List.length_set]; omega), if_neg (by omega), getD_set (by omega), if_neg (by omega)]
      exact g5 j (by omega)) (by
    rintro ⟨out, j⟩ ⟨g0, g1, g2, g3, g4, g5⟩
    simp only at g0 g1 g2 g3 g4 g5
    subst g0
    rw [List.take_length] at g3
    refine ⟨out, ?_, g1, g2, g3, g4⟩
    simp only [natural_shift_l1]
    rw [if_neg (by simp)]) (s := (List.replicate (n.length + 1) 0, 0)) ⟨rfl, U32.rep _, by simp, by simp [val_rep, val], by
      simp only [List.getD_eq_getElem?_getD, List.getElem?_replicate]; split <;> simp only [Option.getD_some, Option.getD_none] <;> omega, fun j _ => by
      simp only [List.getD_eq_getElem?_getD, List.getElem?_replicate]; split <;> rfl⟩
  refine ⟨out, ?_, h2, h3, h4, h5⟩
  unfold natural_shift
  rw [wi64 (by omega) (by omega), if_pos (by omega), if_pos (by omega), show (((n.length : Nat) : Int) + 1).toNat = n.length + 1 by omega, h1, bind1_pure]
end Go.Proofs.YtilpgjoidgfbiaaGreat
