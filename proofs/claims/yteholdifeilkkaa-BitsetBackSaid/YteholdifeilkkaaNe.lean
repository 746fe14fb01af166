/- Bit arrays: Valid, Count, And, Dice. -/
import Derived.Test.YteholdifeilkkaaNd
namespace Go.Proofs.Yteholdifeilkkaa
open Vm
/-- words of 64 bits -/
def W64 (l : List Int) : Prop := ∀ w ∈ l, 0 ≤ w ∧ w < 18446744073709551616
@[irreducible] def pop64 (x : Nat) : Nat := popN 64 x
theorem pop64_le (x : Nat) : pop64 x ≤ 64 := by unfold pop64; exact popN_le 64 x
def popI : List Int → Nat
  | [] => 0
  | w :: l => pop64 w.toNat + popI l
theorem popI_take {l : List Int} {i : Nat} (h : i < l.length) : popI (l.take (i + 1)) = popI (l.take i) + pop64 (l.getD i 0).toNat := by
  induction l generalizing i with
  | nil => simp at h
  | cons w l ih =>
    cases i with
    | zero => simp [popI]
    | succ i =>
      have := ih (i := i) (by simpa using h)
      simp only [List.take_succ_cons, popI, List.getD_cons_succ]
      omega
theorem ones_int {w : Int} (h : 0 ≤ w ∧ w < 18446744073709551616) : bits_OnesCount64 w = some ((pop64 w.toNat : Nat) : Int) := by
  obtain ⟨x, rfl⟩ := Int.eq_ofNat_of_zero_le h.1
  rw [ones_eq (by omega)]
  simp only [Int.toNat_natCast]
  unfold pop64
  rfl
theorem W64.get {l : List Int} (h : W64 l) {i : Nat} (hi : i < l.length) : 0 ≤ l.getD i 0 ∧ l.getD i 0 < 18446744073709551616 := by
  rw [List.getD_eq_getElem?_getD, List.getElem?_eq_getElem hi]
  exact h _ (List.getElem_mem hi)
theorem popI_le (l : List Int) : popI l ≤ 64 * l.length := by
  induction l with
  | nil => simp [popI]
  | cons w l ih =>
    have := pop64_le w.toNat
    simp only [popI, List.length_cons] at ih ⊢
    omega
theorem popI_take_le (l : List Int) (i : Nat) : popI (l.take i) ≤ 64 * i := Nat.le_trans (popI_le _) (by simp; omega)
theorem count_loop {p : S_api_Bits} (hw : W64 p.Words) (hl : p.Words.length < 1000000) : loop (fun v : Int × Int => bitset_Count_l2 p v.1 v.2) (0, 0) = some ((popI p.Words : Nat) : Int) := by
  obtain ⟨t, h1, h2⟩ := loop_of (step := fun v : Int × Int => bitset_Count_l2 p v.1 v.2) (fun v => ∃ i : Nat, v.2 = i ∧ i ≤ p.Words.length ∧ v.1 = ((popI (p.Words.take i) : Nat) : Int)) (fun v => p.Words.length - v.2.toNat) (fun t => t = ((popI p.Words : Nat) : Int)) (by
    rintro ⟨a, b⟩ ⟨i, rfl, hi, rfl⟩
    simp only [bitset_Count_l2]
    by_cases h : (i : Int) < ((p.Words.length : Nat) : Int)
    · have hi' : i < p.Words.length := by omega
      have hb := popI_take_le p.Words i
      have hp := pop64_le (p.Words.getD i 0).toNat
      refine .inl ⟨_, by rw [if_pos (by simpa using h), if_pos (by omega), if_pos h, Int.toNat_natCast, ones_int (hw.get hi')]; rfl, ⟨i + 1, ?_, by omega, ?_⟩, ?_⟩
      · show IntKind.i64.wrap ((i : Int) + 1) = _
        rw [wi64 (by omega) (by omega)]; rfl
      · show IntKind.i64.wrap (((popI (p.Words.take i) : Nat) : Int) + ((pop64 (p.Words.getD i 0).toNat : Nat) : Int)) = _
        rw [wi64 (by omega) (by omega), popI_take hi']; simp
      · show p.Words.length - (IntKind.i64.wrap ((i : Int) + 1)).toNat < p.Words.length - (i : Int).toNat
        rw [wi64 (by omega) (by omega)]; omega
    · have : i = p.Words.length := by omega
      subst this
      exact .inr ⟨_, by rw [if_neg (by simp)], by rw [List.take_length]⟩) (0, 0) ⟨0, rfl, by omega, by simp [popI]⟩
  rw [h1, h2]
def Right (L : Int) : Prop := 64 ≤ L ∧ L ≤ 512 ∧ L % 64 = 0
theorem right_yes {L : Int} (h : Right L) : bitset_right L = some true := by
  obtain ⟨h1, h2, h3⟩ := h
  unfold bitset_right bitset_right_k2
  rw [if_pos (by simpa using h1), if_pos (by simpa using h2), tmod_nn (by omega), h3]
  rfl
theorem valid_yes {p : S_api_Bits} (h : Right p.Length) (hl : (p.Words.length : Int) = p.Length / 64) : bitset_Valid p = some true := by
  unfold bitset_Valid bitset_Valid_k2
  rw [right_yes h, Option.bind_some, if_pos rfl, hl, tdiv_nn (by have := h.1; omega), wi64 (by have := h.1; omega) (by have := h.2.1; omega)]
  simp
theorem count_yes {p : S_api_Bits} (h : Right p.Length) (hl : (p.Words.length : Int) = p.Length / 64) (hw : W64 p.Words) : bitset_Count p = some ((popI p.Words : Nat) : Int) := by
  unfold bitset_Count
  rw [valid_yes h hl, Option.bind_some, if_neg (by simp), count_loop hw (by have := h.2.1; omega)]
  rfl
end Go.Proofs.Yteholdifeilkkaa
