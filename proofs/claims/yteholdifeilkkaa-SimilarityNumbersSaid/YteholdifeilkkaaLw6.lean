/- The plain law of SimilarityNumbers: every number of a pattern is tried. -/
import Derived.Test.YteholdifeilkkaaNb
import Derived.Test.YteholdifeilkkaaGE6
namespace Go.Proofs.Yteholdifeilkkaa
open Vm
theorem awake17 : rl_law17_awake = some true := rl_law17_awake_le 100 _ (by kernel_rfl)
theorem numbers_all : ((List.range 5).all fun m => (List.range (3 ^ (m + 1))).all fun k => decide (rl_law17_SimilarityNumbers_F 50 (k : Nat) (m : Nat) = some true)) = true := by kernel_rfl
theorem numbers_one {m k : Nat} (hm : m < 5) (hk : k < 3 ^ (m + 1)) : rl_law17_SimilarityNumbers (k : Nat) (m : Nat) = some true := by
  have h := List.all_eq_true.1 numbers_all m (by simp; omega)
  have h := List.all_eq_true.1 h k (by simp; omega)
  exact rl_law17_SimilarityNumbers_le 50 _ _ _ (of_decide_eq_true h)
theorem size_one : ∀ m : Nat, m < 5 → rl_ref17_Size (1 + (m : Nat)) = some ((3 ^ (m + 1) : Nat) : Int) := by
  intro m hm
  have h : ((List.range 5).all fun m => decide (rl_ref17_Size_F 20 (1 + (m : Nat)) = some ((3 ^ (m + 1) : Nat) : Int))) = true := by kernel_rfl
  exact rl_ref17_Size_le 20 _ _ (of_decide_eq_true (List.all_eq_true.1 h m (by simp; omega)))
theorem numbers_law {p0 p1 : Int} (h0 : 0 ≤ p0) (h1 : p0 < 65536) (h2 : 0 ≤ p1) (h3 : p1 < 256) : rl_law17_SimilarityNumbers p0 p1 = some true := by
  obtain ⟨m, hm⟩ : ∃ m : Nat, (m : Int) = p1 % 5 := ⟨(p1 % 5).toNat, by omega⟩
  have hm5 : m < 5 := by omega
  have hs : 0 < 3 ^ (m + 1) := Nat.pow_pos (by decide)
  have hs2 : 3 ^ (m + 1) ≤ 243 := by
    have : 3 ^ (m + 1) ≤ 3 ^ 5 := Nat.pow_le_pow_right (by decide) (by omega)
    simpa using this
  obtain ⟨k, hk⟩ : ∃ k : Nat, (k : Int) = p0 % ((3 ^ (m + 1) : Nat) : Int) := ⟨(p0 % ((3 ^ (m + 1) : Nat) : Int)).toNat, by omega⟩
  have hk3 : k < 3 ^ (m + 1) := by omega
  have h := numbers_one hm5 hk3
  have hS := size_one m hm5
  generalize 3 ^ (m + 1) = S at *
  unfold rl_law17_SimilarityNumbers at h ⊢
  have e1 : (IntKind.i64.wrap p1).tmod 5 = (m : Int) := by rw [wi64 (by omega) (by omega), tmod_nn h2]; omega
  have e2 : (IntKind.i64.wrap (m : Int)).tmod 5 = (m : Int) := by rw [wi64 (by omega) (by omega), tmod_nn (by omega)]; omega
  have e3 : IntKind.i64.wrap (1 + (m : Int)) = 1 + (m : Int) := wi64 (by omega) (by omega)
  have e4 : (IntKind.i64.wrap p0).tmod (S : Int) = (k : Int) := by rw [wi64 (by omega) (by omega), tmod_nn h0]; omega
  have e5 : (IntKind.i64.wrap (k : Int)).tmod (S : Int) = (k : Int) := by rw [wi64 (by omega) (by omega), tmod_nn (by omega)]; exact Int.emod_eq_of_lt (by omega) (by omega)
  rw [e2, e3, hS] at h
  rw [e1, e3, hS]
  simp only [Option.bind_some, e4, e5] at h ⊢
  exact h
end Go.Proofs.Yteholdifeilkkaa
