/- Plain: similarities of dealt records. -/
import Derived.Test.YtknlckjpgmjenaaCb
namespace Go.Proofs.Ytknlckjpgmjenaa
open Vm
set_option linter.unusedVariables false
set_option linter.unusedSimpArgs false
def WF (l : List S_api_Bits) : Prop := ∀ b ∈ l, W64 b.Words
theorem WF.get {l : List S_api_Bits} (h : WF l) {i : Nat} (hi : i < l.length) : W64 (l.getD i dS_api_Bits).Words := by
  rw [List.getD_eq_getElem?_getD, List.getElem?_eq_getElem hi]
  exact h _ (List.getElem_mem hi)
theorem compare_eq {p q : S_api_Encoded} (hp : WF p.Fields) (hq : WF q.Fields) (hl : p.Fields.length < 1000000) :
    similarity_Compare p q = some (if p.Fields.length = q.Fields.length ∧ 1 ≤ p.Fields.length ∧ p.Fields.length ≤ 5 then (List.zipWith simB p.Fields q.Fields, 0) else ([], 8)) := by
  by_cases h : p.Fields.length = q.Fields.length ∧ 1 ≤ p.Fields.length ∧ p.Fields.length ≤ 5
  · obtain ⟨h1, h2, h3⟩ := h
    have hL : loop (fun v : List Int × Int => similarity_Compare_l2 p q v.1 v.2) ([], 0) = some (List.zipWith simB p.Fields q.Fields) := by
      refine loop_for (fun i => (List.zipWith simB (p.Fields.take i) (q.Fields.take i), (i : Int))) p.Fields.length _ (fun i hi => ?_) ?_ (by simp)
      · unfold similarity_Compare_l2
        simp only [Int.toNat_natCast]
        rw [dice_eq (hp.get hi) (hq.get (by omega)), Option.bind_some, if_pos (by simpa using hi), if_pos (by omega), if_pos (by omega), if_pos (by omega), if_pos (by simp; omega), wi64 (by omega) (by omega), zip_takeD dS_api_Bits dS_api_Bits hi (by omega)]
        rfl
      · unfold similarity_Compare_l2
        simp only
        rw [if_neg (by simp), List.take_length, h1, List.take_length]
    rw [if_pos ⟨h1, h2, h3⟩]
    simp only [similarity_Compare, similarity_Compare_k1, fields_eq, Option.bind_some, hL]
    grind
  · rw [if_neg h]
    simp only [similarity_Compare, similarity_Compare_k1, fields_eq, Option.bind_some]
    grind
theorem simB_comm (p q : S_api_Bits) : simB p q = simB q p := by
  have hz : List.zipWith (iand .u64) p.Words q.Words = List.zipWith (iand .u64) q.Words p.Words := by
    rw [List.zipWith_comm]
    congr 1
    funext a b
    unfold iand
    rw [BitVec.and_comm]
  unfold simB
  rw [hz]
  grind
def EncF (b : S_api_Bits) : Prop := b = EB ∨ ∃ x : Nat, x < 18446744073709551616 ∧ b = ⟨64, [(x : Int)]⟩
theorem popN_and_le (f : Nat) : ∀ x y, popN f (x &&& y) ≤ popN f x ∧ popN f (x &&& y) ≤ popN f y := by
  induction f with
  | zero => intro x y; simp [popN]
  | succ f ih =>
    intro x y
    have h := ih (x / 2) (y / 2)
    have h4 := @Nat.and_mod_two_eq_one x y
    rw [popN, popN, popN, Nat.and_div_two]
    rcases Nat.mod_two_eq_zero_or_one (x &&& y) with h5 | h5
    · omega
    · have := h4.1 h5; omega
def simW (x y : Nat) : Nat := if pop64 x + pop64 y = 0 then 0 else (4000 * pop64 (x &&& y) + (pop64 x + pop64 y)) / (2 * (pop64 x + pop64 y))
theorem right64 : Right 64 := by decide
theorem dice_word {x y : Nat} (hx : x < 18446744073709551616) (hy : y < 18446744073709551616) : similarity_Dice ⟨64, [(x : Int)]⟩ ⟨64, [(y : Int)]⟩ = some ((simW x y : Nat) : Int) := by
  rw [dice_eq (by intro w hw; simp at hw; omega) (by intro w hw; simp at hw; omega), simB, if_pos ⟨⟨right64, rfl⟩, ⟨right64, rfl⟩, rfl⟩]
  simp only [List.zipWith_cons_cons, List.zipWith_nil_right, popI, iand64 hx hy, Int.toNat_natCast, simW, Nat.add_zero]
  split <;> rfl
theorem simW_le (x y : Nat) : simW x y ≤ 1000 := by
  have hc : pop64 (x &&& y) ≤ pop64 x ∧ pop64 (x &&& y) ≤ pop64 y := by unfold pop64; exact popN_and_le 64 _ _
  unfold simW
  split
  · omega
  · apply Nat.le_of_lt_succ
    rw [Nat.div_lt_iff_lt_mul (by omega)]
    omega
theorem simB_word {x y : Nat} (hx : x < 18446744073709551616) (hy : y < 18446744073709551616) : simB ⟨64, [(x : Int)]⟩ ⟨64, [(y : Int)]⟩ = ((simW x y : Nat) : Int) := by
  have h := dice_word hx hy
  rw [dice_eq (by intro w hw; simp at hw; omega) (by intro w hw; simp at hw; omega)] at h
  exact Option.some.inj h
theorem simB_nil1 (y : S_api_Bits) : simB EB y = -1 := by
  unfold simB; rw [if_neg]; rintro ⟨⟨⟨h, _⟩, _⟩, _⟩; revert h; decide
theorem simB_nil2 (y : S_api_Bits) : simB y EB = -1 := by rw [simB_comm, simB_nil1]
theorem simB_enc {p q : S_api_Bits} (hp : EncF p) (hq : EncF q) : -1 ≤ simB p q ∧ simB p q ≤ 1000 ∧ (simB p q = -1 ↔ p.Length = 0 ∨ q.Length = 0) := by
  rcases hp with rfl | ⟨x, hx, rfl⟩
  · rw [simB_nil1]; simp [EB]
  · rcases hq with rfl | ⟨y, hy, rfl⟩
    · rw [simB_nil2]; simp [EB]
    · rw [simB_word hx hy]
      have := simW_le x y
      simp only
      omega
end Go.Proofs.Ytknlckjpgmjenaa
