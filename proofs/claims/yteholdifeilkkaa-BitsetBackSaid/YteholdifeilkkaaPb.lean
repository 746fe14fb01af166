/- Bit arrays: what the functions of package bitset come to, for any arrays. -/
import Derived.Test.YteholdifeilkkaaPa
import Derived.Test.YteholdifeilkkaaNf
import Derived.Test.YteholdifeilkkaaG2
namespace Go.Proofs.Yteholdifeilkkaa
open Vm
instance (L : Int) : Decidable (Right L) := by unfold Right; infer_instance
def VB (p : S_api_Bits) : Prop := Right p.Length ∧ (p.Words.length : Int) = p.Length / 64
instance (p : S_api_Bits) : Decidable (VB p) := by unfold VB; infer_instance
theorem right_eq (L : Int) : bitset_right L = some (decide (Right L)) := by
  grind [bitset_right, bitset_right_k2, Right, tmod_nn]
theorem valid_eq (p : S_api_Bits) : bitset_Valid p = some (decide (VB p)) := by
  grind [bitset_Valid, bitset_Valid_k2, right_eq, VB, Right, tdiv_nn, wi64]
theorem VB.len {p : S_api_Bits} (h : VB p) : p.Words.length ≤ 8 ∧ 1 ≤ p.Words.length := by
  obtain ⟨⟨h1, h2, h3⟩, h4⟩ := h; omega
theorem count_eq {p : S_api_Bits} (hw : W64 p.Words) : bitset_Count p = some (if VB p then ((popI p.Words : Nat) : Int) else 0) := by
  by_cases h : VB p
  · rw [count_yes h.1 h.2 hw, if_pos h]
  · grind [bitset_Count, valid_eq]
theorem both_loop {p q : S_api_Bits} {f : Int → Int → Int} {step : Int × List Int → Option ((Int × List Int) ⊕ List Int)} (hs : ∀ v, step v = if (decide (v.1 < ((p.Words.length : Nat) : Int))) = true then (if 0 ≤ v.1 then (if v.1 < ((p.Words.length : Nat) : Int) then (if v.1 < ((q.Words.length : Nat) : Int) then ((some (f (p.Words.getD v.1.toNat 0) (q.Words.getD v.1.toNat 0))).bind fun y14 => (if v.1 < ((v.2.length : Nat) : Int) then (some (.inl (IntKind.i64.wrap (v.1 + 1), (v.2.set (0 + v.1.toNat) y14)))) else none)) else none) else none) else none) else (some (.inr v.2)))
    (hl : p.Words.length = q.Words.length) (hm : p.Words.length < 1000000) : loop step (0, List.replicate p.Words.length 0) = some (List.zipWith f p.Words q.Words) := by
  refine loop_for (fun i => ((i : Int), List.zipWith f (p.Words.take i) (q.Words.take i) ++ List.replicate (p.Words.length - i) 0)) p.Words.length _ (fun i hi => ?_) ?_ (by simp)
  · rw [hs]
    simp only
    rw [if_pos (by simpa using hi), if_pos (by omega), if_pos (by omega), if_pos (by omega), Option.bind_some, if_pos (by simp; omega), wi64 (by omega) (by omega)]
    rw [Int.toNat_natCast, Nat.zero_add, show p.Words.length - i = (p.Words.length - (i + 1)) + 1 by omega, set_next 0 _ i _ (by simp; omega), zip_take hi (by omega)]
    rfl
  · rw [hs]
    simp only [Nat.sub_self, List.replicate_zero, List.append_nil, List.take_length]
    rw [if_neg (by simp), hl, List.take_length]
def EB : S_api_Bits := ⟨0, []⟩
theorem and_eq (p q : S_api_Bits) : bitset_And p q = some (if VB p ∧ VB q ∧ p.Length = q.Length then (⟨p.Length, List.zipWith (iand .u64) p.Words q.Words⟩, 0) else (EB, 8)) := by
  by_cases h : VB p ∧ VB q ∧ p.Length = q.Length
  · rw [if_pos h]
    obtain ⟨h1, h2, h3⟩ := h
    exact and_yes h1.1 h1.2 (by rw [h3]; exact h2.2) h3.symm
  · grind [bitset_And, bitset_both_59, bitset_both_59_k4, valid_eq, bind2, EB]
theorem or_eq (p q : S_api_Bits) : bitset_Or p q = some (if VB p ∧ VB q ∧ p.Length = q.Length then (⟨p.Length, List.zipWith (ior .u64) p.Words q.Words⟩, 0) else (EB, 8)) := by
  by_cases h : VB p ∧ VB q ∧ p.Length = q.Length
  · rw [if_pos h]
    obtain ⟨h1, h2, h3⟩ := h
    have h4 := h1.len
    have hL := both_loop (p := p) (q := q) (f := ior .u64) (step := fun v => bitset_both_60_l6 p q v.1 v.2) (fun v => rfl) (by have := h1.2; have := h2.2; omega) (by omega)
    simp only [bitset_Or, bitset_both_60, bitset_both_60_k4, valid_eq, bind2, Option.bind_some, Int.toNat_natCast, hL]
    grind
  · grind [bitset_Or, bitset_both_60, bitset_both_60_k4, valid_eq, bind2, EB]
theorem xor_eq (p q : S_api_Bits) : bitset_Xor p q = some (if VB p ∧ VB q ∧ p.Length = q.Length then (⟨p.Length, List.zipWith (ixor .u64) p.Words q.Words⟩, 0) else (EB, 8)) := by
  by_cases h : VB p ∧ VB q ∧ p.Length = q.Length
  · rw [if_pos h]
    obtain ⟨h1, h2, h3⟩ := h
    have h4 := h1.len
    have hL := both_loop (p := p) (q := q) (f := ixor .u64) (step := fun v => bitset_both_61_l6 p q v.1 v.2) (fun v => rfl) (by have := h1.2; have := h2.2; omega) (by omega)
    simp only [bitset_Xor, bitset_both_61, bitset_both_61_k4, valid_eq, bind2, Option.bind_some, Int.toNat_natCast, hL]
    grind
  · grind [bitset_Xor, bitset_both_61, bitset_both_61_k4, valid_eq, bind2, EB]
theorem W64.or {a b : List Int} : W64 (List.zipWith (ior .u64) a b) := by
  intro w hw
  obtain ⟨i, hi, rfl⟩ := List.mem_iff_getElem.1 hw
  rw [List.getElem_zipWith]
  unfold ior
  exact ⟨wu64_lo _, wu64_hi _⟩
theorem W64.xor {a b : List Int} : W64 (List.zipWith (ixor .u64) a b) := by
  intro w hw
  obtain ⟨i, hi, rfl⟩ := List.mem_iff_getElem.1 hw
  rw [List.getElem_zipWith]
  unfold ixor
  exact ⟨wu64_lo _, wu64_hi _⟩
theorem VB.comb {p q : S_api_Bits} {f : Int → Int → Int} (hp : VB p) (hq : VB q) (h : p.Length = q.Length) : VB ⟨p.Length, List.zipWith f p.Words q.Words⟩ := by
  refine ⟨hp.1, ?_⟩
  have := hp.2; have := hq.2
  simp only [List.length_zipWith]
  omega
/-- similarity of two arrays -/
def simB (p q : S_api_Bits) : Int := if VB p ∧ VB q ∧ p.Length = q.Length then (if popI p.Words + popI q.Words = 0 then 0 else (((4000 * popI (List.zipWith (iand .u64) p.Words q.Words) + (popI p.Words + popI q.Words)) / (2 * (popI p.Words + popI q.Words)) : Nat) : Int)) else -1
theorem dice_eq {p q : S_api_Bits} (hp : W64 p.Words) (hq : W64 q.Words) : similarity_Dice p q = some (simB p q) := by
  by_cases h : VB p ∧ VB q ∧ p.Length = q.Length
  · obtain ⟨h1, h2, h3⟩ := h
    have l1 := h1.len
    have l2 := h2.len
    have b1 := popI_le p.Words
    have b2 := popI_le q.Words
    have b3 := popI_le (List.zipWith (iand .u64) p.Words q.Words)
    have hc := count_eq (p := ⟨p.Length, List.zipWith (iand .u64) p.Words q.Words⟩) W64.and
    rw [if_pos (VB.comb h1 h2 h3)] at hc
    simp only [List.length_zipWith] at b3
    unfold similarity_Dice simB
    rw [and_eq, if_pos ⟨h1, h2, h3⟩, if_pos ⟨h1, h2, h3⟩]
    simp only [bind2, Option.bind_some]
    rw [if_neg (by simp), count_eq hp, count_eq hq, if_pos h1, if_pos h2, hc]
    simp only [Option.bind_some]
    generalize popI p.Words = a at *
    generalize popI q.Words = b at *
    generalize popI (List.zipWith (iand .u64) p.Words q.Words) = c at *
    have b4 : c ≤ 512 := by omega
    have d0 : 0 ≤ (4000 * (c : Int) + ((a : Int) + b)) / (2 * ((a : Int) + b)) := Int.ediv_nonneg (by omega) (by omega)
    have d1 := Int.ediv_le_self (b := 2 * ((a : Int) + b)) (show 0 ≤ 4000 * (c : Int) + ((a : Int) + b) by omega)
    simp (disch := omega) only [wi64, tdiv_nn]
    by_cases h0 : a + b = 0
    · rw [if_pos (by simp; omega), if_pos h0]
    · rw [if_neg (by simp; omega), if_neg h0, if_pos (by omega)]
      simp
  · unfold similarity_Dice simB
    rw [and_eq, if_neg h, if_neg h]
    simp [bind2]
end Go.Proofs.Yteholdifeilkkaa
