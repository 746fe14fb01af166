/- Bit arrays: And. -/
import Derived.Test.YteholdifeilkkaaNe
namespace Go.Proofs.Yteholdifeilkkaa
open Vm
theorem set_next {α : Type} (d : α) (a : List α) (i m : Nat) (h : a.length = i) (y : α) : (a ++ List.replicate (m + 1) d).set i y = (a ++ [y]) ++ List.replicate m d := by
  subst h
  simp [List.replicate_succ]
theorem zip_take {f : Int → Int → Int} {a b : List Int} {i : Nat} (h : i < a.length) (h' : i < b.length) : List.zipWith f (a.take (i + 1)) (b.take (i + 1)) = List.zipWith f (a.take i) (b.take i) ++ [f (a.getD i 0) (b.getD i 0)] := by
  induction a generalizing b i with
  | nil => simp at h
  | cons x a ih =>
    cases b with
    | nil => simp at h'
    | cons z b =>
      cases i with
      | zero => simp
      | succ i => simpa using ih (i := i) (by simpa using h) (by simpa using h')
theorem and_loop {p q : S_api_Bits} (hl : p.Words.length = q.Words.length) (hs : p.Words.length < 1000000) :
    loop (fun v : Int × (List Int) => bitset_both_59_l6 p q v.1 v.2) (0, List.replicate p.Words.length 0) = some (List.zipWith (iand .u64) p.Words q.Words) := by
  obtain ⟨t, h1, h2⟩ := loop_of (step := fun v : Int × (List Int) => bitset_both_59_l6 p q v.1 v.2) (fun v => ∃ i : Nat, v.1 = i ∧ i ≤ p.Words.length ∧ v.2 = List.zipWith (iand .u64) (p.Words.take i) (q.Words.take i) ++ List.replicate (p.Words.length - i) 0)
      (fun v => p.Words.length - v.1.toNat) (fun t => t = List.zipWith (iand .u64) p.Words q.Words) (by
    rintro ⟨a, b⟩ ⟨i, rfl, hi, rfl⟩
    simp only [bitset_both_59_l6, bitset_And_f1]
    by_cases h : (i : Int) < ((p.Words.length : Nat) : Int)
    · have hi' : i < p.Words.length := by omega
      refine .inl ⟨_, by rw [if_pos (by simpa using h), if_pos (by omega), if_pos h, if_pos (by omega), Option.bind_some, if_pos (by simp; omega)], ⟨i + 1, ?_, by omega, ?_⟩, ?_⟩
      · show IntKind.i64.wrap ((i : Int) + 1) = _
        rw [wi64 (by omega) (by omega)]; rfl
      · show List.set _ _ _ = _
        rw [Int.toNat_natCast, Nat.zero_add, show p.Words.length - i = (p.Words.length - (i + 1)) + 1 by omega, set_next 0 _ i _ (by simp; omega), zip_take hi' (by omega)]
      · show p.Words.length - (IntKind.i64.wrap ((i : Int) + 1)).toNat < p.Words.length - (i : Int).toNat
        rw [wi64 (by omega) (by omega)]; omega
    · have : i = p.Words.length := by omega
      subst this
      refine .inr ⟨_, by rw [if_neg (by simp)], ?_⟩
      rw [Nat.sub_self, List.replicate_zero, List.append_nil, List.take_length, hl, List.take_length]) (0, List.replicate p.Words.length 0) ⟨0, rfl, by omega, by simp⟩
  rw [h1, h2]
theorem and_yes {p q : S_api_Bits} (h : Right p.Length) (hp : (p.Words.length : Int) = p.Length / 64) (hq : (q.Words.length : Int) = p.Length / 64) (hl : q.Length = p.Length) :
    bitset_And p q = some (⟨p.Length, List.zipWith (iand .u64) p.Words q.Words⟩, 0) := by
  have h2 := h.2.1
  unfold bitset_And bitset_both_59 bitset_both_59_k4
  rw [valid_yes h hp, valid_yes (p := q) (by rw [hl]; exact h) (by rw [hl]; exact hq)]
  simp only [Option.bind_some, Bool.not_true, Bool.false_eq_true, if_false, hl, bne_self_eq_false]
  rw [if_pos (by omega), if_pos (by omega), Int.toNat_natCast, and_loop (by omega) (by omega)]
  rfl
theorem W64.and {a b : List Int} : W64 (List.zipWith (iand .u64) a b) := by
  intro w hw
  obtain ⟨i, hi, rfl⟩ := List.mem_iff_getElem.1 hw
  rw [List.getElem_zipWith]
  unfold iand
  exact ⟨wu64_lo _, wu64_hi _⟩
end Go.Proofs.Yteholdifeilkkaa
