/- Plain: bit arrays (valid, count, and), Dice. -/
import Derived.Test.YtknlckjpgmjenaaPa
import Derived.Test.YtknlckjpgmjenaaNd
namespace Go.Proofs.Ytknlckjpgmjenaa
open Vm
set_option linter.unusedVariables false
set_option linter.unusedSimpArgs false
/-- words of 64 bits -/
def W64 (l : List Int) : Prop := ∀ w ∈ l, 0 ≤ w ∧ w < 18446744073709551616
@[irreducible] def pop64 (x : Nat) : Nat := popN 64 x
theorem pop64_le (x : Nat) : pop64 x ≤ 64 := by unfold pop64; exact popN_le 64 x
def popI : List Int → Nat
  | [] => 0
  | w :: l => pop64 w.toNat + popI l
theorem popI_take {l : List Int} {i : Nat} (h : i < l.length) : popI (l.take (i + 1)) = popI (l.take i) + pop64 (l.getD i 0).toNat := by
  induction l generalizing i with
  | nil => simp at h
  | cons w l ih =>
    cases i with
    | zero => simp [popI]
    | succ i =>
      have := ih (i := i) (by simpa using h)
      simp only [List.take_succ_cons, popI, List.getD_cons_succ]
      omega
theorem ones_int {w : Int} (h : 0 ≤ w ∧ w < 18446744073709551616) : bits_OnesCount64 w = some ((pop64 w.toNat : Nat) : Int) := by
  obtain ⟨x, rfl⟩ := Int.eq_ofNat_of_zero_le h.1
  rw [ones_eq (by omega)]
  simp only [Int.toNat_natCast]
  unfold pop64
  rfl
theorem W64.get {l : List Int} (h : W64 l) {i : Nat} (hi : i < l.length) : 0 ≤ l.getD i 0 ∧ l.getD i 0 < 18446744073709551616 := by
  rw [List.getD_eq_getElem?_getD, List.getElem?_eq_getElem hi]
  exact h _ (List.getElem_mem hi)
theorem popI_le (l : List Int) : popI l ≤ 64 * l.length := by
  induction l with
  | nil => simp [popI]
  | cons w l ih =>
    have := pop64_le w.toNat
    simp only [popI, List.length_cons] at ih ⊢
    omega
theorem popI_take_le (l : List Int) (i : Nat) : popI (l.take i) ≤ 64 * i := Nat.le_trans (popI_le _) (by simp; omega)
theorem count_loop {p : S_api_Bits} (hw : W64 p.Words) (hl : p.Words.length < 1000000) : loop (fun v : Int × Int => bitset_Count_l1 p v.1 v.2) (0, 0) = some ((popI p.Words : Nat) : Int) := by
  obtain ⟨t, h1, h2⟩ := loop_of (step := fun v : Int × Int => bitset_Count_l1 p v.1 v.2) (fun v => ∃ i : Nat, v.2 = i ∧ i ≤ p.Words.length ∧ v.1 = ((popI (p.Words.take i) : Nat) : Int)) (fun v => p.Words.length - v.2.toNat) (fun t => t = ((popI p.Words : Nat) : Int)) (by
    rintro ⟨a, b⟩ ⟨i, rfl, hi, rfl⟩
    simp only [bitset_Count_l1]
    by_cases h : (i : Int) < ((p.Words.length : Nat) : Int)
    · have hi' : i < p.Words.length := by omega
      have hb := popI_take_le p.Words i
      have hp := pop64_le (p.Words.getD i 0).toNat
      refine .inl ⟨_, by rw [if_pos (by simpa using h), if_pos (by omega), if_pos h, Int.toNat_natCast, ones_int (hw.get hi')]; rfl, ⟨i + 1, ?_, by omega, ?_⟩, ?_⟩
      · show IntKind.i64.wrap ((i : Int) + 1) = _
        rw [wi64 (by omega) (by omega)]; rfl
      · show IntKind.i64.wrap (((popI (p.Words.take i) : Nat) : Int) + ((pop64 (p.Words.getD i 0).toNat : Nat) : Int)) = _
        rw [wi64 (by omega) (by omega), popI_take hi']; simp
      · show p.Words.length - (IntKind.i64.wrap ((i : Int) + 1)).toNat < p.Words.length - (i : Int).toNat
        rw [wi64 (by omega) (by omega)]; omega
    · have : i = p.Words.length := by omega
      subst this
      exact .inr ⟨_, by rw [if_neg (by simp)], by rw [List.take_length]⟩) (0, 0) ⟨0, rfl, by omega, by simp [popI]⟩
  rw [h1, h2]
def Right (L : Int) : Prop := 64 ≤ L ∧ L ≤ 512 ∧ L % 64 = 0
theorem right_yes {L : Int} (h : Right L) : bitset_right L = some true := by
  obtain ⟨h1, h2, h3⟩ := h
  unfold bitset_right bitset_right_k1
  rw [if_pos (by simpa using h1), if_pos (by simpa using h2), tmod_nn (by omega), h3]
  rfl
theorem valid_yes {p : S_api_Bits} (h : Right p.Length) (hl : (p.Words.length : Int) = p.Length / 64) : bitset_Valid p = some true := by
  unfold bitset_Valid bitset_Valid_k1
  rw [right_yes h, Option.bind_some, if_pos rfl, hl, tdiv_nn (by have := h.1; omega), wi64 (by have := h.1; omega) (by have := h.2.1; omega)]
  simp
theorem count_yes {p : S_api_Bits} (h : Right p.Length) (hl : (p.Words.length : Int) = p.Length / 64) (hw : W64 p.Words) : bitset_Count p = some ((popI p.Words : Nat) : Int) := by
  unfold bitset_Count
  rw [valid_yes h hl, Option.bind_some, if_neg (by simp), count_loop hw (by have := h.2.1; omega)]
  rfl
theorem set_next {α : Type} (d : α) (a : List α) (i m : Nat) (h : a.length = i) (y : α) : (a ++ List.replicate (m + 1) d).set i y = (a ++ [y]) ++ List.replicate m d := by
  subst h
  simp [List.replicate_succ]
theorem zip_take {f : Int → Int → Int} {a b : List Int} {i : Nat} (h : i < a.length) (h' : i < b.length) : List.zipWith f (a.take (i + 1)) (b.take (i + 1)) = List.zipWith f (a.take i) (b.take i) ++ [f (a.getD i 0) (b.getD i 0)] := by
  induction a generalizing b i with
  | nil => simp at h
  | cons x a ih =>
    cases b with
    | nil => simp at h'
    | cons z b =>
      cases i with
      | zero => simp
      | succ i => simpa using ih (i := i) (by simpa using h) (by simpa using h')
theorem and_loop {p q : S_api_Bits} (hl : p.Words.length = q.Words.length) (hs : p.Words.length < 1000000) :
    loop (fun v : Int × (List Int) => bitset_both_bitset_And_f1_l2 p q v.1 v.2) (0, List.replicate p.Words.length 0) = some (List.zipWith (iand .u64) p.Words q.Words) := by
  obtain ⟨t, h1, h2⟩ := loop_of (step := fun v : Int × (List Int) => bitset_both_bitset_And_f1_l2 p q v.1 v.2) (fun v => ∃ i : Nat, v.1 = i ∧ i ≤ p.Words.length ∧ v.2 = List.zipWith (iand .u64) (p.Words.take i) (q.Words.take i) ++ List.replicate (p.Words.length - i) 0)
      (fun v => p.Words.length - v.1.toNat) (fun t => t = List.zipWith (iand .u64) p.Words q.Words) (by
    rintro ⟨a, b⟩ ⟨i, rfl, hi, rfl⟩
    simp only [bitset_both_bitset_And_f1_l2, bitset_And_f1]
    by_cases h : (i : Int) < ((p.Words.length : Nat) : Int)
    · have hi' : i < p.Words.length := by omega
      refine .inl ⟨_, by rw [if_pos (by simpa using h), if_pos (by omega), if_pos h, if_pos (by omega), Option.bind_some, if_pos (by simp; omega)], ⟨i + 1, ?_, by omega, ?_⟩, ?_⟩
      · show IntKind.i64.wrap ((i : Int) + 1) = _
        rw [wi64 (by omega) (by omega)]; rfl
      · show List.set _ _ _ = _
        rw [Int.toNat_natCast, Nat.zero_add, show p.Words.length - i = (p.Words.length - (i + 1)) + 1 by omega, set_next 0 _ i _ (by simp; omega), zip_take hi' (by omega)]
      · show p.Words.length - (IntKind.i64.wrap ((i : Int) + 1)).toNat < p.Words.length - (i : Int).toNat
        rw [wi64 (by omega) (by omega)]; omega
    · have : i = p.Words.length := by omega
      subst this
      refine .inr ⟨_, by rw [if_neg (by simp)], ?_⟩
      rw [Nat.sub_self, List.replicate_zero, List.append_nil, List.take_length, hl, List.take_length]) (0, List.replicate p.Words.length 0) ⟨0, rfl, by omega, by simp⟩
  rw [h1, h2]
theorem and_yes {p q : S_api_Bits} (h : Right p.Length) (hp : (p.Words.length : Int) = p.Length / 64) (hq : (q.Words.length : Int) = p.Length / 64) (hl : q.Length = p.Length) :
    bitset_And p q = some (⟨p.Length, List.zipWith (iand .u64) p.Words q.Words⟩, 0) := by
  have h2 := h.2.1
  unfold bitset_And bitset_both_bitset_And_f1 bitset_both_bitset_And_f1_k1
  rw [valid_yes h hp, valid_yes (p := q) (by rw [hl]; exact h) (by rw [hl]; exact hq)]
  simp only [Option.bind_some, Bool.not_true, Bool.false_eq_true, if_false, hl, bne_self_eq_false]
  rw [if_pos (by omega), if_pos (by omega), Int.toNat_natCast, and_loop (by omega) (by omega)]
  rfl
theorem W64.and {a b : List Int} : W64 (List.zipWith (iand .u64) a b) := by
  intro w hw
  obtain ⟨i, hi, rfl⟩ := List.mem_iff_getElem.1 hw
  rw [List.getElem_zipWith]
  unfold iand
  exact ⟨wu64_lo _, wu64_hi _⟩
instance (L : Int) : Decidable (Right L) := by unfold Right; infer_instance
def VB (p : S_api_Bits) : Prop := Right p.Length ∧ (p.Words.length : Int) = p.Length / 64
instance (p : S_api_Bits) : Decidable (VB p) := by unfold VB; infer_instance
theorem right_eq (L : Int) : bitset_right L = some (decide (Right L)) := by
  grind [bitset_right, bitset_right_k1, Right, tmod_nn]
theorem valid_eq (p : S_api_Bits) : bitset_Valid p = some (decide (VB p)) := by
  grind [bitset_Valid, bitset_Valid_k1, right_eq, VB, Right, tdiv_nn, wi64]
theorem VB.len {p : S_api_Bits} (h : VB p) : p.Words.length ≤ 8 ∧ 1 ≤ p.Words.length := by
  obtain ⟨⟨h1, h2, h3⟩, h4⟩ := h; omega
theorem count_eq {p : S_api_Bits} (hw : W64 p.Words) : bitset_Count p = some (if VB p then ((popI p.Words : Nat) : Int) else 0) := by
  by_cases h : VB p
  · rw [count_yes h.1 h.2 hw, if_pos h]
  · grind [bitset_Count, valid_eq]
def EB : S_api_Bits := ⟨0, []⟩
theorem and_eq (p q : S_api_Bits) : bitset_And p q = some (if VB p ∧ VB q ∧ p.Length = q.Length then (⟨p.Length, List.zipWith (iand .u64) p.Words q.Words⟩, 0) else (EB, 8)) := by
  by_cases h : VB p ∧ VB q ∧ p.Length = q.Length
  · rw [if_pos h]
    obtain ⟨h1, h2, h3⟩ := h
    exact and_yes h1.1 h1.2 (by rw [h3]; exact h2.2) h3.symm
  · grind [bitset_And, bitset_both_bitset_And_f1, bitset_both_bitset_And_f1_k1, valid_eq, bind2, EB]
theorem VB.comb {p q : S_api_Bits} {f : Int → Int → Int} (hp : VB p) (hq : VB q) (h : p.Length = q.Length) : VB ⟨p.Length, List.zipWith f p.Words q.Words⟩ := by
  refine ⟨hp.1, ?_⟩
  have := hp.2; have := hq.2
  simp only [List.length_zipWith]
  omega
def simB (p q : S_api_Bits) : Int := if VB p ∧ VB q ∧ p.Length = q.Length then (if popI p.Words + popI q.Words = 0 then 0 else (((4000 * popI (List.zipWith (iand .u64) p.Words q.Words) + (popI p.Words + popI q.Words)) / (2 * (popI p.Words + popI q.Words)) : Nat) : Int)) else -1
theorem dice_eq {p q : S_api_Bits} (hp : W64 p.Words) (hq : W64 q.Words) : similarity_Dice p q = some (simB p q) := by
  by_cases h : VB p ∧ VB q ∧ p.Length = q.Length
  · obtain ⟨h1, h2, h3⟩ := h
    have l1 := h1.len
    have l2 := h2.len
    have b1 := popI_le p.Words
    have b2 := popI_le q.Words
    have b3 := popI_le (List.zipWith (iand .u64) p.Words q.Words)
    have hc := count_eq (p := ⟨p.Length, List.zipWith (iand .u64) p.Words q.Words⟩) W64.and
    rw [if_pos (VB.comb h1 h2 h3)] at hc
    simp only [List.length_zipWith] at b3
    unfold similarity_Dice simB
    rw [and_eq, if_pos ⟨h1, h2, h3⟩, if_pos ⟨h1, h2, h3⟩]
    simp only [bind2, Option.bind_some]
    rw [if_neg (by simp), count_eq hp, count_eq hq, if_pos h1, if_pos h2, hc]
    simp only [Option.bind_some]
    generalize popI p.Words = a at *
    generalize popI q.Words = b at *
    generalize popI (List.zipWith (iand .u64) p.Words q.Words) = c at *
    have b4 : c ≤ 512 := by omega
    have d0 : 0 ≤ (4000 * (c : Int) + ((a : Int) + b)) / (2 * ((a : Int) + b)) := Int.ediv_nonneg (by omega) (by omega)
    have d1 := Int.ediv_le_self (b := 2 * ((a : Int) + b)) (show 0 ≤ 4000 * (c : Int) + ((a : Int) + b) by omega)
    simp (disch := omega) only [wi64, tdiv_nn]
    by_cases h0 : a + b = 0
    · rw [if_pos (by simp; omega), if_pos h0]
    · rw [if_neg (by simp; omega), if_neg h0, if_pos (by omega)]
      simp
  · unfold similarity_Dice simB
    rw [and_eq, if_neg h, if_neg h]
    simp [bind2]
end Go.Proofs.Ytknlckjpgmjenaa
