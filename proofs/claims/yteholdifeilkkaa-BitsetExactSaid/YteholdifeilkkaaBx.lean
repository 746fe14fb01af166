/- Plain: arrays of bits, on both sides. -/
import Derived.Test.YteholdifeilkkaaCa
import Derived.Test.YteholdifeilkkaaDk
import Derived.Test.YteholdifeilkkaaPs
namespace Go.Proofs.Yteholdifeilkkaa
open Vm
open IntKind (i64 u64 u32 u8)
set_option linter.unusedVariables false
set_option linter.unusedSimpArgs false
theorem reflen_eq (L : Int) : rl_ref09_length L = some (decide (Right L)) := by
  grind [rl_ref09_length, rl_ref09_length_k1, Right, tmod_nn]
theorem refvalid_eq (p : S_api_Bits) : rl_ref09_Valid p = some (decide (VB p)) := by
  grind [rl_ref09_Valid, rl_ref09_Valid_k1, reflen_eq, VB, Right, tdiv_nn, wi64]
theorem W64.nat {w : Int} (h : 0 ≤ w ∧ w < 18446744073709551616) : ∃ x : Nat, x < 18446744073709551616 ∧ w = (x : Int) := ⟨w.toNat, by omega, by omega⟩
def bitAt (ws : List Int) (k : Nat) : Bool := (ws.getD (k / 64) 0).toNat.testBit (k % 64)
theorem and_one (x j : Nat) : x / 2 ^ j &&& 1 = if x.testBit j then 1 else 0 := by
  rw [Nat.and_one_is_mod, Nat.testBit_eq_decide_div_mod_eq]
  have := Nat.mod_two_eq_zero_or_one (x / 2 ^ j)
  rcases this with h | h <;> simp [h]
theorem bit_int {w : Int} (h : 0 ≤ w ∧ w < 18446744073709551616) {j : Int} (h0 : 0 ≤ j) (h1 : j < 64) : (iand .u64 (ishr .u64 w j) 1 == 1) = w.toNat.testBit j.toNat := by
  obtain ⟨x, hx, rfl⟩ := W64.nat h
  obtain ⟨k, rfl⟩ := Int.eq_ofNat_of_zero_le h0
  rw [ishr64 x (by omega)]
  have hq : x / 2 ^ k < 18446744073709551616 := Nat.lt_of_le_of_lt (Nat.div_le_self _ _) hx
  have := iand64 (x := x / 2 ^ k) (y := 1) hq (by decide)
  rw [show ((1 : Nat) : Int) = 1 from rfl] at this
  rw [this, and_one]
  simp only [Int.toNat_natCast]
  cases x.testBit k <;> simp
theorem refhas_eq {b : S_api_Bits} (hw : W64 b.Words) (i : Int) : rl_ref09_Has b i = some (decide (VB b ∧ 0 ≤ i ∧ i < b.Length) && bitAt b.Words i.toNat) := by
  unfold rl_ref09_Has
  rw [refvalid_eq, Option.bind_some]
  unfold rl_ref09_Has_k1
  by_cases h : VB b ∧ 0 ≤ i ∧ i < b.Length
  · obtain ⟨h1, h2, h3⟩ := h
    have hl := h1.2
    have hb := h1.1.2.1
    have hm := h1.1.2.2
    have hg := hw.get (i := i.toNat / 64) (by omega)
    rw [decide_eq_true h1, if_pos rfl, if_pos (by simpa using h2), if_pos (by simpa using h3), tdiv_nn h2, tmod_nn h2, wi64 (by omega) (by omega), if_pos (by omega), if_pos (by omega), if_pos (by omega)]
    rw [show (i / 64).toNat = i.toNat / 64 by omega, bit_int hg (by omega) (by omega), decide_eq_true ⟨h1, h2, h3⟩, Bool.true_and, show (i % 64).toNat = i.toNat % 64 by omega]
    rfl
  · rw [decide_eq_false h, Bool.false_and]
    grind
/-- how many of the first n bits are set -/
def cnt (ws : List Int) : Nat → Nat
  | 0 => 0
  | n + 1 => cnt ws n + (if bitAt ws n then 1 else 0)
theorem cnt_le (ws : List Int) (n : Nat) : cnt ws n ≤ n := by
  induction n with
  | zero => exact Nat.le_refl 0
  | succ n ih => unfold cnt; split <;> omega
theorem refcount_eq {b : S_api_Bits} (hb : VB b) (hw : W64 b.Words) : rl_ref09_Count b = some ((cnt b.Words b.Length.toNat : Nat) : Int) := by
  obtain ⟨r1, r2, r3⟩ := hb.1
  unfold rl_ref09_Count
  have hloop := loop_for (step := fun v : Int × Int => rl_ref09_Count_l1 b v.1 v.2) (fun i => (((cnt b.Words i : Nat) : Int), (i : Int))) b.Length.toNat ((cnt b.Words b.Length.toNat : Nat) : Int) (fun i hi => by
      have hc := cnt_le b.Words i
      simp only [rl_ref09_Count_l1]
      rw [refvalid_eq, decide_eq_true hb, bind1_pure, if_pos rfl, decide_eq_true (by omega)]
      unfold rl_ref09_Count_k2
      rw [if_pos rfl, refhas_eq hw, decide_eq_true ⟨hb, by omega, by omega⟩, Bool.true_and, bind1_pure, Int.toNat_natCast]
      unfold rl_ref09_Count_k3
      rw [wi64 (n := (i : Int) + 1) (by omega) (by omega)]
      by_cases hx : bitAt b.Words i = true
      · rw [if_pos hx, wi64 (by omega) (by omega)]
        have : cnt b.Words (i + 1) = cnt b.Words i + 1 := by rw [cnt, if_pos hx]
        rw [this]; rfl
      · rw [if_neg hx]
        have : cnt b.Words (i + 1) = cnt b.Words i := by rw [cnt, if_neg hx]; rfl
        rw [this]; rfl) (by
      simp only [rl_ref09_Count_l1]
      rw [refvalid_eq, decide_eq_true hb, bind1_pure, if_pos rfl, decide_eq_false (by omega)]
      rfl) (s := (0, 0)) rfl
  rw [hloop]
  rfl
theorem copy_eq {b : S_api_Bits} (h : b.Words.length ≤ 100) : rl_ref09_Copy b = some b := by
  unfold rl_ref09_Copy
  rw [if_pos (by omega), List.nil_append]
theorem zip_len {f : Int → Int → Int} {a b : List Int} (h : a.length = b.length) : (List.zipWith f a b).length = a.length := by simp [h]
theorem comb_step {f : Int → Int → Int} {a b : List Int} (h : a.length = b.length) {i : Nat} (hi : i < a.length) : ((List.zipWith f (a.take i) (b.take i)) ++ a.drop i).set i (f (((List.zipWith f (a.take i) (b.take i)) ++ a.drop i).getD i 0) (b.getD i 0)) = (List.zipWith f (a.take (i + 1)) (b.take (i + 1))) ++ a.drop (i + 1) := by
  have hz : (List.zipWith f (a.take i) (b.take i)).length = i := by simp; omega
  have hd : a.drop i = a.getD i 0 :: a.drop (i + 1) := by
    rw [List.drop_eq_getElem_cons hi, List.getD_eq_getElem?_getD, List.getElem?_eq_getElem hi]; rfl
  have hib : i < b.length := by omega
  have hg : ((List.zipWith f (a.take i) (b.take i)) ++ a.drop i).getD i 0 = a.getD i 0 := by
    rw [List.getD_eq_getElem?_getD, List.getElem?_append_right (by omega), hz, Nat.sub_self, hd]; rfl
  have hzz : List.zipWith f (a.take (i + 1)) (b.take (i + 1)) = List.zipWith f (a.take i) (b.take i) ++ [f (a.getD i 0) (b.getD i 0)] := by
    rw [List.take_add_one, List.take_add_one, List.zipWith_append (by simp; omega), List.getElem?_eq_getElem hi, List.getElem?_eq_getElem hib]
    simp [List.getD_eq_getElem?_getD, hi, hib]
  rw [hg, List.set_append_right _ _ (by omega), hz, Nat.sub_self, hd, List.set_cons_zero, hzz, List.append_assoc]
  rfl
theorem comb_loop {p q : S_api_Bits} {m : Int} {f : Int → Int → Int} (hm : (m = 1 ∧ f = ior .u64) ∨ (m = 0 ∧ f = iand .u64) ∨ (m = 2 ∧ f = ixor .u64)) (hl : p.Words.length = q.Words.length) (hn : p.Words.length ≤ 100) : loop (fun v : Int × (List Int) => rl_ref09_combine_l2 q m v.1 v.2) (0, p.Words) = some (List.zipWith f p.Words q.Words) := by
  refine loop_for (fun i => ((i : Int), (List.zipWith f (p.Words.take i) (q.Words.take i)) ++ p.Words.drop i)) p.Words.length _ (fun i hi => ?_) ?_ (by simp)
  · have hlen : ((List.zipWith f (p.Words.take i) (q.Words.take i)) ++ p.Words.drop i).length = p.Words.length := by simp; omega
    have hst := comb_step (f := f) hl hi
    simp only [rl_ref09_combine_l2, rl_ref09_combine_k3, hlen, Int.toNat_natCast, Nat.zero_add]
    rcases hm with ⟨rfl, rfl⟩ | ⟨rfl, rfl⟩ | ⟨rfl, rfl⟩
    · rw [if_pos (by simpa using hi), if_neg (by decide), if_pos (by decide), if_pos (by omega), if_pos (by omega), if_pos (by omega), wi64 (by omega) (by omega), hst]; rfl
    · rw [if_pos (by simpa using hi), if_pos (by decide), if_pos (by omega), if_pos (by omega), if_pos (by omega), wi64 (by omega) (by omega), hst]; rfl
    · rw [if_pos (by simpa using hi), if_neg (by decide), if_neg (by decide), if_pos (by omega), if_pos (by omega), if_pos (by omega), wi64 (by omega) (by omega), hst]; rfl
  · have hlen : ((List.zipWith f (p.Words.take p.Words.length) (q.Words.take p.Words.length)) ++ p.Words.drop p.Words.length).length = p.Words.length := by simp; omega
    simp only [rl_ref09_combine_l2, hlen]
    rw [if_neg (by simp), List.drop_length, List.append_nil, List.take_of_length_le (Nat.le_refl _), List.take_of_length_le (by omega)]
theorem comb_eq {p q : S_api_Bits} {m : Int} {f : Int → Int → Int} (hm : (m = 1 ∧ f = ior .u64) ∨ (m = 0 ∧ f = iand .u64) ∨ (m = 2 ∧ f = ixor .u64)) (hp : VB p) (hq : VB q) (h : p.Length = q.Length) : rl_ref09_combine p q m = some (⟨p.Length, List.zipWith f p.Words q.Words⟩, 0) := by
  have h1 := hp.len
  have h2 := hp.2
  have h3 := hq.2
  unfold rl_ref09_combine
  rw [refvalid_eq, decide_eq_true hp, bind1_pure, if_neg (by decide), refvalid_eq, decide_eq_true hq, bind1_pure, if_neg (by decide), show (p.Length != q.Length) = false by simp [h]]
  unfold rl_ref09_combine_k1
  rw [if_neg (by decide), copy_eq (by omega), bind1_pure, comb_loop hm (by omega) (by omega), bind1_pure]
theorem popN_succ (j x : Nat) : popN (j + 1) x = popN j x + (if x.testBit j then 1 else 0) := by
  rw [popN_split j 1 x, Nat.testBit_eq_decide_div_mod_eq]
  simp only [popN, Nat.add_zero]
  rcases Nat.mod_two_eq_zero_or_one (x / 2 ^ j) with h | h <;> simp [h]
theorem cnt_word {ws : List Int} {i j : Nat} (hj : j ≤ 64) : cnt ws (64 * i + j) = cnt ws (64 * i) + popN j (ws.getD i 0).toNat := by
  induction j with
  | zero => simp [popN]
  | succ j ih =>
    rw [show 64 * i + (j + 1) = (64 * i + j) + 1 by omega, cnt, ih (by omega), popN_succ, bitAt, show (64 * i + j) / 64 = i by omega, show (64 * i + j) % 64 = j by omega]
    omega
theorem cnt_pop {ws : List Int} {i : Nat} (h : i ≤ ws.length) : cnt ws (64 * i) = popI (ws.take i) := by
  induction i with
  | zero => simp [cnt, popI]
  | succ i ih =>
    rw [popI_take (by omega), ← ih (by omega), show 64 * (i + 1) = 64 * i + 64 by omega, cnt_word (by omega)]
    unfold pop64
    rfl
theorem refcount_pop {b : S_api_Bits} (hb : VB b) (hw : W64 b.Words) : rl_ref09_Count b = some ((popI b.Words : Nat) : Int) := by
  have h2 := hb.2
  have h3 := hb.1.1
  have h4 := hb.1.2.2
  rw [refcount_eq hb hw, show b.Length.toNat = 64 * b.Words.length by omega, cnt_pop (Nat.le_refl _), List.take_length]
theorem refcomb_eq {m : Int} {f : Int → Int → Int} (hm : (m = 1 ∧ f = ior .u64) ∨ (m = 0 ∧ f = iand .u64) ∨ (m = 2 ∧ f = ixor .u64)) (p q : S_api_Bits) : rl_ref09_combine p q m = some (if VB p ∧ VB q ∧ p.Length = q.Length then (⟨p.Length, List.zipWith f p.Words q.Words⟩, 0) else (EB, 8)) := by
  by_cases h : VB p ∧ VB q ∧ p.Length = q.Length
  · rw [comb_eq hm h.1 h.2.1 h.2.2, if_pos h]
  · rw [if_neg h]
    unfold rl_ref09_combine
    have no : rl_ref09_combine_k1 p q m true = some (EB, 8) := rfl
    rw [refvalid_eq, bind1_pure]
    by_cases h1 : VB p
    · rw [decide_eq_true h1, if_neg (by decide), refvalid_eq, bind1_pure]
      by_cases h2 : VB q
      · rw [decide_eq_true h2, if_neg (by decide), show (p.Length != q.Length) = true by simp only [bne_iff_ne, ne_eq]; exact fun e => h ⟨h1, h2, e⟩, no]
      · rw [decide_eq_false h2, if_pos (by decide), no]
    · rw [decide_eq_false h1, if_pos (by decide), no]
theorem refand_eq (p q : S_api_Bits) : rl_ref09_And p q = some (if VB p ∧ VB q ∧ p.Length = q.Length then (⟨p.Length, List.zipWith (iand .u64) p.Words q.Words⟩, 0) else (EB, 8)) := by
  unfold rl_ref09_And; rw [refcomb_eq (.inr (.inl ⟨rfl, rfl⟩))]; split <;> rfl
theorem refor_eq (p q : S_api_Bits) : rl_ref09_Or p q = some (if VB p ∧ VB q ∧ p.Length = q.Length then (⟨p.Length, List.zipWith (ior .u64) p.Words q.Words⟩, 0) else (EB, 8)) := by
  unfold rl_ref09_Or; rw [refcomb_eq (.inl ⟨rfl, rfl⟩)]; split <;> rfl
theorem refxor_eq (p q : S_api_Bits) : rl_ref09_Xor p q = some (if VB p ∧ VB q ∧ p.Length = q.Length then (⟨p.Length, List.zipWith (ixor .u64) p.Words q.Words⟩, 0) else (EB, 8)) := by
  unfold rl_ref09_Xor; rw [refcomb_eq (.inr (.inr ⟨rfl, rfl⟩))]; split <;> rfl
theorem or_loop {p q : S_api_Bits} (hl : p.Words.length = q.Words.length) (hs : p.Words.length < 1000000) :
    loop (fun v : Int × (List Int) => bitset_both_bitset_Or_f1_l2 p q v.1 v.2) (0, List.replicate p.Words.length 0) = some (List.zipWith (ior .u64) p.Words q.Words) := by
  obtain ⟨t, h1, h2⟩ := loop_of (step := fun v : Int × (List Int) => bitset_both_bitset_Or_f1_l2 p q v.1 v.2) (fun v => ∃ i : Nat, v.1 = i ∧ i ≤ p.Words.length ∧ v.2 = List.zipWith (ior .u64) (p.Words.take i) (q.Words.take i) ++ List.replicate (p.Words.length - i) 0)
      (fun v => p.Words.length - v.1.toNat) (fun t => t = List.zipWith (ior .u64) p.Words q.Words) (by
    rintro ⟨a, b⟩ ⟨i, rfl, hi, rfl⟩
    simp only [bitset_both_bitset_Or_f1_l2, bitset_Or_f1]
    by_cases h : (i : Int) < ((p.Words.length : Nat) : Int)
    · have hi' : i < p.Words.length := by omega
      refine .inl ⟨_, by rw [if_pos (by simpa using h), if_pos (by omega), if_pos h, if_pos (by omega), Option.bind_some, if_pos (by simp; omega)], ⟨i + 1, ?_, by omega, ?_⟩, ?_⟩
      · show IntKind.i64.wrap ((i : Int) + 1) = _
        rw [wi64 (by omega) (by omega)]; rfl
      · show List.set _ _ _ = _
        rw [Int.toNat_natCast, Nat.zero_add, show p.Words.length - i = (p.Words.length - (i + 1)) + 1 by omega, set_next 0 _ i _ (by simp; omega), zip_take hi' (by omega)]
      · show p.Words.length - (IntKind.i64.wrap ((i : Int) + 1)).toNat < p.Words.length - (i : Int).toNat
        rw [wi64 (by omega) (by omega)]; omega
    · have : i = p.Words.length := by omega
      subst this
      refine .inr ⟨_, by rw [if_neg (by simp)], ?_⟩
      rw [Nat.sub_self, List.replicate_zero, List.append_nil, List.take_length, hl, List.take_length]) (0, List.replicate p.Words.length 0) ⟨0, rfl, by omega, by simp⟩
  rw [h1, h2]
theorem or_yes {p q : S_api_Bits} (h : Right p.Length) (hp : (p.Words.length : Int) = p.Length / 64) (hq : (q.Words.length : Int) = p.Length / 64) (hl : q.Length = p.Length) :
    bitset_Or p q = some (⟨p.Length, List.zipWith (ior .u64) p.Words q.Words⟩, 0) := by
  have h2 := h.2.1
  unfold bitset_Or bitset_both_bitset_Or_f1 bitset_both_bitset_Or_f1_k1
  rw [valid_yes h hp, valid_yes (p := q) (by rw [hl]; exact h) (by rw [hl]; exact hq)]
  simp only [Option.bind_some, Bool.not_true, Bool.false_eq_true, if_false, hl, bne_self_eq_false]
  rw [if_pos (by omega), if_pos (by omega), Int.toNat_natCast, or_loop (by omega) (by omega)]
  rfl
theorem or_eq (p q : S_api_Bits) : bitset_Or p q = some (if VB p ∧ VB q ∧ p.Length = q.Length then (⟨p.Length, List.zipWith (ior .u64) p.Words q.Words⟩, 0) else (EB, 8)) := by
  by_cases h : VB p ∧ VB q ∧ p.Length = q.Length
  · rw [if_pos h]
    obtain ⟨h1, h2, h3⟩ := h
    exact or_yes h1.1 h1.2 (by rw [h3]; exact h2.2) h3.symm
  · grind [bitset_Or, bitset_both_bitset_Or_f1, bitset_both_bitset_Or_f1_k1, valid_eq, bind2, EB]
theorem xor_loop {p q : S_api_Bits} (hl : p.Words.length = q.Words.length) (hs : p.Words.length < 1000000) :
    loop (fun v : Int × (List Int) => bitset_both_bitset_Xor_f1_l2 p q v.1 v.2) (0, List.replicate p.Words.length 0) = some (List.zipWith (ixor .u64) p.Words q.Words) := by
  obtain ⟨t, h1, h2⟩ := loop_of (step := fun v : Int × (List Int) => bitset_both_bitset_Xor_f1_l2 p q v.1 v.2) (fun v => ∃ i : Nat, v.1 = i ∧ i ≤ p.Words.length ∧ v.2 = List.zipWith (ixor .u64) (p.Words.take i) (q.Words.take i) ++ List.replicate (p.Words.length - i) 0)
      (fun v => p.Words.length - v.1.toNat) (fun t => t = List.zipWith (ixor .u64) p.Words q.Words) (by
    rintro ⟨a, b⟩ ⟨i, rfl, hi, rfl⟩
    simp only [bitset_both_bitset_Xor_f1_l2, bitset_Xor_f1]
    by_cases h : (i : Int) < ((p.Words.length : Nat) : Int)
    · have hi' : i < p.Words.length := by omega
      refine .inl ⟨_, by rw [if_pos (by simpa using h), if_pos (by omega), if_pos h, if_pos (by omega), Option.bind_some, if_pos (by simp; omega)], ⟨i + 1, ?_, by omega, ?_⟩, ?_⟩
      · show IntKind.i64.wrap ((i : Int) + 1) = _
        rw [wi64 (by omega) (by omega)]; rfl
      · show List.set _ _ _ = _
        rw [Int.toNat_natCast, Nat.zero_add, show p.Words.length - i = (p.Words.length - (i + 1)) + 1 by omega, set_next 0 _ i _ (by simp; omega), zip_take hi' (by omega)]
      · show p.Words.length - (IntKind.i64.wrap ((i : Int) + 1)).toNat < p.Words.length - (i : Int).toNat
        rw [wi64 (by omega) (by omega)]; omega
    · have : i = p.Words.length := by omega
      subst this
      refine .inr ⟨_, by rw [if_neg (by simp)], ?_⟩
      rw [Nat.sub_self, List.replicate_zero, List.append_nil, List.take_length, hl, List.take_length]) (0, List.replicate p.Words.length 0) ⟨0, rfl, by omega, by simp⟩
  rw [h1, h2]
theorem xor_yes {p q : S_api_Bits} (h : Right p.Length) (hp : (p.Words.length : Int) = p.Length / 64) (hq : (q.Words.length : Int) = p.Length / 64) (hl : q.Length = p.Length) :
    bitset_Xor p q = some (⟨p.Length, List.zipWith (ixor .u64) p.Words q.Words⟩, 0) := by
  have h2 := h.2.1
  unfold bitset_Xor bitset_both_bitset_Xor_f1 bitset_both_bitset_Xor_f1_k1
  rw [valid_yes h hp, valid_yes (p := q) (by rw [hl]; exact h) (by rw [hl]; exact hq)]
  simp only [Option.bind_some, Bool.not_true, Bool.false_eq_true, if_false, hl, bne_self_eq_false]
  rw [if_pos (by omega), if_pos (by omega), Int.toNat_natCast, xor_loop (by omega) (by omega)]
  rfl
theorem xor_eq (p q : S_api_Bits) : bitset_Xor p q = some (if VB p ∧ VB q ∧ p.Length = q.Length then (⟨p.Length, List.zipWith (ixor .u64) p.Words q.Words⟩, 0) else (EB, 8)) := by
  by_cases h : VB p ∧ VB q ∧ p.Length = q.Length
  · rw [if_pos h]
    obtain ⟨h1, h2, h3⟩ := h
    exact xor_yes h1.1 h1.2 (by rw [h3]; exact h2.2) h3.symm
  · grind [bitset_Xor, bitset_both_bitset_Xor_f1, bitset_both_bitset_Xor_f1_k1, valid_eq, bind2, EB]
def ordI (a b : Int) : Int := if a < b then -1 else if a > b then 1 else 0
def cmpL : List Int → List Int → Int
  | [], [] => 0
  | [], _ :: _ => -1
  | _ :: _, [] => 1
  | a :: l, b :: k => if ordI a b ≠ 0 then ordI a b else cmpL l k
def cmpB (p q : S_api_Bits) : Int := if ordI p.Length q.Length ≠ 0 then ordI p.Length q.Length else if ordI p.Words.length q.Words.length ≠ 0 then ordI p.Words.length q.Words.length else cmpL p.Words q.Words
theorem ordI_zero {a b : Int} : ordI a b = 0 ↔ a = b := by unfold ordI; split <;> (try split) <;> omega
theorem cmpL_zero : ∀ {l k : List Int}, cmpL l k = 0 ↔ l = k := by
  intro l
  induction l with
  | nil => intro k; cases k <;> simp [cmpL]
  | cons a l ih =>
    intro k
    cases k with
    | nil => simp [cmpL]
    | cons b k =>
      have := ordI_zero (a := a) (b := b)
      unfold cmpL
      split
      · rename_i h; simp only [List.cons.injEq]; grind
      · rename_i h; rw [ih]; simp only [List.cons.injEq]; grind
theorem cmpB_zero {p q : S_api_Bits} : cmpB p q = 0 ↔ p = q := by
  obtain ⟨a, l⟩ := p
  obtain ⟨b, k⟩ := q
  have h1 := ordI_zero (a := a) (b := b)
  have h2 := ordI_zero (a := (l.length : Int)) (b := (k.length : Int))
  have h3 := cmpL_zero (l := l) (k := k)
  unfold cmpB
  simp only [S_api_Bits.mk.injEq]
  split
  · grind
  · split
    · rename_i h
      constructor
      · intro h4; exact absurd h4 h
      · rintro ⟨_, rfl⟩; exact absurd (h2.2 rfl) h
    · grind
theorem cmpL_drop {p q : List Int} {i : Nat} (h1 : i < p.length) (h2 : i < q.length) : cmpL (p.drop i) (q.drop i) = if ordI (p.getD i 0) (q.getD i 0) ≠ 0 then ordI (p.getD i 0) (q.getD i 0) else cmpL (p.drop (i + 1)) (q.drop (i + 1)) := by
  rw [List.drop_eq_getElem_cons h1, List.drop_eq_getElem_cons h2]
  simp only [cmpL, List.getD_eq_getElem?_getD, List.getElem?_eq_getElem h1, List.getElem?_eq_getElem h2, Option.getD_some]
theorem order_eq (a b : Int) : rl_ref09_order a b = some (ordI a b) := by
  unfold rl_ref09_order ordI; grind
theorem refcompare_eq {p q : S_api_Bits} (hp : p.Words.length < 1000000) : rl_ref09_Compare p q = some (cmpB p q) := by
  unfold rl_ref09_Compare cmpB
  rw [order_eq, order_eq, Option.bind_some, Option.bind_some]
  by_cases c1 : ordI p.Length q.Length = 0
  · simp only [c1, ne_eq, not_true_eq_false, if_false, bne_self_eq_false, Bool.false_eq_true]
    by_cases c2 : ordI p.Words.length q.Words.length = 0
    · simp only [c2, not_true_eq_false, if_false, bne_self_eq_false, Bool.false_eq_true]
      have hl := ordI_zero.1 c2
      obtain ⟨t, h1, h2⟩ := loop_inv (step := fun v : Int => rl_ref09_Compare_l1 p q v) p.Words.length (fun i s => s = (i : Int) ∧ cmpL p.Words q.Words = cmpL (p.Words.drop i) (q.Words.drop i)) (fun t => (t = .inl () ∧ cmpL p.Words q.Words = 0) ∨ t = .inr (cmpL p.Words q.Words)) (by
        rintro i hi s ⟨rfl, hs⟩
        simp only [rl_ref09_Compare_l1, Int.toNat_natCast]
        rw [cmpL_drop hi (by omega)] at hs
        rw [if_pos (by simpa using hi), if_pos (by omega), if_pos (by omega), if_pos (by omega), wi64 (by omega) (by omega)]
        have ho : ordI (p.Words.getD i 0) (q.Words.getD i 0) = if p.Words.getD i 0 < q.Words.getD i 0 then -1 else if p.Words.getD i 0 > q.Words.getD i 0 then 1 else 0 := rfl
        by_cases c3 : p.Words.getD i 0 < q.Words.getD i 0
        · right
          rw [ho, if_pos c3, if_pos (by decide)] at hs
          exact ⟨_, by rw [if_pos (by simp only [decide_eq_true_eq]; exact c3)], .inr (by rw [hs])⟩
        · by_cases c4 : p.Words.getD i 0 > q.Words.getD i 0
          · right
            rw [ho, if_neg c3, if_pos c4, if_pos (by decide)] at hs
            exact ⟨_, by rw [if_neg (by simp only [decide_eq_true_eq]; exact c3), if_pos (by simp only [decide_eq_true_eq]; exact c4)], .inr (by rw [hs])⟩
          · left
            rw [ho, if_neg c3, if_neg c4, if_neg (by decide)] at hs
            exact ⟨((i + 1 : Nat) : Int), by rw [if_neg (by simp only [decide_eq_true_eq]; exact c3), if_neg (by simp only [decide_eq_true_eq]; exact c4)]; rfl, rfl, hs⟩) (by
        rintro s ⟨rfl, hs⟩
        refine ⟨.inl (), ?_, .inl ⟨rfl, ?_⟩⟩
        · simp only [rl_ref09_Compare_l1]; rw [if_neg (by simp)]
        · rw [hs, List.drop_length, List.drop_of_length_le (by omega)]; rfl) (s := 0) ⟨rfl, by simp⟩
      rw [h1]
      rcases h2 with ⟨rfl, h3⟩ | rfl
      · rw [bindE_l, h3]; rfl
      · rw [bindE_r]; rfl
    · simp [c2]
  · simp [c1]
theorem isNaN_int (a : Int) : cmp_isNaN_int a = some false := by unfold cmp_isNaN_int; simp
theorem isNaN_u64 (a : Int) : cmp_isNaN_uint64 a = some false := by unfold cmp_isNaN_uint64; simp
theorem cmpint_eq (a b : Int) : cmp_Compare_int a b = some (ordI a b) := by
  unfold cmp_Compare_int ordI
  rw [isNaN_int, isNaN_int, bind1_pure, bind1_pure]
  grind
theorem cmpu64_eq (a b : Int) : cmp_Compare_uint64 a b = some (ordI a b) := by
  unfold cmp_Compare_uint64 ordI
  rw [isNaN_u64, isNaN_u64, bind1_pure, bind1_pure]
  grind
theorem slicescmp_eq {p q : List Int} (hp : p.length < 1000000) : slices_Compare_uint64 p q = some (cmpL p q) := by
  unfold slices_Compare_uint64
  obtain ⟨t, h1, h2⟩ := loop_inv (step := fun v : Int => slices_Compare_uint64_l1 p q v) p.length (fun i s => s = (i : Int) ∧ i ≤ q.length ∧ cmpL p q = cmpL (p.drop i) (q.drop i)) (fun t => (t = .inl () ∧ cmpL p q = if p.length < q.length then -1 else 0) ∨ t = .inr (cmpL p q)) (by
    rintro i hi s ⟨rfl, hq, hs⟩
    simp only [slices_Compare_uint64_l1, Int.toNat_natCast]
    rw [if_pos (by simpa using hi), if_pos (by omega), if_pos (by omega)]
    by_cases hi2 : i < q.length
    · rw [cmpL_drop hi hi2] at hs
      rw [if_neg (by simp; omega), if_pos (by omega), cmpu64_eq, bind1_pure]
      by_cases h0 : ordI (p.getD i 0) (q.getD i 0) = 0
      · left
        rw [if_neg (by simpa using h0)] at hs
        refine ⟨((i + 1 : Nat) : Int), ?_, rfl, by omega, hs⟩
        rw [h0, if_neg (by simp), wi64 (by omega) (by omega)]
        rfl
      · right
        rw [if_pos h0] at hs
        exact ⟨_, by rw [if_pos (by simp only [bne_iff_ne, ne_eq]; exact h0)], .inr (by rw [hs])⟩
    · right
      refine ⟨.inr 1, by rw [if_pos (by simp; omega)], .inr ?_⟩
      have e0 : q.drop i = [] := List.drop_of_length_le (by omega)
      rw [hs, List.drop_eq_getElem_cons hi, e0]
      rfl) (by
    rintro s ⟨rfl, hq, hs⟩
    refine ⟨.inl (), ?_, .inl ⟨rfl, ?_⟩⟩
    · simp only [slices_Compare_uint64_l1]; rw [if_neg (by simp)]
    · rw [hs, List.drop_length]
      split
      · rename_i h; rw [List.drop_eq_getElem_cons h]; rfl
      · rw [List.drop_of_length_le (by omega)]; rfl) (s := 0) ⟨rfl, Nat.zero_le _, by simp⟩
  rw [h1]
  rcases h2 with ⟨rfl, h3⟩ | rfl
  · rw [bindE_l, h3]
    unfold slices_Compare_uint64_a2
    grind
  · rw [bindE_r]; rfl
theorem or3_eq (a b c : Int) : cmp_Or_int [a, b, c] = some (if a ≠ 0 then a else if b ≠ 0 then b else c) := by
  unfold cmp_Or_int
  have st : ∀ i : Nat, i < 3 → cmp_Or_int_l1 [a, b, c] i = if ([a, b, c] : List Int).getD i 0 ≠ 0 then some (.inr (.inr (([a, b, c] : List Int).getD i 0))) else some (.inl ((i + 1 : Nat) : Int)) := by
    intro i hi
    simp only [cmp_Or_int_l1, Int.toNat_natCast, List.length_cons, List.length_nil]
    rw [if_pos (by simp; omega), if_pos (by omega), if_pos (by omega), wi64 (by omega) (by omega)]
    simp only [bne_iff_ne]
    rfl
  have s0 := st 0 (by decide)
  have s1 := st 1 (by decide)
  have s2 := st 2 (by decide)
  simp only [Nat.zero_add, List.getD_cons_zero, List.getD_cons_succ] at s0 s1 s2
  by_cases h0 : a = 0
  · rw [if_neg (by simpa using h0)] at s0
    rw [if_neg (by simpa using h0), loop_next (by exact s0)]
    by_cases h1 : b = 0
    · rw [if_neg (by simpa using h1)] at s1
      rw [if_neg (by simpa using h1), loop_next (by exact s1)]
      by_cases h2 : c = 0
      · rw [if_neg (by simpa using h2)] at s2
        rw [loop_next (by exact s2), loop_end (t := .inl ()) (by simp [cmp_Or_int_l1]), bindE_l, h2]; rfl
      · rw [if_pos h2] at s2
        rw [loop_end (by exact s2), bindE_r]; rfl
    · rw [if_pos h1] at s1
      rw [if_pos h1, loop_end (by exact s1), bindE_r]; rfl
  · rw [if_pos h0] at s0
    rw [if_pos h0, loop_end (by exact s0), bindE_r]; rfl
theorem bcompare_eq {p q : S_api_Bits} (hp : p.Words.length < 1000000) : bitset_Compare p q = some (cmpB p q) := by
  unfold bitset_Compare
  rw [cmpint_eq, cmpint_eq, slicescmp_eq hp, bind1_pure, bind1_pure, bind1_pure, or3_eq, bind1_pure]
  rfl
end Go.Proofs.Yteholdifeilkkaa
