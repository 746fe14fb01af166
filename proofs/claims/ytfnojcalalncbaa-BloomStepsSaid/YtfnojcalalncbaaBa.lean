/- Plain: bit arrays: single bits, how many there are; arrays that are compared. -/
import Derived.Test.YtfnojcalalncbaaSa
import Derived.Test.YtfnojcalalncbaaDk
namespace Go.Proofs.Ytfnojcalalncbaa
open Vm
set_option linter.unusedVariables false
set_option linter.unusedSimpArgs false
/-- words of 64 bits -/
def W64 (l : List Int) : Prop := ∀ w ∈ l, 0 ≤ w ∧ w < 18446744073709551616
theorem W64.get {l : List Int} (h : W64 l) {i : Nat} (hi : i < l.length) : 0 ≤ l.getD i 0 ∧ l.getD i 0 < 18446744073709551616 := by
  rw [List.getD_eq_getElem?_getD, List.getElem?_eq_getElem hi]
  exact h _ (List.getElem_mem hi)
def Right (L : Int) : Prop := 64 ≤ L ∧ L ≤ 512 ∧ L % 64 = 0
instance (L : Int) : Decidable (Right L) := by unfold Right; infer_instance
def VB (p : S_api_Bits) : Prop := Right p.Length ∧ (p.Words.length : Int) = p.Length / 64
instance (p : S_api_Bits) : Decidable (VB p) := by unfold VB; infer_instance
theorem right_eq (L : Int) : bitset_right L = some (decide (Right L)) := by
  grind [bitset_right, bitset_right_k1, Right, tmod_nn]
theorem valid_eq (p : S_api_Bits) : bitset_Valid p = some (decide (VB p)) := by
  grind [bitset_Valid, bitset_Valid_k1, right_eq, VB, Right, tdiv_nn, wi64]
theorem reflen_eq (L : Int) : rl_ref09_length L = some (decide (Right L)) := by
  grind [rl_ref09_length, rl_ref09_length_k1, Right, tmod_nn]
theorem refvalid_eq (p : S_api_Bits) : rl_ref09_Valid p = some (decide (VB p)) := by
  grind [rl_ref09_Valid, rl_ref09_Valid_k1, reflen_eq, VB, Right, tdiv_nn, wi64]
theorem VB.len {p : S_api_Bits} (h : VB p) : p.Words.length ≤ 8 ∧ 1 ≤ p.Words.length := by
  obtain ⟨⟨h1, h2, h3⟩, h4⟩ := h; omega
theorem iand64 {x y : Nat} (hx : x < 18446744073709551616) (hy : y < 18446744073709551616) : iand .u64 x y = ((x &&& y : Nat) : Int) := band_u64 hx hy
theorem ior64 {x y : Nat} (hx : x < 18446744073709551616) (hy : y < 18446744073709551616) : ior .u64 x y = ((x ||| y : Nat) : Int) := bor_u64 hx hy
theorem ishr64 (x : Nat) {s : Nat} (hs : s ≤ 64) : ishr .u64 x s = ((x / 2 ^ s : Nat) : Int) := by
  rw [shr_eqN .u64 _ hs]; rfl
theorem ishl64 (x : Nat) {s : Nat} (hs : s ≤ 64) : ishl .u64 x s = ((x * 2 ^ s % 18446744073709551616 : Nat) : Int) := by
  rw [shl_u64 _ hs, ← Int.natCast_mul]
  omega
theorem W64.nat {w : Int} (h : 0 ≤ w ∧ w < 18446744073709551616) : ∃ x : Nat, x < 18446744073709551616 ∧ w = (x : Int) := ⟨w.toNat, by omega, by omega⟩
def bitAt (ws : List Int) (k : Nat) : Bool := (ws.getD (k / 64) 0).toNat.testBit (k % 64)
theorem and_one (x j : Nat) : x / 2 ^ j &&& 1 = if x.testBit j then 1 else 0 := by
  rw [Nat.and_one_is_mod, Nat.testBit_eq_decide_div_mod_eq]
  have := Nat.mod_two_eq_zero_or_one (x / 2 ^ j)
  rcases this with h | h <;> simp [h]
theorem bit_int {w : Int} (h : 0 ≤ w ∧ w < 18446744073709551616) {j : Int} (h0 : 0 ≤ j) (h1 : j < 64) : (iand .u64 (ishr .u64 w j) 1 == 1) = w.toNat.testBit j.toNat := by
  obtain ⟨x, hx, rfl⟩ := W64.nat h
  obtain ⟨k, rfl⟩ := Int.eq_ofNat_of_zero_le h0
  rw [ishr64 x (by omega)]
  have hq : x / 2 ^ k < 18446744073709551616 := Nat.lt_of_le_of_lt (Nat.div_le_self _ _) hx
  have := iand64 (x := x / 2 ^ k) (y := 1) hq (by decide)
  rw [show ((1 : Nat) : Int) = 1 from rfl] at this
  rw [this, and_one]
  simp only [Int.toNat_natCast]
  cases x.testBit k <;> simp
theorem has_eq {b : S_api_Bits} (hw : W64 b.Words) (i : Int) : bitset_Has b i = some (decide (VB b ∧ 0 ≤ i ∧ i < b.Length) && bitAt b.Words i.toNat) := by
  unfold bitset_Has
  rw [valid_eq, Option.bind_some]
  unfold bitset_Has_k1
  by_cases h : VB b ∧ 0 ≤ i ∧ i < b.Length
  · obtain ⟨h1, h2, h3⟩ := h
    have hl := h1.2
    have hb := h1.1.2.1
    have hm := h1.1.2.2
    have hg := hw.get (i := i.toNat / 64) (by omega)
    rw [decide_eq_true h1, if_pos rfl, if_pos (by simpa using h2), if_pos (by simpa using h3), tdiv_nn h2, tmod_nn h2, wi64 (by omega) (by omega), if_pos (by omega), if_pos (by omega), if_pos (by omega)]
    rw [show (i / 64).toNat = i.toNat / 64 by omega, bit_int hg (by omega) (by omega), decide_eq_true ⟨h1, h2, h3⟩, Bool.true_and, show (i % 64).toNat = i.toNat % 64 by omega]
    rfl
  · rw [decide_eq_false h, Bool.false_and]
    grind
theorem refhas_eq {b : S_api_Bits} (hw : W64 b.Words) (i : Int) : rl_ref09_Has b i = some (decide (VB b ∧ 0 ≤ i ∧ i < b.Length) && bitAt b.Words i.toNat) := by
  unfold rl_ref09_Has
  rw [refvalid_eq, Option.bind_some]
  unfold rl_ref09_Has_k1
  by_cases h : VB b ∧ 0 ≤ i ∧ i < b.Length
  · obtain ⟨h1, h2, h3⟩ := h
    have hl := h1.2
    have hb := h1.1.2.1
    have hm := h1.1.2.2
    have hg := hw.get (i := i.toNat / 64) (by omega)
    rw [decide_eq_true h1, if_pos rfl, if_pos (by simpa using h2), if_pos (by simpa using h3), tdiv_nn h2, tmod_nn h2, wi64 (by omega) (by omega), if_pos (by omega), if_pos (by omega), if_pos (by omega)]
    rw [show (i / 64).toNat = i.toNat / 64 by omega, bit_int hg (by omega) (by omega), decide_eq_true ⟨h1, h2, h3⟩, Bool.true_and, show (i % 64).toNat = i.toNat % 64 by omega]
    rfl
  · rw [decide_eq_false h, Bool.false_and]
    grind
def setB (ws : List Int) (k : Nat) : List Int := ws.set (k / 64) (ior .u64 (ws.getD (k / 64) 0) ((2 ^ (k % 64) : Nat) : Int))
theorem ishl_one {j : Int} (h0 : 0 ≤ j) (h1 : j < 64) : ishl .u64 1 j = ((2 ^ j.toNat : Nat) : Int) := by
  obtain ⟨k, rfl⟩ := Int.eq_ofNat_of_zero_le h0
  have h2 : 2 ^ k < 18446744073709551616 := show 2 ^ k < 2 ^ 64 from Nat.pow_lt_pow_right (by omega) (by omega)
  have := ishl64 1 (s := k) (by omega)
  rw [Nat.one_mul, Nat.mod_eq_of_lt h2] at this
  exact this
theorem setB_length (ws : List Int) (k : Nat) : (setB ws k).length = ws.length := by unfold setB; simp
theorem VB.set {b : S_api_Bits} (h : VB b) (k : Nat) : VB ⟨b.Length, setB b.Words k⟩ := by
  refine ⟨h.1, ?_⟩
  have := h.2
  simp only [setB_length]
  exact this
theorem W64.setB {ws : List Int} (h : W64 ws) (k : Nat) : W64 (setB ws k) := by
  intro w hw
  unfold Go.Proofs.Ytfnojcalalncbaa.setB at hw
  rcases List.mem_or_eq_of_mem_set hw with hw | rfl
  · exact h w hw
  · unfold ior; exact ⟨wu64_lo _, wu64_hi _⟩
theorem getD_set {ws : List Int} {i j : Nat} {v : Int} (h : i < ws.length) : (ws.set i v).getD j 0 = if i = j then v else ws.getD j 0 := by
  simp only [List.getD_eq_getElem?_getD, List.getElem?_set]
  split
  · simp_all
  · rfl
theorem bitAt_set {ws : List Int} (hw : W64 ws) {i k : Nat} (hi : i / 64 < ws.length) : bitAt (setB ws i) k = (bitAt ws k || decide (i = k)) := by
  unfold bitAt setB
  rw [getD_set hi]
  obtain ⟨x, hx, e⟩ := W64.nat (hw.get hi)
  have h2 : 2 ^ (i % 64) < 18446744073709551616 := show 2 ^ (i % 64) < 2 ^ 64 from Nat.pow_lt_pow_right (by omega) (by omega)
  split
  · rename_i h
    rw [e, ior64 hx h2]
    simp only [Int.toNat_natCast, Nat.testBit_or, Nat.testBit_two_pow]
    rw [← h, e, Int.toNat_natCast]
    congr 1
    apply decide_eq_decide.2
    omega
  · rename_i h
    rw [decide_eq_false (by rintro rfl; exact h rfl), Bool.or_false]
/-- how many of the first n bits are set -/
def cnt (ws : List Int) : Nat → Nat
  | 0 => 0
  | n + 1 => cnt ws n + (if bitAt ws n then 1 else 0)
theorem cnt_le (ws : List Int) (n : Nat) : cnt ws n ≤ n := by
  induction n with
  | zero => exact Nat.le_refl 0
  | succ n ih => unfold cnt; split <;> omega
theorem cnt_mono {a b : List Int} {n : Nat} (h : ∀ k, k < n → bitAt a k = true → bitAt b k = true) : cnt a n ≤ cnt b n := by
  induction n with
  | zero => exact Nat.le_refl _
  | succ n ih =>
    have h1 := ih fun k hk => h k (by omega)
    have h2 := h n (by omega)
    unfold cnt
    split
    · rename_i h3; rw [if_pos (h2 h3)]; omega
    · split <;> omega
/-! comparisons -/
def ordI (a b : Int) : Int := if a < b then -1 else if a > b then 1 else 0
def cmpL : List Int → List Int → Int
  | [], [] => 0
  | [], _ :: _ => -1
  | _ :: _, [] => 1
  | a :: l, b :: k => if ordI a b ≠ 0 then ordI a b else cmpL l k
def cmpB (p q : S_api_Bits) : Int := if ordI p.Length q.Length ≠ 0 then ordI p.Length q.Length else if ordI p.Words.length q.Words.length ≠ 0 then ordI p.Words.length q.Words.length else cmpL p.Words q.Words
theorem ordI_zero {a b : Int} : ordI a b = 0 ↔ a = b := by unfold ordI; split <;> (try split) <;> omega
theorem cmpL_zero : ∀ {l k : List Int}, cmpL l k = 0 ↔ l = k := by
  intro l
  induction l with
  | nil => intro k; cases k <;> simp [cmpL]
  | cons a l ih =>
    intro k
    cases k with
    | nil => simp [cmpL]
    | cons b k =>
      have := ordI_zero (a := a) (b := b)
      unfold cmpL
      split
      · rename_i h; simp only [List.cons.injEq]; grind
      · rename_i h; rw [ih]; simp only [List.cons.injEq]; grind
theorem cmpB_zero {p q : S_api_Bits} : cmpB p q = 0 ↔ p = q := by
  obtain ⟨a, l⟩ := p
  obtain ⟨b, k⟩ := q
  have h1 := ordI_zero (a := a) (b := b)
  have h2 := ordI_zero (a := (l.length : Int)) (b := (k.length : Int))
  have h3 := cmpL_zero (l := l) (k := k)
  unfold cmpB
  simp only [S_api_Bits.mk.injEq]
  split
  · grind
  · split
    · rename_i h
      constructor
      · intro h4; exact absurd h4 h
      · rintro ⟨_, rfl⟩; exact absurd (h2.2 rfl) h
    · grind
theorem cmpL_drop {p q : List Int} {i : Nat} (h1 : i < p.length) (h2 : i < q.length) : cmpL (p.drop i) (q.drop i) = if ordI (p.getD i 0) (q.getD i 0) ≠ 0 then ordI (p.getD i 0) (q.getD i 0) else cmpL (p.drop (i + 1)) (q.drop (i + 1)) := by
  rw [List.drop_eq_getElem_cons h1, List.drop_eq_getElem_cons h2]
  simp only [cmpL, List.getD_eq_getElem?_getD, List.getElem?_eq_getElem h1, List.getElem?_eq_getElem h2, Option.getD_some]
theorem order_eq (a b : Int) : rl_ref09_order a b = some (ordI a b) := by
  unfold rl_ref09_order ordI; grind
theorem refcompare_eq {p q : S_api_Bits} (hp : p.Words.length < 1000000) : rl_ref09_Compare p q = some (cmpB p q) := by
  unfold rl_ref09_Compare cmpB
  rw [order_eq, order_eq, Option.bind_some, Option.bind_some]
  by_cases c1 : ordI p.Length q.Length = 0
  · simp only [c1, ne_eq, not_true_eq_false, if_false, bne_self_eq_false, Bool.false_eq_true]
    by_cases c2 : ordI p.Words.length q.Words.length = 0
    · simp only [c2, not_true_eq_false, if_false, bne_self_eq_false, Bool.false_eq_true]
      have hl := ordI_zero.1 c2
      obtain ⟨t, h1, h2⟩ := loop_inv (step := fun v : Int => rl_ref09_Compare_l1 p q v) p.Words.length (fun i s => s = (i : Int) ∧ cmpL p.Words q.Words = cmpL (p.Words.drop i) (q.Words.drop i)) (fun t => (t = .inl () ∧ cmpL p.Words q.Words = 0) ∨ t = .inr (cmpL p.Words q.Words)) (by
        rintro i hi s ⟨rfl, hs⟩
        simp only [rl_ref09_Compare_l1, Int.toNat_natCast]
        rw [cmpL_drop hi (by omega)] at hs
        rw [if_pos (by simpa using hi), if_pos (by omega), if_pos (by omega), if_pos (by omega), wi64 (by omega) (by omega)]
        have ho : ordI (p.Words.getD i 0) (q.Words.getD i 0) = if p.Words.getD i 0 < q.Words.getD i 0 then -1 else if p.Words.getD i 0 > q.Words.getD i 0 then 1 else 0 := rfl
        by_cases c3 : p.Words.getD i 0 < q.Words.getD i 0
        · right
          rw [ho, if_pos c3, if_pos (by decide)] at hs
          exact ⟨_, by rw [if_pos (by simp only [decide_eq_true_eq]; exact c3)], .inr (by rw [hs])⟩
        · by_cases c4 : p.Words.getD i 0 > q.Words.getD i 0
          · right
            rw [ho, if_neg c3, if_pos c4, if_pos (by decide)] at hs
            exact ⟨_, by rw [if_neg (by simp only [decide_eq_true_eq]; exact c3), if_pos (by simp only [decide_eq_true_eq]; exact c4)], .inr (by rw [hs])⟩
          · left
            rw [ho, if_neg c3, if_neg c4, if_neg (by decide)] at hs
            exact ⟨((i + 1 : Nat) : Int), by rw [if_neg (by simp only [decide_eq_true_eq]; exact c3), if_neg (by simp only [decide_eq_true_eq]; exact c4)]; rfl, rfl, hs⟩) (by
        rintro s ⟨rfl, hs⟩
        refine ⟨.inl (), ?_, .inl ⟨rfl, ?_⟩⟩
        · simp only [rl_ref09_Compare_l1]; rw [if_neg (by simp)]
        · rw [hs, List.drop_length, List.drop_of_length_le (by omega)]; rfl) (s := 0) ⟨rfl, by simp⟩
      rw [h1]
      rcases h2 with ⟨rfl, h3⟩ | rfl
      · rw [bindE_l, h3]; rfl
      · rw [bindE_r]; rfl
    · simp [c2]
  · simp [c1]
theorem ints_eq {p q : List Int} (h : p.length < 1000000) : rl_ref01_Ints p q = some (decide (p = q)) := by
  unfold rl_ref01_Ints
  by_cases hl : p.length = q.length
  · rw [if_neg (by simp; omega)]
    obtain ⟨t, h1, h2⟩ := loop_inv (step := fun v : Int => rl_ref01_Ints_l1 p q v) p.length (fun i s => s = (i : Int) ∧ ∀ j, j < i → p[j]? = q[j]?) (fun t => (t = .inl () ∧ p = q) ∨ (t = .inr () ∧ p ≠ q)) (by
      rintro i hi s ⟨rfl, hs⟩
      by_cases he : p[i]? = q[i]?
      · exact .inl ⟨((i + 1 : Nat) : Int), by grind [rl_ref01_Ints_l1, wi64], rfl, fun j hj => by grind⟩
      · exact .inr ⟨.inr (), by grind [rl_ref01_Ints_l1], .inr ⟨rfl, fun e => he (by rw [e])⟩⟩) (by
      rintro s ⟨rfl, hs⟩
      exact ⟨.inl (), by grind [rl_ref01_Ints_l1], .inl ⟨rfl, List.ext_getElem? fun j => by
        by_cases hj : j < p.length
        · exact hs j hj
        · rw [List.getElem?_eq_none (by omega), List.getElem?_eq_none (by omega)]⟩⟩) (s := 0) ⟨rfl, fun j hj => absurd hj (by omega)⟩
    rw [h1]
    rcases h2 with ⟨rfl, rfl⟩ | ⟨rfl, hn⟩
    · simp [bindE, rl_ref01_Ints_a2]
    · simp [bindE, rl_ref01_Ints_a3, hn]
  · rw [if_pos (by simp; omega)]
    rw [decide_eq_false (fun e => hl (by rw [e]))]
/-- Arrays with the same bits. -/
theorem bits_ext {a b : List Int} (ha : W64 a) (hb : W64 b) (hl : a.length = b.length) (h : ∀ k, k < 64 * a.length → bitAt a k = bitAt b k) : a = b := by
  apply List.ext_getElem?
  intro i
  by_cases hi : i < a.length
  · have h1 := ha.get hi
    have h2 := hb.get (i := i) (by omega)
    have h3 : (a.getD i 0).toNat = (b.getD i 0).toNat := by
      apply Nat.eq_of_testBit_eq
      intro j
      by_cases hj : j < 64
      · have := h (64 * i + j) (by omega)
        unfold bitAt at this
        rw [show (64 * i + j) / 64 = i by omega, show (64 * i + j) % 64 = j by omega] at this
        exact this
      · have p : 2 ^ 64 ≤ 2 ^ j := Nat.pow_le_pow_right (by decide) (by omega)
        rw [Nat.testBit_lt_two_pow (by omega), Nat.testBit_lt_two_pow (by omega)]
    have hi2 : i < b.length := by omega
    simp only [List.getD_eq_getElem?_getD, List.getElem?_eq_getElem hi, List.getElem?_eq_getElem hi2, Option.getD_some] at h1 h2 h3
    rw [List.getElem?_eq_getElem hi, List.getElem?_eq_getElem (by omega)]
    congr 1
    omega
  · rw [List.getElem?_eq_none (by omega), List.getElem?_eq_none (by omega)]
/-- how many bits there are, if all of them are in a list -/
theorem cnt_list {ws : List Int} {l : List Int} {n : Nat} (h : ∀ k, k < n → bitAt ws k = true → (k : Int) ∈ l) : cnt ws n ≤ l.length := by
  have key : ∀ m, m ≤ n → cnt ws m ≤ l.countP (fun x => decide (0 ≤ x ∧ x < (m : Int))) := by
    intro m
    induction m with
    | zero => intro _; exact Nat.zero_le _
    | succ m ih =>
      intro hm
      have h1 := ih (by omega)
      have h2 : l.countP (fun x => decide (0 ≤ x ∧ x < (m : Int))) + l.countP (fun x => decide (x = (m : Int))) ≤ l.countP (fun x => decide (0 ≤ x ∧ x < ((m + 1 : Nat) : Int))) := by
        clear h h1 ih
        induction l with
        | nil => simp
        | cons x l ih =>
          simp only [List.countP_cons, decide_eq_true_eq]
          split <;> split <;> split <;> omega
      unfold cnt
      split
      · rename_i hb
        have h3 := h m (by omega) hb
        have h4 : 0 < l.countP (fun x => decide (x = (m : Int))) := List.countP_pos_iff.2 ⟨_, h3, by simp⟩
        omega
      · omega
  exact Nat.le_trans (key n (Nat.le_refl n)) List.countP_le_length
end Go.Proofs.Ytfnojcalalncbaa
