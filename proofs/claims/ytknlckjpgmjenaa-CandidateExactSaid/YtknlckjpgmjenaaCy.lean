/- Plain: records, similarities, outcomes of any data, on both sides. -/
import Derived.Test.YtknlckjpgmjenaaCf
namespace Go.Proofs.Ytknlckjpgmjenaa
open Vm
open IntKind (i64 u64 u32 u8)
set_option linter.unusedVariables false
set_option linter.unusedSimpArgs false
theorem int_get {l : List Int} {i : Nat} (h : i < l.length) : l.getD i 0 ∈ l := by
  rw [List.getD_eq_getElem?_getD, List.getElem?_eq_getElem h]
  exact List.getElem_mem h
theorem drop_cons {α : Type} (d : α) {l : List α} {i : Nat} (h : i < l.length) : l.drop i = l.getD i d :: l.drop (i + 1) := by
  rw [List.drop_eq_getElem_cons h, List.getD_eq_getElem?_getD, List.getElem?_eq_getElem h]
  rfl
/-- A loop that looks for the first element with a property. -/
theorem scan_loop {α σ τ : Type} (d : α) (f : α → Bool) (l : List α) (s : Nat → σ) (r : Nat → τ) {υ : Type} (e : υ) {step : σ → Option (σ ⊕ (υ ⊕ τ))} (hs : ∀ i : Nat, i < l.length → step (s i) = if f (l.getD i d) = true then some (.inr (.inr (r i))) else some (.inl (s (i + 1))))
    (he : step (s l.length) = some (.inr (.inl e))) {s0 : σ} (h0 : s0 = s 0 := by rfl) : loop step s0 = some (match l.findIdx? f with | some i => .inr (r i) | none => .inl e) := by
  subst h0
  have key : ∀ k j, j + k = l.length → loop step (s j) = some (match (l.drop j).findIdx? f with | some i => .inr (r (j + i)) | none => .inl e) := by
    intro k
    induction k with
    | zero =>
      intro j hj
      have : j = l.length := by omega
      subst this
      rw [loop_end he, List.drop_length]
      rfl
    | succ k ih =>
      intro j hj
      have hs := hs j (by omega)
      rw [drop_cons d (show j < l.length by omega), List.findIdx?_cons]
      by_cases hf : f (l.getD j d) = true
      · rw [if_pos hf] at hs
        rw [loop_end hs, if_pos hf]
        rfl
      · rw [if_neg hf] at hs
        rw [loop_next hs, ih (j + 1) (by omega), if_neg hf]
        cases (l.drop (j + 1)).findIdx? f with
        | none => rfl
        | some i => simp only [Option.map_some]; rw [show j + (i + 1) = j + 1 + i by omega]
  have := key l.length 0 (by omega)
  rw [this, List.drop_zero]
  cases l.findIdx? f with
  | none => rfl
  | some i => simp only [Nat.zero_add]
theorem any_of_idx {α : Type} {f : α → Bool} {l : List α} : (∃ x ∈ l, f x = true) ↔ l.findIdx? f ≠ none := by
  rw [ne_eq, List.findIdx?_eq_none_iff]
  constructor
  · rintro ⟨x, hx, hf⟩ h
    rw [h x hx] at hf; cases hf
  · intro h
    refine Classical.byContradiction fun hc => h fun x hx => ?_
    cases hf : f x with
    | false => rfl
    | true => exact absurd ⟨x, hx, hf⟩ hc
/-! Right records. -/
def NB (b : S_api_Bits) : Prop := (b.Length = 0 ∧ b.Words.length = 0) ∨ VB b
instance (b : S_api_Bits) : Decidable (NB b) := by unfold NB; infer_instance
def EV (x : S_api_Encoded) : Prop := (1 ≤ x.ID ∧ x.ID ≤ 1048576) ∧ (1 ≤ x.Version ∧ x.Version ≤ 1048576) ∧ (1 ≤ x.Fields.length ∧ x.Fields.length ≤ 5) ∧ ∀ b ∈ x.Fields, NB b
instance (x : S_api_Encoded) : Decidable (EV x) := by unfold EV; infer_instance
theorem bad_eq (b : S_api_Bits) : encode_Valid_f1 b = some (!decide (NB b)) := by
  unfold encode_Valid_f1 encode_none encode_none_k1 encode_Valid_f1_k1 NB
  rw [valid_eq]
  by_cases h1 : b.Length = 0
  · by_cases h2 : b.Words.length = 0
    · simp [h1, h2]
    · simp [h1, h2]
  · simp [h1]
theorem enc_any {l : List S_api_Bits} (hl : l.length < 1000000) : slices_ContainsFunc_api_Bits_encode_Valid_f1 l = some (!decide (∀ b ∈ l, NB b)) := by
  unfold slices_ContainsFunc_api_Bits_encode_Valid_f1 slices_IndexFunc_api_Bits_encode_Valid_f1
  rw [scan_loop dS_api_Bits (fun b => !decide (NB b)) l (fun i => (i : Int)) (fun i => (i : Int)) () (step := fun v : Int => slices_IndexFunc_api_Bits_encode_Valid_f1_l1 l v) (fun i hi => by
      simp only [slices_IndexFunc_api_Bits_encode_Valid_f1_l1, Int.toNat_natCast]
      rw [if_pos (by simp only [decide_eq_true_eq]; omega), if_pos (by omega), if_pos (by omega), bad_eq, bind1_pure, wi64 (n := (i : Int) + 1) (by omega) (by omega)]
      rfl) (by
      simp only [slices_IndexFunc_api_Bits_encode_Valid_f1_l1]
      rw [if_neg (by simp)])]
  by_cases h : ∀ b ∈ l, NB b
  · rw [decide_eq_true h, List.findIdx?_eq_none_iff.2 (fun b hb => by simp [h b hb])]
    rfl
  · rw [decide_eq_false h]
    have : l.findIdx? (fun b => !decide (NB b)) ≠ none := any_of_idx.1 (by simpa using h)
    cases hi : l.findIdx? (fun b => !decide (NB b)) with
    | none => exact absurd hi this
    | some i =>
      simp only [bindE_r, slices_IndexFunc_api_Bits_encode_Valid_f1_a3, bind1_pure]
      rw [decide_eq_true (show (i : Int) ≥ 0 by omega)]
      rfl
theorem encvalid_eq {x : S_api_Encoded} (hl : x.Fields.length < 1000000) : encode_Valid x = some (decide (EV x)) := by
  unfold encode_Valid encode_Valid_k1
  rw [enc_any hl]
  unfold EV
  by_cases h1 : x.ID ≥ 1 <;> by_cases h2 : x.ID ≤ 1048576 <;> by_cases h3 : x.Version ≥ 1 <;> by_cases h4 : x.Version ≤ 1048576 <;> by_cases h5 : x.Fields.length ≥ 1 <;> by_cases h6 : x.Fields.length ≤ 5 <;> grind
theorem popI_and_le : ∀ {a b : List Int}, W64 a → W64 b → popI (List.zipWith (iand .u64) a b) ≤ popI a ∧ popI (List.zipWith (iand .u64) a b) ≤ popI b
  | [], _, _, _ => ⟨by simp [popI], by simp [popI]⟩
  | _ :: _, [], _, _ => ⟨by simp [popI], by simp [popI]⟩
  | x :: a, y :: b, ha, hb => by
    have ih := popI_and_le (fun w h => ha w (List.mem_cons_of_mem _ h)) (fun w h => hb w (List.mem_cons_of_mem _ h)) (a := a) (b := b)
    have hx := ha x List.mem_cons_self
    have hy := hb y List.mem_cons_self
    obtain ⟨u, rfl⟩ := Int.eq_ofNat_of_zero_le hx.1
    obtain ⟨v, rfl⟩ := Int.eq_ofNat_of_zero_le hy.1
    have h := popN_and_le 64 u v
    simp only [List.zipWith_cons_cons, popI]
    rw [iand64 (by omega) (by omega), Int.toNat_natCast, Int.toNat_natCast, Int.toNat_natCast]
    unfold pop64
    omega
theorem simB_range {p q : S_api_Bits} (hp : W64 p.Words) (hq : W64 q.Words) : -1 ≤ simB p q ∧ simB p q ≤ 1000 := by
  unfold simB
  split
  · split
    · omega
    · have h := popI_and_le hp hq
      generalize popI p.Words = a at *
      generalize popI q.Words = b at *
      generalize popI (List.zipWith (iand .u64) p.Words q.Words) = c at *
      have : (4000 * c + (a + b)) / (2 * (a + b)) < 1001 := by
        rw [Nat.div_lt_iff_lt_mul (by omega)]
        omega
      generalize (4000 * c + (a + b)) / (2 * (a + b)) = q at this ⊢
      omega
  · omega
theorem zip_sims {p q : List S_api_Bits} (hp : WF p) (hq : WF q) : ∀ s ∈ List.zipWith simB p q, -1 ≤ s ∧ s ≤ 1000 := by
  intro s hs
  obtain ⟨i, hi, rfl⟩ := List.mem_iff_getElem.1 hs
  rw [List.getElem_zipWith]
  exact simB_range (hp _ (List.getElem_mem _)) (hq _ (List.getElem_mem _))
theorem reflen_eq (L : Int) : rl_ref09_length L = some (decide (Right L)) := by
  grind [rl_ref09_length, rl_ref09_length_k1, Right, tmod_nn]
theorem refvalid_eq (p : S_api_Bits) : rl_ref09_Valid p = some (decide (VB p)) := by
  grind [rl_ref09_Valid, rl_ref09_Valid_k1, reflen_eq, VB, Right, tdiv_nn, wi64]
theorem W64.nat {w : Int} (h : 0 ≤ w ∧ w < 18446744073709551616) : ∃ x : Nat, x < 18446744073709551616 ∧ w = (x : Int) := ⟨w.toNat, by omega, by omega⟩
def bitAt (ws : List Int) (k : Nat) : Bool := (ws.getD (k / 64) 0).toNat.testBit (k % 64)
theorem and_one (x j : Nat) : x / 2 ^ j &&& 1 = if x.testBit j then 1 else 0 := by
  rw [Nat.and_one_is_mod, Nat.testBit_eq_decide_div_mod_eq]
  have := Nat.mod_two_eq_zero_or_one (x / 2 ^ j)
  rcases this with h | h <;> simp [h]
theorem bit_int {w : Int} (h : 0 ≤ w ∧ w < 18446744073709551616) {j : Int} (h0 : 0 ≤ j) (h1 : j < 64) : (iand .u64 (ishr .u64 w j) 1 == 1) = w.toNat.testBit j.toNat := by
  obtain ⟨x, hx, rfl⟩ := W64.nat h
  obtain ⟨k, rfl⟩ := Int.eq_ofNat_of_zero_le h0
  rw [ishr64 x (by omega)]
  have hq : x / 2 ^ k < 18446744073709551616 := Nat.lt_of_le_of_lt (Nat.div_le_self _ _) hx
  have := iand64 (x := x / 2 ^ k) (y := 1) hq (by decide)
  rw [show ((1 : Nat) : Int) = 1 from rfl] at this
  rw [this, and_one]
  simp only [Int.toNat_natCast]
  cases x.testBit k <;> simp
theorem refhas_eq {b : S_api_Bits} (hw : W64 b.Words) (i : Int) : rl_ref09_Has b i = some (decide (VB b ∧ 0 ≤ i ∧ i < b.Length) && bitAt b.Words i.toNat) := by
  unfold rl_ref09_Has
  rw [refvalid_eq, Option.bind_some]
  unfold rl_ref09_Has_k1
  by_cases h : VB b ∧ 0 ≤ i ∧ i < b.Length
  · obtain ⟨h1, h2, h3⟩ := h
    have hl := h1.2
    have hb := h1.1.2.1
    have hm := h1.1.2.2
    have hg := hw.get (i := i.toNat / 64) (by omega)
    rw [decide_eq_true h1, if_pos rfl, if_pos (by simpa using h2), if_pos (by simpa using h3), tdiv_nn h2, tmod_nn h2, wi64 (by omega) (by omega), if_pos (by omega), if_pos (by omega), if_pos (by omega)]
    rw [show (i / 64).toNat = i.toNat / 64 by omega, bit_int hg (by omega) (by omega), decide_eq_true ⟨h1, h2, h3⟩, Bool.true_and, show (i % 64).toNat = i.toNat % 64 by omega]
    rfl
  · rw [decide_eq_false h, Bool.false_and]
    grind
/-- how many of the first n bits are set -/
def cnt (ws : List Int) : Nat → Nat
  | 0 => 0
  | n + 1 => cnt ws n + (if bitAt ws n then 1 else 0)
theorem cnt_le (ws : List Int) (n : Nat) : cnt ws n ≤ n := by
  induction n with
  | zero => exact Nat.le_refl 0
  | succ n ih => unfold cnt; split <;> omega
theorem refcount_eq {b : S_api_Bits} (hb : VB b) (hw : W64 b.Words) : rl_ref09_Count b = some ((cnt b.Words b.Length.toNat : Nat) : Int) := by
  obtain ⟨r1, r2, r3⟩ := hb.1
  unfold rl_ref09_Count
  have hloop := loop_for (step := fun v : Int × Int => rl_ref09_Count_l1 b v.1 v.2) (fun i => (((cnt b.Words i : Nat) : Int), (i : Int))) b.Length.toNat ((cnt b.Words b.Length.toNat : Nat) : Int) (fun i hi => by
      have hc := cnt_le b.Words i
      simp only [rl_ref09_Count_l1]
      rw [refvalid_eq, decide_eq_true hb, bind1_pure, if_pos rfl, decide_eq_true (by omega)]
      unfold rl_ref09_Count_k2
      rw [if_pos rfl, refhas_eq hw, decide_eq_true ⟨hb, by omega, by omega⟩, Bool.true_and, bind1_pure, Int.toNat_natCast]
      unfold rl_ref09_Count_k3
      rw [wi64 (n := (i : Int) + 1) (by omega) (by omega)]
      by_cases hx : bitAt b.Words i = true
      · rw [if_pos hx, wi64 (by omega) (by omega)]
        have : cnt b.Words (i + 1) = cnt b.Words i + 1 := by rw [cnt, if_pos hx]
        rw [this]; rfl
      · rw [if_neg hx]
        have : cnt b.Words (i + 1) = cnt b.Words i := by rw [cnt, if_neg hx]; rfl
        rw [this]; rfl) (by
      simp only [rl_ref09_Count_l1]
      rw [refvalid_eq, decide_eq_true hb, bind1_pure, if_pos rfl, decide_eq_false (by omega)]
      rfl) (s := (0, 0)) rfl
  rw [hloop]
  rfl
theorem copy_eq {b : S_api_Bits} (h : b.Words.length ≤ 100) : rl_ref09_Copy b = some b := by
  unfold rl_ref09_Copy
  rw [if_pos (by omega), List.nil_append]
theorem zip_len {f : Int → Int → Int} {a b : List Int} (h : a.length = b.length) : (List.zipWith f a b).length = a.length := by simp [h]
theorem comb_step {f : Int → Int → Int} {a b : List Int} (h : a.length = b.length) {i : Nat} (hi : i < a.length) : ((List.zipWith f (a.take i) (b.take i)) ++ a.drop i).set i (f (((List.zipWith f (a.take i) (b.take i)) ++ a.drop i).getD i 0) (b.getD i 0)) = (List.zipWith f (a.take (i + 1)) (b.take (i + 1))) ++ a.drop (i + 1) := by
  have hz : (List.zipWith f (a.take i) (b.take i)).length = i := by simp; omega
  have hd : a.drop i = a.getD i 0 :: a.drop (i + 1) := by
    rw [List.drop_eq_getElem_cons hi, List.getD_eq_getElem?_getD, List.getElem?_eq_getElem hi]; rfl
  have hib : i < b.length := by omega
  have hg : ((List.zipWith f (a.take i) (b.take i)) ++ a.drop i).getD i 0 = a.getD i 0 := by
    rw [List.getD_eq_getElem?_getD, List.getElem?_append_right (by omega), hz, Nat.sub_self, hd]; rfl
  have hzz : List.zipWith f (a.take (i + 1)) (b.take (i + 1)) = List.zipWith f (a.take i) (b.take i) ++ [f (a.getD i 0) (b.getD i 0)] := by
    rw [List.take_add_one, List.take_add_one, List.zipWith_append (by simp; omega), List.getElem?_eq_getElem hi, List.getElem?_eq_getElem hib]
    simp [List.getD_eq_getElem?_getD, hi, hib]
  rw [hg, List.set_append_right _ _ (by omega), hz, Nat.sub_self, hd, List.set_cons_zero, hzz, List.append_assoc]
  rfl
theorem comb_loop {p q : S_api_Bits} {m : Int} {f : Int → Int → Int} (hm : (m = 1 ∧ f = ior .u64) ∨ (m = 0 ∧ f = iand .u64)) (hl : p.Words.length = q.Words.length) (hn : p.Words.length ≤ 100) : loop (fun v : Int × (List Int) => rl_ref09_combine_l2 q m v.1 v.2) (0, p.Words) = some (List.zipWith f p.Words q.Words) := by
  refine loop_for (fun i => ((i : Int), (List.zipWith f (p.Words.take i) (q.Words.take i)) ++ p.Words.drop i)) p.Words.length _ (fun i hi => ?_) ?_ (by simp)
  · have hlen : ((List.zipWith f (p.Words.take i) (q.Words.take i)) ++ p.Words.drop i).length = p.Words.length := by simp; omega
    have hst := comb_step (f := f) hl hi
    simp only [rl_ref09_combine_l2, rl_ref09_combine_k3, hlen, Int.toNat_natCast, Nat.zero_add]
    rcases hm with ⟨rfl, rfl⟩ | ⟨rfl, rfl⟩
    · rw [if_pos (by simpa using hi), if_neg (by decide), if_pos (by decide), if_pos (by omega), if_pos (by omega), if_pos (by omega), wi64 (by omega) (by omega), hst]; rfl
    · rw [if_pos (by simpa using hi), if_pos (by decide), if_pos (by omega), if_pos (by omega), if_pos (by omega), wi64 (by omega) (by omega), hst]; rfl
  · have hlen : ((List.zipWith f (p.Words.take p.Words.length) (q.Words.take p.Words.length)) ++ p.Words.drop p.Words.length).length = p.Words.length := by simp; omega
    simp only [rl_ref09_combine_l2, hlen]
    rw [if_neg (by simp), List.drop_length, List.append_nil, List.take_of_length_le (Nat.le_refl _), List.take_of_length_le (by omega)]
theorem comb_eq {p q : S_api_Bits} {m : Int} {f : Int → Int → Int} (hm : (m = 1 ∧ f = ior .u64) ∨ (m = 0 ∧ f = iand .u64)) (hp : VB p) (hq : VB q) (h : p.Length = q.Length) : rl_ref09_combine p q m = some (⟨p.Length, List.zipWith f p.Words q.Words⟩, 0) := by
  have h1 := hp.len
  have h2 := hp.2
  have h3 := hq.2
  unfold rl_ref09_combine
  rw [refvalid_eq, decide_eq_true hp, bind1_pure, if_neg (by decide), refvalid_eq, decide_eq_true hq, bind1_pure, if_neg (by decide), show (p.Length != q.Length) = false by simp [h]]
  unfold rl_ref09_combine_k1
  rw [if_neg (by decide), copy_eq (by omega), bind1_pure, comb_loop hm (by omega) (by omega), bind1_pure]
theorem refand_eq (p q : S_api_Bits) : rl_ref09_And p q = some (if VB p ∧ VB q ∧ p.Length = q.Length then (⟨p.Length, List.zipWith (iand .u64) p.Words q.Words⟩, 0) else (EB, 8)) := by
  unfold rl_ref09_And
  by_cases h : VB p ∧ VB q ∧ p.Length = q.Length
  · rw [comb_eq (.inr ⟨rfl, rfl⟩) h.1 h.2.1 h.2.2, bind2_pure, if_pos h]
  · rw [if_neg h]
    have : rl_ref09_combine p q 0 = some (EB, 8) := by
      unfold rl_ref09_combine
      have no : rl_ref09_combine_k1 p q 0 true = some (EB, 8) := rfl
      rw [refvalid_eq, bind1_pure]
      by_cases h1 : VB p
      · rw [decide_eq_true h1, if_neg (by decide), refvalid_eq, bind1_pure]
        by_cases h2 : VB q
        · rw [decide_eq_true h2, if_neg (by decide), show (p.Length != q.Length) = true by simp only [bne_iff_ne, ne_eq]; exact fun e => h ⟨h1, h2, e⟩, no]
        · rw [decide_eq_false h2, if_pos (by decide), no]
      · rw [decide_eq_false h1, if_pos (by decide), no]
    rw [this, bind2_pure]
theorem popN_succ (j x : Nat) : popN (j + 1) x = popN j x + (if x.testBit j then 1 else 0) := by
  rw [popN_split j 1 x, Nat.testBit_eq_decide_div_mod_eq]
  simp only [popN, Nat.add_zero]
  rcases Nat.mod_two_eq_zero_or_one (x / 2 ^ j) with h | h <;> simp [h]
theorem cnt_word {ws : List Int} {i j : Nat} (hj : j ≤ 64) : cnt ws (64 * i + j) = cnt ws (64 * i) + popN j (ws.getD i 0).toNat := by
  induction j with
  | zero => simp [popN]
  | succ j ih =>
    rw [show 64 * i + (j + 1) = (64 * i + j) + 1 by omega, cnt, ih (by omega), popN_succ, bitAt, show (64 * i + j) / 64 = i by omega, show (64 * i + j) % 64 = j by omega]
    omega
theorem cnt_pop {ws : List Int} {i : Nat} (h : i ≤ ws.length) : cnt ws (64 * i) = popI (ws.take i) := by
  induction i with
  | zero => simp [cnt, popI]
  | succ i ih =>
    rw [popI_take (by omega), ← ih (by omega), show 64 * (i + 1) = 64 * i + 64 by omega, cnt_word (by omega)]
    unfold pop64
    rfl
theorem refcount_pop {b : S_api_Bits} (hb : VB b) (hw : W64 b.Words) : rl_ref09_Count b = some ((popI b.Words : Nat) : Int) := by
  have h2 := hb.2
  have h3 := hb.1.1
  have h4 := hb.1.2.2
  rw [refcount_eq hb hw, show b.Length.toNat = 64 * b.Words.length by omega, cnt_pop (Nat.le_refl _), List.take_length]
theorem refdice_eq {p q : S_api_Bits} (hp : W64 p.Words) (hq : W64 q.Words) : rl_ref17_Dice p q = some (simB p q) := by
  unfold rl_ref17_Dice simB
  rw [refand_eq]
  by_cases h : VB p ∧ VB q ∧ p.Length = q.Length
  · have l1 := h.1.len
    have l2 := h.2.1.len
    have b1 := popI_le p.Words
    have b2 := popI_le q.Words
    have b3 := popI_le (List.zipWith (iand .u64) p.Words q.Words)
    have hc := refcount_pop (b := ⟨p.Length, List.zipWith (iand .u64) p.Words q.Words⟩) (VB.comb h.1 h.2.1 h.2.2) W64.and
    simp only [List.length_zipWith] at b3
    rw [if_pos h, if_pos h, bind2_pure, if_neg (by decide), refcount_pop h.1 hp, bind1_pure, refcount_pop h.2.1 hq, bind1_pure, hc, bind1_pure]
    generalize popI p.Words = a at *
    generalize popI q.Words = b at *
    generalize popI (List.zipWith (iand .u64) p.Words q.Words) = c at *
    rw [wi64 (n := (a : Int) + (b : Int)) (by omega) (by omega)]
    by_cases h0 : a + b = 0
    · rw [if_pos (by simp only [beq_iff_eq]; omega), if_pos h0]
    · have d1 : (4000 * c + (a + b)) / (2 * (a + b)) ≤ 4000 * c + (a + b) := Nat.div_le_self _ _
      have d0 : (0 : Int) ≤ (((4000 * c + (a + b)) / (2 * (a + b)) : Nat) : Int) := Int.natCast_nonneg _
      have d2 : (2 * (2000 * (c : Int)) + ((a : Int) + b)) / (2 * ((a : Int) + b)) = (((4000 * c + (a + b)) / (2 * (a + b)) : Nat) : Int) := by
        rw [Int.natCast_ediv]
        congr 1
        omega
      rw [if_neg (by simp only [beq_iff_eq]; omega), if_neg h0]
      unfold rl_ref05_Rounded
      rw [wi64 (n := 2000 * (c : Int)) (by omega) (by omega), wi64 (n := 2 * (2000 * (c : Int))) (by omega) (by omega), wi64 (n := 2 * ((a : Int) + b)) (by omega) (by omega), if_pos (by omega), wi64 (n := 2 * (2000 * (c : Int)) + ((a : Int) + b)) (by omega) (by omega), tdiv_nn (by omega), d2, wi64 (by omega) (by omega)]
      rfl
  · rw [if_neg h, if_neg h, bind2_pure, if_pos (by decide)]
theorem refcompare_eq {p q : S_api_Encoded} (hp : WF p.Fields) (hq : WF q.Fields) (hl : p.Fields.length < 1000000) :
    rl_ref17_Compare p q = some (if p.Fields.length = q.Fields.length ∧ 1 ≤ p.Fields.length ∧ p.Fields.length ≤ 5 then (List.zipWith simB p.Fields q.Fields, 0) else ([], 8)) := by
  unfold rl_ref17_Compare
  have no : rl_ref17_Compare_k1 p q true = some ([], 8) := rfl
  by_cases h : p.Fields.length = q.Fields.length
  · rw [if_neg (by simp [h])]
    by_cases h1 : 1 ≤ p.Fields.length
    · rw [if_neg (by simp only [decide_eq_true_eq]; omega)]
      by_cases h2 : p.Fields.length ≤ 5
      · rw [decide_eq_false (by omega), if_pos ⟨h, h1, h2⟩]
        unfold rl_ref17_Compare_k1
        rw [if_neg (by decide), loop_for (step := fun v : (List Int) × Int => rl_ref17_Compare_l2 p q v.1 v.2) (fun i => (List.zipWith simB (p.Fields.take i) (q.Fields.take i), (i : Int))) p.Fields.length (List.zipWith simB p.Fields q.Fields) (fun i hi => by
            simp only [rl_ref17_Compare_l2, Int.toNat_natCast]
            rw [if_pos (by simp only [decide_eq_true_eq]; omega), if_pos (by omega), if_pos (by omega), if_pos (by omega), refdice_eq (hp.get hi) (hq.get (by omega)), bind1_pure, if_pos (by simp; omega), wi64 (n := (i : Int) + 1) (by omega) (by omega), zip_takeD dS_api_Bits dS_api_Bits hi (by omega)]
            rfl) (by
            simp only [rl_ref17_Compare_l2]
            rw [if_neg (by simp), List.take_length, h, List.take_length]) (s := ([], 0)) (by simp), bind1_pure]
      · rw [decide_eq_true (by omega), no, if_neg (by omega)]
    · rw [if_pos (by simp only [decide_eq_true_eq]; omega), no, if_neg (by omega)]
  · rw [if_pos (by simp only [bne_iff_ne, ne_eq]; omega), no, if_neg (fun k => h k.1)]
theorem num3_drop {l : List Int} {j : Nat} (h : j < l.length) : num3 (l.drop j) = l.getD j 0 + 3 * num3 (l.drop (j + 1)) := by
  rw [List.drop_eq_getElem_cons h, num3, List.getD_eq_getElem?_getD, List.getElem?_eq_getElem h]
  rfl
theorem num3_small {l : List Int} (hm : ∀ x ∈ l, 0 ≤ x ∧ x ≤ 2) (h : l.length ≤ 5) : 0 ≤ num3 l ∧ num3 l < 243 := by
  have h1 := num3_range l hm
  have h2 := (pow3_le h).2
  omega
theorem refnumber_eq {l : List Int} (h1 : 1 ≤ l.length) (h5 : l.length ≤ 5) (hm : ∀ x ∈ l, 0 ≤ x ∧ x ≤ 2) : rl_ref17_Number l = some (num3 l, 0) := by
  unfold rl_ref17_Number
  rw [if_neg (by simp only [decide_eq_true_eq]; omega), decide_eq_false (by omega)]
  unfold rl_ref17_Number_k1
  rw [if_neg (by decide), wi64 (n := (l.length : Int) - 1) (by omega) (by omega)]
  have hloop := loop_for (step := fun v : Int × Int => rl_ref17_Number_l2 l v.1 v.2) (fun i => (num3 (l.drop (l.length - i)), (l.length : Int) - 1 - (i : Int))) l.length (.inl (num3 l)) (fun i hi => by
      obtain ⟨j, hj⟩ : ∃ j, l.length = j + 1 + i := ⟨l.length - 1 - i, by omega⟩
      simp only [rl_ref17_Number_l2, rl_ref17_Number_k3]
      rw [show (l.length : Int) - 1 - (i : Int) = (j : Int) by omega, show l.length - i = j + 1 by omega, show l.length - (i + 1) = j by omega, num3_drop (l := l) (j := j) (by omega)]
      have h2 := num3_small (l := l.drop (j + 1)) (fun x hx => hm x (List.mem_of_mem_drop hx)) (by rw [List.length_drop]; omega)
      have h3 := hm _ (int_get (show j < l.length by omega))
      simp only [Int.toNat_natCast]
      rw [if_pos (by simp only [decide_eq_true_eq]; omega), if_pos (by omega), if_pos (by omega), if_neg (by simp only [decide_eq_true_eq]; omega), if_neg (by simp only [decide_eq_true_eq]; omega), if_pos (by omega), if_pos (by omega), bind1_pure, wi64 (n := 3 * num3 (l.drop (j + 1))) (by omega) (by omega), wi64 (by omega) (by omega), wi64 (by omega) (by omega)]
      rw [show 3 * num3 (l.drop (j + 1)) + l.getD j 0 = l.getD j 0 + 3 * num3 (l.drop (j + 1)) by omega, show (l.length : Int) - 1 - ((i + 1 : Nat) : Int) = (j : Int) - 1 by omega]) (by
      simp only [rl_ref17_Number_l2]
      rw [if_neg (by simp only [decide_eq_true_eq]; omega), Nat.sub_self, List.drop_zero]) (s := (0, (l.length : Int) - 1)) (by simp [num3])
  rw [hloop, bindE_l]
  rfl
theorem refpattern_eq {ts ss : List Int} (hl : ss.length < 1000000) : rl_ref17_Pattern ts ss = some (if ts.length = ss.length ∧ 1 ≤ ts.length ∧ ts.length ≤ 5 then (if RightTS ts ss then (num3 (List.zipWith outc ts ss), 0) else (0, 2)) else (0, 8)) := by
  unfold rl_ref17_Pattern
  have no : rl_ref17_Pattern_k1 ts ss true = some (0, 8) := rfl
  by_cases h : ts.length = ss.length ∧ 1 ≤ ts.length ∧ ts.length ≤ 5
  · rw [if_neg (by simp only [bne_iff_ne, ne_eq]; omega), if_neg (by simp only [decide_eq_true_eq]; omega), decide_eq_false (by omega), if_pos h]
    unfold rl_ref17_Pattern_k1
    rw [if_neg (by decide)]
    obtain ⟨t, h1, h2⟩ := loop_inv (step := fun v : List Int × Int => rl_ref17_Pattern_l2 ts ss v.1 v.2) ts.length (fun i s => s = (List.zipWith outc (ts.take i) (ss.take i), (i : Int)) ∧ RightTS (ts.take i) (ss.take i)) (fun t => (t = .inl (List.zipWith outc ts ss) ∧ RightTS ts ss) ∨ (t = .inr () ∧ ¬ RightTS ts ss)) (by
      rintro i hi s ⟨rfl, hs⟩
      have hi2 : i < ss.length := by omega
      have m1 : ts.getD i 0 ∈ ts := int_get hi
      have m2 : ss.getD i 0 ∈ ss := int_get hi2
      simp only [rl_ref17_Pattern_l2, Int.toNat_natCast, rl_ref17_Pattern_k3, rl_ref17_Pattern_k4]
      rw [if_pos (by simp only [decide_eq_true_eq]; omega), if_pos (by omega), if_pos (by omega)]
      have hz : (List.zipWith outc (ts.take i) (ss.take i)).length = i := by simp; omega
      by_cases hd : (0 ≤ ts.getD i 0 ∧ ts.getD i 0 ≤ 1000) ∧ -1 ≤ ss.getD i 0 ∧ ss.getD i 0 ≤ 1000
      · left
        refine ⟨(List.zipWith outc (ts.take (i + 1)) (ss.take (i + 1)), ((i + 1 : Nat) : Int)), ?_, rfl, ?_⟩
        · rw [if_neg (by simp only [decide_eq_true_eq]; omega), if_neg (by simp only [decide_eq_true_eq]; omega), if_pos (by omega), if_neg (by simp only [decide_eq_true_eq]; omega), if_neg (by simp only [decide_eq_true_eq]; omega), if_pos (by omega), if_pos (by omega)]
          rw [wi64 (by omega) (by omega), zip_takeD 0 0 hi hi2]
          have hlen : ∀ x : Int, (List.zipWith outc (ts.take i) (ss.take i)).length + [x].length ≤ 1099511627776 := fun x => by rw [hz]; simp; omega
          by_cases a0 : ss.getD i 0 < 0
          · rw [if_pos (by simp only [decide_eq_true_eq]; exact a0), if_pos (hlen 0), show outc (ts.getD i 0) (ss.getD i 0) = 0 by unfold outc; rw [if_pos a0]]; rfl
          · by_cases a1 : ss.getD i 0 < ts.getD i 0
            · rw [if_neg (by simp only [decide_eq_true_eq]; exact a0), if_pos (by omega), if_neg (by simp only [decide_eq_true_eq]; omega), if_pos (hlen 1), show outc (ts.getD i 0) (ss.getD i 0) = 1 by unfold outc; rw [if_neg a0, if_pos a1]]; rfl
            · rw [if_neg (by simp only [decide_eq_true_eq]; exact a0), if_pos (by omega), if_pos (by simp only [decide_eq_true_eq]; omega), if_pos (hlen 2), show outc (ts.getD i 0) (ss.getD i 0) = 2 by unfold outc; rw [if_neg a0, if_neg a1]]; rfl
        · rw [take_snoc 0 hi, take_snoc 0 hi2]
          constructor
          · intro x hx
            rcases List.mem_append.1 hx with hx | hx
            · exact hs.1 x hx
            · simp only [List.mem_singleton] at hx; subst hx; exact hd.1
          · intro x hx
            rcases List.mem_append.1 hx with hx | hx
            · exact hs.2 x hx
            · simp only [List.mem_singleton] at hx; subst hx; exact hd.2
      · right
        refine ⟨.inr (), ?_, .inr ⟨rfl, fun h => hd ⟨h.1 _ m1, h.2 _ m2⟩⟩⟩
        by_cases c1 : ts.getD i 0 < 0
        · rw [if_pos (by simp only [decide_eq_true_eq]; exact c1)]
          rfl
        · rw [if_neg (by simp only [decide_eq_true_eq]; exact c1)]
          by_cases c2 : ts.getD i 0 > 1000
          · rw [if_pos (by simp only [decide_eq_true_eq]; exact c2)]
            rfl
          · rw [if_neg (by simp only [decide_eq_true_eq]; exact c2), if_pos (by omega)]
            by_cases c3 : ss.getD i 0 < -1
            · rw [if_pos (by simp only [decide_eq_true_eq]; exact c3)]
              rfl
            · rw [if_neg (by simp only [decide_eq_true_eq]; exact c3), if_pos (by simp only [decide_eq_true_eq]; omega)]) (by
      rintro s ⟨rfl, hs⟩
      have e : List.zipWith outc (ts.take ts.length) (ss.take ts.length) = List.zipWith outc ts ss := by
        rw [List.take_length, h.1, List.take_length]
      rw [List.take_length, h.1, List.take_length] at hs
      refine ⟨.inl _, ?_, .inl ⟨rfl, hs⟩⟩
      simp only [rl_ref17_Pattern_l2, e]
      rw [if_neg (by simp only [decide_eq_true_eq]; omega)]) (s := ([], 0)) ⟨by simp, ⟨fun x hx => by simp at hx, fun x hx => by simp at hx⟩⟩
    rw [h1]
    rcases h2 with ⟨rfl, h3⟩ | ⟨rfl, h3⟩
    · rw [bindE_l, if_pos h3]
      unfold rl_ref17_Pattern_a5
      rw [refnumber_eq (by simp; omega) (by simp; omega) (zip_all fun a b => outc_range a b), bind2_pure]
    · rw [bindE_r, if_neg h3]; rfl
  · rw [if_neg h]
    by_cases h1 : ss.length = ts.length
    · rw [if_neg (by simp only [bne_iff_ne, ne_eq]; omega)]
      by_cases h2 : ss.length < 1
      · rw [if_pos (by simp only [decide_eq_true_eq]; omega), no]
      · rw [if_neg (by simp only [decide_eq_true_eq]; omega), decide_eq_true (by omega), no]
    · rw [if_pos (by simp only [bne_iff_ne, ne_eq]; omega), no]
theorem missing_eq (b : S_api_Bits) : rl_ref16_missing b = some (decide (b.Length = 0 ∧ b.Words.length = 0)) := by
  unfold rl_ref16_missing rl_ref16_missing_k1
  by_cases h1 : b.Length = 0
  · rw [if_pos (by rw [beq_iff_eq]; exact h1)]
    by_cases h2 : b.Words.length = 0
    · rw [decide_eq_true ⟨h1, h2⟩, h2]; rfl
    · rw [decide_eq_false (fun k => h2 k.2)]
      congr 1
      exact beq_eq_false_iff_ne.2 (by omega)
  · rw [if_neg (by rw [beq_iff_eq]; exact h1), decide_eq_false (fun k => h1 k.1)]
theorem ref16_eq {x : S_api_Encoded} (hl : x.Fields.length < 1000000) : rl_ref16_Valid x = some (decide (EV x)) := by
  have hk : rl_ref16_Valid_k1 x false = some (decide (∀ b ∈ x.Fields, NB b)) := by
    unfold rl_ref16_Valid_k1
    rw [if_neg (by decide), scan_loop dS_api_Bits (fun b => !decide (NB b)) x.Fields (fun i => (i : Int)) (fun _ => ()) () (step := fun v : Int => rl_ref16_Valid_l2 x v) (fun i hi => by
        simp only [rl_ref16_Valid_l2, Int.toNat_natCast]
        rw [if_pos (by simp only [decide_eq_true_eq]; omega), if_pos (by omega), if_pos (by omega), missing_eq, bind1_pure]
        unfold rl_ref16_Valid_k3
        rw [refvalid_eq, wi64 (n := (i : Int) + 1) (by omega) (by omega)]
        by_cases h1 : (x.Fields.getD i dS_api_Bits).Length = 0 ∧ (x.Fields.getD i dS_api_Bits).Words.length = 0
        · rw [decide_eq_true h1, if_neg (by decide), decide_eq_true (show NB (x.Fields.getD i dS_api_Bits) from .inl h1)]; rfl
        · rw [decide_eq_false h1, if_pos (by decide), bind1_pure]
          by_cases h3 : VB (x.Fields.getD i dS_api_Bits)
          · rw [decide_eq_true h3, decide_eq_true (show NB (x.Fields.getD i dS_api_Bits) from .inr h3)]; rfl
          · rw [decide_eq_false h3, decide_eq_false (fun k : NB (x.Fields.getD i dS_api_Bits) => k.elim h1 h3)]; rfl) (by
        simp only [rl_ref16_Valid_l2]
        rw [if_neg (by simp)])]
    by_cases h : ∀ b ∈ x.Fields, NB b
    · rw [decide_eq_true h, List.findIdx?_eq_none_iff.2 (fun b hb => by simp [h b hb])]
      rfl
    · rw [decide_eq_false h]
      have : x.Fields.findIdx? (fun b => !decide (NB b)) ≠ none := any_of_idx.1 (by simpa using h)
      cases hi : x.Fields.findIdx? (fun b => !decide (NB b)) with
      | none => exact absurd hi this
      | some i => rfl
  have ht : rl_ref16_Valid_k1 x true = some false := rfl
  unfold rl_ref16_Valid
  by_cases h1 : x.ID < 1
  · rw [if_pos (by simpa using h1), ht, decide_eq_false (fun k : EV x => by have := k.1; omega)]
  rw [if_neg (by simpa using h1)]
  by_cases h2 : x.ID > 1048576
  · rw [if_pos (by simpa using h2), ht, decide_eq_false (fun k : EV x => by have := k.1; omega)]
  rw [if_neg (by simpa using h2)]
  by_cases h3 : x.Version < 1
  · rw [if_pos (by simpa using h3), ht, decide_eq_false (fun k : EV x => by have := k.2.1; omega)]
  rw [if_neg (by simpa using h3)]
  by_cases h4 : x.Version > 1048576
  · rw [if_pos (by simpa using h4), ht, decide_eq_false (fun k : EV x => by have := k.2.1; omega)]
  rw [if_neg (by simpa using h4)]
  by_cases h5 : x.Fields.length < 1
  · rw [if_pos (by simp only [decide_eq_true_eq]; omega), ht, decide_eq_false (fun k : EV x => by have := k.2.2.1; omega)]
  rw [if_neg (by simp only [decide_eq_true_eq]; omega)]
  by_cases h6 : x.Fields.length > 5
  · rw [decide_eq_true (by omega), ht, decide_eq_false (fun k : EV x => by have := k.2.2.1; omega)]
  rw [decide_eq_false (by omega), hk]
  congr 1
  exact decide_eq_decide.2 ⟨fun h => ⟨by omega, by omega, by omega, h⟩, fun h => h.2.2.2⟩
theorem r25_digits (w : S_api_Weights) (p : Int) : rl_ref25_digits w p = some (if WV w then (if 0 ≤ p ∧ p < ((3 ^ w.Agree.length : Nat) : Int) then (digs w.Agree.length p, 0) else ([], 2)) else ([], 40)) := by
  unfold rl_ref25_digits
  rw [ref25_check_eq, bind1_pure]
  by_cases h : WV w
  · rw [if_pos h, if_pos h, if_neg (by decide), ref17_digits_eq, if_pos ⟨by have := h.2.1; omega, by have := h.2.2.1; omega⟩, Int.toNat_natCast]
    by_cases hp : 0 ≤ p ∧ p < ((3 ^ w.Agree.length : Nat) : Int)
    · rw [if_pos hp]; rfl
    · rw [if_neg hp]; rfl
  · rw [if_neg h, if_neg h]; rfl
theorem score_same (w : S_api_Weights) (p : Int) : rl_ref25_Score w p = weight_Score w p := by
  rw [weight_score_eq]
  unfold rl_ref25_Score
  rw [r25_digits]
  by_cases h : WV w
  · rw [if_pos h, if_pos h]
    have hl := h.2.2.1
    by_cases hp : 0 ≤ p ∧ p < ((3 ^ w.Agree.length : Nat) : Int)
    · rw [if_pos hp, if_pos hp, bind2_pure, if_neg (by decide)]
      have hm := digs_mem w.Agree.length p
      have hd := digs_length w.Agree.length p
      generalize digs w.Agree.length p = ds at *
      have hL : loop (fun v : Int × Int => rl_ref25_Score_l1 w ds v.1 v.2) (w.Prior, 0) = some (scoreS w ds w.Agree.length) := by
        refine loop_for (fun i => (scoreS w ds i, (i : Int))) w.Agree.length _ (fun i hi => ?_) ?_ rfl
        · have s1 := sums_small h (Nat.le_of_lt hi)
          have o1 := in_order w ds i
          have s2 := h.2.2.2.2 i hi
          unfold fits at s2
          have hi2 : i < ds.length := by omega
          have hdl := h.1
          simp only [rl_ref25_Score_l1, rl_ref25_Score_k3, rl_ref25_Score_k2, Int.toNat_natCast, Nat.zero_add, scoreS]
          rw [if_pos (by simpa using hi2), if_pos (by omega), if_pos (by omega)]
          unfold pick
          by_cases c2 : ds.getD i 0 = 2
          · rw [c2, if_pos (by decide), if_pos (by omega), if_pos (by omega), if_pos (by omega), if_neg (by decide), if_pos rfl, wi64 (n := scoreS w ds i + _) (by omega) (by omega), wi64 (by omega) (by omega)]
            rfl
          · rw [if_neg (by simpa using c2), if_pos (by omega), if_pos (by omega), if_neg c2]
            by_cases c1 : ds.getD i 0 = 1
            · rw [c1, if_pos (by decide), if_pos (by omega), if_pos rfl, wi64 (n := scoreS w ds i + _) (by omega) (by omega), wi64 (by omega) (by omega)]
              rfl
            · rw [if_neg (by simpa using c1), if_neg c1, wi64 (by omega) (by omega), Int.add_zero]
              rfl
        · simp only [rl_ref25_Score_l1]
          rw [if_neg (by simp [hd])]
      rw [hL]
      rfl
    · rw [if_neg hp, if_neg hp]
      rfl
  · rw [if_neg h, if_neg h]
    rfl
end Go.Proofs.Ytknlckjpgmjenaa
