/- Patterns: numbers of base three. -/
import Derived.Test.YteholdifeilkkaaPc
namespace Go.Proofs.Yteholdifeilkkaa
open Vm
def num3 : List Int → Int
  | [] => 0
  | d :: l => d + 3 * num3 l
def digs : Nat → Int → List Int
  | 0, _ => []
  | n + 1, p => p % 3 :: digs n (p / 3)
theorem digs_length (n : Nat) : ∀ p, (digs n p).length = n := by
  induction n with
  | zero => intro p; rfl
  | succ n ih => intro p; simp [digs, ih]
theorem digs_num3 : ∀ l : List Int, (∀ x ∈ l, 0 ≤ x ∧ x ≤ 2) → digs l.length (num3 l) = l := by
  intro l
  induction l with
  | nil => intro _; rfl
  | cons d l ih =>
    intro h
    have h1 := h d (by simp)
    have h2 := ih fun x hx => h x (by simp [hx])
    simp only [List.length_cons, digs, num3]
    rw [show (d + 3 * num3 l) % 3 = d by omega, show (d + 3 * num3 l) / 3 = num3 l by omega, h2]
theorem num3_digs (n : Nat) : ∀ p : Int, 0 ≤ p → p < ((3 ^ n : Nat) : Int) → num3 (digs n p) = p := by
  induction n with
  | zero => intro p h0 h1; simp at h1; simp [digs, num3]; omega
  | succ n ih =>
    intro p h0 h1
    rw [Nat.pow_succ] at h1
    simp only [digs, num3]
    rw [ih (p / 3) (by omega) (by omega)]
    omega
theorem digs_mem (n : Nat) : ∀ p : Int, ∀ x ∈ digs n p, 0 ≤ x ∧ x ≤ 2 := by
  induction n with
  | zero => intro p x hx; cases hx
  | succ n ih =>
    intro p x hx
    simp only [digs, List.mem_cons] at hx
    rcases hx with rfl | hx
    · omega
    · exact ih _ x hx
theorem num3_range : ∀ l : List Int, (∀ x ∈ l, 0 ≤ x ∧ x ≤ 2) → 0 ≤ num3 l ∧ num3 l < ((3 ^ l.length : Nat) : Int) := by
  intro l
  induction l with
  | nil => intro _; simp [num3]
  | cons d l ih =>
    intro h
    have h1 := h d (by simp)
    have h2 := ih fun x hx => h x (by simp [hx])
    simp only [List.length_cons, num3, Nat.pow_succ]
    omega
theorem num3_snoc (l : List Int) (d : Int) : num3 (l ++ [d]) = num3 l + d * ((3 ^ l.length : Nat) : Int) := by
  induction l with
  | nil => simp [num3]
  | cons x l ih =>
    simp only [List.cons_append, num3, ih, List.length_cons, Nat.pow_succ]
    grind
theorem take_snoc {α : Type} (d : α) {l : List α} {i : Nat} (h : i < l.length) : l.take (i + 1) = l.take i ++ [l.getD i d] := by
  rw [List.take_add_one, List.getD_eq_getElem?_getD, List.getElem?_eq_getElem h]
  rfl
theorem pow3_getD {i : Nat} (h : i < 6) : ([1, 3, 9, 27, 81, 243] : List Int).getD i 0 = ((3 ^ i : Nat) : Int) := by
  have : i = 0 ∨ i = 1 ∨ i = 2 ∨ i = 3 ∨ i = 4 ∨ i = 5 := by omega
  rcases this with rfl | rfl | rfl | rfl | rfl | rfl <;> rfl
theorem pow3_le {i : Nat} (h : i ≤ 5) : 1 ≤ 3 ^ i ∧ 3 ^ i ≤ 243 := ⟨Nat.pow_pos (by decide), Nat.le_trans (Nat.pow_le_pow_right (by decide) h) (by decide)⟩
theorem number_eq {l : List Int} (hl : l.length < 1000000) : similarity_Number l = some (if 1 ≤ l.length ∧ l.length ≤ 5 then (if ∀ x ∈ l, 0 ≤ x ∧ x ≤ 2 then (num3 l, 0) else (0, 2)) else (0, 8)) := by
  unfold similarity_Number
  rw [fields_eq, Option.bind_some]
  by_cases h : 1 ≤ l.length ∧ l.length ≤ 5
  · rw [if_neg (by simp; omega), if_pos h]
    obtain ⟨t, h1, h2⟩ := loop_inv (step := fun v : Int × Int => similarity_Number_l60 l v.1 v.2) l.length (fun i s => s = (num3 (l.take i), (i : Int)) ∧ ∀ x ∈ l.take i, 0 ≤ x ∧ x ≤ 2) (fun t => (t = .inl (num3 l) ∧ ∀ x ∈ l, 0 ≤ x ∧ x ≤ 2) ∨ (t = .inr () ∧ ¬ ∀ x ∈ l, 0 ≤ x ∧ x ≤ 2)) (by
      rintro i hi s ⟨rfl, hs⟩
      have hr := num3_range _ hs
      have hp := pow3_le (i := i) (by omega)
      rw [List.length_take, Nat.min_eq_left (by omega)] at hr
      simp only [similarity_Number_l60, Int.toNat_natCast, similarity_powers, Option.bind_some, similarity_Number_k68, pow3_getD (show i < 6 by omega)]
      rw [if_pos (by simpa using hi), if_pos (by omega), if_pos (by omega)]
      have hm : l.getD i 0 ∈ l := by rw [List.getD_eq_getElem?_getD, List.getElem?_eq_getElem hi]; exact List.getElem_mem hi
      by_cases hd : 0 ≤ l.getD i 0 ∧ l.getD i 0 ≤ 2
      · left
        have hb : l.getD i 0 * ((3 ^ i : Nat) : Int) ≤ 2 * 243 := Int.mul_le_mul hd.2 (by omega) (by omega) (by omega)
        have hb0 : 0 ≤ l.getD i 0 * ((3 ^ i : Nat) : Int) := Int.mul_nonneg hd.1 (by omega)
        have ht := take_snoc 0 hi
        refine ⟨_, by rw [if_neg (by simp only [decide_eq_true_eq]; omega), if_neg (by simp only [decide_eq_true_eq]; omega), if_pos (by omega)], ?_, ?_⟩
        · rw [ht, num3_snoc, List.length_take, Nat.min_eq_left (by omega), wi64 (n := l.getD i 0 * _) (by omega) (by omega), wi64 (by omega) (by omega), wi64 (by omega) (by omega)]; rfl
        · intro x hx
          rw [ht] at hx
          rcases List.mem_append.1 hx with hx | hx
          · exact hs x hx
          · simp only [List.mem_singleton] at hx; subst hx; exact hd
      · right
        refine ⟨.inr (), ?_, .inr ⟨rfl, fun h => hd (h _ hm)⟩⟩
        by_cases h0 : l.getD i 0 < 0
        · rw [if_pos (by simp only [decide_eq_true_eq]; exact h0), if_pos trivial]
        · rw [if_neg (by simp only [decide_eq_true_eq]; exact h0), if_pos (by simp only [decide_eq_true_eq]; omega)]) (by
      rintro s ⟨rfl, hs⟩
      rw [List.take_length] at hs
      refine ⟨.inl (num3 l), ?_, .inl ⟨rfl, hs⟩⟩
      simp only [similarity_Number_l60, List.take_length]
      rw [if_neg (by simp)]) (s := (0, 0)) ⟨rfl, fun x hx => by simp at hx⟩
    rw [h1]
    rcases h2 with ⟨rfl, h3⟩ | ⟨rfl, h3⟩
    · rw [bindE_l, if_pos h3]; rfl
    · rw [bindE_r, if_neg h3]; rfl
  · rw [if_pos (by simp; omega), if_neg h]
theorem digs_snoc (n : Nat) : ∀ p : Int, 0 ≤ p → digs (n + 1) p = digs n p ++ [p / ((3 ^ n : Nat) : Int) % 3] := by
  induction n with
  | zero => intro p _; simp [digs]
  | succ n ih =>
    intro p hp
    rw [digs, ih (p / 3) (by omega), digs, List.cons_append]
    congr 4
    rw [Nat.pow_succ, Nat.mul_comm, Int.natCast_mul, Int.ediv_ediv_of_nonneg (by omega)]
    rfl
theorem digits_eq {p n : Int} (hp : p < 9223372036854775808) : similarity_Digits p n = some (if 1 ≤ n ∧ n ≤ 5 then (if 0 ≤ p ∧ p < ((3 ^ n.toNat : Nat) : Int) then (digs n.toNat p, 0) else ([], 2)) else ([], 8)) := by
  unfold similarity_Digits
  rw [fields_eq, Option.bind_some]
  by_cases h : 1 ≤ n ∧ n ≤ 5
  · obtain ⟨m, rfl⟩ := Int.eq_ofNat_of_zero_le (show 0 ≤ n by omega)
    have hm : m < 6 := by omega
    have hq := pow3_le (i := m) (by omega)
    rw [if_neg (by simp; omega), if_pos h]
    simp only [Int.toNat_natCast, similarity_powers, Option.bind_some, pow3_getD hm]
    by_cases hr : 0 ≤ p ∧ p < ((3 ^ m : Nat) : Int)
    · rw [if_neg (by simp; omega), if_pos (by omega), if_pos (by omega), if_pos hr]
      unfold similarity_Digits_k4
      rw [if_neg (by simp only [decide_eq_true_eq]; omega)]
      have hL : loop (fun v : List Int × Int => similarity_Digits_l6 p m v.1 v.2) ([], 0) = some (digs m p) := by
        refine loop_for (fun i => (digs i p, (i : Int))) m _ (fun i hi => ?_) ?_ rfl
        · have hq := pow3_le (i := i) (by omega)
          have d0 : 0 ≤ p / ((3 ^ i : Nat) : Int) := Int.ediv_nonneg hr.1 (by omega)
          have d1 := Int.ediv_le_self (b := ((3 ^ i : Nat) : Int)) hr.1
          simp only [similarity_Digits_l6, Int.toNat_natCast, similarity_powers, Option.bind_some, pow3_getD (show i < 6 by omega)]
          rw [if_pos (by simpa using hi), if_pos (by omega), if_pos (by omega), if_pos (by omega), if_pos (by simp [digs_length]; omega), tdiv_nn hr.1, wi64 (n := p / _) (by omega) (by omega), tmod_nn d0, wi64 (by omega) (by omega), digs_snoc _ _ hr.1]
          rfl
        · simp only [similarity_Digits_l6]
          rw [if_neg (by simp)]
      rw [hL]; rfl
    · rw [if_neg hr]
      by_cases h0 : p < 0
      · rw [if_pos (by simpa using h0)]; rfl
      · rw [if_neg (by simpa using h0), if_pos (by omega), if_pos (by omega)]
        unfold similarity_Digits_k4
        rw [if_pos (by simp only [decide_eq_true_eq]; omega)]
  · rw [if_pos (by simp; omega), if_neg h]
/-- the outcome of a field -/
def outc (t s : Int) : Int := if s < 0 then 0 else if s < t then 1 else 2
theorem outc_range (t s : Int) : 0 ≤ outc t s ∧ outc t s ≤ 2 := by unfold outc; split <;> (try split) <;> omega
theorem zip_all {α β γ : Type} {f : α → β → γ} {P : γ → Prop} (h : ∀ a b, P (f a b)) : ∀ {l : List α} {k : List β}, ∀ x ∈ List.zipWith f l k, P x := by
  intro l
  induction l with
  | nil => intro k x hx; simp at hx
  | cons a l ih =>
    intro k x hx
    cases k with
    | nil => simp at hx
    | cons b k =>
      simp only [List.zipWith_cons_cons, List.mem_cons] at hx
      rcases hx with rfl | hx
      · exact h a b
      · exact ih x hx
/-- thresholds and similarities in their ranges -/
def RightTS (ts ss : List Int) : Prop := (∀ t ∈ ts, 0 ≤ t ∧ t ≤ 1000) ∧ ∀ s ∈ ss, -1 ≤ s ∧ s ≤ 1000
instance (ts ss : List Int) : Decidable (RightTS ts ss) := by unfold RightTS; infer_instance
theorem pattern_eq {ts ss : List Int} (hl : ts.length < 1000000) : similarity_Pattern ts ss = some (if ts.length = ss.length ∧ 1 ≤ ts.length ∧ ts.length ≤ 5 then (if RightTS ts ss then (num3 (List.zipWith outc ts ss), 0) else (0, 2)) else (0, 8)) := by
  unfold similarity_Pattern
  rw [fields_eq, Option.bind_some]
  unfold similarity_Pattern_k4
  by_cases h : ts.length = ss.length ∧ 1 ≤ ts.length ∧ ts.length ≤ 5
  · rw [if_neg (by simp; omega), if_neg (by simp; omega), if_pos (by omega), if_pos (by omega), if_pos h]
    obtain ⟨t, h1, h2⟩ := loop_inv (step := fun v : List Int × Int => similarity_Pattern_l71 ts ss v.1 v.2) ts.length (fun i s => s = (List.zipWith outc (ts.take i) (ss.take i) ++ List.replicate (ts.length - i) 0, (i : Int)) ∧ RightTS (ts.take i) (ss.take i)) (fun t => (t = .inl (List.zipWith outc ts ss) ∧ RightTS ts ss) ∨ (t = .inr () ∧ ¬ RightTS ts ss)) (by
      rintro i hi s ⟨rfl, hs⟩
      have hi2 : i < ss.length := by omega
      have m1 : ts.getD i 0 ∈ ts := by rw [List.getD_eq_getElem?_getD, List.getElem?_eq_getElem hi]; exact List.getElem_mem hi
      have m2 : ss.getD i 0 ∈ ss := by rw [List.getD_eq_getElem?_getD, List.getElem?_eq_getElem hi2]; exact List.getElem_mem hi2
      simp only [similarity_Pattern_l71, Int.toNat_natCast, similarity_Pattern_k80, similarity_Pattern_k76, Nat.zero_add]
      rw [if_pos (by simpa using hi), if_pos (by omega), if_pos (by omega), if_pos (by omega)]
      by_cases hd : (0 ≤ ts.getD i 0 ∧ ts.getD i 0 ≤ 1000) ∧ -1 ≤ ss.getD i 0 ∧ ss.getD i 0 ≤ 1000
      · left
        refine ⟨(List.zipWith outc (ts.take (i + 1)) (ss.take (i + 1)) ++ List.replicate (ts.length - (i + 1)) 0, ((i + 1 : Nat) : Int)), ?_, rfl, ?_⟩
        · rw [if_neg (by simp only [decide_eq_true_eq]; omega), if_neg (by simp only [decide_eq_true_eq]; omega), if_neg (by simp only [decide_eq_true_eq]; omega), if_neg (by simp only [decide_eq_true_eq]; omega)]
          rw [wi64 (by omega) (by omega), zip_takeD 0 0 hi hi2, show ts.length - i = (ts.length - (i + 1)) + 1 by omega]
          rw [set_next 0 _ i _ (by simp; omega), set_next 0 _ i _ (by simp; omega), set_next 0 _ i _ (by simp; omega)]
          have hlen : (i : Int) < (((List.zipWith outc (ts.take i) (ss.take i) ++ List.replicate (ts.length - (i + 1) + 1) (0 : Int)).length : Nat) : Int) := by simp; omega
          rw [if_pos hlen, if_pos hlen, if_pos hlen]
          by_cases a0 : ss.getD i 0 < 0
          · rw [if_pos (by simp only [decide_eq_true_eq]; exact a0), show outc (ts.getD i 0) (ss.getD i 0) = 0 by unfold outc; rw [if_pos a0]]; rfl
          · by_cases a1 : ss.getD i 0 < ts.getD i 0
            · rw [if_neg (by simp only [decide_eq_true_eq]; exact a0), if_pos (by simp only [decide_eq_true_eq]; exact a1), show outc (ts.getD i 0) (ss.getD i 0) = 1 by unfold outc; rw [if_neg a0, if_pos a1]]; rfl
            · rw [if_neg (by simp only [decide_eq_true_eq]; exact a0), if_neg (by simp only [decide_eq_true_eq]; exact a1), show outc (ts.getD i 0) (ss.getD i 0) = 2 by unfold outc; rw [if_neg a0, if_neg a1]]; rfl
        · rw [take_snoc 0 hi, take_snoc 0 hi2]
          constructor
          · intro x hx
            rcases List.mem_append.1 hx with hx | hx
            · exact hs.1 x hx
            · simp only [List.mem_singleton] at hx; subst hx; exact hd.1
          · intro x hx
            rcases List.mem_append.1 hx with hx | hx
            · exact hs.2 x hx
            · simp only [List.mem_singleton] at hx; subst hx; exact hd.2
      · right
        refine ⟨.inr (), ?_, .inr ⟨rfl, fun h => hd ⟨h.1 _ m1, h.2 _ m2⟩⟩⟩
        grind) (by
      rintro s ⟨rfl, hs⟩
      have e : List.zipWith outc (ts.take ts.length) (ss.take ts.length) ++ List.replicate (ts.length - ts.length) 0 = List.zipWith outc ts ss := by
        rw [Nat.sub_self, List.replicate_zero, List.append_nil, List.take_length, h.1, List.take_length]
      rw [List.take_length, h.1, List.take_length] at hs
      refine ⟨.inl _, ?_, .inl ⟨rfl, hs⟩⟩
      simp only [similarity_Pattern_l71, e]
      rw [if_neg (by simp)]) (s := (List.replicate (((ts.length : Nat) : Int).toNat) 0, 0)) ⟨by simp, ⟨fun x hx => by simp at hx, fun x hx => by simp at hx⟩⟩
    rw [h1]
    rcases h2 with ⟨rfl, h3⟩ | ⟨rfl, h3⟩
    · rw [bindE_l, if_pos h3]
      unfold similarity_Pattern_a81
      rw [number_eq (by simp; omega), if_pos (by simp; omega), if_pos (zip_all fun a b => outc_range a b)]
      rfl
    · rw [bindE_r, if_neg h3]; rfl
  · rw [if_neg h]
    grind
end Go.Proofs.Yteholdifeilkkaa
