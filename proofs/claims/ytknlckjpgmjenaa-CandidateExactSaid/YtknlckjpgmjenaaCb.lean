/- Plain: numbers and patterns of the program. -/
import Derived.Test.YtknlckjpgmjenaaCa
import Derived.Test.YtknlckjpgmjenaaWd
namespace Go.Proofs.Ytknlckjpgmjenaa
open Vm
set_option linter.unusedVariables false
set_option linter.unusedSimpArgs false
theorem fields_eq (n : Int) : similarity_fields n = some (decide (1 ≤ n ∧ n ≤ 5)) := by
  grind [similarity_fields, similarity_fields_k1]
theorem number_eq {l : List Int} (hl : l.length < 1000000) : similarity_Number l = some (if 1 ≤ l.length ∧ l.length ≤ 5 then (if ∀ x ∈ l, 0 ≤ x ∧ x ≤ 2 then (num3 l, 0) else (0, 2)) else (0, 8)) := by
  unfold similarity_Number
  rw [fields_eq, Option.bind_some]
  by_cases h : 1 ≤ l.length ∧ l.length ≤ 5
  · rw [if_neg (by simp; omega), if_pos h]
    obtain ⟨t, h1, h2⟩ := loop_inv (step := fun v : Int × Int => similarity_Number_l1 l v.1 v.2) l.length (fun i s => s = (num3 (l.take i), (i : Int)) ∧ ∀ x ∈ l.take i, 0 ≤ x ∧ x ≤ 2) (fun t => (t = .inl (num3 l) ∧ ∀ x ∈ l, 0 ≤ x ∧ x ≤ 2) ∨ (t = .inr () ∧ ¬ ∀ x ∈ l, 0 ≤ x ∧ x ≤ 2)) (by
      rintro i hi s ⟨rfl, hs⟩
      have hr := num3_range _ hs
      have hp := pow3_le (i := i) (by omega)
      rw [List.length_take, Nat.min_eq_left (by omega)] at hr
      simp only [similarity_Number_l1, Int.toNat_natCast, similarity_powers, Option.bind_some, similarity_Number_k2, pow3_getD (show i < 6 by omega)]
      rw [if_pos (by simpa using hi), if_pos (by omega), if_pos (by omega)]
      have hm : l.getD i 0 ∈ l := by rw [List.getD_eq_getElem?_getD, List.getElem?_eq_getElem hi]; exact List.getElem_mem hi
      by_cases hd : 0 ≤ l.getD i 0 ∧ l.getD i 0 ≤ 2
      · left
        have hb : l.getD i 0 * ((3 ^ i : Nat) : Int) ≤ 2 * 243 := Int.mul_le_mul hd.2 (by omega) (by omega) (by omega)
        have hb0 : 0 ≤ l.getD i 0 * ((3 ^ i : Nat) : Int) := Int.mul_nonneg hd.1 (by omega)
        have ht := take_snoc 0 hi
        refine ⟨_, by rw [if_neg (by simp only [decide_eq_true_eq]; omega), if_neg (by simp only [decide_eq_true_eq]; omega), if_pos (by omega)], ?_, ?_⟩
        · rw [ht, num3_snoc, List.length_take, Nat.min_eq_left (by omega), wi64 (n := l.getD i 0 * _) (by omega) (by omega), wi64 (by omega) (by omega), wi64 (by omega) (by omega)]; rfl
        · intro x hx
          rw [ht] at hx
          rcases List.mem_append.1 hx with hx | hx
          · exact hs x hx
          · simp only [List.mem_singleton] at hx; subst hx; exact hd
      · right
        refine ⟨.inr (), ?_, .inr ⟨rfl, fun h => hd (h _ hm)⟩⟩
        by_cases h0 : l.getD i 0 < 0
        · rw [if_pos (by simp only [decide_eq_true_eq]; exact h0), if_pos trivial]
        · rw [if_neg (by simp only [decide_eq_true_eq]; exact h0), if_pos (by simp only [decide_eq_true_eq]; omega)]) (by
      rintro s ⟨rfl, hs⟩
      rw [List.take_length] at hs
      refine ⟨.inl (num3 l), ?_, .inl ⟨rfl, hs⟩⟩
      simp only [similarity_Number_l1, List.take_length]
      rw [if_neg (by simp)]) (s := (0, 0)) ⟨rfl, fun x hx => by simp at hx⟩
    rw [h1]
    rcases h2 with ⟨rfl, h3⟩ | ⟨rfl, h3⟩
    · rw [bindE_l, if_pos h3]; rfl
    · rw [bindE_r, if_neg h3]; rfl
  · rw [if_pos (by simp; omega), if_neg h]
def outc (t s : Int) : Int := if s < 0 then 0 else if s < t then 1 else 2
theorem outc_range (t s : Int) : 0 ≤ outc t s ∧ outc t s ≤ 2 := by unfold outc; split <;> (try split) <;> omega
theorem zip_all {α β γ : Type} {f : α → β → γ} {P : γ → Prop} (h : ∀ a b, P (f a b)) : ∀ {l : List α} {k : List β}, ∀ x ∈ List.zipWith f l k, P x := by
  intro l
  induction l with
  | nil => intro k x hx; simp at hx
  | cons a l ih =>
    intro k x hx
    cases k with
    | nil => simp at hx
    | cons b k =>
      simp only [List.zipWith_cons_cons, List.mem_cons] at hx
      rcases hx with rfl | hx
      · exact h a b
      · exact ih x hx
def RightTS (ts ss : List Int) : Prop := (∀ t ∈ ts, 0 ≤ t ∧ t ≤ 1000) ∧ ∀ s ∈ ss, -1 ≤ s ∧ s ≤ 1000
instance (ts ss : List Int) : Decidable (RightTS ts ss) := by unfold RightTS; infer_instance
theorem zip_takeD {α β γ : Type} (d : α) (e : β) {f : α → β → γ} {a : List α} {b : List β} {i : Nat} (h : i < a.length) (h' : i < b.length) : List.zipWith f (a.take (i + 1)) (b.take (i + 1)) = List.zipWith f (a.take i) (b.take i) ++ [f (a.getD i d) (b.getD i e)] := by
  induction a generalizing b i with
  | nil => simp at h
  | cons x a ih =>
    cases b with
    | nil => simp at h'
    | cons z b =>
      cases i with
      | zero => simp
      | succ i => simpa using ih (i := i) (by simpa using h) (by simpa using h')
theorem pattern_eq {ts ss : List Int} (hl : ts.length < 1000000) : similarity_Pattern ts ss = some (if ts.length = ss.length ∧ 1 ≤ ts.length ∧ ts.length ≤ 5 then (if RightTS ts ss then (num3 (List.zipWith outc ts ss), 0) else (0, 2)) else (0, 8)) := by
  unfold similarity_Pattern
  rw [fields_eq, Option.bind_some]
  unfold similarity_Pattern_k1
  by_cases h : ts.length = ss.length ∧ 1 ≤ ts.length ∧ ts.length ≤ 5
  · rw [if_neg (by simp; omega), if_neg (by simp; omega), if_pos (by omega), if_pos (by omega), if_pos h]
    obtain ⟨t, h1, h2⟩ := loop_inv (step := fun v : List Int × Int => similarity_Pattern_l2 ts ss v.1 v.2) ts.length (fun i s => s = (List.zipWith outc (ts.take i) (ss.take i) ++ List.replicate (ts.length - i) 0, (i : Int)) ∧ RightTS (ts.take i) (ss.take i)) (fun t => (t = .inl (List.zipWith outc ts ss) ∧ RightTS ts ss) ∨ (t = .inr () ∧ ¬ RightTS ts ss)) (by
      rintro i hi s ⟨rfl, hs⟩
      have hi2 : i < ss.length := by omega
      have m1 : ts.getD i 0 ∈ ts := by rw [List.getD_eq_getElem?_getD, List.getElem?_eq_getElem hi]; exact List.getElem_mem hi
      have m2 : ss.getD i 0 ∈ ss := by rw [List.getD_eq_getElem?_getD, List.getElem?_eq_getElem hi2]; exact List.getElem_mem hi2
      simp only [similarity_Pattern_l2, Int.toNat_natCast, similarity_Pattern_k3, similarity_Pattern_k4, Nat.zero_add]
      rw [if_pos (by simpa using hi), if_pos (by omega), if_pos (by omega), if_pos (by omega)]
      by_cases hd : (0 ≤ ts.getD i 0 ∧ ts.getD i 0 ≤ 1000) ∧ -1 ≤ ss.getD i 0 ∧ ss.getD i 0 ≤ 1000
      · left
        refine ⟨(List.zipWith outc (ts.take (i + 1)) (ss.take (i + 1)) ++ List.replicate (ts.length - (i + 1)) 0, ((i + 1 : Nat) : Int)), ?_, rfl, ?_⟩
        · rw [if_neg (by simp only [decide_eq_true_eq]; omega), if_neg (by simp only [decide_eq_true_eq]; omega), if_neg (by simp only [decide_eq_true_eq]; omega), if_neg (by simp only [decide_eq_true_eq]; omega)]
          rw [wi64 (by omega) (by omega), zip_takeD 0 0 hi hi2, show ts.length - i = (ts.length - (i + 1)) + 1 by omega]
          rw [set_next 0 _ i _ (by simp; omega), set_next 0 _ i _ (by simp; omega), set_next 0 _ i _ (by simp; omega)]
          have hlen : (i : Int) < (((List.zipWith outc (ts.take i) (ss.take i) ++ List.replicate (ts.length - (i + 1) + 1) (0 : Int)).length : Nat) : Int) := by simp; omega
          rw [if_pos hlen, if_pos hlen, if_pos hlen]
          by_cases a0 : ss.getD i 0 < 0
          · rw [if_pos (by simp only [decide_eq_true_eq]; exact a0), show outc (ts.getD i 0) (ss.getD i 0) = 0 by unfold outc; rw [if_pos a0]]; rfl
          · by_cases a1 : ss.getD i 0 < ts.getD i 0
            · rw [if_neg (by simp only [decide_eq_true_eq]; exact a0), if_pos (by simp only [decide_eq_true_eq]; exact a1), show outc (ts.getD i 0) (ss.getD i 0) = 1 by unfold outc; rw [if_neg a0, if_pos a1]]; rfl
            · rw [if_neg (by simp only [decide_eq_true_eq]; exact a0), if_neg (by simp only [decide_eq_true_eq]; exact a1), show outc (ts.getD i 0) (ss.getD i 0) = 2 by unfold outc; rw [if_neg a0, if_neg a1]]; rfl
        · rw [take_snoc 0 hi, take_snoc 0 hi2]
          constructor
          · intro x hx
            rcases List.mem_append.1 hx with hx | hx
            · exact hs.1 x hx
            · simp only [List.mem_singleton] at hx; subst hx; exact hd.1
          · intro x hx
            rcases List.mem_append.1 hx with hx | hx
            · exact hs.2 x hx
            · simp only [List.mem_singleton] at hx; subst hx; exact hd.2
      · right
        refine ⟨.inr (), ?_, .inr ⟨rfl, fun h => hd ⟨h.1 _ m1, h.2 _ m2⟩⟩⟩
        grind) (by
      rintro s ⟨rfl, hs⟩
      have e : List.zipWith outc (ts.take ts.length) (ss.take ts.length) ++ List.replicate (ts.length - ts.length) 0 = List.zipWith outc ts ss := by
        rw [Nat.sub_self, List.replicate_zero, List.append_nil, List.take_length, h.1, List.take_length]
      rw [List.take_length, h.1, List.take_length] at hs
      refine ⟨.inl _, ?_, .inl ⟨rfl, hs⟩⟩
      simp only [similarity_Pattern_l2, e]
      rw [if_neg (by simp)]) (s := (List.replicate (((ts.length : Nat) : Int).toNat) 0, 0)) ⟨by simp, ⟨fun x hx => by simp at hx, fun x hx => by simp at hx⟩⟩
    rw [h1]
    rcases h2 with ⟨rfl, h3⟩ | ⟨rfl, h3⟩
    · rw [bindE_l, if_pos h3]
      unfold similarity_Pattern_a5
      rw [number_eq (by simp; omega), if_pos (by simp; omega), if_pos (zip_all fun a b => outc_range a b)]
      rfl
    · rw [bindE_r, if_neg h3]; rfl
  · rw [if_neg h]
    grind
end Go.Proofs.Ytknlckjpgmjenaa
