/- Natural numbers: validity, trimming, comparing, small numbers. -/
import Derived.Test.YtilpgjoidgfbiaaGreatQa
import Derived.Test.YtilpgjoidgfbiaaGreatGz
namespace Go.Proofs.YtilpgjoidgfbiaaGreat
set_option linter.unusedVariables false
set_option linter.unusedSimpArgs false
open Vm
/-- a valid number -/
def VN (l : List Int) : Prop := l.length ≤ 64 ∧ NoZ l
instance (l : List Int) : Decidable (VN l) := by unfold VN; infer_instance
theorem VN.canon {l : List Int} (h : VN l) (hu : U32 l) : Canon l := ⟨hu, h.2⟩
theorem VN.nil : VN [] := ⟨by decide, .inl rfl⟩
/-- sizes of numbers -/
def ordI (a b : Int) : Int := if a < b then -1 else if a > b then 1 else 0
theorem ordI_zero {a b : Int} : ordI a b = 0 ↔ a = b := by unfold ordI; split <;> (try split) <;> omega
theorem natural_valid_eq {l : List Int} (h : l.length < 1000000) : natural_Valid l = some (decide (VN l)) := by
  unfold natural_Valid natural_Valid_k1
  by_cases h1 : l.length ≤ 64
  · rw [if_pos (by simp; omega)]
    by_cases h2 : l.length = 0
    · rw [if_pos (by simp [List.length_eq_zero_iff.1 h2]), List.length_eq_zero_iff.1 h2, decide_eq_true VN.nil]
    · rw [if_neg (by simp only [beq_iff_eq]; omega), wi64 (by omega) (by omega), if_pos (by omega), if_pos (by omega), show (((l.length : Nat) : Int) - 1).toNat = l.length - 1 by omega]
      have : VN l ↔ l.getD (l.length - 1) 0 ≠ 0 := by
        unfold VN NoZ
        constructor
        · rintro ⟨_, h | h⟩
          · rw [h] at h2; exact absurd rfl h2
          · exact h
        · intro h; exact ⟨h1, .inr h⟩
      rw [show decide (VN l) = decide (l.getD (l.length - 1) 0 ≠ 0) from decide_eq_decide.2 this]
      congr 1
      rw [Bool.eq_iff_iff]
      simp only [bne_iff_ne, decide_eq_true_eq]
  · rw [if_neg (by simp; omega), decide_eq_false (fun h => h1 h.1)]
theorem rl_ref10_valid_eq {l : List Int} (h : l.length < 1000000) : rl_ref10_Valid l = some (decide (VN l)) := by
  unfold rl_ref10_Valid rl_ref10_Valid_k1
  by_cases h1 : l.length ≤ 64
  · rw [if_pos (by simp; omega)]
    by_cases h2 : l.length = 0
    · rw [if_pos (by simp [List.length_eq_zero_iff.1 h2]), List.length_eq_zero_iff.1 h2, decide_eq_true VN.nil]
    · rw [if_neg (by simp only [beq_iff_eq]; omega), wi64 (by omega) (by omega), if_pos (by omega), if_pos (by omega), show (((l.length : Nat) : Int) - 1).toNat = l.length - 1 by omega]
      have : VN l ↔ l.getD (l.length - 1) 0 ≠ 0 := by
        unfold VN NoZ
        constructor
        · rintro ⟨_, h | h⟩
          · rw [h] at h2; exact absurd rfl h2
          · exact h
        · intro h; exact ⟨h1, .inr h⟩
      rw [show decide (VN l) = decide (l.getD (l.length - 1) 0 ≠ 0) from decide_eq_decide.2 this]
      congr 1
      rw [Bool.eq_iff_iff]
      simp only [bne_iff_ne, decide_eq_true_eq]
  · rw [if_neg (by simp; omega), decide_eq_false (fun h => h1 h.1)]
theorem trim_of {step : List Int → Option (List Int ⊕ List Int)} (hs : ∀ x : List Int, x.length < 1000000 → step x = if 0 < x.length ∧ x.getD (x.length - 1) 0 = 0 then some (.inl (x.take (x.length - 1))) else some (.inr x)) {l : List Int} (h : l.length < 1000000) : loop step l = some (trimL l) := by
  obtain ⟨t, h1, h2⟩ := loop_of (step := step) (fun x => x.length ≤ l.length ∧ trimL x = trimL l) (fun x => x.length) (fun t => t = trimL l) (by
    rintro x ⟨hl, hx⟩
    have e := hs x (by omega)
    by_cases c : 0 < x.length ∧ x.getD (x.length - 1) 0 = 0
    · left
      rw [if_pos c] at e
      refine ⟨_, e, ⟨by simp; omega, ?_⟩, by simp; omega⟩
      rw [← hx]
      have := take_snoc 0 (l := x) (i := x.length - 1) (by omega)
      rw [c.2, show x.length - 1 + 1 = x.length by omega, List.take_length] at this
      conv => rhs; rw [this]
      rw [trimL_snoc_zero]
    · right
      rw [if_neg c] at e
      refine ⟨_, e, ?_⟩
      rw [← hx, trimL_self]
      unfold NoZ
      by_cases h0 : x.length = 0
      · exact .inl (List.length_eq_zero_iff.1 h0)
      · exact .inr fun h => c ⟨by omega, h⟩) l ⟨Nat.le_refl _, rfl⟩
  rw [h1, h2]
theorem natural_trim_eq {l : List Int} (h : l.length < 1000000) : natural_trim l = some (trimL l) := by
  unfold natural_trim
  rw [trim_of (step := fun v => natural_trim_l1 v) (fun x hx => ?_) h]
  · rfl
  · unfold natural_trim_l1 natural_trim_k2
    by_cases h0 : 0 < x.length
    · rw [if_pos (by simp; omega), wi64 (by omega) (by omega), if_pos (by omega), if_pos (by omega), show (((x.length : Nat) : Int) - 1).toNat = x.length - 1 by omega]
      by_cases c : x.getD (x.length - 1) 0 = 0
      · rw [if_pos (by rw [c]; rfl), if_pos (by omega), if_pos (by omega), if_pos ⟨h0, c⟩]
      · rw [if_neg (by simp only [beq_iff_eq]; exact c), if_neg (fun h => c h.2)]
    · rw [if_neg (by simp only [decide_eq_true_eq]; omega), if_neg (by simp), if_neg (fun h => h0 h.1)]
theorem rl_ref10_trim_eq {l : List Int} (h : l.length < 1000000) : rl_ref10_trim l = some (trimL l) := by
  unfold rl_ref10_trim
  rw [trim_of (step := fun v => rl_ref10_trim_l1 v) (fun x hx => ?_) h]
  · rfl
  · unfold rl_ref10_trim_l1 rl_ref10_trim_k2
    by_cases h0 : 0 < x.length
    · rw [if_pos (by simp; omega), wi64 (by omega) (by omega), if_pos (by omega), if_pos (by omega), show (((x.length : Nat) : Int) - 1).toNat = x.length - 1 by omega]
      by_cases c : x.getD (x.length - 1) 0 = 0
      · rw [if_pos (by rw [c]; rfl), if_pos (by omega), if_pos (by omega), if_pos ⟨h0, c⟩]
      · rw [if_neg (by simp only [beq_iff_eq]; exact c), if_neg (fun h => c h.2)]
    · rw [if_neg (by simp only [decide_eq_true_eq]; omega), if_neg (by simp), if_neg (fun h => h0 h.1)]
theorem natural_fromInt_eq {x : Int} (h : x < 9223372036854775808) : natural_FromInt x = some (if x < 0 then ([], 2) else (nat32 x, 0)) := by
  unfold natural_FromInt
  by_cases h0 : x < 0
  · rw [if_pos (by simpa using h0), if_pos h0]
  · rw [if_neg (by simpa using h0), if_neg h0, natural_trim_eq (by simp), bind1_pure, wu32_eq, wu32_eq, show ishr .i64 x 32 = x / 2 ^ 32 from ishr_eq .i64 (s := 32) (by decide)]
    have hu : U32 [x % 4294967296, x / 2 ^ 32 % 4294967296] := U32.cons (by omega) (U32.cons (by omega) U32.nil)
    rw [trimL_nat hu]
    simp only [val]
    congr 3
    omega
theorem rl_ref10_fromInt_eq {x : Int} (h : x < 9223372036854775808) : rl_ref10_FromInt x = some (if x < 0 then ([], 2) else (nat32 x, 0)) := by
  unfold rl_ref10_FromInt
  by_cases h0 : x < 0
  · rw [if_pos (by simpa using h0), if_pos h0]
  · rw [if_neg (by simpa using h0), if_neg h0, rl_ref10_trim_eq (by simp), bind1_pure, wu32_eq, wu32_eq, show ishr .i64 x 32 = x / 2 ^ 32 from ishr_eq .i64 (s := 32) (by decide)]
    have hu : U32 [x % 4294967296, x / 2 ^ 32 % 4294967296] := U32.cons (by omega) (U32.cons (by omega) U32.nil)
    rw [trimL_nat hu]
    simp only [val]
    congr 3
    omega
theorem same_eq {p q : List Int} (h : p.length < 1000000) : rl_ref10_Same p q = some (decide (p = q)) := by
  unfold rl_ref10_Same
  by_cases hl : p.length = q.length
  · rw [if_neg (by simp; omega)]
    obtain ⟨t, h1, h2⟩ := loop_inv (step := fun v : Int => rl_ref10_Same_l1 p q v) p.length (fun i s => s = (i : Int) ∧ ∀ j, j < i → p[j]? = q[j]?) (fun t => (t = .inl () ∧ p = q) ∨ (t = .inr () ∧ p ≠ q)) (by
      rintro i hi s ⟨rfl, hs⟩
      by_cases he : p[i]? = q[i]?
      · exact .inl ⟨((i + 1 : Nat) : Int), by grind [rl_ref10_Same_l1, wi64], rfl, fun j hj => by grind⟩
      · exact .inr ⟨.inr (), by grind [rl_ref10_Same_l1], .inr ⟨rfl, fun e => he (by rw [e])⟩⟩) (by
      rintro s ⟨rfl, hs⟩
      exact ⟨.inl (), by grind [rl_ref10_Same_l1], .inl ⟨rfl, List.ext_getElem? fun j => by
        by_cases hj : j < p.length
        · exact hs j hj
        · rw [List.getElem?_eq_none (by omega), List.getElem?_eq_none (by omega)]⟩⟩) (s := 0) ⟨rfl, fun j hj => absurd hj (by omega)⟩
    rw [h1]
    rcases h2 with ⟨rfl, rfl⟩ | ⟨rfl, hn⟩
    · simp [bindE, rl_ref10_Same_a2]
    · simp [bindE, rl_ref10_Same_a3, hn]
  · rw [if_pos (by simp; omega)]
    rw [decide_eq_false (fun e => hl (by rw [e]))]
/-! comparing -/
theorem val_top {a b : List Int} (ha : U32 a) (hb : U32 b) {i : Nat} (hi : i < a.length) (hj : i < b.length) (hd : val (a.drop (i + 1)) = val (b.drop (i + 1))) : (a.getD i 0 < b.getD i 0 → val (a.drop i) < val (b.drop i)) ∧ (a.getD i 0 > b.getD i 0 → val (a.drop i) > val (b.drop i)) ∧ (a.getD i 0 = b.getD i 0 → val (a.drop i) = val (b.drop i)) := by
  rw [val_drop hi, val_drop hj, hd]
  refine ⟨fun h => ?_, fun h => ?_, fun h => ?_⟩ <;> omega
theorem val_cmp_low {a b : List Int} (ha : U32 a) (hb : U32 b) {i : Nat} (hi : i ≤ a.length) (hj : i ≤ b.length) : (val (a.drop i) < val (b.drop i) → val a < val b) := by
  intro h
  rw [val_split a hi, val_split b hj]
  have h1 := val_lt (ha.take i)
  have h2 := val_nonneg (hb.take i)
  rw [List.length_take, Nat.min_eq_left hi] at h1
  have h3 : bp i * (val (a.drop i) + 1) ≤ bp i * val (b.drop i) := Int.mul_le_mul_of_nonneg_left (by omega) (Int.le_of_lt (bp_pos i))
  rw [Int.mul_add] at h3
  omega
theorem compare_of {step : Int → Option (Int ⊕ (Unit ⊕ Int))} {a b : List Int} (ha : U32 a) (hb : U32 b) (hl : a.length = b.length) (hn : a.length < 1000000)
    (hs : ∀ i : Nat, i < a.length → step i = if a.getD i 0 = b.getD i 0 then some (.inl ((i : Int) - 1)) else some (.inr (.inr (ordI (a.getD i 0) (b.getD i 0))))) (he : step (-1) = some (.inr (.inl ()))) :
    ∃ t, loop step ((a.length : Int) - 1) = some t ∧ ((t = .inl () ∧ val a = val b) ∨ t = .inr (ordI (val a) (val b)) ∧ val a ≠ val b) := by
  refine loop_inv (step := step) a.length (fun k s => s = (a.length : Int) - 1 - k ∧ val (a.drop (a.length - k)) = val (b.drop (a.length - k))) _ ?_ ?_ (s := (a.length : Int) - 1) ⟨by omega, by rw [Nat.sub_zero, val_drop_zero (Nat.le_refl _), hl, val_drop_zero (Nat.le_refl _)]⟩
  · rintro k hk s ⟨rfl, hv⟩
    have e : (a.length : Int) - 1 - k = ((a.length - 1 - k : Nat) : Int) := by omega
    have e2 : a.length - k = (a.length - 1 - k) + 1 := by omega
    rw [e2] at hv
    have ht := val_top ha hb (i := a.length - 1 - k) (by omega) (by omega) hv
    rw [e, hs _ (by omega)]
    by_cases c : a.getD (a.length - 1 - k) 0 = b.getD (a.length - 1 - k) 0
    · left
      rw [if_pos c]
      exact ⟨_, rfl, by omega, by rw [show a.length - (k + 1) = a.length - 1 - k by omega]; exact ht.2.2 c⟩
    · right
      rw [if_neg c]
      refine ⟨_, rfl, .inr ?_⟩
      rcases Int.lt_trichotomy (a.getD (a.length - 1 - k) 0) (b.getD (a.length - 1 - k) 0) with h | h | h
      · have h1 := val_cmp_low ha hb (by omega) (by omega) (ht.1 h)
        refine ⟨?_, by omega⟩
        rw [show ordI (a.getD (a.length - 1 - k) 0) (b.getD (a.length - 1 - k) 0) = -1 by unfold ordI; rw [if_pos h], show ordI (val a) (val b) = -1 by unfold ordI; rw [if_pos h1]]
      · exact absurd h c
      · have h1 := val_cmp_low hb ha (by omega) (by omega) (ht.2.1 h)
        refine ⟨?_, by omega⟩
        rw [show ordI (a.getD (a.length - 1 - k) 0) (b.getD (a.length - 1 - k) 0) = 1 by unfold ordI; rw [if_neg (by omega), if_pos h], show ordI (val a) (val b) = 1 by unfold ordI; rw [if_neg (by omega), if_pos h1]]
  · rintro s ⟨rfl, hv⟩
    refine ⟨.inl (), ?_, .inl ⟨rfl, ?_⟩⟩
    · rw [← he]; congr 1; omega
    · rw [Nat.sub_self] at hv; simpa using hv
theorem val_len_lt {a b : List Int} (ha : Canon a) (hb : Canon b) (h : a.length < b.length) : val a < val b := by
  have h1 := val_lt ha.1
  rcases hb.ge with h2 | h2
  · omega
  · have := bp_le (show a.length ≤ b.length - 1 by omega); omega
theorem isNaN_int (a : Int) : cmp_isNaN_int a = some false := by unfold cmp_isNaN_int; simp
theorem cmpint_eq (a b : Int) : cmp_Compare_int a b = some (ordI a b) := by
  unfold cmp_Compare_int ordI
  rw [isNaN_int, isNaN_int, bind1_pure, bind1_pure]
  grind
theorem isNaN_u32 (a : Int) : cmp_isNaN_uint32 a = some false := by unfold cmp_isNaN_uint32; simp
theorem cmpu32_eq (a b : Int) : cmp_Compare_uint32 a b = some (ordI a b) := by
  unfold cmp_Compare_uint32 ordI
  rw [isNaN_u32, isNaN_u32, bind1_pure, bind1_pure]
  grind
theorem natural_compare_eq {a b : List Int} (ha : U32 a) (hb : U32 b) (la : a.length < 1000000) (lb : b.length < 1000000) : natural_Compare a b = some (ordI (val a) (val b)) := by
  have ca := trimL_canon ha
  have cb := trimL_canon hb
  have ta := trimL_length a
  have tb := trimL_length b
  unfold natural_Compare
  rw [natural_trim_eq la, natural_trim_eq lb, bind1_pure, bind1_pure, ← trimL_val a, ← trimL_val b]
  generalize trimL a = a' at *
  generalize trimL b = b' at *
  by_cases hl : a'.length = b'.length
  · rw [if_neg (by simp; omega), wi64 (by omega) (by omega)]
    obtain ⟨t, h1, h2⟩ := compare_of (step := fun v => natural_Compare_l1 a' b' v) ca.1 cb.1 hl (by omega) (fun i hi => by
      simp only [natural_Compare_l1, Int.toNat_natCast]
      rw [if_pos (by simp), if_pos (by omega), if_pos (by omega), if_pos (by omega), cmpu32_eq, wi64 (by omega) (by omega)]
      by_cases c : a'.getD i 0 = b'.getD i 0
      · rw [if_neg (by simp only [bne_iff_ne, ne_eq]; exact fun h => h c), if_pos c]
      · rw [if_pos (by simp only [bne_iff_ne, ne_eq]; exact c), if_neg c]; rfl) (by simp [natural_Compare_l1])
    rw [h1]
    rcases h2 with ⟨rfl, h3⟩ | ⟨rfl, h3⟩
    · rw [bindE_l, h3]; unfold natural_Compare_a2 ordI; simp
    · rw [bindE_r]; rfl
  · rw [if_pos (by simp; omega), cmpint_eq, bind1_pure]
    unfold ordI
    rcases Nat.lt_trichotomy a'.length b'.length with h | h | h
    · have := val_len_lt ca cb h
      rw [if_pos (by omega), if_pos this]
    · exact absurd h hl
    · have := val_len_lt cb ca h
      rw [if_neg (by omega), if_pos (by omega), if_neg (by omega), if_pos (by omega)]
theorem ref10_compare_eq {a b : List Int} (ha : U32 a) (hb : U32 b) (la : a.length < 1000000) (lb : b.length < 1000000) : rl_ref10_Compare a b = some (ordI (val a) (val b)) := by
  have ca := trimL_canon ha
  have cb := trimL_canon hb
  have ta := trimL_length a
  have tb := trimL_length b
  unfold rl_ref10_Compare
  rw [rl_ref10_trim_eq la, rl_ref10_trim_eq lb, bind1_pure, bind1_pure, ← trimL_val a, ← trimL_val b]
  generalize trimL a = a' at *
  generalize trimL b = b' at *
  by_cases hl : a'.length = b'.length
  · rw [if_neg (by simp; omega), wi64 (by omega) (by omega)]
    obtain ⟨t, h1, h2⟩ := compare_of (step := fun v => rl_ref10_Compare_l1 a' b' v) ca.1 cb.1 hl (by omega) (fun i hi => by
      simp only [rl_ref10_Compare_l1, Int.toNat_natCast]
      rw [if_pos (by simp), if_pos (by omega), if_pos (by omega), if_pos (by omega), wi64 (by omega) (by omega)]
      unfold ordI
      rcases Int.lt_trichotomy (a'.getD i 0) (b'.getD i 0) with c | c | c
      · rw [if_pos (by simp only [decide_eq_true_eq]; exact c), if_neg (by omega), if_pos c]
      · rw [if_neg (by simp only [decide_eq_true_eq]; omega), if_neg (by simp only [decide_eq_true_eq]; omega), if_pos c]
      · rw [if_neg (by simp only [decide_eq_true_eq]; omega), if_pos (by simp only [decide_eq_true_eq]; exact c), if_neg (by omega), if_neg (by omega), if_pos c]) (by simp [rl_ref10_Compare_l1])
    rw [h1]
    rcases h2 with ⟨rfl, h3⟩ | ⟨rfl, h3⟩
    · rw [bindE_l, h3]; unfold rl_ref10_Compare_a2 ordI; simp
    · rw [bindE_r]; rfl
  · rw [if_pos (by simp; omega)]
    unfold ordI
    rcases Nat.lt_trichotomy a'.length b'.length with h | h | h
    · have := val_len_lt ca cb h
      rw [if_pos (by simp; omega), if_pos this]
    · exact absurd h hl
    · have := val_len_lt cb ca h
      rw [if_neg (by simp; omega), if_neg (by omega), if_pos (by omega)]
end Go.Proofs.YtilpgjoidgfbiaaGreat
