/- Natural numbers: sums and products. -/
import Derived.Test.YtilpgjoidgfbiaaGreatQb
namespace Go.Proofs.YtilpgjoidgfbiaaGreat
set_option linter.unusedVariables false
set_option linter.unusedSimpArgs false
open Vm
theorem getD_out {l : List Int} {i : Nat} (h : l.length ≤ i) : l.getD i 0 = 0 := by
  rw [List.getD_eq_getElem?_getD, List.getElem?_eq_none h]; rfl
theorem val_takeA (l : List Int) (i : Nat) : val (l.take (i + 1)) = val (l.take i) + l.getD i 0 * bp i := by
  by_cases h : i < l.length
  · exact val_take h
  · rw [List.take_of_length_le (by omega), List.take_of_length_le (by omega), getD_out (by omega)]; omega
theorem take_set {l : List Int} {i : Nat} (h : i < l.length) (d : Int) : (l.set i d).take (i + 1) = l.take i ++ [d] := by
  rw [take_snoc 0 (by rw [List.length_set]; exact h), List.take_set_of_le (Nat.le_refl i), List.getD_eq_getElem?_getD, List.getElem?_set_self h]
  rfl
theorem val_take_set {l : List Int} {i : Nat} (h : i < l.length) (d : Int) : val ((l.set i d).take (i + 1)) = val (l.take i) + d * bp i := by
  rw [take_set h, val_append, List.length_take, Nat.min_eq_left (by omega)]
  simp only [val]; grind
theorem getD_set {l : List Int} {i j : Nat} {v : Int} (h : i < l.length) : (l.set i v).getD j 0 = if i = j then v else l.getD j 0 := by
  simp only [List.getD_eq_getElem?_getD, List.getElem?_set]
  split
  · simp_all
  · rfl
def limN (v : Int) : List Int × Int := if v < bp 64 then (nat32 v, 0) else ([], 1)
theorem natural_done_eq {l : List Int} (h : U32 l) (hl : l.length < 1000000) : natural_done l = some (limN (val l)) := by
  have h0 := val_nonneg h
  have ht := trimL_length l
  unfold natural_done
  rw [natural_trim_eq hl, bind1_pure, natural_valid_eq (by omega), bind1_pure, trimL_nat h]
  have hv : VN (nat32 (val l)) ↔ val l < bp 64 := by
    unfold VN
    rw [nat32_len h0]
    exact ⟨fun h => h.1, fun h => ⟨h, (nat32_canon h0).2⟩⟩
  unfold limN
  by_cases c : val l < bp 64
  · rw [decide_eq_true (hv.2 c), if_neg (by simp), if_pos c]
  · rw [decide_eq_false (fun h => c (hv.1 h)), if_pos (by simp), if_neg c]
theorem natural_both_eq {a b : List Int} (la : a.length < 1000000) (lb : b.length < 1000000) : natural_both a b = some (if VN a ∧ VN b then 0 else 20) := by
  unfold natural_both natural_both_k1
  rw [natural_valid_eq la, natural_valid_eq lb, bind1_pure]
  grind
theorem add_loop {a b : List Int} (ha : U32 a) (hb : U32 b) (hl : b.length ≤ a.length) (hn : a.length < 1000000) :
    ∃ out c, loop (fun v : List Int × Int × Int => natural_Add_l2 a b v.1 v.2.1 v.2.2) (List.replicate (a.length + 1) 0, 0, 0) = some (out, c) ∧ U32 out ∧ out.length = a.length + 1 ∧ 0 ≤ c ∧ c < 4294967296 ∧ val (out.take a.length) + c * bp a.length = val a + val b := by
  obtain ⟨⟨out, c⟩, h1, h2⟩ := loop_inv (step := fun v : List Int × Int × Int => natural_Add_l2 a b v.1 v.2.1 v.2.2) a.length
    (fun i v => v.2.2 = (i : Int) ∧ U32 v.1 ∧ v.1.length = a.length + 1 ∧ 0 ≤ v.2.1 ∧ v.2.1 ≤ 1 ∧ val (v.1.take i) + v.2.1 * bp i = val (a.take i) + val (b.take i))
    (fun t => U32 t.1 ∧ t.1.length = a.length + 1 ∧ 0 ≤ t.2 ∧ t.2 < 4294967296 ∧ val (t.1.take a.length) + t.2 * bp a.length = val a + val b) (by
    rintro i hi ⟨out, c, k⟩ ⟨h0, h1, h2, h3, h4, h5⟩
    simp only at h0 h1 h2 h3 h4 h5
    subst h0
    left
    have ga := ha.get i
    have gb := hb.get i
    have va := val_takeA a i
    have vb := val_takeA b i
    simp only [natural_Add_l2, natural_Add_k3, Int.toNat_natCast, Nat.zero_add]
    rw [if_pos (by simpa using hi), if_pos (by omega), if_pos (by omega), wu64 (n := a.getD i 0) (by omega) (by omega), wu64 (n := c + a.getD i 0) (by omega) (by omega), bind1_pure]
    have fin : ∀ z : Int, z = c + a.getD i 0 + b.getD i 0 → 0 ≤ z → z < 18446744073709551616 → ∃ s', (if (i : Int) < ((out.length : Nat) : Int) then some (.inl (out.set i (IntKind.u32.wrap z), ishr .u64 z 32, IntKind.i64.wrap ((i : Int) + 1))) else none : Option ((List Int × Int × Int) ⊕ (List Int × Int))) = some (.inl s') ∧ s'.2.2 = ((i + 1 : Nat) : Int) ∧ U32 s'.1 ∧ s'.1.length = a.length + 1 ∧ 0 ≤ s'.2.1 ∧ s'.2.1 ≤ 1 ∧ val (s'.1.take (i + 1)) + s'.2.1 * bp (i + 1) = val (a.take (i + 1)) + val (b.take (i + 1)) := by
      intro z hz z0 z1
      rw [if_pos (by omega), wu32_eq, shr32, wi64 (by omega) (by omega)]
      refine ⟨_, rfl, rfl, h1.set i (by omega), by simp only [List.length_set]; exact h2, by simp only; omega, by simp only; omega, ?_⟩
      simp only [bp]
      rw [val_take_set (by omega), va, vb]
      have : z % 4294967296 = z - 4294967296 * (z / 4294967296) := by omega
      rw [this]
      subst hz
      generalize (c + a.getD i 0 + b.getD i 0) / 4294967296 = q
      grind
    by_cases hi2 : i < b.length
    · rw [if_pos (by simpa using hi2), if_pos (by omega), wu64 (n := b.getD i 0) (by omega) (by omega), wu64 (n := c + a.getD i 0 + b.getD i 0) (by omega) (by omega), bind1_pure]
      exact fin _ rfl (by omega) (by omega)
    · rw [if_neg (by simp; omega)]
      exact fin _ (by rw [getD_out (l := b) (by omega)]; omega) (by omega) (by omega)) (by
    rintro ⟨out, c, k⟩ ⟨h0, h1, h2, h3, h4, h5⟩
    simp only at h0 h1 h2 h3 h4 h5
    subst h0
    refine ⟨(out, c), ?_, h1, h2, h3, by simp only; omega, ?_⟩
    · simp only [natural_Add_l2]
      rw [if_neg (by simp)]
    · rw [List.take_length, List.take_of_length_le hl] at h5; exact h5) (s := (List.replicate (a.length + 1) 0, 0, 0)) ⟨rfl, U32.rep _, by simp, Int.le_refl 0, by simp, by simp [val]⟩
  exact ⟨out, c, h1, h2⟩
theorem add_k1 {a b : List Int} (ha : U32 a) (hb : U32 b) (hl : b.length ≤ a.length) (hn : a.length < 100000) : natural_Add_k1 a b = some (limN (val a + val b)) := by
  obtain ⟨out, c, h1, h2, h3, h4, h5, h6⟩ := add_loop ha hb hl (by omega)
  unfold natural_Add_k1
  rw [wi64 (by omega) (by omega), if_pos (by omega), if_pos (by omega), show (((a.length : Nat) : Int) + 1).toNat = a.length + 1 by omega, h1, bind2_pure, if_pos (by omega), if_pos (by omega), Int.toNat_natCast, Nat.zero_add]
  have hv : val (out.set a.length (IntKind.u32.wrap c)) = val a + val b := by
    rw [wu32 h4 h5, ← h6, ← val_take_set (by omega), List.take_of_length_le (by rw [List.length_set]; omega)]
  rw [natural_done_eq (h2.set _ (by rw [wu32_eq]; omega)) (by rw [List.length_set]; omega), hv]
  rfl
def addS (a b : List Int) : List Int × Int := if VN a ∧ VN b then limN (val a + val b) else ([], 20)
theorem natural_add_eq {a b : List Int} (ha : U32 a) (hb : U32 b) (la : a.length < 100000) (lb : b.length < 100000) : natural_Add a b = some (addS a b) := by
  unfold natural_Add addS
  rw [natural_both_eq (by omega) (by omega), bind1_pure]
  by_cases h : VN a ∧ VN b
  · rw [if_pos h, if_neg (by simp), if_pos h]
    by_cases hl : a.length < b.length
    · rw [if_pos (by simpa using hl), add_k1 hb ha (by omega) lb, Int.add_comm]
    · rw [if_neg (by simpa using hl), add_k1 ha hb (by omega) la]
  · rw [if_neg h, if_pos (by simp), if_neg h]
theorem ref10_sum_eq {a b : List Int} (ha : U32 a) (hb : U32 b) (la : a.length < 100000) (lb : b.length < 100000) : rl_ref10_sum a b = some (nat32 (val a + val b)) := by
  obtain ⟨t, h1, h2, h3, h4⟩ := loop_inv (step := fun v : List Int × Int × Int => rl_ref10_sum_l1 a b v.1 v.2.1 v.2.2) (max a.length b.length + 1)
    (fun i v => v.2.2 = (i : Int) ∧ U32 v.1 ∧ v.1.length = i ∧ 0 ≤ v.2.1 ∧ v.2.1 ≤ 1 ∧ val v.1 + v.2.1 * bp i = val (a.take i) + val (b.take i) ∧ (i = max a.length b.length + 1 → v.2.1 = 0))
    (fun t => U32 t ∧ val t = val a + val b ∧ t.length ≤ max a.length b.length + 1) (by
    rintro i hi ⟨out, c, k⟩ ⟨h0, h1, h2, h3, h4, h5, _⟩
    simp only at h0 h1 h2 h3 h4 h5
    subst h0
    have ga := ha.get i
    have gb := hb.get i
    have va := val_takeA a i
    have vb := val_takeA b i
    by_cases hgo : i < a.length ∨ i < b.length ∨ c > 0
    · left
      have hk : rl_ref10_sum_l1 a b out c (i : Int) = rl_ref10_sum_k2 a b out c i true := by
        unfold rl_ref10_sum_l1
        by_cases g1 : i < a.length
        · rw [if_pos (by simpa using g1)]
        · rw [if_neg (by simpa using g1)]
          by_cases g2 : i < b.length
          · rw [if_pos (by simpa using g2)]
          · rw [if_neg (by simpa using g2), decide_eq_true (by omega)]
      have fin : ∀ z : Int, z = c + a.getD i 0 + b.getD i 0 → 0 ≤ z → z < 18446744073709551616 → ∃ s', rl_ref10_sum_k4 out i z = some (.inl s') ∧ s'.2.2 = ((i + 1 : Nat) : Int) ∧ U32 s'.1 ∧ s'.1.length = i + 1 ∧ 0 ≤ s'.2.1 ∧ s'.2.1 ≤ 1 ∧ val s'.1 + s'.2.1 * bp (i + 1) = val (a.take (i + 1)) + val (b.take (i + 1)) ∧ (i + 1 = max a.length b.length + 1 → s'.2.1 = 0) := by
        intro z hz z0 z1
        unfold rl_ref10_sum_k4
        rw [if_pos (by simp; omega), wu32_eq, shr32, wi64 (by omega) (by omega)]
        refine ⟨_, rfl, rfl, h1.append (U32.cons (by omega) U32.nil), by simp [h2], by simp only; omega, by simp only; omega, ?_, fun hm => ?_⟩
        · simp only [bp]
          rw [val_append, va, vb, h2]
          simp only [val]
          have : z % 4294967296 = z - 4294967296 * (z / 4294967296) := by omega
          rw [this]
          subst hz
          generalize (c + a.getD i 0 + b.getD i 0) / 4294967296 = q
          grind
        · simp only
          rw [getD_out (l := a) (by omega), getD_out (l := b) (by omega)] at hz
          omega
      have k65 : ∀ y : Int, y = c + a.getD i 0 → ∃ s', rl_ref10_sum_k3 b out i y = some (.inl s') ∧ s'.2.2 = ((i + 1 : Nat) : Int) ∧ U32 s'.1 ∧ s'.1.length = i + 1 ∧ 0 ≤ s'.2.1 ∧ s'.2.1 ≤ 1 ∧ val s'.1 + s'.2.1 * bp (i + 1) = val (a.take (i + 1)) + val (b.take (i + 1)) ∧ (i + 1 = max a.length b.length + 1 → s'.2.1 = 0) := by
        intro y hy
        unfold rl_ref10_sum_k3
        by_cases g2 : i < b.length
        · simp only [Int.toNat_natCast]
          rw [if_pos (by simpa using g2), if_pos (by omega), if_pos (by omega), wu64 (n := b.getD i 0) (by omega) (by omega), wu64 (n := y + b.getD i 0) (by omega) (by omega), bind1_pure]
          exact fin _ (by rw [hy]) (by omega) (by omega)
        · rw [if_neg (by simpa using g2)]
          exact fin _ (by rw [hy, getD_out (l := b) (by omega)]; omega) (by omega) (by omega)
      simp only [hk]
      unfold rl_ref10_sum_k2
      rw [if_pos rfl]
      by_cases g1 : i < a.length
      · simp only [Int.toNat_natCast]
        rw [if_pos (by simpa using g1), if_pos (by omega), if_pos (by omega), wu64 (n := a.getD i 0) (by omega) (by omega), wu64 (n := c + a.getD i 0) (by omega) (by omega), bind1_pure]
        exact k65 _ rfl
      · rw [if_neg (by simpa using g1)]
        exact k65 _ (by rw [getD_out (l := a) (by omega)]; omega)
    · right
      refine ⟨out, ?_, h1, ?_, by omega⟩
      · simp only [rl_ref10_sum_l1, rl_ref10_sum_k2]
        rw [if_neg (by simp; omega), if_neg (by simp; omega), if_neg (by simp; omega)]
      · rw [List.take_of_length_le (by omega), List.take_of_length_le (by omega), show c = 0 by omega] at h5
        omega) (by
    rintro ⟨out, c, k⟩ ⟨h0, h1, h2, h3, h4, h5, h6⟩
    simp only at h0 h1 h2 h3 h4 h5 h6
    subst h0
    have := h6 trivial
    subst this
    refine ⟨out, ?_, h1, ?_, by omega⟩
    · simp only [rl_ref10_sum_l1, rl_ref10_sum_k2]
      rw [if_neg (by simp; omega), if_neg (by simp; omega), if_neg (by simp)]
    · rw [List.take_of_length_le (by omega), List.take_of_length_le (by omega)] at h5; omega) (s := ([], 0, 0)) ⟨rfl, U32.nil, rfl, by decide, by decide, by simp [val], fun h => by omega⟩
  unfold rl_ref10_sum
  rw [h1, bind1_pure, rl_ref10_trim_eq (by omega), bind1_pure, trimL_nat h2, h3]
end Go.Proofs.YtilpgjoidgfbiaaGreat
