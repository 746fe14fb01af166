/- The plain law of NaturalExact. -/
import Derived.Test.YteaijglfenedoaaQo
import Derived.Test.YteaijglfenedoaaQp
import Derived.Test.YteaijglfenedoaaQr
import Derived.Test.YteaijglfenedoaaGE0
import Derived.Test.YteaijglfenedoaaGL9
namespace Go.Proofs.Yteaijglfenedoaa
set_option linter.unusedVariables false
set_option linter.unusedSimpArgs false
open Vm
theorem awake10 : rl_law10_awake = some true := rl_law10_awake_le 200 _ (by kernel_rfl)
theorem canon_snoc {l : List Int} {x : Int} (h : U32 l) (h0 : 1 ≤ x) (h1 : x < 4294967296) : Canon (l ++ [x]) := by
  refine ⟨h.append (U32.cons (by omega) U32.nil), .inr ?_⟩
  rw [List.getD_eq_getElem?_getD, List.getElem?_append_right (by simp)]
  simp; omega
theorem larger_yes {d : S_recordlinkmake_Deck} (hd : DeckOk d) : ∃ l d', rl_make_Deck_Larger d = some (l, d') ∧ Canon l ∧ 63 ≤ l.length ∧ l.length ≤ 64 ∧ DeckOk d' := by
  unfold rl_make_Deck_Larger
  obtain ⟨v, d1, he, v0, v1, hd1⟩ := natural_yes hd (n := 64) 64 rfl (by decide)
  rw [he]; clear he; first | rw [bind2_pure] | rw [bind3_pure] | rw [bind4_pure] | rw [bind1_pure]
  obtain ⟨⟨l, t1, t2, t3⟩, h1, h2⟩ := loop_of (step := fun v : (List Int) × (List Int) × Int × Int => rl_make_Deck_Larger_l2 v.1 v.2.1 v.2.2.1 v.2.2.2) (fun v => Canon v.1 ∧ v.1.length ≤ 64 ∧ DeckOk ⟨v.2.1, v.2.2.1, v.2.2.2⟩) (fun v => 64 - v.1.length)
    (fun t => Canon t.1 ∧ 63 ≤ t.1.length ∧ t.1.length ≤ 64 ∧ DeckOk ⟨t.2.1, t.2.2.1, t.2.2.2⟩) (by
    rintro ⟨x8, x9, x10, x11⟩ ⟨g0, g1, g2⟩
    simp only at g0 g1 g2
    simp only [rl_make_Deck_Larger_l2]
    obtain ⟨u, e1, he, u0, u1, he1⟩ := next_yes g2 (n := 2) (by decide) (by decide)
    rw [he]; clear he; first | rw [bind2_pure] | rw [bind3_pure] | rw [bind4_pure] | rw [bind1_pure]
    rw [wi64 (n := 64 - u) (by omega) (by omega)]
    by_cases c : ((x8.length : Nat) : Int) < 64 - u
    · left
      rw [if_pos (by simpa using c)]
      obtain ⟨w, e2, he, w0, w1, he2⟩ := next_yes he1 (n := 2147483648) (by decide) (by decide)
      rw [he]; clear he; first | rw [bind2_pure] | rw [bind3_pure] | rw [bind4_pure] | rw [bind1_pure]
      rw [if_pos (by simp; omega), wu32 (n := w) (by omega) (by omega), wu32 (by omega) (by omega)]
      exact ⟨_, rfl, ⟨canon_snoc g0.1 (by omega) (by omega), by simp; omega, he2⟩, by simp; omega⟩
    · right
      rw [if_neg (by simpa using c)]
      exact ⟨_, rfl, g0, by simp only; omega, g1, he1⟩) (nat32 v, d1.list, d1.at_, d1.state) ⟨nat32_canon v0, nat32_len_le v0 v1, hd1⟩
  rw [h1, bind4_pure]
  exact ⟨_, _, rfl, h2⟩
theorem vnb {l : List Int} (hu : U32 l) (h : VN l) : val l < bp 64 := by have := val_lt hu; have := bp_le h.1; omega
theorem limN_len {v : Int} (h : 0 ≤ v) : (limN v).1.length ≤ 64 := by
  unfold limN
  split
  · exact nat32_len_le h (by omega)
  · simp
theorem addS_len {a b : List Int} (ha : U32 a) (hb : U32 b) : (addS a b).1.length ≤ 64 := by
  have := val_nonneg ha
  have := val_nonneg hb
  unfold addS
  split
  · exact limN_len (by omega)
  · simp
theorem mulS_len {a b : List Int} (ha : U32 a) (hb : U32 b) : (mulS a b).1.length ≤ 64 := by
  have := Int.mul_nonneg (val_nonneg ha) (val_nonneg hb)
  unfold mulS
  split
  · exact limN_len (by omega)
  · simp
theorem subS_len {a b : List Int} (ha : U32 a) (hb : U32 b) : (subS a b).1.length ≤ 64 := by
  have := val_nonneg hb
  unfold subS
  split
  · rename_i h
    have := vnb ha h.1
    split
    · simp
    · exact nat32_len_le (by omega) (by omega)
  · simp
theorem divS_len {a b : List Int} (ha : U32 a) (hb : U32 b) : (divS a b).1.length ≤ 64 ∧ (divS a b).2.1.length ≤ 64 := by
  have a0 := val_nonneg ha
  have b0 := val_nonneg hb
  unfold divS
  split
  · rename_i h
    have av := vnb ha h.1
    have bv := vnb hb h.2
    split
    · simp
    · rename_i hn
      have hp := (h.2.canon hb).pos hn
      have := Int.ediv_le_self (val b) a0
      have h1 := Int.emod_lt_of_pos (val a) hp
      have h2 := Int.emod_nonneg (val a) (show val b ≠ 0 by omega)
      have h3 := Int.ediv_nonneg a0 b0
      exact ⟨nat32_len_le h3 (by omega), nat32_len_le h2 (by omega)⟩
  · simp
theorem gcdS_len {a b : List Int} (ha : U32 a) (hb : U32 b) : (gcdS a b).1.length ≤ 64 := by
  have a0 := val_nonneg ha
  have b0 := val_nonneg hb
  unfold gcdS
  split
  · rename_i h
    have av := vnb ha h.1
    have bv := vnb hb h.2
    have := gcdI_le a0 b0
    exact nat32_len_le (gcdI_nonneg _ _) (by omega)
  · simp
theorem powS_len {a : List Int} (ha : U32 a) (n : Int) : (powS a n).1.length ≤ 64 := by
  unfold powS
  split
  · split
    · simp
    · exact limN_len (Int.pow_nonneg (val_nonneg ha))
  · simp
theorem same_self {x : List Int} (h : x.length ≤ 64) : rl_ref10_Same x x = some true := by
  rw [same_eq (by omega)]; simp
theorem both_yes {a b : List Int} (ha : U32 a) (hb : U32 b) (la : a.length ≤ 1000) (lb : b.length ≤ 1000) : rl_law10_both a b = some true := by
  have h1 := addS_len ha hb
  have h2 := subS_len ha hb
  have h3 := mulS_len ha hb
  have h4 := divS_len ha hb
  have h5 := gcdS_len ha hb
  unfold rl_law10_both
  rw [natural_add_eq ha hb (by omega) (by omega), ref10_add_eq ha hb (by omega) (by omega), natural_compare_eq ha hb (by omega) (by omega), ref10_compare_eq ha hb (by omega) (by omega)]
  generalize addS a b = q at h1
  obtain ⟨x, e⟩ := q
  rw [bind2_pure, bind2_pure, if_neg (by simp), same_self h1, bind1_pure, if_neg (by simp), bind1_pure, bind1_pure, show (ordI (val a) (val b) != ordI (val a) (val b)) = false by simp]
  unfold rl_law10_both_k4
  rw [if_neg (by simp), natural_sub_eq ha hb (by omega) (by omega), ref10_sub_eq ha hb (by omega) (by omega)]
  clear h1 x e
  generalize subS a b = q at h2
  obtain ⟨x, e⟩ := q
  rw [bind2_pure, bind2_pure, if_neg (by simp), same_self h2, bind1_pure]
  unfold rl_law10_both_k8
  rw [if_neg (by simp), natural_mul_eq ha hb (by omega) (by omega), ref10_mul_eq ha hb (by omega) (by omega)]
  clear h2 x e
  generalize mulS a b = q at h3
  obtain ⟨x, e⟩ := q
  rw [bind2_pure, bind2_pure, if_neg (by simp), same_self h3, bind1_pure]
  unfold rl_law10_both_k12
  rw [if_neg (by simp), natural_divmod_eq ha hb (by omega) (by omega), ref10_divmod_eq ha hb (by omega) (by omega)]
  clear h3 x e
  generalize divS a b = q at h4
  obtain ⟨x, y, e⟩ := q
  rw [bind3_pure, bind3_pure, if_neg (by simp), same_self h4.1, bind1_pure, if_neg (by simp), same_self h4.2, bind1_pure]
  unfold rl_law10_both_k16
  rw [if_neg (by simp)]
  split
  · rfl
  · rw [natural_gcd_eq ha hb (by omega) (by omega), ref10_gcd_eq ha hb (by omega) (by omega)]
    clear h4 x y e
    generalize gcdS a b = q at h5
    obtain ⟨x, e⟩ := q
    rw [bind2_pure, bind2_pure, if_pos (by simp), same_self h5, bind1_pure]
    rfl
theorem exact_ints {p3 m : Int} (h3 : p3 < 9223372036854775808) (hm : m < 1099511627776) : loop (fun v : Int => rl_law10_NaturalExact_l36 p3 m v) 0 = some (.inl ()) := by
  refine loop_for (fun i => (i : Int)) 4 _ (fun i hi => ?_) ?_ rfl
  · simp only [rl_law10_NaturalExact_l36]
    have hx : ([p3, m, 4294967295, 4294967296] : List Int).getD i 0 < 9223372036854775808 := by
      rcases i with _ | _ | _ | _ | i
      · exact h3
      · show m < _
        omega
      · show (4294967295 : Int) < _
        decide
      · show (4294967296 : Int) < _
        decide
      · omega
    rw [if_pos (by simp; omega), if_pos (by omega), if_pos (by simp; omega), Int.toNat_natCast, Nat.zero_add]
    generalize ([p3, m, 4294967295, 4294967296] : List Int).getD i 0 = x at hx ⊢
    rw [natural_fromInt_eq hx, rl_ref10_fromInt_eq hx]
    have hl : (if x < 0 then (([] : List Int), (2 : Int)) else (nat32 x, 0)).1.length ≤ 64 := by
      split
      · simp
      · have hb : bp 2 = 18446744073709551616 := by decide
        have := nat32_len_le (n := 2) (v := x) (by omega) (by omega)
        simp only; omega
    generalize (if x < 0 then (([] : List Int), (2 : Int)) else (nat32 x, 0)) = q at hl ⊢
    obtain ⟨y, e⟩ := q
    rw [bind2_pure, bind2_pure, if_neg (by simp), same_self hl, bind1_pure]
    unfold rl_law10_NaturalExact_k40
    rw [if_neg (by simp), wi64 (by omega) (by omega)]
    rfl
  · simp only [rl_law10_NaturalExact_l36]
    rw [if_neg (by simp)]
theorem exact_nats {p1 p2 a b c : List Int} (u1 : U32 p1) (u2 : U32 p2) (ua : U32 a) (ub : U32 b) (uc : U32 c) (l1 : p1.length ≤ 80) (l2 : p2.length ≤ 80) (la : a.length ≤ 80) (lb : b.length ≤ 80) (lc : c.length ≤ 80) : loop (fun v : Int => rl_law10_NaturalExact_l156 p1 p2 a b c v) 0 = some (.inl ()) := by
  refine loop_for (fun i => (i : Int)) 3 _ (fun i hi => ?_) ?_ rfl
  · simp only [rl_law10_NaturalExact_l156]
    obtain ⟨ux, lx⟩ : U32 (([p1, a, c] : List (List Int)).getD i []) ∧ (([p1, a, c] : List (List Int)).getD i []).length ≤ 80 := by
      rcases i with _ | _ | _ | i
      · exact ⟨u1, l1⟩
      · exact ⟨ua, la⟩
      · exact ⟨uc, lc⟩
      · omega
    have hin : loop (fun v : Int => rl_law10_NaturalExact_l168 p1 p2 a b c (i : Int) v) 0 = some (.inl ()) := by
      refine loop_for (fun j => (j : Int)) 4 _ (fun j hj => ?_) ?_ rfl
      · simp only [rl_law10_NaturalExact_l168]
        obtain ⟨uy, ly⟩ : U32 (([p2, b, a, []] : List (List Int)).getD j []) ∧ (([p2, b, a, []] : List (List Int)).getD j []).length ≤ 80 := by
          rcases j with _ | _ | _ | _ | j
          · exact ⟨u2, l2⟩
          · exact ⟨ub, lb⟩
          · exact ⟨ua, la⟩
          · exact ⟨U32.nil, Nat.zero_le _⟩
          · omega
        rw [if_pos (by simp; omega), if_pos (by omega), if_pos (by simp; omega), Int.toNat_natCast, Int.toNat_natCast, Nat.zero_add, Nat.zero_add, both_yes ux uy (by omega) (by omega), bind1_pure, if_neg (by simp), wi64 (by omega) (by omega)]
        rfl
      · simp only [rl_law10_NaturalExact_l168]
        rw [if_neg (by simp)]
    rw [if_pos (by simp; omega), if_pos (by omega), if_pos (by simp; omega), hin, bindE_l]
    unfold rl_law10_NaturalExact_a171
    rw [Int.toNat_natCast, Nat.zero_add]
    generalize ([p1, a, c] : List (List Int)).getD i [] = x at ux lx ⊢
    rw [natural_int_eq ux (by omega), ref10_int_eq ux (by omega), natural_text_eq ux (by omega), ref10_text_eq ux (by omega)]
    generalize intS x = q
    obtain ⟨k, e⟩ := q
    generalize textS x = q
    obtain ⟨s, f⟩ := q
    rw [bind2_pure, bind2_pure, bind2_pure, bind2_pure, if_neg (by simp), if_neg (by simp), if_neg (by simp), if_neg (by simp), natural_valid_eq (by omega), rl_ref10_valid_eq (by omega), bind1_pure, bind1_pure]
    unfold rl_law10_NaturalExact_k170
    rw [if_neg (by simp), wi64 (by omega) (by omega)]
    rfl
  · simp only [rl_law10_NaturalExact_l156]
    rw [if_neg (by simp)]
theorem exact_powers {p1 b : List Int} {p4 e : Int} (u1 : U32 p1) (ub : U32 b) (l1 : p1.length ≤ 80) (lb : b.length ≤ 80) : loop (fun v : Int => rl_law10_NaturalExact_l204 p1 p4 b e v) 0 = some (.inl ()) := by
  refine loop_for (fun i => (i : Int)) 5 _ (fun i hi => ?_) ?_ rfl
  · simp only [rl_law10_NaturalExact_l204]
    rw [if_pos (by simp; omega), if_pos (by omega), if_pos (by simp; omega), Int.toNat_natCast, Nat.zero_add]
    generalize ([p4, e, 0, 4096, 4097] : List Int).getD i 0 = n
    have hb := powS_len ub n
    have h1 := powS_len u1 n
    rw [natural_power_eq ub (by omega), ref10_power_eq ub (by omega), natural_power_eq u1 (by omega), ref10_power_eq u1 (by omega)]
    generalize powS b n = q at hb
    obtain ⟨x, f⟩ := q
    generalize powS p1 n = q at h1
    obtain ⟨y, g⟩ := q
    rw [bind2_pure, bind2_pure, bind2_pure, bind2_pure, if_neg (by simp), if_neg (by simp), same_self hb, bind1_pure, if_neg (by simp), same_self h1, bind1_pure]
    unfold rl_law10_NaturalExact_k208
    rw [if_neg (by simp), wi64 (by omega) (by omega)]
    rfl
  · simp only [rl_law10_NaturalExact_l204]
    rw [if_neg (by simp)]
theorem exact_law (p p1 p2 : List Int) (p3 p4 : Int) (h1 : (∀ y ∈ p1, IntKind.u32.min ≤ y ∧ y ≤ IntKind.u32.max) ∧ p1.length ≤ maxLen) (h2 : (∀ y ∈ p2, IntKind.u32.min ≤ y ∧ y ≤ IntKind.u32.max) ∧ p2.length ≤ maxLen) (h3 : IntKind.i64.min ≤ p3 ∧ p3 ≤ IntKind.i64.max) : rl_law10_NaturalExact p p1 p2 p3 p4 = some true := by
  have u1 : U32 p1 := fun y hy => by
    obtain ⟨a0, a1⟩ : 0 ≤ y ∧ y ≤ 4294967295 := h1.1 y hy
    omega
  have u2 : U32 p2 := fun y hy => by
    obtain ⟨a0, a1⟩ : 0 ≤ y ∧ y ≤ 4294967295 := h2.1 y hy
    omega
  obtain ⟨k0, k1⟩ : -9223372036854775808 ≤ p3 ∧ p3 ≤ 9223372036854775807 := h3
  have yes : rl_law10_NaturalExact_k4 p p1 p2 p3 p4 true = some true := by
    unfold rl_law10_NaturalExact_k4
    rw [if_pos rfl, awake10, bind1_pure]
  unfold rl_law10_NaturalExact rl_make_Few
  rw [awake10, bind1_pure, if_neg (by simp), bind1_pure]
  by_cases hp : p.length ≤ 400
  rotate_left
  · rw [if_pos (by simp; omega), yes]
  rw [if_neg (by simp; omega)]
  by_cases c1 : p1.length ≤ 80
  rotate_left
  · rw [if_pos (by simp; omega), yes]
  rw [if_neg (by simp; omega)]
  by_cases c2 : p2.length ≤ 80
  rotate_left
  · rw [decide_eq_true (by omega), yes]
  rw [decide_eq_false (by omega)]
  unfold rl_law10_NaturalExact_k4
  rw [if_neg (by simp)]
  obtain ⟨d, he, hd⟩ := new_yes hp
  rw [he, bind1_pure]; clear he
  obtain ⟨a, d1, he, a0, a1, hd1⟩ := natural_yes hd (n := 6) 6 rfl (by decide)
  rw [he]; clear he; first | rw [bind2_pure] | rw [bind3_pure] | rw [bind4_pure] | rw [bind1_pure]
  obtain ⟨b, d2, he, b0, b1, hd2⟩ := natural_yes hd1 (n := 4) 4 rfl (by decide)
  rw [he]; clear he; first | rw [bind2_pure] | rw [bind3_pure] | rw [bind4_pure] | rw [bind1_pure]
  obtain ⟨m, d3, he, m0, m1, hd3⟩ := next_yes hd2 (n := 1099511627776) (by decide) (by decide)
  rw [he]; clear he; first | rw [bind2_pure] | rw [bind3_pure] | rw [bind4_pure] | rw [bind1_pure]
  rw [exact_ints (by omega) m1, bindE_l]
  unfold rl_law10_NaturalExact_a213
  obtain ⟨c, d4, he, e0, e1, e2, hd4⟩ := larger_yes hd3
  rw [he]; clear he; first | rw [bind2_pure] | rw [bind3_pure] | rw [bind4_pure] | rw [bind1_pure]
  have la := nat32_len_le a0 a1
  have lb := nat32_len_le b0 b1
  rw [exact_nats u1 u2 (nat32_u32 a0) (nat32_u32 b0) e0.1 c1 c2 (by omega) (by omega) (by omega), bindE_l]
  unfold rl_law10_NaturalExact_a211
  obtain ⟨n, d5, he, n0, n1, hd5⟩ := next_yes hd4 (n := 8) (by decide) (by decide)
  rw [he]; clear he; first | rw [bind2_pure] | rw [bind3_pure] | rw [bind4_pure] | rw [bind1_pure]
  rw [exact_powers u1 (nat32_u32 b0) c1 (by omega), bindE_l]
  rfl
end Go.Proofs.Yteaijglfenedoaa
