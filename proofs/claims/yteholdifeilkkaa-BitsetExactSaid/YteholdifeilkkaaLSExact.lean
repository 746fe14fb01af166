/- Plain: the law BitsetExact. -/
import Derived.Test.YteholdifeilkkaaBz
import Derived.Test.YteholdifeilkkaaGE0
import Derived.Test.YteholdifeilkkaaGL11
namespace Go.Proofs.Yteholdifeilkkaa
open Vm
open IntKind (i64 u64 u32 u8)
set_option linter.unusedVariables false
set_option linter.unusedSimpArgs false
theorem W64.snoc {l : List Int} {w : Int} (h : W64 l) (h0 : 0 ≤ w) (h1 : w < 18446744073709551616) : W64 (l ++ [w]) := by
  intro x hx
  rcases List.mem_append.1 hx with hx | hx
  · exact h x hx
  · simp at hx; subst hx; exact ⟨h0, h1⟩
def BitsSt (n : Int) (v : Int × (List Int) × Int × Int × (List Int)) : Prop := 0 ≤ v.1 ∧ v.1 ≤ n / 64 ∧ DeckOk ⟨v.2.1, v.2.2.1, v.2.2.2.1⟩ ∧ (v.2.2.2.2.length : Int) = v.1 ∧ W64 v.2.2.2.2
theorem bits_step {n : Int} (hn : 0 ≤ n) (hn2 : n ≤ 640) {x6 x19 : Int} {x10 : List Int} {d : S_recordlinkmake_Deck} (h0 : 0 ≤ x6) (h1 : x6 < n / 64) (hd : DeckOk d) (hl : (x10.length : Int) = x6) (hw : W64 x10) (w0 : 0 ≤ x19) (w1 : x19 < 18446744073709551616) :
    ∃ s', rl_make_Deck_Bits_k2 x6 x10 x19 d.list d.at_ d.state = some (.inl s') ∧ BitsSt n s' ∧ (n / 64 - s'.1).toNat < (n / 64 - x6).toNat := by
  unfold rl_make_Deck_Bits_k2
  refine ⟨_, by rw [if_pos (by simp; omega)], ⟨?_, ?_, hd, ?_, hw.snoc w0 w1⟩, ?_⟩
  · show 0 ≤ IntKind.i64.wrap (x6 + 1)
    rw [wi64 (by omega) (by omega)]; omega
  · show IntKind.i64.wrap (x6 + 1) ≤ n / 64
    rw [wi64 (by omega) (by omega)]; omega
  · show ((x10 ++ [x19]).length : Int) = IntKind.i64.wrap (x6 + 1)
    rw [wi64 (by omega) (by omega)]; simp; omega
  · show (n / 64 - IntKind.i64.wrap (x6 + 1)).toNat < _
    rw [wi64 (by omega) (by omega)]; omega
theorem bits_yes {d : S_recordlinkmake_Deck} (hd : DeckOk d) {n : Int} (hn : 0 ≤ n) (hn2 : n ≤ 640) : ∃ b d', rl_make_Deck_Bits d n = some (b, d') ∧ b.Length = n ∧ (b.Words.length : Int) = n / 64 ∧ W64 b.Words ∧ DeckOk d' := by
  obtain ⟨⟨y1, y2, y3, y4⟩, h1, h2⟩ := loop_of (step := fun v : Int × (List Int) × Int × Int × (List Int) => rl_make_Deck_Bits_l1 n v.1 v.2.1 v.2.2.1 v.2.2.2.1 v.2.2.2.2) (BitsSt n) (fun v => (n / 64 - v.1).toNat)
      (fun t => DeckOk ⟨t.1, t.2.1, t.2.2.1⟩ ∧ (t.2.2.2.length : Int) = n / 64 ∧ W64 t.2.2.2) (by
    rintro ⟨x6, x7, x8, x9, x10⟩ ⟨h0, h1, h2, h3, h4⟩
    simp only at h0 h1 h2 h3 h4
    simp only [rl_make_Deck_Bits_l1]
    rw [tdiv_nn hn, wi64 (by omega) (by omega)]
    by_cases c : x6 < n / 64
    · left
      rw [if_pos (by simpa using c)]
      obtain ⟨w, d1, e1, w0, w1, hd1⟩ := word_yes h2
      obtain ⟨v, d2, e2, v0, v1, hd2⟩ := next_yes hd1 (n := 4) (by decide) (by decide)
      rw [e1]; simp only [bind2, Option.bind_some]
      rw [e2]; simp only [Option.bind_some]
      by_cases c1 : v = 0
      · rw [if_pos (by simp [c1])]
        obtain ⟨w2, d3, e3, a0, a1, hd3⟩ := word_yes hd2
        obtain ⟨w3, d4, e4, b0, b1, hd4⟩ := word_yes hd3
        rw [e3]; simp only [Option.bind_some]
        rw [e4]; simp only [Option.bind_some]
        exact bits_step hn hn2 h0 c hd4 h3 h4 (by unfold iand; exact wu64_lo _) (by unfold iand; exact wu64_hi _)
      · rw [if_neg (by simp [c1])]
        by_cases c2 : v = 1
        · rw [if_pos (by simp [c2])]
          exact bits_step hn hn2 h0 c hd2 h3 h4 (by decide) (by decide)
        · rw [if_neg (by simp [c2])]
          exact bits_step hn hn2 h0 c hd2 h3 h4 w0 w1
    · right
      rw [if_neg (by simpa using c)]
      exact ⟨_, rfl, h2, by simp only; omega, h4⟩) (0, d.list, d.at_, d.state, []) ⟨Int.le_refl 0, by simp only; omega, hd, rfl, fun w hw => by cases hw⟩
  refine ⟨⟨n, y4⟩, ⟨y1, y2, y3⟩, ?_, rfl, h2.2.1, h2.2.2, h2.1⟩
  unfold rl_make_Deck_Bits
  rw [h1]
  rfl
theorem awake09 : rl_law09_awake = some true := rl_law09_awake_le 200 _ (by kernel_rfl)
def BitT (x : S_api_Bits) : Prop := (IntKind.i64.min ≤ x.Length ∧ x.Length ≤ IntKind.i64.max) ∧ ((∀ y ∈ x.Words, IntKind.u64.min ≤ y ∧ y ≤ IntKind.u64.max) ∧ x.Words.length ≤ maxLen) ∧ True
theorem BitT.w64 {x : S_api_Bits} (h : BitT x) : W64 x.Words := fun w hw => by
  have h1 := h.2.1.1 w hw
  have e1 : IntKind.u64.min = 0 := by decide
  have e2 : IntKind.u64.max = 18446744073709551615 := by decide
  rw [e1, e2] at h1
  omega
theorem count_both {p : S_api_Bits} (hw : W64 p.Words) : ∃ u, bitset_Count p = some u ∧ rl_ref09_Count p = some u := by
  by_cases h : VB p
  · exact ⟨_, by rw [count_eq hw, if_pos h], refcount_pop h hw⟩
  · refine ⟨0, by rw [count_eq hw, if_neg h], ?_⟩
    unfold rl_ref09_Count
    rw [loop_end (t := 0) (by
      simp only [rl_ref09_Count_l1]
      rw [refvalid_eq, decide_eq_false h, bind1_pure, if_neg (by decide)]
      rfl)]
    rfl
theorem hex_both {p : S_api_Bits} (hw : W64 p.Words) : ∃ u e, bitset_Hex p = some (u, e) ∧ rl_ref09_Hex p = some (u, e) ∧ u.size ≤ 128 := by
  rw [hex_eq hw, refhex_eq hw]
  by_cases h : VB p
  · have := h.len
    rw [if_pos h]
    exact ⟨_, _, rfl, rfl, by rw [strOf_size, hexOf_length]; omega⟩
  · rw [if_neg h]
    exact ⟨_, _, rfl, rfl, by decide⟩
theorem valid_both (p : S_api_Bits) : ∃ u, bitset_Valid p = some u ∧ rl_ref09_Valid p = some u := ⟨_, valid_eq p, refvalid_eq p⟩
theorem exact_law (p0 : List Int) (p1 p2 : S_api_Bits) (p3 : Int) (p4 : ByteArray) (h1 : BitT p1) (h2 : BitT p2) : rl_law09_BitsetExact p0 p1 p2 p3 p4 = some true := by
  have k1 : rl_law09_BitsetExact_k1 p0 p1 p2 p3 p4 true = some true := by unfold rl_law09_BitsetExact_k1; rw [if_pos rfl, awake09]; rfl
  unfold rl_law09_BitsetExact
  rw [awake09, bind1_pure, if_neg (by decide)]
  unfold rl_make_Few
  by_cases c0 : p0.length ≤ 400
  rotate_left
  · rw [decide_eq_false (by omega : ¬ ((p0.length : Nat) : Int) ≤ 400), bind1_pure, if_pos (by decide), k1]
  rw [decide_eq_true (by omega : ((p0.length : Nat) : Int) ≤ 400), bind1_pure, if_neg (by decide)]
  by_cases c1 : p1.Words.length ≤ 40
  rotate_left
  · rw [if_pos (by simp only [decide_eq_true_eq]; omega), k1]
  rw [if_neg (by simp only [decide_eq_true_eq]; omega)]
  by_cases c2 : p2.Words.length ≤ 40
  rotate_left
  · rw [if_pos (by simp only [decide_eq_true_eq]; omega), k1]
  rw [if_neg (by simp only [decide_eq_true_eq]; omega)]
  by_cases c4 : p4.size ≤ 600
  rotate_left
  · rw [decide_eq_true (by omega : ((p4.size : Nat) : Int) > 600), k1]
  rw [decide_eq_false (by omega : ¬ ((p4.size : Nat) : Int) > 600)]
  clear k1
  unfold rl_law09_BitsetExact_k1
  rw [if_neg (by decide)]
  obtain ⟨d, he, hd⟩ := new_yes c0
  rw [he, bind1_pure]
  clear he
  obtain ⟨x0, d1, he, x0a, x0b, hd1⟩ := next_yes hd (n := 4) (by decide) (by decide)
  rw [he]; clear he; first | rw [bind2_pure] | rw [bind3_pure] | rw [bind4_pure] | rw [bind1_pure]
  rw [wi64 (n := 1 + x0) (by omega) (by omega), wi64 (n := 64 * (1 + x0)) (by omega) (by omega)]
  obtain ⟨x, d2, e2, la, lx, wx, hd2⟩ := bits_yes hd1 (n := 64 * (1 + x0)) (by omega) (by omega)
  rw [e2, bind2_pure]
  obtain ⟨z0, d3, he, z0a, z0b, hd3⟩ := next_yes hd2 (n := 4) (by decide) (by decide)
  rw [he]; clear he; first | rw [bind2_pure] | rw [bind3_pure] | rw [bind4_pure] | rw [bind1_pure]
  rw [wi64 (n := 1 + z0) (by omega) (by omega), wi64 (n := 64 * (1 + z0)) (by omega) (by omega)]
  obtain ⟨y, d4, e4, lb, ly, wy, hd4⟩ := bits_yes hd3 (n := 64 * (1 + z0)) (by omega) (by omega)
  rw [e4, bind2_pure]
  have l2 : loop (fun v : Int => rl_law09_BitsetExact_l2 p3 v) 0 = some (.inl ()) := by
    refine loop_for (fun i => (i : Int)) 7 _ (fun i hi => ?_) ?_ rfl
    · simp only [rl_law09_BitsetExact_l2, Int.toNat_natCast]
      obtain ⟨u, e, t1, t2, t3⟩ := new_both (([p3, 64, 128, 512, 576, 0, 32] : List Int).getD (0 + i) 0)
      rw [if_pos (by simp; omega), if_pos (by omega), if_pos (by simp; omega), t1, bind2_pure, t2, bind2_pure, if_neg (by simp), same_yes t3, bind1_pure]
      unfold rl_law09_BitsetExact_k3
      rw [if_neg (by decide), wi64 (n := (i : Int) + 1) (by omega) (by omega)]
      rfl
    · simp only [rl_law09_BitsetExact_l2]
      rw [if_neg (by simp)]
  rw [l2, bindE_l]
  unfold rl_law09_BitsetExact_a20
  have hP : ∀ i : Nat, i < 2 → (([p1, x] : List S_api_Bits).getD (0 + i) dS_api_Bits).Words.length ≤ 40 ∧ W64 (([p1, x] : List S_api_Bits).getD (0 + i) dS_api_Bits).Words := fun i hi => by
    have : i = 0 ∨ i = 1 := by omega
    rcases this with rfl | rfl
    · exact ⟨c1, h1.w64⟩
    · exact ⟨by show x.Words.length ≤ _; omega, wx⟩
  have l5 : ∀ i : Nat, i < 2 → loop (fun v : Int => rl_law09_BitsetExact_l5 p1 p2 x y (i : Int) v) 0 = some (.inl ()) := fun i hi => by
    refine loop_for (fun j => (j : Int)) 3 _ (fun j hj => ?_) ?_ rfl
    · simp only [rl_law09_BitsetExact_l5, Int.toNat_natCast]
      have hp := (hP i hi).1
      generalize ([p1, x] : List S_api_Bits).getD (0 + i) dS_api_Bits = p at hp ⊢
      obtain ⟨q, hq⟩ : ∃ q, ([p2, y, x] : List S_api_Bits).getD (0 + j) dS_api_Bits = q := ⟨_, rfl⟩
      obtain ⟨u1, e1, t1, t2, t3⟩ := and_both (p := p) (q := q) (by omega)
      obtain ⟨u2, e2, r1, r2, r3⟩ := or_both (p := p) (q := q) (by omega)
      obtain ⟨u3, e3, s1, s2, s3⟩ := xor_both (p := p) (q := q) (by omega)
      rw [hq, if_pos (by simp; omega), if_pos (by omega), if_pos (by simp; omega), t1, bind2_pure, t2, bind2_pure, r1, bind2_pure, r2, bind2_pure, s1, bind2_pure, s2, bind2_pure, if_neg (by simp), if_neg (by simp), if_neg (by simp),
        same_yes t3, bind1_pure, if_neg (by decide), same_yes r3, bind1_pure, if_neg (by decide), same_yes s3, bind1_pure, if_neg (by decide), bcompare_eq (by omega), bind1_pure, refcompare_eq (by omega), bind1_pure, show (cmpB p q != cmpB p q) = false by simp]
      unfold rl_law09_BitsetExact_k6
      rw [if_neg (by decide), wi64 (n := (j : Int) + 1) (by omega) (by omega)]
      rfl
    · simp only [rl_law09_BitsetExact_l5]
      rw [if_neg (by simp)]
  have l7 : ∀ (i : Nat) (q : Int), i < 2 → loop (fun v : Int => rl_law09_BitsetExact_l7 p1 p3 x (i : Int) q v) 0 = some (.inl ()) := fun i q hi => by
    refine loop_for (fun j => (j : Int)) 3 _ (fun j hj => ?_) ?_ rfl
    · simp only [rl_law09_BitsetExact_l7, Int.toNat_natCast]
      obtain ⟨hp, hw⟩ := hP i hi
      generalize ([p1, x] : List S_api_Bits).getD (0 + i) dS_api_Bits = p at hp hw ⊢
      obtain ⟨g, hg⟩ : ∃ g, ([p3, q, i64.wrap (p.Length - 1)] : List Int).getD (0 + j) 0 = g := ⟨_, rfl⟩
      obtain ⟨u1, e1, t1, t2, t3⟩ := set_both (p := p) (by omega) g
      obtain ⟨u2, r1, r2⟩ := has_both hw g
      rw [hg, if_pos (by simp; omega), if_pos (by omega), if_pos (by simp; omega), t1, bind2_pure, t2, bind2_pure, if_neg (by simp), same_yes t3, bind1_pure, if_neg (by decide), r1, bind1_pure, r2, bind1_pure, show (!(u2 == u2)) = false by simp]
      unfold rl_law09_BitsetExact_k8
      rw [if_neg (by decide), wi64 (n := (j : Int) + 1) (by omega) (by omega)]
      rfl
    · simp only [rl_law09_BitsetExact_l7]
      rw [if_neg (by simp)]
  have l10 : ∀ s : ByteArray, s.size ≤ 128 → loop (fun v : Int => rl_law09_BitsetExact_l10 p4 s v) 0 = some (.inl ()) := fun s hs => by
    refine loop_for (fun j => (j : Int)) 4 _ (fun j hj => ?_) ?_ rfl
    · simp only [rl_law09_BitsetExact_l10, Int.toNat_natCast]
      obtain ⟨g, hg⟩ : ∃ g, ([p4, s, (s ++ p4), (s ++ s)] : List ByteArray).getD (0 + j) ByteArray.empty = g := ⟨_, rfl⟩
      have hz : g.size < 1000000 := by
        rw [← hg]
        have : j = 0 ∨ j = 1 ∨ j = 2 ∨ j = 3 := by omega
        rcases this with rfl | rfl | rfl | rfl
        · show p4.size < _; omega
        · show s.size < _; omega
        · show (s ++ p4).size < _; rw [ByteArray.size_append]; omega
        · show (s ++ s).size < _; rw [ByteArray.size_append]; omega
      obtain ⟨u1, e1, t1, t2, t3⟩ := parse_both hz
      rw [hg, if_pos (by simp; omega), if_pos (by omega), if_pos (by simp; omega), t1, bind2_pure, t2, bind2_pure, if_neg (by simp), same_yes t3, bind1_pure]
      unfold rl_law09_BitsetExact_k11
      rw [if_neg (by decide), wi64 (n := (j : Int) + 1) (by omega) (by omega)]
      rfl
    · simp only [rl_law09_BitsetExact_l10]
      rw [if_neg (by simp)]
  obtain ⟨t, t1, t2⟩ : ∃ t, loop (fun w : Int × (List Int) × Int × Int => rl_law09_BitsetExact_l4 p1 p2 p3 p4 x y w.1 w.2.1 w.2.2.1 w.2.2.2) (0, d4.list, d4.at_, d4.state) = some t ∧ t = .inl () := by
    refine loop_inv 2 (fun j (w : Int × (List Int) × Int × Int) => w.1 = (j : Int) ∧ DeckOk ⟨w.2.1, w.2.2.1, w.2.2.2⟩) _ ?_ ?_ ⟨rfl, hd4⟩
    · rintro i hi ⟨g, q1, q2, q3⟩ ⟨w1, w2⟩
      left
      simp only at w1 w2
      subst w1
      simp only [rl_law09_BitsetExact_l4]
      rw [if_pos (by simp; omega), if_pos (by omega), if_pos (by simp; omega), l5 i hi, bindE_l]
      unfold rl_law09_BitsetExact_a16
      obtain ⟨q, d5, he, q0, qq, hd5⟩ := next_yes w2 (n := 300) (by decide) (by decide)
      rw [he]; clear he; first | rw [bind2_pure] | rw [bind3_pure] | rw [bind4_pure] | rw [bind1_pure]
      rw [l7 i q hi, bindE_l]
      unfold rl_law09_BitsetExact_a14
      simp only [Int.toNat_natCast]
      obtain ⟨hp, hw⟩ := hP i hi
      generalize ([p1, x] : List S_api_Bits).getD (0 + i) dS_api_Bits = p at hp hw ⊢
      obtain ⟨u1, e1, t1, t2, t3⟩ := fold_both (p := p)
      obtain ⟨u2, e2, r1, r2, r3⟩ := hex_both hw
      obtain ⟨u3, s1, s2⟩ := valid_both p
      obtain ⟨u4, v1, v2⟩ := count_both hw
      rw [t1, bind2_pure, t2, bind2_pure, r1, bind2_pure, r2, bind2_pure, if_neg (by simp), if_neg (by simp), if_neg (by simp), same_yes t3, bind1_pure, if_neg (by decide), s1, bind1_pure, s2, bind1_pure, if_neg (by simp), v1, bind1_pure, v2, bind1_pure, show (u4 != u4) = false by simp]
      unfold rl_law09_BitsetExact_k9
      rw [if_neg (by decide), if_pos (by unfold maxStr; omega), if_pos (by unfold maxStr; omega), l10 u2 r3, bindE_l]
      unfold rl_law09_BitsetExact_a12
      rw [wi64 (n := (i : Int) + 1) (by omega) (by omega)]
      exact ⟨_, rfl, rfl, hd5⟩
    · rintro ⟨g, q1, q2, q3⟩ ⟨w1, w2⟩
      simp only at w1 w2
      subst w1
      simp only [rl_law09_BitsetExact_l4]
      rw [if_neg (by simp)]
      exact ⟨_, rfl, rfl⟩
  rw [t1, t2, bindE_l]
  rfl
end Go.Proofs.Yteholdifeilkkaa
