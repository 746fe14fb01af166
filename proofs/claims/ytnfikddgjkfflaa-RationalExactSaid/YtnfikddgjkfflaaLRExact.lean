/- The plain law of RationalExact. -/
import Derived.Test.YtnfikddgjkfflaaRf
import Derived.Test.YtnfikddgjkfflaaRw
import Derived.Test.YtnfikddgjkfflaaGL8
namespace Go.Proofs.Ytnfikddgjkfflaa
open Vm
set_option linter.unusedVariables false
/-- A fraction that a function has returned. -/
def FQ (x : S_api_Rational) : Prop := FX x ∧ x.Num.length < 1000000 ∧ x.Den.length < 1000000
theorem zr_fx : FQ zr := ⟨⟨U32.nil, U32.nil, trivial, trivial⟩, by decide, by decide⟩
theorem rself {x : S_api_Rational} (hx : FQ x) : rl_ref11_Same x x = some true := by rw [rsame_eq hx.2, decide_eq_true rfl]
theorem fr_fq {n d : Int} (hn : 0 ≤ n) (hd : 0 < d) (h1 : n < bp 64) (h2 : d < bp 64) : FQ (fr n d) ∧ True := by
  have h := fr_ok hn hd h1 h2
  exact ⟨⟨h.1, by have := h.2.1.1; omega, by have := h.2.2.1.1; omega⟩, trivial⟩
theorem lim3_fx {n d : Int} (hn : 0 ≤ n) (hd : 0 < d) : FQ (lim3 n d).1 := by
  unfold lim3
  by_cases h : n < bp 64 ∧ d < bp 64
  · rw [if_pos h]; exact (fr_fq hn hd h.1 h.2).1
  · rw [if_neg h]; exact zr_fx
theorem of_fx {n d : Int} (h1 : n < 9223372036854775808) (h2 : d < 9223372036854775808) : FQ (ofS n d).1 := by
  unfold ofS
  by_cases h : n < 0 ∨ d < 0
  · rw [if_pos h]; exact zr_fx
  · rw [if_neg h]
    by_cases k : d = 0
    · rw [if_pos k]; exact zr_fx
    · rw [if_neg k]; exact (fr_fq (by omega) (by omega) (small_lt h1) (small_lt h2)).1
theorem make_fx {p q : List Int} (hp : U32 p) (hq : U32 q) : FQ (makeS p q).1 := by
  unfold makeS
  by_cases h : VN p ∧ VN q
  · rw [if_pos h]
    by_cases k : q = []
    · rw [if_pos k]; exact zr_fx
    · rw [if_neg k]; exact (fr_fq (val_nonneg hp) (ne_pos h.2 hq k) (vlt h.1 hp) (vlt h.2 hq)).1
  · rw [if_neg h]; exact zr_fx
section
variable {x y : S_api_Rational}
theorem add_fx (hx : FX x) (hy : FX y) : FQ (raddS x y).1 := by
  unfold raddS
  by_cases h : FV x ∧ FV y
  · obtain ⟨a1, a2, a3, a4⟩ := h.1.pos hx
    obtain ⟨b1, b2, b3, b4⟩ := h.2.pos hy
    have := Int.mul_nonneg a1 (Int.le_of_lt b2)
    have := Int.mul_nonneg b1 (Int.le_of_lt a2)
    rw [if_pos h]; exact lim3_fx (by omega) (Int.mul_pos a2 b2)
  · rw [if_neg h]; exact zr_fx
theorem mul_fx (hx : FX x) (hy : FX y) : FQ (rmulS x y).1 := by
  unfold rmulS
  by_cases h : FV x ∧ FV y
  · obtain ⟨a1, a2, a3, a4⟩ := h.1.pos hx
    obtain ⟨b1, b2, b3, b4⟩ := h.2.pos hy
    rw [if_pos h]; exact lim3_fx (Int.mul_nonneg a1 b1) (Int.mul_pos a2 b2)
  · rw [if_neg h]; exact zr_fx
theorem div_fx (hx : FX x) (hy : FX y) : FQ (rdivS x y).1 := by
  unfold rdivS
  by_cases h : FV x ∧ FV y
  · obtain ⟨a1, a2, a3, a4⟩ := h.1.pos hx
    obtain ⟨b1, b2, b3, b4⟩ := h.2.pos hy
    rw [if_pos h]
    by_cases k : y.Num = []
    · rw [if_pos k]; exact zr_fx
    · rw [if_neg k]; exact lim3_fx (Int.mul_nonneg a1 (Int.le_of_lt b2)) (Int.mul_pos a2 (ne_pos h.2.1 hy.1 k))
  · rw [if_neg h]; exact zr_fx
theorem sub_fx (hx : FX x) (hy : FX y) : FQ (rsubS x y).1 := by
  unfold rsubS
  by_cases h : FV x ∧ FV y
  · obtain ⟨a1, a2, a3, a4⟩ := h.1.pos hx
    obtain ⟨b1, b2, b3, b4⟩ := h.2.pos hy
    rw [if_pos h]
    by_cases k : val y.Num * val x.Den > val x.Num * val y.Den
    · rw [if_pos k]; exact zr_fx
    · rw [if_neg k]
      by_cases m : val x.Num * val y.Den < bp 64 ∧ val x.Den * val y.Den < bp 64
      · have := Int.mul_nonneg b1 (Int.le_of_lt a2)
        rw [if_pos m]; exact (fr_fq (by omega) (Int.mul_pos a2 b2) (by omega) m.2).1
      · rw [if_neg m]; exact zr_fx
  · rw [if_neg h]; exact zr_fx
theorem two_law (hx : FX x) (hy : FX y) : rl_law11_two x y = some true := by
  unfold rl_law11_two
  rw [radd_eq hx hy, ref_radd hx hy]
  have f1 := add_fx hx hy
  generalize raddS x y = r1 at *
  obtain ⟨z1, e1⟩ := r1
  rw [bind2_pure, bind2_pure, if_neg (by simp), rself f1, bind1_pure]
  unfold rl_law11_two_k1
  rw [if_neg (by decide), rsub_eq hx hy, ref_rsub hx hy]
  have f2 := sub_fx hx hy
  generalize rsubS x y = r2 at *
  obtain ⟨z2, e2⟩ := r2
  rw [bind2_pure, bind2_pure, if_neg (by simp), rself f2, bind1_pure]
  unfold rl_law11_two_k2
  rw [if_neg (by decide), rmul_eq hx hy, ref_rmul hx hy]
  have f3 := mul_fx hx hy
  generalize rmulS x y = r3 at *
  obtain ⟨z3, e3⟩ := r3
  rw [bind2_pure, bind2_pure, if_neg (by simp), rself f3, bind1_pure]
  unfold rl_law11_two_k3
  rw [if_neg (by decide), rdiv_eq hx hy, ref_rdiv hx hy]
  have f4 := div_fx hx hy
  generalize rdivS x y = r4 at *
  obtain ⟨z4, e4⟩ := r4
  rw [bind2_pure, bind2_pure, if_neg (by simp), rself f4, bind1_pure]
  unfold rl_law11_two_k4
  rw [if_neg (by decide), rcmp_eq hx hy, ref_rcmp hx hy]
  generalize rcmpS x y = r5
  obtain ⟨z5, e5⟩ := r5
  rw [bind2_pure, bind2_pure, if_pos (by simp), beq_self_eq_true]
  rfl
end
theorem of_both {a b : Int} (h1 : a < 9223372036854775808) (h2 : b < 9223372036854775808) : ∃ z e, rational_Of a b = some (z, e) ∧ rl_ref11_Of a b = some (z, e) ∧ FQ z := by
  have f := of_fx h1 h2
  have e1 := of_eq h1 h2
  have e2 := ref_of_eq h1 h2
  generalize ofS a b = r at *
  obtain ⟨z, e⟩ := r
  exact ⟨z, e, e1, e2, f⟩
theorem exact_of {a b c e : Int} (a1 : a < 9223372036854775808) (b1 : b < 9223372036854775808) (c1 : c < 9223372036854775808) (e1 : e < 9223372036854775808) : loop (fun v : Int => rl_law11_RationalExact_l2 a b c e v) 0 = some (.inl ()) := by
  refine loop_for (fun i : Nat => (i : Int)) 2 (Sum.inl ()) (fun i hi => ?_) rfl rfl
  unfold rl_law11_RationalExact_l2
  rw [if_pos (by simp; omega), if_pos (by omega), if_pos (by simp; omega)]
  have go : ∀ {a b : Int}, a < 9223372036854775808 → b < 9223372036854775808 → (bind2 (rational_Of a b) fun y18 y19 => bind2 (rl_ref11_Of a b) fun y21 y22 => if (y19 != y22) = true then rl_law11_RationalExact_k3 (i : Int) true else (rl_ref11_Same y18 y21).bind fun y27 => rl_law11_RationalExact_k3 (i : Int) (!y27)) = some (.inl ((i : Int) + 1)) := fun {a b} h1 h2 => by
    obtain ⟨z, e, k1, k2, k3⟩ := of_both h1 h2
    rw [k1, bind2_pure, k2, bind2_pure, if_neg (by simp), rself k3, bind1_pure]
    unfold rl_law11_RationalExact_k3
    rw [if_neg (by decide), wi64 (by omega) (by omega)]
  have hi' : i = 0 ∨ i = 1 := by omega
  rcases hi' with rfl | rfl
  · exact go a1 b1
  · exact go c1 e1
theorem exact_two {p1 p2 y37 y32 y51 : S_api_Rational} {x44 : Int} (hX : FX (([p1, y37, y32] : List S_api_Rational).getD (0 + x44.toNat) dS_api_Rational)) (h2 : FX p2) (h3 : FX y51) : loop (fun v : Int => rl_law11_RationalExact_l6 p1 p2 y32 y37 x44 y51 v) 0 = some (.inl ()) := by
  refine loop_for (fun i : Nat => (i : Int)) 3 (Sum.inl ()) (fun i hi => ?_) rfl rfl
  unfold rl_law11_RationalExact_l6
  generalize ([p1, y37, y32] : List S_api_Rational).getD (0 + x44.toNat) dS_api_Rational = X at *
  rw [if_pos (by simp; omega), if_pos (by omega), if_pos (by simp; omega)]
  have hm : FX (([p2, y51, X] : List S_api_Rational).getD (0 + (i : Int).toNat) dS_api_Rational) := by
    have hi' : i = 0 ∨ i = 1 ∨ i = 2 := by omega
    rcases hi' with rfl | rfl | rfl
    · exact h2
    · exact h3
    · exact hX
  rw [two_law hX hm, bind1_pure, if_neg (by decide), wi64 (by omega) (by omega)]
  rfl
theorem exact_round {p1 y37 y32 : S_api_Rational} {x44 u : Int} (hX : FX (([p1, y37, y32] : List S_api_Rational).getD (0 + x44.toNat) dS_api_Rational)) : loop (fun v : Int => rl_law11_RationalExact_l7 p1 u y32 y37 x44 v) 0 = some (.inl ()) := by
  refine loop_for (fun i : Nat => (i : Int)) 5 (Sum.inl ()) (fun i hi => ?_) rfl rfl
  unfold rl_law11_RationalExact_l7
  generalize ([p1, y37, y32] : List S_api_Rational).getD (0 + x44.toNat) dS_api_Rational = X at *
  generalize ([u, 1, 1000, 4294967296, 4294967297] : List Int).getD (0 + (i : Int).toNat) 0 = w
  rw [if_pos (by simp; omega), if_pos (by omega), if_pos (by simp; omega), rrnd_eq hX, ref_rrnd hX]
  generalize rrndS X w = r
  obtain ⟨z, e⟩ := r
  rw [bind2_pure, bind2_pure, if_neg (by simp)]
  unfold rl_law11_RationalExact_k8
  rw [if_neg (by simp), wi64 (by omega) (by omega)]
  rfl
theorem exact_outer {p1 p2 y37 y32 : S_api_Rational} {u : Int} {d : S_recordlinkmake_Deck} (hd : DeckOk d) (f1 : FX p1) (f2 : FX p2) (f3 : FX y37) (f4 : FX y32) :
    loop (fun v : Int × (List Int) × Int × Int => rl_law11_RationalExact_l5 p1 p2 u y32 y37 v.1 v.2.1 v.2.2.1 v.2.2.2) (0, d.list, d.at_, d.state) = some (.inl ()) := by
  have := loop_inv (step := fun v : Int × (List Int) × Int × Int => rl_law11_RationalExact_l5 p1 p2 u y32 y37 v.1 v.2.1 v.2.2.1 v.2.2.2) 3 (fun i s => s.1 = (i : Int) ∧ DeckOk ⟨s.2.1, s.2.2.1, s.2.2.2⟩) (fun t => t = .inl ()) (fun i hi s ⟨h1, h2⟩ => ?_) (fun s ⟨h1, h2⟩ => ?_) (s := (0, d.list, d.at_, d.state)) ⟨rfl, hd⟩
  · obtain ⟨t, h, rfl⟩ := this; exact h
  · obtain ⟨s1, s2, s3, s4⟩ := s
    simp only at h1 h2
    subst h1
    left
    have hX : FX (([p1, y37, y32] : List S_api_Rational).getD (0 + (i : Int).toNat) dS_api_Rational) := by
      have hi' : i = 0 ∨ i = 1 ∨ i = 2 := by omega
      rcases hi' with rfl | rfl | rfl
      · exact f1
      · exact f3
      · exact f4
    obtain ⟨n, e, d', he, n0, e0, n1, e1, hd'⟩ := rational_yes h2 (k := 3) 3 rfl (by decide) (by decide)
    refine ⟨((i : Int) + 1, d'.list, d'.at_, d'.state), ?_, by simp, hd'⟩
    simp only
    unfold rl_law11_RationalExact_l5
    rw [if_pos (by simp; omega), if_pos (by omega), if_pos (by simp; omega), he, bind2_pure, exact_two hX f2 (fr_ok n0 e0 (b64 n1 (by decide)) (b64 e1 (by decide))).1, bindE_l]
    unfold rl_law11_RationalExact_a11
    rw [exact_round hX, bindE_l]
    unfold rl_law11_RationalExact_a9
    rw [rat_valid_eq hX, bind1_pure, ref_valid_eq hX, bind1_pure, if_neg (by simp), wi64 (by omega) (by omega)]
  · obtain ⟨s1, s2, s3, s4⟩ := s
    simp only at h1 h2
    subst h1
    exact ⟨_, rfl, rfl⟩
theorem exact_law (p : List Int) (p1 p2 : S_api_Rational) (n m u : Int) (h1 : (((∀ y ∈ p1.Num, IntKind.u32.min ≤ y ∧ y ≤ IntKind.u32.max) ∧ p1.Num.length ≤ maxLen)) ∧ (((∀ y ∈ p1.Den, IntKind.u32.min ≤ y ∧ y ≤ IntKind.u32.max) ∧ p1.Den.length ≤ maxLen)) ∧ True) (h2 : (((∀ y ∈ p2.Num, IntKind.u32.min ≤ y ∧ y ≤ IntKind.u32.max) ∧ p2.Num.length ≤ maxLen)) ∧ (((∀ y ∈ p2.Den, IntKind.u32.min ≤ y ∧ y ≤ IntKind.u32.max) ∧ p2.Den.length ≤ maxLen)) ∧ True) (h3 : IntKind.i64.min ≤ n ∧ n ≤ IntKind.i64.max) (h4 : IntKind.i64.min ≤ m ∧ m ≤ IntKind.i64.max) : rl_law11_RationalExact p p1 p2 n m u = some true := by
  have u32 : ∀ {l : List Int}, (∀ y ∈ l, IntKind.u32.min ≤ y ∧ y ≤ IntKind.u32.max) → U32 l := fun {l} h y hy => by
    obtain ⟨a0, a1⟩ : 0 ≤ y ∧ y ≤ 4294967295 := h y hy
    omega
  have i64 : ∀ {x : Int}, IntKind.i64.min ≤ x ∧ x ≤ IntKind.i64.max → x < 9223372036854775808 := fun {x} h => by
    obtain ⟨a0, a1⟩ : -9223372036854775808 ≤ x ∧ x ≤ 9223372036854775807 := h
    omega
  have yes : rl_law11_RationalExact_k1 p p1 p2 n m u true = some true := by
    unfold rl_law11_RationalExact_k1
    rw [if_pos rfl, awake11]; rfl
  unfold rl_law11_RationalExact rl_make_Few
  rw [awake11, bind1_pure, if_neg (by decide), bind1_pure]
  by_cases hp : p.length ≤ 400
  rotate_left
  · rw [if_pos (by simp; omega), yes]
  rw [if_neg (by simp; omega)]
  by_cases hl : IntKind.i64.wrap (IntKind.i64.wrap (IntKind.i64.wrap ((p1.Num.length : Int) + (p1.Den.length : Int)) + (p2.Num.length : Int)) + (p2.Den.length : Int)) > 24
  · rw [decide_eq_true hl, yes]
  rw [decide_eq_false hl]
  unfold rl_law11_RationalExact_k1
  rw [if_neg (by decide)]
  have f1 : FX p1 := ⟨u32 h1.1.1, u32 h1.2.1.1, trivial, trivial⟩
  have f2 : FX p2 := ⟨u32 h2.1.1, u32 h2.2.1.1, trivial, trivial⟩
  obtain ⟨d, he, hd⟩ := new_yes hp
  rw [he, bind1_pure]; clear he
  obtain ⟨a, d1, he, a0, a1, hd1⟩ := next_yes hd (n := 100) (by decide) (by decide)
  rw [he]; clear he; first | rw [bind2_pure] | rw [bind3_pure] | rw [bind4_pure] | rw [bind1_pure]
  obtain ⟨b, d2, he, b0, b1, hd2⟩ := next_yes hd1 (n := 30) (by decide) (by decide)
  rw [he]; clear he; first | rw [bind2_pure] | rw [bind3_pure] | rw [bind4_pure] | rw [bind1_pure]
  rw [exact_of (i64 h3) (i64 h4) (by omega) (by omega), bindE_l]
  unfold rl_law11_RationalExact_a15
  rw [make_any f1.1 f1.2.1, ref_make_any f1.1 f1.2.1]
  have mf := make_fx f1.1 f1.2.1
  generalize makeS p1.Num p1.Den = r at *
  obtain ⟨z, e⟩ := r
  rw [bind2_pure, bind2_pure, if_neg (by simp), rself mf, bind1_pure]
  unfold rl_law11_RationalExact_k4
  rw [if_neg (by decide)]
  obtain ⟨n1, e1, d3, he, n10, e10, n11, e11, hd3⟩ := rational_yes hd2 (k := 4) 4 rfl (by decide) (by decide)
  rw [he]; clear he; first | rw [bind2_pure] | rw [bind3_pure] | rw [bind4_pure] | rw [bind1_pure]
  rw [exact_outer hd3 f1 f2 (fr_ok n10 e10 (b64 n11 (by decide)) (b64 e11 (by decide))).1 mf.1, bindE_l]
  rfl
end Go.Proofs.Ytnfikddgjkfflaa
