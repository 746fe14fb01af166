/- Plain: the law RiskChooses. -/
import Derived.Test.YtfnojcalalncbaaKa
import Derived.Test.YtfnojcalalncbaaGL4
namespace Go.Proofs.Ytfnojcalalncbaa
open Vm
open IntKind (i64 u64 u32 u8)
set_option linter.unusedVariables false
set_option linter.unusedSimpArgs false
def kP : Option Nat → S_api_Parameters
  | some q => chP q
  | none => ⟨0, 0, 0⟩
def kE : Option Nat → Int
  | some _ => 0
  | none => 13
theorem and3 {a b c x y z : Int} : ((a == x) && ((b == y) && ((c == z) && true))) = decide (a = x ∧ b = y ∧ c = z) := by
  by_cases h1 : a = x <;> by_cases h2 : b = y <;> by_cases h3 : c = z <;> simp [h1, h2, h3]
theorem chP_inj {j k : Nat} (hj : j < 128) (hk : k < 128) : (chL j = chL k ∧ chH j = chH k ∧ (-1 : Int) = -1) ↔ j = k := by
  unfold chL chH
  constructor
  · rintro ⟨h1, h2, _⟩; omega
  · rintro rfl; exact ⟨rfl, rfl, rfl⟩
/-- one round of the law: the parameters with number m -/
theorem ch_round {n low dh most : Int} (h : 0 ≤ n ∧ n ≤ 80 ∧ 0 ≤ low ∧ low ≤ 600 ∧ 0 ≤ dh ∧ dh ≤ 300) {k : Option Nat} (hk : (List.range 128).find? (meets n low (low + dh) most) = k) {i j : Nat} (hi : i < 8) (hj : j < 16) (hle : ∀ q, k = some q → 16 * i + j ≤ q) :
    rl_law15_RiskChooses_l4 n low dh most (kP k) (kE k) (64 * ((i + 1 : Nat) : Int)) ((j + 1 : Nat) : Int) = if k = some (16 * i + j) then some (.inr (.inr true)) else some (.inl ((j + 1 + 1 : Nat) : Int)) := by
  have hm : 16 * i + j < 128 := by omega
  have hP : chP (16 * i + j) = ⟨64 * ((i + 1 : Nat) : Int), ((j + 1 : Nat) : Int), -1⟩ := by
    unfold chP chL chH
    rw [show (16 * i + j) / 16 = i by omega, show (16 * i + j) % 16 = j by omega]
  have hc := ck_ok (chP_ok hm) h.1 h.2.1
  have hmeet : meets n low (low + dh) most (16 * i + j) = decide (k = some (16 * i + j)) := by
    cases k with
    | none =>
      have := List.find?_eq_none.1 hk (16 * i + j) (List.mem_range.2 hm)
      rw [decide_eq_false (by simp)]
      simpa using this
    | some q =>
      obtain ⟨h1, h2, h3⟩ := List.find?_range_eq_some.1 hk
      have := hle q rfl
      by_cases e : q = 16 * i + j
      · subst e; rw [h1, decide_eq_true rfl]
      · have := h3 (16 * i + j) (by omega)
        rw [decide_eq_false (by simpa using e)]
        simpa using this
  unfold rl_law15_RiskChooses_l4
  rw [if_pos (by simp only [decide_eq_true_eq]; omega), ← hP, Fill_eq, Collision_eq, if_pos hc, if_pos hc, bind2_pure, bind2_pure, if_neg (by decide)]
  unfold meets at hmeet
  generalize filS (empS (chP (16 * i + j)) n) = a at hmeet ⊢
  generalize colS (empS (chP (16 * i + j)) n) (chP (16 * i + j)).Hashes.toNat = b at hmeet ⊢
  have hw : IntKind.i64.wrap (low + dh) = low + dh := wi64 (by omega) (by omega)
  have h6 : ∀ x : Bool, x = decide (k = some (16 * i + j)) → rl_law15_RiskChooses_k6 (kP k) (kE k) (64 * ((i + 1 : Nat) : Int)) ((j + 1 : Nat) : Int) x = if k = some (16 * i + j) then some (.inr (.inr true)) else some (.inl ((j + 1 + 1 : Nat) : Int)) := by
    rintro x rfl
    unfold rl_law15_RiskChooses_k6 rl_law15_RiskChooses_k7
    rw [wi64 (n := ((j + 1 : Nat) : Int) + 1) (by omega) (by omega)]
    cases k with
    | none =>
      rw [show kE none = 13 from rfl, if_neg (by decide), if_neg (by decide), if_neg (by simp), if_neg (by simp)]
      rfl
    | some q =>
      have hq : q < 128 := List.mem_range.1 (List.find?_range_eq_some.1 hk).2.1
      have := hle q rfl
      rw [show kE (some q) = 0 from rfl, show kP (some q) = chP q from rfl, if_pos (by decide), and3]
      have hx : (64 * ((i + 1 : Nat) : Int) = (chP q).Length ∧ ((j + 1 : Nat) : Int) = (chP q).Hashes ∧ (-1 : Int) = (chP q).Salt) ↔ 16 * i + j = q := by
        have := chP_inj hm hq
        rw [← this]
        have e1 : (chP (16 * i + j)).Length = 64 * ((i + 1 : Nat) : Int) := by rw [hP]
        have e2 : (chP (16 * i + j)).Hashes = ((j + 1 : Nat) : Int) := by rw [hP]
        rw [← e1, ← e2]
        rfl
      by_cases e : 16 * i + j = q
      · rw [decide_eq_true (hx.2 e), if_pos rfl, if_pos (by rw [e]), decide_eq_true (by rw [e])]
      · rw [decide_eq_false (fun h => e (hx.1 h)), if_neg (by decide), if_neg (by simp; omega), if_neg (by simp; omega)]
        rfl
  unfold rl_law15_RiskChooses_k5
  rw [if_neg (by decide), hw]
  by_cases g1 : (a : Int) ≥ low
  · rw [if_pos (by simpa using g1)]
    by_cases g2 : (a : Int) ≤ low + dh
    · rw [if_pos (by simpa using g2)]
      refine h6 _ ?_
      rw [← hmeet]
      by_cases g3 : (b : Int) ≤ most
      · rw [decide_eq_true g3, decide_eq_true ⟨g1, g2, g3⟩]
      · rw [decide_eq_false g3, decide_eq_false (fun h => g3 h.2.2)]
    · rw [if_neg (by simpa using g2)]
      exact h6 _ (by rw [← hmeet, decide_eq_false (fun h => g2 h.2.1)])
  · rw [if_neg (by simpa using g1)]
    exact h6 _ (by rw [← hmeet, decide_eq_false (fun h => g1 h.1)])
theorem chooses_law (p : List Int) : rl_law15_RiskChooses p = some true := by
  unfold rl_law15_RiskChooses
  rw [awake15]
  simp only [Option.bind_some, Bool.not_true, Bool.false_eq_true, if_false, rl_make_Few]
  by_cases hp : p.length ≤ 400
  rotate_left
  · rw [decide_eq_false (by omega : ¬ ((p.length : Nat) : Int) ≤ 400)]
    simp only [Bool.not_false, rl_law15_RiskChooses_k1, if_true, awake15, Option.bind_some]
  rw [decide_eq_true (by omega : ((p.length : Nat) : Int) ≤ 400)]
  simp only [Bool.not_true, rl_law15_RiskChooses_k1, Bool.false_eq_true, if_false]
  obtain ⟨d, he, hd⟩ := new_yes hp
  rw [he]; clear he; simp only [Option.bind_some]
  obtain ⟨n, d1, he, n0, n1, hd1⟩ := next_yes hd (n := 20) (by decide) (by decide)
  rw [he]; clear he; first | rw [bind2_pure] | rw [bind3_pure] | rw [bind4_pure] | rw [bind1_pure]
  obtain ⟨low, d2, he, l0, l1, hd2⟩ := next_yes hd1 (n := 600) (by decide) (by decide)
  rw [he]; clear he; first | rw [bind2_pure] | rw [bind3_pure] | rw [bind4_pure] | rw [bind1_pure]
  obtain ⟨dh, d3, he, a0, a1, hd3⟩ := next_yes hd2 (n := 300) (by decide) (by decide)
  rw [he]; clear he; first | rw [bind2_pure] | rw [bind3_pure] | rw [bind4_pure] | rw [bind1_pure]
  obtain ⟨most, d4, he, m0, m1, hd4⟩ := next_yes hd3 (n := 200000) (by decide) (by decide)
  rw [he]; clear he; first | rw [bind2_pure] | rw [bind3_pure] | rw [bind4_pure] | rw [bind1_pure]
  have hw : IntKind.i64.wrap (low + dh) = low + dh := wi64 (by omega) (by omega)
  have hb : 0 ≤ n ∧ n ≤ 80 ∧ 0 ≤ low ∧ low ≤ 600 ∧ 0 ≤ dh ∧ dh ≤ 300 := by omega
  rw [hw, Choose_eq (by omega)]
  unfold chooseS
  generalize hk : (List.range 128).find? (meets n low (low + dh) most) = k
  have key : rl_law15_RiskChooses_k2 n low dh most (kP k) (kE k) false = some true := by
    unfold rl_law15_RiskChooses_k2
    rw [if_neg (by decide)]
    cases k with
    | none =>
      show bindE (loop (fun v : Int => rl_law15_RiskChooses_l3 n low dh most ⟨0, 0, 0⟩ 13 v) 64) (fun t => rl_law15_RiskChooses_a10 13) (fun t => rl_law15_RiskChooses_a11 t) = some true
      have hrow : ∀ i : Nat, i < 8 → loop (fun v : Int => rl_law15_RiskChooses_l4 n low dh most ⟨0, 0, 0⟩ 13 (64 * ((i + 1 : Nat) : Int)) v) 1 = some (.inl ()) := fun i hi => by
        refine loop_for (fun j => ((j + 1 : Nat) : Int)) 16 _ (fun j hj => ?_) ?_ rfl
        · have := ch_round hb hk hi hj (fun q h => by cases h)
          rw [if_neg (by simp)] at this
          exact this
        · unfold rl_law15_RiskChooses_l4; rw [if_neg (by decide)]
      rw [loop_for (step := fun v : Int => rl_law15_RiskChooses_l3 n low dh most ⟨0, 0, 0⟩ 13 v) (fun i => 64 * ((i + 1 : Nat) : Int)) 8 (.inl ()) (s := 64) (fun i hi => by
          unfold rl_law15_RiskChooses_l3
          rw [if_pos (by simp only [decide_eq_true_eq]; omega), hrow i hi, bindE_l]
          unfold rl_law15_RiskChooses_a8
          rw [wi64 (by omega) (by omega)]
          congr 2) (by
          unfold rl_law15_RiskChooses_l3
          rw [if_neg (by decide)]) rfl, bindE_l]
      rfl
    | some q =>
      show bindE (loop (fun v : Int => rl_law15_RiskChooses_l3 n low dh most (chP q) 0 v) 64) (fun t => rl_law15_RiskChooses_a10 0) (fun t => rl_law15_RiskChooses_a11 t) = some true
      have hq : q < 128 := List.mem_range.1 (List.find?_range_eq_some.1 hk).2.1
      have hrow : ∀ i : Nat, i < q / 16 → loop (fun v : Int => rl_law15_RiskChooses_l4 n low dh most (chP q) 0 (64 * ((i + 1 : Nat) : Int)) v) 1 = some (.inl ()) := fun i hi => by
        refine loop_for (fun j => ((j + 1 : Nat) : Int)) 16 _ (fun j hj => ?_) ?_ rfl
        · have := ch_round hb hk (i := i) (j := j) (by omega) hj (fun q' h => by cases h; omega)
          rw [if_neg (by simp only [Option.some.injEq]; omega)] at this
          exact this
        · unfold rl_law15_RiskChooses_l4; rw [if_neg (by decide)]
      have hlast : loop (fun v : Int => rl_law15_RiskChooses_l4 n low dh most (chP q) 0 (64 * ((q / 16 + 1 : Nat) : Int)) v) 1 = some (.inr true) := by
        refine loop_for (fun j => ((j + 1 : Nat) : Int)) (q % 16) _ (fun j hj => ?_) ?_ rfl
        · have := ch_round hb hk (i := q / 16) (j := j) (by omega) (by omega) (fun q' h => by cases h; omega)
          rw [if_neg (by simp only [Option.some.injEq]; omega)] at this
          exact this
        · have := ch_round hb hk (i := q / 16) (j := q % 16) (by omega) (by omega) (fun q' h => by cases h; omega)
          rw [if_pos (by simp only [Option.some.injEq]; omega)] at this
          exact this
      rw [loop_for (step := fun v : Int => rl_law15_RiskChooses_l3 n low dh most (chP q) 0 v) (fun i => 64 * ((i + 1 : Nat) : Int)) (q / 16) (.inr true) (s := 64) (fun i hi => by
          unfold rl_law15_RiskChooses_l3
          rw [if_pos (by simp only [decide_eq_true_eq]; omega), hrow i hi, bindE_l]
          unfold rl_law15_RiskChooses_a8
          rw [wi64 (by omega) (by omega)]
          congr 2) (by
          unfold rl_law15_RiskChooses_l3
          rw [if_pos (by simp only [decide_eq_true_eq]; omega), hlast, bindE_r]
          rfl) rfl, bindE_r]
      rfl
  cases k with
  | none =>
    rw [bind2_pure, if_pos (by decide), if_neg (by decide)]
    exact key
  | some q =>
    rw [bind2_pure, if_neg (by decide)]
    exact key
end Go.Proofs.Ytfnojcalalncbaa
