/- The plain law of WeightLogs. -/
import Derived.Test.YtafmpnilgknfhaaWc
import Derived.Test.YtafmpnilgknfhaaGL3
namespace Go.Proofs.Ytafmpnilgknfhaa
open Vm
set_option linter.unusedVariables false
theorem bits_loop {a b : Nat} (a1 : a ≤ 65536) (b0 : 1 ≤ b) (b1 : b ≤ 65536) {step : Int × Int → Option ((Int × Int) ⊕ Int)}
    (hs : ∀ v : Int × Int, step v = if (decide (v.2 ≥ IntKind.i64.wrap (2 * (b : Int)))) = true then some (.inl (IntKind.i64.wrap (v.1 + 1), IntKind.i64.wrap (v.2.tdiv 2))) else some (.inr v.1)) :
    ∃ n : Nat, loop step (0, (a : Int)) = some (n : Int) ∧ (n = 0 ∨ 2 ^ n * b ≤ a) := by
  have key : ∀ (f k n : Nat), k ≤ f → 2 ^ n * k ≤ a → (n = 0 ∨ b ≤ k) → n + k ≤ 65536 → ∃ m : Nat, loop step ((n : Int), (k : Int)) = some (m : Int) ∧ (m = 0 ∨ 2 ^ m * b ≤ a) := by
    intro f
    induction f with
    | zero =>
      intro k n h1 h2 h3 h4
      have : step ((n : Int), (k : Int)) = some (.inr (n : Int)) := by
        rw [hs, wi64 (by omega) (by omega), if_neg (by simp; omega)]
      rw [loop_end this]
      refine ⟨n, rfl, h3.imp id fun h => Nat.le_trans (Nat.mul_le_mul_left _ h) h2⟩
    | succ f ih =>
      intro k n h1 h2 h3 h4
      by_cases c : 2 * b ≤ k
      · have : step ((n : Int), (k : Int)) = some (.inl (((n + 1 : Nat) : Int), ((k / 2 : Nat) : Int))) := by
          rw [hs, wi64 (n := 2 * (b : Int)) (by omega) (by omega), if_pos (by simp; omega), wi64 (by simp only; omega) (by simp only; omega), tdiv_nn (by simp only; omega), wi64 (by simp only; omega) (by simp only; omega)]
          rfl
        rw [loop_next this]
        refine ih (k / 2) (n + 1) (by omega) ?_ (.inr (by omega)) (by omega)
        have h5 : 2 ^ (n + 1) * (k / 2) = 2 ^ n * (2 * (k / 2)) := by rw [Nat.pow_succ, Nat.mul_assoc]
        have h6 := Nat.mul_le_mul_left (2 ^ n) (show 2 * (k / 2) ≤ k by omega)
        omega
      · have : step ((n : Int), (k : Int)) = some (.inr (n : Int)) := by
          rw [hs, wi64 (by omega) (by omega), if_neg (by simp; omega)]
        rw [loop_end this]
        refine ⟨n, rfl, h3.imp id fun h => Nat.le_trans (Nat.mul_le_mul_left _ h) h2⟩
  exact key a a 0 (Nat.le_refl _) (by omega) (.inl rfl) (by omega)
theorem logs_k3 {p q : Int} {a b : Nat} (a0 : 1 ≤ a) (a1 : a ≤ 65536) (b0 : 1 ≤ b) (b1 : b ≤ 65536) (ea : IntKind.i64.wrap (1 + (IntKind.i64.wrap p).tmod 65536) = (a : Int)) (eb : IntKind.i64.wrap (1 + (IntKind.i64.wrap q).tmod 65536) = (b : Int)) {x : Int} (hx : isLog (a ^ 16) (b ^ 16) x) (x0 : -290 ≤ x) (x1 : x ≤ 256) :
    rl_law25_WeightLogs_k3 p q x false = some true := by
  unfold rl_law25_WeightLogs_k3 rl_law25_WeightLogs_k4
  rw [if_neg (by decide), ea, eb, wi64 (n := 2 * (a : Int)) (by omega) (by omega), wi64 (n := x + 16) (by omega) (by omega), awake25]
  simp only [bind1_pure]
  by_cases c : 2 * a ≤ 65536
  · have em : (if 2 * (a : Int) < 65536 then 2 * (a : Int) else 65536) = ((2 * a : Nat) : Int) := by split <;> omega
    rw [em]
    obtain ⟨v, ev, hv, v0, v1⟩ := glog (2 * a) b (by omega) c b0 b1
    have h := hx.shift (k := 16) (by omega)
    rw [show 2 ^ 16 * a ^ 16 = (2 * a) ^ 16 by rw [Nat.mul_pow]] at h
    have := hv.uniq h
    rw [ev, bind2_pure, if_pos (by decide), if_neg (by simp; omega), if_pos (by simp; omega)]
  · have em : (if 2 * (a : Int) < 65536 then 2 * (a : Int) else 65536) = ((65536 : Nat) : Int) := by split <;> omega
    rw [em]
    obtain ⟨v, ev, hv, v0, v1⟩ := glog 65536 b (by decide) (by decide) b0 b1
    rw [ev, bind2_pure, if_pos (by decide), if_pos (by simp; omega)]
theorem logs_law (p q : Int) (hp : IntKind.u16.min ≤ p ∧ p ≤ IntKind.u16.max) (hq : IntKind.u16.min ≤ q ∧ q ≤ IntKind.u16.max) : rl_law25_WeightLogs p q = some true := by
  have p1 : p ≤ 65535 := hp.2
  have q1 : q ≤ 65535 := hq.2
  obtain ⟨a, a0, a1, ea⟩ := grid_arg hp.1 p1 65536 (by decide) (by decide)
  obtain ⟨b, b0, b1, eb⟩ := grid_arg hq.1 q1 65536 (by decide) (by decide)
  have ea' : IntKind.i64.wrap (1 + (IntKind.i64.wrap p).tmod 65536) = (a : Int) := ea
  have eb' : IntKind.i64.wrap (1 + (IntKind.i64.wrap q).tmod 65536) = (b : Int) := eb
  obtain ⟨x, ex, hx, x0, x1⟩ := glog a b a0 a1 b0 b1
  obtain ⟨y, ey, hy, y0, y1⟩ := glog b a b0 b1 a0 a1
  have pa : 0 < a ^ 16 := Nat.pow_pos a0
  have pb : 0 < b ^ 16 := Nat.pow_pos b0
  have hxy : (0 : Int) = x + y ∨ 0 = x + y + 1 := by
    refine isLog.mul pa pb pb pa hx hy ?_
    rw [Nat.mul_comm (b ^ 16)]
    exact isLog.self (Nat.mul_pos pa pb)
  have hk3 := logs_k3 a0 a1 b0 b1 ea' eb' hx x0 x1
  have hk1 : rl_law25_WeightLogs_k1 p q x false = some true := by
    unfold rl_law25_WeightLogs_k1
    rw [if_neg (by decide), ea', eb']
    obtain ⟨n, en, hn⟩ := bits_loop (a := a) (b := b) a1 b0 b1 (step := fun v : Int × Int => rl_law25_WeightLogs_l2 q v.1 v.2) (fun v => by simp only [rl_law25_WeightLogs_l2, eb'])
    rw [en, bind1_pure]
    have n1 : n ≤ 65536 := by
      rcases hn with h | h
      · omega
      · have h1 := Nat.mul_le_mul_left (2 ^ n) b0
        have h2 : n < 2 ^ n := Nat.lt_two_pow_self
        omega
    rw [wi64 (n := (n : Int) - 1) (by omega) (by omega)]
    by_cases c : b ≤ a
    · have x2 : 0 ≤ x := (hx.sign pb).2 (Nat.pow_le_pow_left c 16)
      have hxn : 16 * (n : Int) ≤ x := by
        rcases hn with h | h
        · omega
        · have h16 := Nat.pow_le_pow_left h 16
          rw [Nat.mul_pow, ← Nat.pow_mul] at h16
          refine (hx.le pb (by omega)).1 ?_
          have e : E2 (16 * (n : Int)) = 2 ^ (n * 16) * E2 0 := by
            unfold E2
            rw [← Nat.pow_add]
            congr 1
            omega
          rw [e]
          have h5 := Nat.mul_le_mul_right (E2 0) h16
          have e2 : b ^ 16 * (2 ^ (n * 16) * E2 0) = 2 ^ (n * 16) * b ^ 16 * E2 0 := by
            generalize 2 ^ (n * 16) = A
            generalize b ^ 16 = B
            generalize E2 0 = C
            grind
          omega
      rw [tdiv_nn x2, wi64 (n := x / 16) (by omega) (by omega), if_pos (by simp; omega), if_neg (by simp; omega), if_neg (by simp; omega), if_pos (by simp; omega), decide_eq_false (by omega), hk3]
    · rw [if_neg (by simp; omega), if_neg (by simp; omega), hk3]
  unfold rl_law25_WeightLogs
  rw [ea', eb', ex, bind2_pure, ey, bind2_pure, if_neg (by decide), if_neg (by decide), wi64 (n := x + y) (by omega) (by omega)]
  rcases hxy with h | h
  · rw [if_neg (by simp; omega), hk1]
  · rw [if_pos (by simp; omega), show ((x + y) != (-1)) = false by simp; omega, hk1]
end Go.Proofs.Ytafmpnilgknfhaa
