/- The plain law of NaturalInts. -/
import Derived.Test.YteaijglfenedoaaQe
import Derived.Test.YteaijglfenedoaaQf
import Derived.Test.YteaijglfenedoaaGE0
import Derived.Test.YteaijglfenedoaaGL5
namespace Go.Proofs.Yteaijglfenedoaa
open Vm
theorem awake10 : rl_law10_awake = some true := rl_law10_awake_le 200 _ (by kernel_rfl)
theorem intS_nat {v : Int} (h0 : 0 ≤ v) (h : v < bp 64) : intS (nat32 v) = if v < 9223372036854775808 then (v, true) else (0, false) := by
  unfold intS
  rw [nat32_val h0]
  by_cases c : v < 9223372036854775808
  · rw [if_pos ⟨(vn_iff h0).2 h, c⟩, if_pos c]
  · rw [if_neg (fun e => c e.2), if_neg c]
theorem ints_law (p0 p1 : Int) (h0 : IntKind.u32.min ≤ p0 ∧ p0 ≤ IntKind.u32.max) (h1 : IntKind.u32.min ≤ p1 ∧ p1 ≤ IntKind.u32.max) : rl_law10_NaturalInts p0 p1 = some true := by
  obtain ⟨a0, a1⟩ : 0 ≤ p0 ∧ p0 ≤ 4294967295 := h0
  obtain ⟨b0, b1⟩ : 0 ≤ p1 ∧ p1 ≤ 4294967295 := h1
  have hb : bp 2 = 18446744073709551616 := by decide
  have hp0 := Int.mul_nonneg a0 b0
  have hp1 : p0 * p1 ≤ 4294967295 * 4294967295 := Int.mul_le_mul (by omega) (by omega) b0 (by omega)
  have ea : bp 1 = 4294967296 := by decide
  have sa : p0 < bp 1 := by omega
  have sb : p1 < bp 1 := by omega
  have ss : p0 + p1 < bp 64 := bp_lt (n := 2) (by omega) (by decide)
  have sp : p0 * p1 < bp 64 := bp_lt (n := 2) (by omega) (by decide)
  unfold rl_law10_NaturalInts
  rw [awake10, bind1_pure, if_neg (by simp), wi64 (n := p0) (by omega) (by omega), wi64 (n := p1) (by omega) (by omega), natural_fromInt_eq (by omega), if_neg (by omega), bind2_pure, natural_fromInt_eq (by omega), if_neg (by omega), bind2_pure]
  rw [nadd a0 b0 sa sb (by decide), bind2_pure, nmul a0 b0 sa sb (by decide), bind2_pure, natural_int_eq (nat32_u32 (by omega)) (nlen (by omega) ss), intS_nat (by omega) ss, if_pos (by omega), bind2_pure, natural_int_eq (nat32_u32 hp0) (nlen hp0 sp), intS_nat hp0 sp]
  have hc := natural_compare_eq (nat32_u32 a0) (nat32_u32 b0) (by have := nlen a0 (bp_lt sa (by decide)); omega) (by have := nlen b0 (bp_lt sb (by decide)); omega)
  rw [nat32_val a0, nat32_val b0] at hc
  have main : ∀ c : Int, c = ordI p0 p1 → ∀ k b, (k, b) = (if p0 * p1 < 9223372036854775808 then (p0 * p1, true) else (0, false)) → rl_law10_NaturalInts_k1 p0 p1 (nat32 p0) 0 (nat32 p1) 0 0 0 (p0 + p1) true k b c = some true := by
    intro c hcc k b hkb
    unfold rl_law10_NaturalInts_k1
    rw [wi64 (n := p0) (by omega) (by omega), wi64 (n := p1) (by omega) (by omega), wi64 (n := p0 + p1) (by omega) (by omega), wu64 (n := p0) (by omega) (by omega), wu64 (n := p1) (by omega) (by omega), wu64 (n := p0 * p1) (by omega) (by omega), bind1_pure, hc, bind1_pure]
    simp only [beq_self_eq_true, if_true]
    unfold rl_law10_NaturalInts_k3
    by_cases g : p0 * p1 < 9223372036854775808
    · rw [if_pos g] at hkb
      injection hkb with e1 e2
      subst e1; subst e2
      rw [decide_eq_true g, if_pos (by simp), if_neg (by simp), wu64 (n := p0 * p1) (by omega) (by omega), if_pos (by simp), hcc]
      simp
    · rw [if_neg g] at hkb
      injection hkb with e1 e2
      subst e1; subst e2
      rw [decide_eq_false g, if_pos (by simp), if_pos (by simp), hcc]
      simp
  obtain ⟨k, b, hkb⟩ : ∃ k b, (k, b) = (if p0 * p1 < 9223372036854775808 then (p0 * p1, true) else (0, false)) := ⟨_, _, rfl⟩
  rw [← hkb, bind2_pure]
  by_cases g1 : p0 < p1
  · rw [if_pos (by simpa using g1)]; exact main _ (by unfold ordI; rw [if_pos g1]) k b hkb
  · rw [if_neg (by simpa using g1)]
    by_cases g2 : p0 > p1
    · rw [if_pos (by simpa using g2)]; exact main _ (by unfold ordI; rw [if_neg g1, if_pos g2]) k b hkb
    · rw [if_neg (by simpa using g2)]; exact main _ (by unfold ordI; rw [if_neg g1, if_neg g2]) k b hkb
end Go.Proofs.Yteaijglfenedoaa
