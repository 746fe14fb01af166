/- Natural numbers: differences. -/
import Derived.Test.YtilpgjoidgfbiaaGreatQd
namespace Go.Proofs.YtilpgjoidgfbiaaGreat
set_option linter.unusedVariables false
set_option linter.unusedSimpArgs false
open Vm
/-- a word that may be below zero: its digit and its borrow -/
theorem sub_word {t : Int} (h0 : -9223372036854775808 ≤ t) (h1 : t < 4294967296) : ∃ d c, IntKind.u32.wrap (IntKind.u64.wrap t) = d ∧ ishr .u64 (IntKind.u64.wrap t) 63 = c ∧ 0 ≤ d ∧ d < 4294967296 ∧ 0 ≤ c ∧ c ≤ 1 ∧ (-4294967296 ≤ t → d - 4294967296 * c = t) := by
  refine ⟨t % 4294967296, if t < 0 then 1 else 0, ?_, ?_, by omega, by omega, by split <;> omega, by split <;> omega, fun h => by split <;> omega⟩
  · rw [wu32_eq, wu64_eq]; omega
  · rw [shr63, wu64_eq]; split <;> omega
def subS (a b : List Int) : List Int × Int := if VN a ∧ VN b then (if val a < val b then ([], 2) else (nat32 (val a - val b), 0)) else ([], 20)
theorem ordI_neg {a b : Int} : ordI a b < 0 ↔ a < b := by unfold ordI; split <;> (try split) <;> omega
theorem ref10_less_eq {a b : List Int} (ha : U32 a) (hb : Canon b) (la : a.length < 100000) (lb : b.length < 100000) (hle : val b ≤ val a) : rl_ref10_less a b = some (nat32 (val a - val b)) := by
  have hl : b.length ≤ a.length := by
    have := hb.len_le (n := a.length)
    have := val_lt ha
    omega
  obtain ⟨out, h1, c, h2, h3, h4, h5, h6⟩ := loop_inv (step := fun v : List Int × Int × Int => rl_ref10_less_l1 a b v.1 v.2.1 v.2.2) a.length
    (fun i v => v.2.2 = (i : Int) ∧ U32 v.1 ∧ v.1.length = i ∧ 0 ≤ v.2.1 ∧ v.2.1 ≤ 1 ∧ val v.1 - v.2.1 * bp i = val (a.take i) - val (b.take i))
    (fun t => ∃ c : Int, U32 t ∧ t.length = a.length ∧ 0 ≤ c ∧ c ≤ 1 ∧ val t - c * bp a.length = val a - val b) (by
    rintro i hi ⟨out, c, k⟩ ⟨h0, h1, h2, h3, h4, h5⟩
    simp only at h0 h1 h2 h3 h4 h5
    subst h0
    left
    have ga := ha.get i
    have gb := hb.1.get i
    have va := val_takeA a i
    have vb := val_takeA b i
    have fin : ∀ z : Int, z = IntKind.u64.wrap (a.getD i 0 - c - b.getD i 0) → ∃ s', rl_ref10_less_k2 out (i : Int) z = some (.inl s') ∧ s'.2.2 = ((i + 1 : Nat) : Int) ∧ U32 s'.1 ∧ s'.1.length = i + 1 ∧ 0 ≤ s'.2.1 ∧ s'.2.1 ≤ 1 ∧ val s'.1 - s'.2.1 * bp (i + 1) = val (a.take (i + 1)) - val (b.take (i + 1)) := by
      intro z hz
      obtain ⟨d, c', e1, e2, d0, d1, c0, c1, e3⟩ := sub_word (t := a.getD i 0 - c - b.getD i 0) (by omega) (by omega)
      simp only [rl_ref10_less_k2]
      rw [if_pos (by simp; omega), hz, e1, e2, wi64 (by omega) (by omega)]
      refine ⟨_, rfl, rfl, h1.append (U32.cons ⟨d0, d1⟩ U32.nil), by simp [h2], c0, c1, ?_⟩
      simp only [bp]
      rw [val_append, va, vb, h2]
      simp only [val]
      have := e3 (by omega)
      grind
    simp only [rl_ref10_less_l1, Int.toNat_natCast]
    rw [if_pos (by simpa using hi), if_pos (by omega), if_pos (by omega), wu64 (n := a.getD i 0) (by omega) (by omega), bind1_pure]
    by_cases hi2 : i < b.length
    · rw [if_pos (by simpa using hi2), if_pos (by omega), wu64 (n := b.getD i 0) (by omega) (by omega), bind1_pure]
      exact fin _ (by rw [wu64_eq, wu64_eq, wu64_eq]; omega)
    · rw [if_neg (by simp; omega)]
      exact fin _ (by rw [getD_out (l := b) (by omega), Int.sub_zero])) (by
    rintro ⟨out, c, k⟩ ⟨h0, h1, h2, h3, h4, h5⟩
    simp only at h0 h1 h2 h3 h4 h5
    subst h0
    rw [List.take_length, List.take_of_length_le hl] at h5
    refine ⟨out, ?_, c, h1, h2, h3, h4, h5⟩
    simp only [rl_ref10_less_l1]
    rw [if_neg (by simp)]) (s := ([], 0, 0)) ⟨rfl, U32.nil, rfl, Int.le_refl 0, by simp, by simp [val]⟩
  have hc0 : c = 0 := by
    have := val_lt h2
    rw [h3] at this
    rcases (show c = 0 ∨ c = 1 by omega) with e | e
    · exact e
    · subst e; omega
  subst hc0
  unfold rl_ref10_less
  rw [h1, bind1_pure, rl_ref10_trim_eq (by omega), bind1_pure, trimL_nat h2, show val out = val a - val b by omega]
end Go.Proofs.YtilpgjoidgfbiaaGreat
