/- The deck of numbers: what it deals. -/
import Derived.Test.YtknlckjpgmjenaaPa
import Derived.Test.YtknlckjpgmjenaaGz
namespace Go.Proofs.Ytknlckjpgmjenaa
set_option linter.unusedVariables false
set_option linter.unusedSimpArgs false
open Vm
def DeckOk (d : S_recordlinkmake_Deck) : Prop := 0 ≤ d.at_ ∧ d.at_ ≤ 1000000 ∧ d.list.length ≤ 1000000
theorem shr1 (x : Int) : ishr .u64 x 1 = x / 2 := by
  show x.fdiv (2 ^ min (1 : Int).toNat 64) = _
  exact Int.fdiv_eq_ediv_of_nonneg _ (by decide)
theorem word_yes {d : S_recordlinkmake_Deck} (h : DeckOk d) : ∃ w d', rl_make_Deck_Word d = some (w, d') ∧ 0 ≤ w ∧ w < 18446744073709551616 ∧ DeckOk d' := by
  obtain ⟨h0, h1, h2⟩ := h
  unfold rl_make_Deck_Word
  by_cases c : d.at_ < ((d.list.length : Nat) : Int)
  · rw [if_pos (by simpa using c), if_pos h0, if_pos c]
    unfold rl_make_Deck_Word_k1
    refine ⟨_, _, rfl, ?_, ?_, ?_⟩
    · unfold ixor; exact wu64_lo _
    · unfold ixor; exact wu64_hi _
    · refine ⟨?_, ?_, h2⟩
      · show 0 ≤ IntKind.i64.wrap (d.at_ + 1)
        rw [wi64 (by omega) (by omega)]; omega
      · show IntKind.i64.wrap (d.at_ + 1) ≤ 1000000
        rw [wi64 (by omega) (by omega)]; omega
  · rw [if_neg (by simpa using c)]
    unfold rl_make_Deck_Word_k1
    refine ⟨_, _, rfl, ?_, ?_, h0, h1, h2⟩
    · unfold ixor; exact wu64_lo _
    · unfold ixor; exact wu64_hi _
theorem next_yes {d : S_recordlinkmake_Deck} (h : DeckOk d) {n : Int} (hn : 1 ≤ n) (hn2 : n ≤ 4611686018427387904) : ∃ v d', rl_make_Deck_Next d n = some (v, d') ∧ 0 ≤ v ∧ v < n ∧ DeckOk d' := by
  obtain ⟨w, d', e, h0, h1, h2⟩ := word_yes h
  unfold rl_make_Deck_Next
  rw [if_neg (by simp; omega), e]
  refine ⟨_, d', by simp only [bind2, Option.bind_some]; rw [if_pos (by omega)], ?_, ?_, h2⟩
  · rw [shr1, wi64 (by omega) (by omega), tmod_nn (by omega)]
    exact Int.emod_nonneg _ (by omega)
  · rw [shr1, wi64 (by omega) (by omega), tmod_nn (by omega)]
    exact Int.emod_lt_of_pos _ (by omega)
theorem next_zero {d : S_recordlinkmake_Deck} {n : Int} (hn : n < 1) : rl_make_Deck_Next d n = some (0, d) := by
  unfold rl_make_Deck_Next
  rw [if_pos (by simpa using hn)]
theorem one_yes {d : S_recordlinkmake_Deck} (h : DeckOk d) {n : Int} (hn : 1 ≤ n) (hn2 : n ≤ 4611686018427387904) : ∃ v d', rl_make_Deck_One d n = some (v, d') ∧ DeckOk d' := by
  unfold rl_make_Deck_One
  obtain ⟨v, d1, he, v0, v1, hd1⟩ := next_yes h hn hn2
  rw [he]; clear he; first | rw [bind2_pure] | rw [bind3_pure] | rw [bind4_pure] | rw [bind1_pure]
  exact ⟨_, _, rfl, hd1⟩
theorem new_yes {l : List Int} (h : l.length ≤ 400) : ∃ d, rl_make_New l = some d ∧ DeckOk d := ⟨_, rfl, Int.le_refl 0, (by decide : (0 : Int) ≤ 1000000), Nat.le_trans h (by decide)⟩
end Go.Proofs.Ytknlckjpgmjenaa
