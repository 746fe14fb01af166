/- The deck deals bit arrays. -/
import Derived.Test.YteholdifeilkkaaNg
namespace Go.Proofs.Yteholdifeilkkaa
open Vm
theorem W64.snoc {l : List Int} {w : Int} (h : W64 l) (h0 : 0 ≤ w) (h1 : w < 18446744073709551616) : W64 (l ++ [w]) := by
  intro x hx
  rcases List.mem_append.1 hx with hx | hx
  · exact h x hx
  · simp at hx; subst hx; exact ⟨h0, h1⟩
def BitsSt (n : Int) (v : Int × (List Int) × Int × Int × (List Int)) : Prop := 0 ≤ v.1 ∧ v.1 ≤ n / 64 ∧ DeckOk ⟨v.2.1, v.2.2.1, v.2.2.2.1⟩ ∧ (v.2.2.2.2.length : Int) = v.1 ∧ W64 v.2.2.2.2
theorem bits_step {n : Int} (hn : 0 ≤ n) (hn2 : n ≤ 640) {x6 x19 : Int} {x10 : List Int} {d : S_recordlinkmake_Deck} (h0 : 0 ≤ x6) (h1 : x6 < n / 64) (hd : DeckOk d) (hl : (x10.length : Int) = x6) (hw : W64 x10) (w0 : 0 ≤ x19) (w1 : x19 < 18446744073709551616) :
    ∃ s', rl_make_Deck_Bits_k18 x6 x10 x19 d.list d.at_ d.state = some (.inl s') ∧ BitsSt n s' ∧ (n / 64 - s'.1).toNat < (n / 64 - x6).toNat := by
  unfold rl_make_Deck_Bits_k18
  refine ⟨_, by rw [if_pos (by simp; omega)], ⟨?_, ?_, hd, ?_, hw.snoc w0 w1⟩, ?_⟩
  · show 0 ≤ IntKind.i64.wrap (x6 + 1)
    rw [wi64 (by omega) (by omega)]; omega
  · show IntKind.i64.wrap (x6 + 1) ≤ n / 64
    rw [wi64 (by omega) (by omega)]; omega
  · show ((x10 ++ [x19]).length : Int) = IntKind.i64.wrap (x6 + 1)
    rw [wi64 (by omega) (by omega)]; simp; omega
  · show (n / 64 - IntKind.i64.wrap (x6 + 1)).toNat < _
    rw [wi64 (by omega) (by omega)]; omega
theorem bits_yes {d : S_recordlinkmake_Deck} (hd : DeckOk d) {n : Int} (hn : 0 ≤ n) (hn2 : n ≤ 640) : ∃ b d', rl_make_Deck_Bits d n = some (b, d') ∧ b.Length = n ∧ (b.Words.length : Int) = n / 64 ∧ W64 b.Words ∧ DeckOk d' := by
  obtain ⟨⟨y1, y2, y3, y4⟩, h1, h2⟩ := loop_of (step := fun v : Int × (List Int) × Int × Int × (List Int) => rl_make_Deck_Bits_l16 n v.1 v.2.1 v.2.2.1 v.2.2.2.1 v.2.2.2.2) (BitsSt n) (fun v => (n / 64 - v.1).toNat)
      (fun t => DeckOk ⟨t.1, t.2.1, t.2.2.1⟩ ∧ (t.2.2.2.length : Int) = n / 64 ∧ W64 t.2.2.2) (by
    rintro ⟨x6, x7, x8, x9, x10⟩ ⟨h0, h1, h2, h3, h4⟩
    simp only at h0 h1 h2 h3 h4
    simp only [rl_make_Deck_Bits_l16]
    rw [tdiv_nn hn, wi64 (by omega) (by omega)]
    by_cases c : x6 < n / 64
    · left
      rw [if_pos (by simpa using c)]
      obtain ⟨w, d1, e1, w0, w1, hd1⟩ := word_yes h2
      obtain ⟨v, d2, e2, v0, v1, hd2⟩ := next_yes hd1 (n := 4) (by decide) (by decide)
      rw [e1]; simp only [bind2, Option.bind_some]
      rw [e2]; simp only [Option.bind_some]
      by_cases c1 : v = 0
      · rw [if_pos (by simp [c1])]
        obtain ⟨w2, d3, e3, a0, a1, hd3⟩ := word_yes hd2
        obtain ⟨w3, d4, e4, b0, b1, hd4⟩ := word_yes hd3
        rw [e3]; simp only [Option.bind_some]
        rw [e4]; simp only [Option.bind_some]
        exact bits_step hn hn2 h0 c hd4 h3 h4 (by unfold iand; exact wu64_lo _) (by unfold iand; exact wu64_hi _)
      · rw [if_neg (by simp [c1])]
        by_cases c2 : v = 1
        · rw [if_pos (by simp [c2])]
          exact bits_step hn hn2 h0 c hd2 h3 h4 (by decide) (by decide)
        · rw [if_neg (by simp [c2])]
          exact bits_step hn hn2 h0 c hd2 h3 h4 w0 w1
    · right
      rw [if_neg (by simpa using c)]
      exact ⟨_, rfl, h2, by simp only; omega, h4⟩) (0, d.list, d.at_, d.state, []) ⟨Int.le_refl 0, by simp only; omega, hd, rfl, fun w hw => by cases hw⟩
  refine ⟨⟨n, y4⟩, ⟨y1, y2, y3⟩, ?_, rfl, h2.2.1, h2.2.2, h2.1⟩
  unfold rl_make_Deck_Bits
  rw [h1]
  rfl
end Go.Proofs.Yteholdifeilkkaa
