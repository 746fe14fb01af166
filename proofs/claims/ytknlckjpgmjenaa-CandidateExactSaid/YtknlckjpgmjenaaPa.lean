/- Plain words: loops that count, told by the state at each number. -/
import Derived.Test.YtknlckjpgmjenaaNb
namespace Go.Proofs.Ytknlckjpgmjenaa
namespace Vm
theorem bind1_pure {α β : Type} (a : α) (f : α → Option β) : (some a).bind f = f a := rfl
theorem bind2_pure {α β γ : Type} (a : α) (b : β) (f : α → β → Option γ) : bind2 (some (a, b)) f = f a b := rfl
theorem bind3_pure {α β γ δ : Type} (a : α) (b : β) (c : γ) (f : α → β → γ → Option δ) : bind3 (some (a, b, c)) f = f a b c := rfl
theorem bind4_pure {α β γ δ ε : Type} (a : α) (b : β) (c : γ) (d : δ) (f : α → β → γ → δ → Option ε) : bind4 (some (a, b, c, d)) f = f a b c d := rfl
theorem bindE_l {α β γ : Type} (a : α) (f : α → Option γ) (g : β → Option γ) : bindE (some (.inl a)) f g = f a := rfl
theorem bindE_r {α β γ : Type} (b : β) (f : α → Option γ) (g : β → Option γ) : bindE (some (.inr b)) f g = g b := rfl
theorem loop_next {σ τ : Type} {step : σ → Option (σ ⊕ τ)} {s s' : σ} (h : step s = some (.inl s')) : loop step s = loop step s' := by
  rw [loop_eq, h]
theorem loop_end {σ τ : Type} {step : σ → Option (σ ⊕ τ)} {s : σ} {t : τ} (h : step s = some (.inr t)) : loop step s = some t := by
  rw [loop_eq, h]
/-- a loop whose states are known -/
theorem loop_for {σ τ : Type} {step : σ → Option (σ ⊕ τ)} (S : Nat → σ) (n : Nat) (t : τ) (h : ∀ i, i < n → step (S i) = some (.inl (S (i + 1)))) (hn : step (S n) = some (.inr t)) {s : σ} (hs : s = S 0) : loop step s = some t := by
  subst hs
  have H : ∀ k, k ≤ n → loop step (S (n - k)) = some t := by
    intro k
    induction k with
    | zero => intro _; exact loop_end hn
    | succ k ih =>
      intro hk
      rw [loop_next (h (n - (k + 1)) (by omega)), show n - (k + 1) + 1 = n - k by omega]
      exact ih (by omega)
  have := H n (Nat.le_refl n)
  rwa [Nat.sub_self] at this
/-- a loop that keeps something -/
theorem loop_inv {σ τ : Type} {step : σ → Option (σ ⊕ τ)} (n : Nat) (I : Nat → σ → Prop) (R : τ → Prop) (h : ∀ i, i < n → ∀ s, I i s → (∃ s', step s = some (.inl s') ∧ I (i + 1) s') ∨ ∃ t, step s = some (.inr t) ∧ R t) (hn : ∀ s, I n s → ∃ t, step s = some (.inr t) ∧ R t) {s : σ} (hs : I 0 s) : ∃ t, loop step s = some t ∧ R t := by
  have H : ∀ k, k ≤ n → ∀ s, I (n - k) s → ∃ t, loop step s = some t ∧ R t := by
    intro k
    induction k with
    | zero =>
      intro _ s hs
      obtain ⟨t, h1, h2⟩ := hn s hs
      exact ⟨t, loop_end h1, h2⟩
    | succ k ih =>
      intro hk s hs
      rcases h (n - (k + 1)) (by omega) s hs with ⟨s', h1, h2⟩ | ⟨t, h1, h2⟩
      · rw [show n - (k + 1) + 1 = n - k by omega] at h2
        obtain ⟨t, h3, h4⟩ := ih (by omega) s' h2
        exact ⟨t, by rw [loop_next h1]; exact h3, h4⟩
      · exact ⟨t, loop_end h1, h2⟩
  have := H n (Nat.le_refl n)
  rw [Nat.sub_self] at this
  exact this s hs
end Vm
end Go.Proofs.Ytknlckjpgmjenaa
