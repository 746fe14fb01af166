/- Printed functions with a number of steps for their loops: what these come to, the functions come to. So closed terms are worked out. -/
import Derived.Test.YtknlckjpgmjenaaVp
namespace Go.Proofs.Ytknlckjpgmjenaa
set_option linter.unusedVariables false
namespace Vm
def Lo {α : Type} (x y : Option α) : Prop := ∀ r, x = some r → y = some r
def loopF {σ τ : Type} (n : Nat) (f : σ → Option (σ ⊕ τ)) (s : σ) : Option τ := loopN f n s
namespace Lo
variable {α β γ δ ε ζ η : Type}
theorem rfl_ {x : Option α} : Lo x x := fun _ h => h
theorem none_ {x : Option α} : Lo none x := fun _ h => by cases h
theorem ite_ {p : Prop} [Decidable p] {a b c d : Option α} (h1 : Lo a c) (h2 : Lo b d) : Lo (if p then a else b) (if p then c else d) := fun r h => by
  split at h
  · rename_i hp; rw [if_pos hp]; exact h1 r h
  · rename_i hp; rw [if_neg hp]; exact h2 r h
theorem bind_ {x y : Option α} {f g : α → Option β} (h1 : Lo x y) (h2 : ∀ a, Lo (f a) (g a)) : Lo (x.bind f) (y.bind g) := fun r h => by
  obtain ⟨a, e1, e2⟩ := bnd_some h
  rw [h1 a e1]; exact h2 a r e2
theorem bind2_ {x y : Option (α × β)} {f g : α → β → Option γ} (h1 : Lo x y) (h2 : ∀ a b, Lo (f a b) (g a b)) : Lo (bind2 x f) (bind2 y g) := bind_ h1 fun p => h2 p.1 p.2
theorem bind3_ {x y : Option (α × β × γ)} {f g : α → β → γ → Option δ} (h1 : Lo x y) (h2 : ∀ a b c, Lo (f a b c) (g a b c)) : Lo (bind3 x f) (bind3 y g) := bind_ h1 fun p => h2 p.1 p.2.1 p.2.2
theorem bind4_ {x y : Option (α × β × γ × δ)} {f g : α → β → γ → δ → Option ε} (h1 : Lo x y) (h2 : ∀ a b c d, Lo (f a b c d) (g a b c d)) : Lo (bind4 x f) (bind4 y g) := bind_ h1 fun p => h2 p.1 p.2.1 p.2.2.1 p.2.2.2
theorem bind5_ {x y : Option (α × β × γ × δ × ε)} {f g : α → β → γ → δ → ε → Option ζ} (h1 : Lo x y) (h2 : ∀ a b c d e, Lo (f a b c d e) (g a b c d e)) : Lo (bind5 x f) (bind5 y g) := bind_ h1 fun p => h2 p.1 p.2.1 p.2.2.1 p.2.2.2.1 p.2.2.2.2
theorem bind6_ {x y : Option (α × β × γ × δ × ε × ζ)} {f g : α → β → γ → δ → ε → ζ → Option η} (h1 : Lo x y) (h2 : ∀ a b c d e i, Lo (f a b c d e i) (g a b c d e i)) : Lo (bind6 x f) (bind6 y g) := bind_ h1 fun p => h2 p.1 p.2.1 p.2.2.1 p.2.2.2.1 p.2.2.2.2.1 p.2.2.2.2.2
theorem bindE_ {x y : Option (α ⊕ β)} {f f' : α → Option γ} {g g' : β → Option γ} (h1 : Lo x y) (h2 : ∀ a, Lo (f a) (f' a)) (h3 : ∀ a, Lo (g a) (g' a)) : Lo (bindE x f g) (bindE y f' g') := bind_ h1 fun p => by
  cases p with
  | inl a => exact h2 a
  | inr b => exact h3 b
theorem loopN_ {σ τ : Type} {f g : σ → Option (σ ⊕ τ)} (h : ∀ s, Lo (f s) (g s)) : ∀ (n : Nat) (s : σ) (t : τ), loopN f n s = some t → loopN g n s = some t
  | 0, _, _, e => by cases e
  | n + 1, s, t, e => by
    simp only [loopN] at e ⊢
    split at e
    · cases e
    · rename_i s' hs; rw [h s _ hs]; exact loopN_ h n s' t e
    · rename_i t' ht; rw [h s _ ht]; exact e
theorem loop_ {σ τ : Type} {f g : σ → Option (σ ⊕ τ)} {n : Nat} {s : σ} (h : ∀ s, Lo (f s) (g s)) : Lo (loopF n f s) (loop g s) := fun t e => loop_iff.2 ⟨n, loopN_ h n s t e⟩
/-- Of two ways, where the second is known to be gone. -/
def onlyB {α : Type} (p : Prop) [Decidable p] (A B : Option α) : Option α := if p then none else B
/-- Of two ways, where values can be compared. -/
def bothD {α : Type} [DecidableEq α] (p : Prop) [Decidable p] (A B : Option α) : Option α := if p then (if A = B then B else none) else B
theorem bothD_ {α : Type} [DecidableEq α] {p : Prop} [Decidable p] {a a' b b' : Option α} (h0 : Lo a a') (h : Lo b b') : Lo (bothD p a b) (orBoth p a' b') := fun r e => by
  unfold bothD at e
  unfold orBoth
  split at e
  · split at e
    · rename_i hp hab
      have h1 := h r e
      have h2 := h0 r (by rw [hab]; exact e)
      rw [if_pos (fun _ => by rw [h1, h2])]; exact h1
    · cases e
  · rename_i hp
    rw [if_pos (fun h => absurd h hp)]; exact h r e
theorem both_ {p : Prop} [Decidable p] {a a' b b' : Option α} (h : Lo b b') : Lo (onlyB p a b) (orBoth p a' b') := fun r e => by
  unfold onlyB at e
  split at e
  · cases e
  · rename_i hp; rw [orBoth_eq (fun k => absurd k hp)]; exact h r e
end Lo
end Vm
end Go.Proofs.Ytknlckjpgmjenaa
