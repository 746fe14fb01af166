/- A region that draws its order and deals from a deck. -/
import Derived.Test.YtkkcjnhochdpgaaDeck3
namespace Go.Proofs.Ytkkcjnhochdpgaa
open Go.RowKit
/-- Of what was there only the deck has changed, and it is a deck still. -/
def GrowD (p : Nat) (x y : World) : Prop := Only p x y ∧ (Deck x p → Deck y p)
namespace GrowD
theorem refl (p : Nat) (x : World) : GrowD p x x := ⟨Only.refl _ _, id⟩
theorem rfl_ {p : Nat} {x : World} : GrowD p x x := refl p x
theorem trans (p : Nat) (x y z : World) (h : GrowD p x y) (k : GrowD p y z) : GrowD p x z := ⟨h.1.trans k.1, fun d => k.2 (h.2 d)⟩
theorem below {p : Nat} {x y : World} (h : Below x.heap.size x y) : GrowD p x y := ⟨Only.below h, fun d => d.below h⟩
theorem alloc (p : Nat) (x : World) (o : Obj) : GrowD p x (x.alloc o) := below ((Below.refl _ _).alloc (Nat.le_refl _) o)
theorem of {p : Nat} {x y : World} (h : Only p x y) (d : Deck y p) : GrowD p x y := ⟨h, fun _ => d⟩
theorem cell {p : Nat} {x y : World} (h : GrowD p x y) {b o : Nat} {v : Value} (hc : x.cell? ⟨b, o, none⟩ = some v) (hp : b ≠ p) : y.cell? ⟨b, o, none⟩ = some v := (h.1.cell (a := ⟨b, o, none⟩) (lt_of_cell hc) hp).trans hc
end GrowD
def MonoD (p : Nat) (f : Spec) : Prop := ∀ v x y, GrowD p x y → f.fact v x → f.fact v y
def MonoDAll (p : Nat) (fs : List Spec) : Prop := ∀ (j : Nat) v x y, GrowD p x y → factAt fs j v x → factAt fs j v y
theorem monoD_nil {p : Nat} : MonoDAll p [] := fun j _ _ _ _ h => by cases j <;> exact h
theorem monoD_cons {p : Nat} {f : Spec} {fs : List Spec} (h : MonoD p f) (k : MonoDAll p fs) : MonoDAll p (f :: fs)
  | 0 => h
  | j + 1 => k j
theorem isD_mono {p : Nat} (v : Value) : MonoD p (is v) := fun _ _ _ _ h => h
/-- What does not depend on the world. -/
def holdsV (R : Value → Prop) : Fact := fun v _ => R v
theorem holdsV_monoD (p : Nat) (R : Value → Prop) : MonoD p (such (holdsV R)) := fun _ _ _ _ h => h
theorem holdsV_mono (R : Value → Prop) : Mono (such (holdsV R)) := fun _ _ _ _ h => h
/-- A slice over a block of its own, that is not the deck. -/
def isBlk (p n c : Nat) (l : List Value) : Fact := fun v w => ∃ g, v = .slice (some ⟨g, 0, none⟩) n c ∧ g ≠ p ∧ Cells w (some ⟨g, 0, none⟩) l
theorem isBlk_monoD (p n c : Nat) (l : List Value) : MonoD p (such (isBlk p n c l)) := fun _ _ _ h ⟨g, hv, hg, hc⟩ => ⟨g, hv, hg, hc.onlyNe h.1 (fun a ha => by injection ha with ha; subst ha; exact hg)⟩
theorem wp_relyD {P : Program} {id : Nat} {Q : Exit → Act → World → Prop} {a : Act} {w : World} {l : List Oper} (p n : Nat) (fs : List Spec) (hm : P.follows .mixedOrders = true)
    (hB : relyB l.toArray n a.tmps.size = true) (hmono : MonoDAll p fs)
    (hs : Steps P l.toArray (GrowD p) w.drew fs (fun a w => wpList P l.toArray Q (l.drop n) a w) [] a (l.take n)) : (Code.region id l.toArray true).wp P Q a w :=
  wp_region_rely n (GrowD p) fs hm hB (GrowD.refl p) (GrowD.trans p) hmono hs
end Go.Proofs.Ytkkcjnhochdpgaa
