/- Worlds: what stays, where one block is written. -/
import Derived.Test.YteholdifeilkkaaNum
namespace Go.Proofs.Yteholdifeilkkaa
open Go.RowKit

theorem heap_setCell_eq {w : World} {p : Nat} {c : Array Value} {E : TypeId} {m : Nat × Nat} (h : w.heap[p]? = some (.cells c E m)) (o : Nat) (v : Value) :
    (w.setCell ⟨p, o, none⟩ v).heap[p]? = some (.cells (c.setIfInBounds o v) E m) := by
  simp [World.setCell, Array.getElem?_modify, h]
theorem heap_drewN (w : World) (n : Nat) : (w.drewN n).heap = w.heap := rfl
theorem cell_at {w : World} {p : Nat} {c : Array Value} {E : TypeId} {m : Nat × Nat} (h : w.heap[p]? = some (.cells c E m)) (o : Nat) : w.cell? ⟨p, o, none⟩ = c[o]? := by
  simp [World.cell?, h]
theorem frozen_at {w : World} {p : Nat} {c : Array Value} {E : TypeId} (h : w.heap[p]? = some (.cells c E (0, 0))) (o : Nat) : w.frozen? ⟨p, o, none⟩ = false := by
  simp [World.frozen?, h]
theorem lt_of_heap {w : World} {p : Nat} {o : Obj} (h : w.heap[p]? = some o) : p < w.heap.size := by
  rcases Nat.lt_or_ge p w.heap.size with h1 | h1
  · exact h1
  · rw [Array.getElem?_eq_none h1] at h; cases h

theorem heap_new (w : World) (o : Obj) : (w.alloc o).heap[w.heap.size]? = some o := by
  show (w.heap.push o)[w.heap.size]? = some o
  simp
theorem heap_new1 (w : World) (o1 o2 : Obj) : ((w.alloc o1).alloc o2).heap[w.heap.size + 1]? = some o2 := by
  have := heap_new (w.alloc o1) o2
  simpa using this
/-- Of all blocks of w only block p may have changed; there may be new ones. -/
structure Only (p : Nat) (w w' : World) : Prop where
  os : w'.os = w.os
  tape : w'.tape = w.tape
  output : w'.output = w.output
  size : w.heap.size ≤ w'.heap.size
  block : ∀ k, k < w.heap.size → k ≠ p → w'.heap[k]? = w.heap[k]?
namespace Only
variable {p : Nat} {w w' w'' : World}
theorem refl (p : Nat) (w : World) : Only p w w := ⟨rfl, rfl, rfl, Nat.le_refl _, fun _ _ _ => rfl⟩
theorem trans (h : Only p w w') (k : Only p w' w'') : Only p w w'' :=
  ⟨k.os.trans h.os, k.tape.trans h.tape, k.output.trans h.output, Nat.le_trans h.size k.size, fun i hi hp => (k.block i (Nat.lt_of_lt_of_le hi h.size) hp).trans (h.block i hi hp)⟩
theorem drewN (h : Only p w w') (n : Nat) : Only p w (w'.drewN n) := ⟨h.os, h.tape, h.output, h.size, h.block⟩
theorem drew (h : Only p w w') : Only p w w'.drew := ⟨h.os, h.tape, h.output, h.size, h.block⟩
theorem setCell (h : Only p w w') (o : Nat) (v : Value) : Only p w (w'.setCell ⟨p, o, none⟩ v) :=
  h.trans ⟨rfl, rfl, rfl, by simp [World.setCell], fun k _ hk => Below.heap_setCell _ _ _ _ (by simpa using hk)⟩
theorem alloc (h : Only p w w') (o : Obj) : Only p w (w'.alloc o) :=
  h.trans ⟨rfl, rfl, rfl, by simp, fun k hk _ => Below.heap_alloc _ _ _ hk⟩
theorem setNew (h : Only p w w') {q : Nat} (hq : w.heap.size ≤ q) (o : Nat) (v : Value) : Only p w (w'.setCell ⟨q, o, none⟩ v) :=
  ⟨h.os, h.tape, h.output, by simpa [World.setCell] using h.size, fun k hk hp => (Below.heap_setCell _ _ _ _ (show k ≠ q by omega)).trans (h.block k hk hp)⟩
theorem below (h : Below w.heap.size w w') : Only p w w' := ⟨h.os, h.tape, h.output, h.size, fun k hk _ => h.block k hk⟩
/-- A callee that wrote a block that is new here. -/
theorem calleeNew {q : Nat} (h : Only p w w') (k : Only q w' w'') (hq : w.heap.size ≤ q) : Only p w w'' :=
  ⟨k.os.trans h.os, k.tape.trans h.tape, k.output.trans h.output, Nat.le_trans h.size k.size, fun i hi hp => (k.block i (Nat.lt_of_lt_of_le hi h.size) (by omega)).trans (h.block i hi hp)⟩
theorem callee (h : Only p w w') (k : Below w'.heap.size w' w'') : Only p w w'' := h.trans (below k)
theorem cell (h : Only p w w') {a : Addr} (ha : a.block < w.heap.size) (hp : a.block ≠ p) : w'.cell? a = w.cell? a := World.cell?_of_block (w := w) (h.block a.block ha hp)
theorem frozen (h : Only p w w') {a : Addr} (ha : a.block < w.heap.size) (hp : a.block ≠ p) : w'.frozen? a = w.frozen? a := World.frozen?_of_block (w := w) (h.block a.block ha hp)
theorem toBelow (h : Only p w w') {B : Nat} (hB : B ≤ w.heap.size) (hp : B ≤ p) : Below B w w' := ⟨h.os, h.tape, h.output, h.size, fun k hk => h.block k (by omega) (by omega)⟩
end Only
theorem below_only {B p : Nat} {w w' w'' : World} (h : Below B w w') (k : Only p w' w'') (hB : B ≤ w'.heap.size) (hp : B ≤ p) : Below B w w'' := h.trans (k.toBelow hB hp)
theorem lt_of_cell {w : World} {a : Addr} {v : Value} (h : w.cell? a = some v) : a.block < w.heap.size := by
  rcases Nat.lt_or_ge a.block w.heap.size with h1 | h1
  · exact h1
  · simp [World.cell?, Array.getElem?_eq_none h1] at h
theorem below_drewN {B : Nat} {a w : World} (h : Below B a w) (n : Nat) : Below B a (w.drewN n) := ⟨h.os, h.tape, h.output, h.size, h.block⟩
/-- A slice's address q leads to these values, one cell each. -/
def Cells (w : World) (q : Option Addr) (l : List Value) : Prop := ∀ (i : Nat) (h : i < l.length), ∃ b o, q = some ⟨b, o, none⟩ ∧ w.cell? ⟨b, o + i, none⟩ = some l[i]
namespace Cells
variable {w w' : World} {q : Option Addr} {l : List Value} {p : Nat}
theorem nil (w : World) (q : Option Addr) : Cells w q [] := fun i h => by simp at h
theorem only (h : Cells w q l) (k : Only p w w') (hp : w.heap.size ≤ p) : Cells w' q l := fun i hi => by
  obtain ⟨b, o, e, hc⟩ := h i hi
  have hb := lt_of_cell hc
  exact ⟨b, o, e, by rw [k.cell hb (by simp at hb ⊢; omega)]; exact hc⟩
theorem onlyNe (h : Cells w q l) (k : Only p w w') (hp : ∀ a, q = some a → a.block ≠ p) : Cells w' q l := fun i hi => by
  obtain ⟨b, o, e, hc⟩ := h i hi
  have hb := lt_of_cell hc
  exact ⟨b, o, e, by rw [k.cell hb (hp ⟨b, o, none⟩ e)]; exact hc⟩
theorem below (h : Cells w q l) (k : Below w.heap.size w w') : Cells w' q l := fun i hi => by
  obtain ⟨b, o, e, hc⟩ := h i hi
  exact ⟨b, o, e, by rw [k.cell (lt_of_cell hc)]; exact hc⟩
theorem drewN (h : Cells w q l) (n : Nat) : Cells (w.drewN n) q l := h
theorem take (h : Cells w q l) (k : Nat) : Cells w q (l.take k) := fun i hi => by
  rw [List.length_take] at hi
  obtain ⟨b, o, e, hc⟩ := h i (by omega)
  exact ⟨b, o, e, by rw [hc]; simp⟩
theorem drop {b o : Nat} (h : Cells w (some ⟨b, o, none⟩) l) (k : Nat) : Cells w (some ⟨b, o + k, none⟩) (l.drop k) := fun i hi => by
  rw [List.length_drop] at hi
  obtain ⟨b', o', e, hc⟩ := h (k + i) (by omega)
  injection e with e
  injection e with e1 e2 _
  subst e1; subst e2
  refine ⟨b, o + k, rfl, ?_⟩
  rw [Nat.add_assoc, hc]; simp
end Cells
theorem below_size {w w' : World} (h : Below w.heap.size w w') {q : Option Addr} {l : List Value} (hc : Cells w q l) : Cells w' q l := hc.below h
theorem bcell {W w1 : World} (hb : Below W.heap.size W w1) : (∀ b o, b < W.heap.size → w1.cell? ⟨b, o, none⟩ = W.cell? ⟨b, o, none⟩) ∧ (∀ b o, b < W.heap.size → w1.frozen? ⟨b, o, none⟩ = W.frozen? ⟨b, o, none⟩) :=
  ⟨fun b o h => hb.cell (p := ⟨b, o, none⟩) h, fun b o h => hb.frozen (p := ⟨b, o, none⟩) h⟩
theorem bcellB {W w1 : World} (B : Nat) (hb : Below W.heap.size W w1) (h : B ≤ W.heap.size) : (∀ b o, b < B → w1.cell? ⟨b, o, none⟩ = W.cell? ⟨b, o, none⟩) ∧ (∀ b o, b < B → w1.frozen? ⟨b, o, none⟩ = W.frozen? ⟨b, o, none⟩) ∧ B ≤ w1.heap.size :=
  ⟨fun b o h1 => hb.cell (p := ⟨b, o, none⟩) (Nat.lt_of_lt_of_le h1 h), fun b o h1 => hb.frozen (p := ⟨b, o, none⟩) (Nat.lt_of_lt_of_le h1 h), Nat.le_trans h hb.size⟩
end Go.Proofs.Yteholdifeilkkaa
