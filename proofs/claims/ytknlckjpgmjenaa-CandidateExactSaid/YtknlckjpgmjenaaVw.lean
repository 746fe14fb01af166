/- The bridge between the abstract machine's contracts and the kit's fenced walks: for functions that are walked by hand (a range over a function, a map). -/
import Derived.Test.YtknlckjpgmjenaaVr
import Derived.RangeFuncNested
import Derived.RangeFuncBound
import Derived.RangeFuncCalls
import Derived.RangeFuncLeaves
import Derived.Shelf.Abstract
import Derived.Shelf.RegionOpen
import Derived.OwnWalkIn
import Derived.TacticsInMore
import Derived.LoopNIn
import Derived.LoopIn
import Derived.RangeFuncBox
import Derived.Maps.AppendAt
import Derived.Maps.OwnIn
import Derived.Maps.RangeWalk
namespace Go.Proofs.Ytknlckjpgmjenaa
open Go.RowKit
set_option linter.unusedVariables false
namespace Vm
/-- A contract, as a fenced walk takes it: arguments that are read only. -/
theorem Con.callsIn {P : Program} {f : FuncId} {args : List AV} {out : AV} {n : Nat} {w : World} (ok : Nat → Prop) (hok : ∀ b, ok b → b < w.heap.size) (h : Con P f args [] out []) (vs : Array Value) (ha : All2 (RV w ok fun _ => none) args vs.toList) :
    CallsIn Fence.wide n P f vs w fun e w' => ∃ v, e = .returned v ∧ Below w.heap.size w w' ∧ ∃ ok' ρ', RV w' ok' ρ' out v := by
  refine callsIn_wide.2 (Calls.mono (h.2 w ok (fun _ => none) vs hok (fun id hid => absurd rfl hid) (fun id blk hid => by cases hid) (fun i j b c c' hi => by cases hi) ha) ?_)
  rintro e w' ⟨v, ρ', rfl, _, hU, hv, _⟩
  exact ⟨v, rfl, ⟨hU.os, hU.tape, hU.output, hU.size, fun k hk => hU.block k hk fun ⟨_, _, hh⟩ => by cases hh⟩, _, _, hv⟩
/-- A contract out of a fenced walk: what is handed back leads to nothing. -/
theorem con_of_calls {P : Program} {f : FuncId} {args : List AV} {out : AV} {n : Nat} (he : Enters P f)
    (H : ∀ (w : World) (ok : Nat → Prop) (vs : Array Value), (∀ b, ok b → b < w.heap.size) → All2 (RV w ok fun _ => none) args vs.toList → CallsIn Fence.wide n P f vs w fun e w' => ∃ v, e = .returned v ∧ Below w.heap.size w w' ∧ ∀ ok' ρ', RV w' ok' ρ' out v) : Con P f args [] out [] := by
  refine ⟨he, fun w ok ρ vs hok hdom _ hinj ha => ?_⟩
  obtain rfl : ρ = fun _ => none := by
    funext id
    cases e : ρ id with
    | none => rfl
    | some l => obtain ⟨b, hb⟩ := hdom id (by rw [e]; exact fun h => by cases h); cases hb
  refine Calls.mono (callsIn_wide.1 (H w ok vs hok ha)) ?_
  rintro e w' ⟨v, rfl, hB, hv⟩
  exact ⟨v, _, rfl, Ext.rfl_ _, ⟨hB.os, hB.tape, hB.output, hB.size, fun b hb _ => hB.block b hb⟩, hv _ _, (fun id blk h => by cases h), fun i j b c c' x y hx => by cases hx⟩
/-- .. what is handed back leads to new blocks that are read only. -/
theorem con_of_calls2 {P : Program} {f : FuncId} {args : List AV} {out : AV} {n : Nat} (he : Enters P f)
    (H : ∀ (w : World) (ok : Nat → Prop) (vs : Array Value), (∀ b, ok b → b < w.heap.size) → All2 (RV w ok fun _ => none) args vs.toList → CallsIn Fence.wide n P f vs w fun e w' => ∃ v, e = .returned v ∧ Below w.heap.size w w' ∧ RV w' (fun b => w.heap.size ≤ b ∧ b < w'.heap.size) (fun _ => none) out v) : Con P f args [] out [] := by
  refine ⟨he, fun w ok ρ vs hok hdom _ hinj ha => ?_⟩
  obtain rfl : ρ = fun _ => none := by
    funext id
    cases e : ρ id with
    | none => rfl
    | some l => obtain ⟨b, hb⟩ := hdom id (by rw [e]; exact fun h => by cases h); cases hb
  refine Calls.mono (callsIn_wide.1 (H w ok vs hok ha)) ?_
  rintro e w' ⟨v, rfl, hB, hv⟩
  refine ⟨v, fun _ => none, rfl, Ext.rfl_ _, ⟨hB.os, hB.tape, hB.output, hB.size, fun b hb _ => hB.block b hb⟩, ?_, (fun id blk h => by cases h), fun i j b c c' x y hx => by cases hx⟩
  exact RV.mono ⟨fun b hb => ⟨hb.2, .inl hb.1, fun id blk cap h1 => by cases h1⟩, fun _ _ => rfl⟩ (Ext.rfl_ _) _ _ hv
theorem ba1 {w : World} {ok : Nat → Prop} {ρ : Ren} {v y : Value} (h : RV w ok ρ (.c (.t (.v v))) y) : y = v := h.1
theorem Below.others {w w' : World} (h : Below w.heap.size w w') : KeepsOthers w w' := ⟨h.size, fun k o hk _ => (h.block k (Array.getElem?_eq_some_iff.1 hk).1).trans hk⟩
theorem blk_kept {β : Type} {b : Nat} {vs : β → Array Value} {t : TypeId} : Own (fun s W => W.heap[b]? = some (.cells (vs s) t (0, 0))) := fun s X Y row hs hg hrow => by
  refine (hg.block b (Array.getElem?_eq_some_iff.1 hs).1 (fun e' => ?_)).trans hs
  obtain ⟨o, ho, hc⟩ := hrow b e'.symm
  rw [hs] at ho; cases ho; cases hc
end Vm
end Go.Proofs.Ytknlckjpgmjenaa
