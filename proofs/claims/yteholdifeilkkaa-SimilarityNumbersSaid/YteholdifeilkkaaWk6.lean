/- SimilarityNumbers: the call. -/
import Derived.Test.YteholdifeilkkaaLw6
namespace Go.Proofs.Yteholdifeilkkaa
open Vm
theorem numbers_walk (a0 : Int) (a1 : Nat) (W : World) (lo0 : 0 ≤ a0) (hi0 : a0 ≤ 65535) (b1 : a1 ≤ 255) :
    Calls Try.prog 6 #[.int .u16 a0, .int .u8 a1] W fun e w' => e = .returned (.bool true) ∧ Go.RowKit.Below W.heap.size W w' :=
  law_calls (rl_law17_SimilarityNumbers_con a0 a1 true (numbers_law lo0 (by omega) (by omega) (by omega))) W _ ⟨⟨rfl, rfl⟩, ⟨rfl, rfl⟩, trivial⟩
end Go.Proofs.Yteholdifeilkkaa
