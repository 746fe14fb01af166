/- Plain: the sanity check of the laws of fractions. -/
import Derived.Test.YtnfikddgjkfflaaRe
import Derived.Test.YtnfikddgjkfflaaGE0
namespace Go.Proofs.Ytnfikddgjkfflaa
open Vm
theorem awake11 : rl_law11_awake = some true := rl_law11_awake_le 200 _ (by kernel_rfl)
theorem frsame {n d : Int} {y : S_api_Rational} (hn : 0 ≤ n) (hd : 0 < d) (h1 : n < bp 64) (h2 : d < bp 64) : rl_ref11_Same (fr n d) y = some (decide (fr n d = y)) := rsame_eq (fr_ok hn hd h1 h2).1
theorem frvalid {n d : Int} (hn : 0 ≤ n) (hd : 0 < d) (h1 : n < bp 64) (h2 : d < bp 64) : rational_Valid (fr n d) = some true := by
  rw [rat_valid_eq (fr_ok hn hd h1 h2).1, decide_eq_true (fr_ok hn hd h1 h2).2]
theorem b64 {v : Int} {m : Nat} (h : v < bp m) (hm : m ≤ 64) : v < bp 64 := bp_lt h hm
end Go.Proofs.Ytnfikddgjkfflaa
