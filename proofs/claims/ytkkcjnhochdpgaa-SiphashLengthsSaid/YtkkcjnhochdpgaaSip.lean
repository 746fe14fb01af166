/- SipHash: what the functions of the program and of the reference compute. -/
import Derived.Test.YtkkcjnhochdpgaaReg
namespace Go.Proofs.Ytkkcjnhochdpgaa
open Go.RowKit

def rot (x a b : UInt64) : UInt64 := x <<< a ||| x >>> b
abbrev St := UInt64 × UInt64 × UInt64 × UInt64
def rnd (s : St) : St :=
  let a := s.1 + s.2.1
  let b := rot s.2.1 13 51 ^^^ a
  let a := rot a 32 32
  let c := s.2.2.1 + s.2.2.2
  let d := rot s.2.2.2 16 48 ^^^ c
  let a := a + d
  let d := rot d 21 43 ^^^ a
  let c := c + b
  let b := rot b 17 47 ^^^ c
  let c := rot c 32 32
  (a, b, c, d)
def rnds : Nat → St → St
  | 0, s => s
  | n + 1, s => rnds n (rnd s)
def cells4 (s : St) : Array Value := #[.int .u64 (T64 s.1), .int .u64 (T64 s.2.1), .int .u64 (T64 s.2.2.1), .int .u64 (T64 s.2.2.2)]

set_option maxHeartbeats 400000 in
theorem rotp_13 (x : UInt64) (w : World) : Calls Try.prog 31 #[.int .u64 (T64 x), .int .i64 13] w fun e w' => e = .returned (.int .u64 (T64 (rot x 13 51))) ∧ w = w' := by
  have hk : bits .and .u64 13 63 = 13 := by decide
  go_enter Try.func31, Try.ntmps31
  go_wp2
  go_ret
  exact ⟨rfl, rfl⟩
set_option maxHeartbeats 400000 in
theorem rotr_13 (x : UInt64) (w : World) : Calls Try.prog 32 #[.int .u64 (T64 x), .int .i64 13] w fun e w' => e = .returned (.int .u64 (T64 (rot x 13 51))) ∧ ∃ n, w' = w.drewN n := by
  go_enter Try.func32, Try.ntmps32
  go_wp2
  go_quiet (fail)
  go_wp2
  go_ret
  exact ⟨rfl, _, rfl⟩
set_option maxHeartbeats 400000 in
theorem rotp_16 (x : UInt64) (w : World) : Calls Try.prog 31 #[.int .u64 (T64 x), .int .i64 16] w fun e w' => e = .returned (.int .u64 (T64 (rot x 16 48))) ∧ w = w' := by
  have hk : bits .and .u64 16 63 = 16 := by decide
  go_enter Try.func31, Try.ntmps31
  go_wp2
  go_ret
  exact ⟨rfl, rfl⟩
set_option maxHeartbeats 400000 in
theorem rotr_16 (x : UInt64) (w : World) : Calls Try.prog 32 #[.int .u64 (T64 x), .int .i64 16] w fun e w' => e = .returned (.int .u64 (T64 (rot x 16 48))) ∧ ∃ n, w' = w.drewN n := by
  go_enter Try.func32, Try.ntmps32
  go_wp2
  go_quiet (fail)
  go_wp2
  go_ret
  exact ⟨rfl, _, rfl⟩
set_option maxHeartbeats 400000 in
theorem rotp_17 (x : UInt64) (w : World) : Calls Try.prog 31 #[.int .u64 (T64 x), .int .i64 17] w fun e w' => e = .returned (.int .u64 (T64 (rot x 17 47))) ∧ w = w' := by
  have hk : bits .and .u64 17 63 = 17 := by decide
  go_enter Try.func31, Try.ntmps31
  go_wp2
  go_ret
  exact ⟨rfl, rfl⟩
set_option maxHeartbeats 400000 in
theorem rotr_17 (x : UInt64) (w : World) : Calls Try.prog 32 #[.int .u64 (T64 x), .int .i64 17] w fun e w' => e = .returned (.int .u64 (T64 (rot x 17 47))) ∧ ∃ n, w' = w.drewN n := by
  go_enter Try.func32, Try.ntmps32
  go_wp2
  go_quiet (fail)
  go_wp2
  go_ret
  exact ⟨rfl, _, rfl⟩
set_option maxHeartbeats 400000 in
theorem rotp_21 (x : UInt64) (w : World) : Calls Try.prog 31 #[.int .u64 (T64 x), .int .i64 21] w fun e w' => e = .returned (.int .u64 (T64 (rot x 21 43))) ∧ w = w' := by
  have hk : bits .and .u64 21 63 = 21 := by decide
  go_enter Try.func31, Try.ntmps31
  go_wp2
  go_ret
  exact ⟨rfl, rfl⟩
set_option maxHeartbeats 400000 in
theorem rotr_21 (x : UInt64) (w : World) : Calls Try.prog 32 #[.int .u64 (T64 x), .int .i64 21] w fun e w' => e = .returned (.int .u64 (T64 (rot x 21 43))) ∧ ∃ n, w' = w.drewN n := by
  go_enter Try.func32, Try.ntmps32
  go_wp2
  go_quiet (fail)
  go_wp2
  go_ret
  exact ⟨rfl, _, rfl⟩
set_option maxHeartbeats 400000 in
theorem rotp_32 (x : UInt64) (w : World) : Calls Try.prog 31 #[.int .u64 (T64 x), .int .i64 32] w fun e w' => e = .returned (.int .u64 (T64 (rot x 32 32))) ∧ w = w' := by
  have hk : bits .and .u64 32 63 = 32 := by decide
  go_enter Try.func31, Try.ntmps31
  go_wp2
  go_ret
  exact ⟨rfl, rfl⟩
set_option maxHeartbeats 400000 in
theorem rotr_32 (x : UInt64) (w : World) : Calls Try.prog 32 #[.int .u64 (T64 x), .int .i64 32] w fun e w' => e = .returned (.int .u64 (T64 (rot x 32 32))) ∧ ∃ n, w' = w.drewN n := by
  go_enter Try.func32, Try.ntmps32
  go_wp2
  go_quiet (fail)
  go_wp2
  go_ret
  exact ⟨rfl, _, rfl⟩
end Go.Proofs.Ytkkcjnhochdpgaa
