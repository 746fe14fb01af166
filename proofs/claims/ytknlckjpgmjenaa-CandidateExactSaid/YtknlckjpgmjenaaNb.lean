/- Plain facts on the numbers of Go: wraps. -/
import Derived.Test.YtknlckjpgmjenaaVq
namespace Go.Proofs.Ytknlckjpgmjenaa
namespace Vm
theorem wi64 {n : Int} (h0 : -9223372036854775808 ≤ n) (h1 : n < 9223372036854775808) : IntKind.i64.wrap n = n := by
  simp only [IntKind.wrap, IntKind.bits, IntKind.signed]
  simp
  omega
theorem wi64_eq (n : Int) : IntKind.i64.wrap n = (n + 9223372036854775808) % 18446744073709551616 - 9223372036854775808 := by
  simp only [IntKind.wrap, IntKind.bits, IntKind.signed]
  simp
  omega
theorem wu64_eq (n : Int) : IntKind.u64.wrap n = n % 18446744073709551616 := by
  simp [IntKind.wrap, IntKind.bits, IntKind.signed]
theorem wu64 {n : Int} (h0 : 0 ≤ n) (h1 : n < 18446744073709551616) : IntKind.u64.wrap n = n := by
  rw [wu64_eq]; omega
theorem wu64_lo (n : Int) : 0 ≤ IntKind.u64.wrap n := by rw [wu64_eq]; omega
theorem wu64_hi (n : Int) : IntKind.u64.wrap n < 18446744073709551616 := by rw [wu64_eq]; omega
theorem tmod_nn {a b : Int} (h : 0 ≤ a) : a.tmod b = a % b := Int.tmod_eq_emod_of_nonneg h
theorem tdiv_nn {a b : Int} (h : 0 ≤ a) : a.tdiv b = a / b := Int.tdiv_eq_ediv_of_nonneg h
end Vm
end Go.Proofs.Ytknlckjpgmjenaa
