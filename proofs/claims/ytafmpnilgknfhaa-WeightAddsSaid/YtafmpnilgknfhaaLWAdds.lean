/- The plain law of WeightAdds. -/
import Derived.Test.YtafmpnilgknfhaaWc
import Derived.Test.YtafmpnilgknfhaaGL4
namespace Go.Proofs.Ytafmpnilgknfhaa
open Vm
set_option linter.unusedVariables false
theorem adds_law (p q r m : Int) (hp : IntKind.u16.min ≤ p ∧ p ≤ IntKind.u16.max) (hq : IntKind.u16.min ≤ q ∧ q ≤ IntKind.u16.max) (hr : IntKind.u16.min ≤ r ∧ r ≤ IntKind.u16.max) (hm : IntKind.u8.min ≤ m ∧ m ≤ IntKind.u8.max) : rl_law25_WeightAdds p q r m = some true := by
  have p1 : p ≤ 65535 := hp.2
  have q1 : q ≤ 65535 := hq.2
  have r1 : r ≤ 65535 := hr.2
  have m0 : 0 ≤ m := hm.1
  have m1 : m ≤ 255 := hm.2
  obtain ⟨x, x0, x1, ex⟩ := grid_arg hp.1 p1 65536 (by decide) (by decide)
  obtain ⟨y, y0, y1, ey⟩ := grid_arg hq.1 q1 65536 (by decide) (by decide)
  obtain ⟨z, z0, z1, ez⟩ := grid_arg hr.1 r1 65536 (by decide) (by decide)
  obtain ⟨k, rfl⟩ := Int.eq_ofNat_of_zero_le m0
  unfold rl_law25_WeightAdds rl_law25_WeightAdds_k1
  rw [show IntKind.i64.wrap (1 + (IntKind.i64.wrap p).tmod 65536) = (x : Int) from ex, show IntKind.i64.wrap (1 + (IntKind.i64.wrap q).tmod 65536) = (y : Int) from ey, show IntKind.i64.wrap (1 + (IntKind.i64.wrap r).tmod 65536) = (z : Int) from ez]
  rw [wi64 (n := (k : Int)) (by omega) (by omega), wi64 (n := (x : Int) + k) (by omega) (by omega)]
  have em : (if (x : Int) + k < 65536 then (x : Int) + k else 65536) = ((min (x + k) 65536 : Nat) : Int) := by rw [Nat.min_def]; split <;> split <;> omega
  rw [em]
  have t0 : 1 ≤ min (x + k) 65536 := by omega
  have t1 : min (x + k) 65536 ≤ 65536 := by omega
  have tx : x ≤ min (x + k) 65536 := by omega
  generalize min (x + k) 65536 = t at *
  obtain ⟨u, eu, hu, u0, u1⟩ := glog x y x0 x1 y0 y1
  obtain ⟨v, ev, hv, v0, v1⟩ := glog y z y0 y1 z0 z1
  obtain ⟨w, ew, hw, w0, w1⟩ := glog x z x0 x1 z0 z1
  obtain ⟨s, es, hs, s0, s1⟩ := glog t z t0 t1 z0 z1
  have px : 0 < x ^ 16 := Nat.pow_pos x0
  have py : 0 < y ^ 16 := Nat.pow_pos y0
  have pz : 0 < z ^ 16 := Nat.pow_pos z0
  have h1 : w ≤ s := isLog.mono pz (Nat.pow_le_pow_left tx 16) hw hs
  have h2 : isLog (x ^ 16 * y ^ 16) (y ^ 16 * z ^ 16) w := by
    rw [Nat.mul_comm (x ^ 16)]
    exact (isLog.cancel py).2 hw
  have h3 := isLog.mul px py py pz hu hv h2
  rw [eu, bind2_pure, ev, bind2_pure, ew, bind2_pure, es, bind2_pure, if_pos (by decide), if_pos (by decide), if_pos (by decide), if_pos (by decide), wi64 (n := u + v) (by omega) (by omega), wi64 (n := w - 1) (by omega) (by omega), decide_eq_true (show s ≥ w from h1), if_pos rfl, awake25, bind1_pure]
  rcases h3 with h | h
  · rw [if_pos (by simp; omega)]
  · rw [if_neg (by simp; omega), if_pos (by simp; omega)]
end Go.Proofs.Ytafmpnilgknfhaa
