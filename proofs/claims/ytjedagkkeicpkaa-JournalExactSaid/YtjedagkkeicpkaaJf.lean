/- Plain: journals in which something is wrong from a record on. -/
import Derived.Test.YtjedagkkeicpkaaJe
namespace Go.Proofs.Ytjedagkkeicpkaa
open Vm
set_option linter.unusedVariables false
/-- What is read of whole records and something behind them that is none. -/
theorem rdJ_bad {qs : List ByteArray} (h : Small qs) (hn : qs.length < 512) {M : List Int} (hM : B8 M) (hne : M ≠ []) {e : Int} (he : nxt HS (lastS HS 0 (qs.map bytesL)) M = .inl e) : rdJ (strOf (recs HS 0 (qs.map bytesL) ++ M)) = (qs, ((jlen qs : Nat) : Int), lastS HS 0 (qs.map bytesL), e) := by
  rw [rdJ, bytesL_strOf ((recs_b8 HS _ 0 h.map).append hM), rd_recs HS _ _ _ _ h.len (by rw [List.length_map]; omega), List.length_map, show 512 - qs.length = (511 - qs.length) + 1 by omega, rd_err HS hne he]
  simp only [List.append_nil, map_back, Nat.add_zero]
  rfl
theorem jn_split {ps : List ByteArray} {k : Nat} (hk : k < ps.length) : recs HS 0 (ps.map bytesL) = recs HS 0 ((ps.take k).map bytesL) ++ (rcd HS (lastS HS 0 ((ps.take k).map bytesL)) (bytesL (ps.getD k ByteArray.empty)) ++ recs HS (HS (lastS HS 0 ((ps.take k).map bytesL)) (bytesL (ps.getD k ByteArray.empty))) ((ps.drop (k + 1)).map bytesL)) := by
  have hd : ps.drop k = ps.getD k ByteArray.empty :: ps.drop (k + 1) := by
    rw [List.drop_eq_getElem_cons hk, List.getD_eq_getElem?_getD, List.getElem?_eq_getElem hk]; rfl
  conv => lhs; rw [← List.take_append_drop k ps, List.map_append, recs_append, hd, List.map_cons, recs]
theorem lastS_take {ps : List ByteArray} {k : Nat} (hk : k < ps.length) : lastS HS 0 ((ps.take (k + 1)).map bytesL) = HS (lastS HS 0 ((ps.take k).map bytesL)) (bytesL (ps.getD k ByteArray.empty)) := by
  rw [← take_snoc hk, List.map_append, lastS_append]
  rfl
theorem sum_any (b : Int) {s : ByteArray} (hs : s.size ≤ 1000000) : rl_ref38_Sum b s = some (HS b (bytesL s)) := ref_sum_eq b hs
/-- another byte -/
theorem xor_u8 {a b : Int} (ha : 0 ≤ a ∧ a < 256) (hb : 0 < b ∧ b < 256) : 0 ≤ ixor .u8 a b ∧ ixor .u8 a b < 256 ∧ ixor .u8 a b ≠ a := by
  obtain ⟨x, rfl⟩ := Int.eq_ofNat_of_zero_le ha.1
  obtain ⟨y, rfl⟩ := Int.eq_ofNat_of_zero_le (show 0 ≤ b by omega)
  have hx : x < 2 ^ 8 := by omega
  have hy : y < 2 ^ 8 := by omega
  have hlt := Nat.xor_lt_two_pow hx hy
  have e : ixor .u8 (x : Int) (y : Int) = ((x ^^^ y : Nat) : Int) := by
    show IntKind.u8.wrap ((BitVec.ofInt 8 (x : Int) ^^^ BitVec.ofInt 8 (y : Int)).toNat : Int) = _
    simp only [BitVec.ofInt_natCast, BitVec.toNat_xor, BitVec.toNat_ofNat]
    rw [Nat.mod_eq_of_lt hx, Nat.mod_eq_of_lt hy, wu8_eq]
    omega
  rw [e]
  refine ⟨by omega, by omega, fun h => ?_⟩
  have h1 : x ^^^ y = x := by omega
  have h2 : x ^^^ (x ^^^ y) = y := by rw [← Nat.xor_assoc, Nat.xor_self, Nat.zero_xor]
  rw [h1, Nat.xor_self] at h2
  omega
theorem B8.set {l : List Int} (h : B8 l) (i : Nat) {v : Int} (hv : 0 ≤ v ∧ v < 256) : B8 (l.set i v) := by
  intro x hx
  rcases List.mem_or_eq_of_mem_set hx with k | k
  · exact h x k
  · rw [k]; exact hv
theorem set_ne {l : List Int} {i : Nat} (hi : i < l.length) {v : Int} (hv : v ≠ l.getD i 0) : l.set i v ≠ l := by
  intro h
  apply hv
  have : (l.set i v).getD i 0 = v := by simp [List.getD_eq_getElem?_getD, hi]
  rw [h] at this
  exact this.symm
theorem getD_right {l k : List Int} {i : Nat} (h : l.length ≤ i) : (l ++ k).getD i 0 = k.getD (i - l.length) 0 := by simp [List.getD_eq_getElem?_getD, List.getElem?_append_right h]
theorem getD_left {l k : List Int} {i : Nat} (h : i < l.length) : (l ++ k).getD i 0 = l.getD i 0 := by simp [List.getD_eq_getElem?_getD, List.getElem?_append_left h]
theorem strP_all (l : List Int) (n : Nat) (hn : n = l.length) : strP 0 n l = strOf l := by
  subst hn
  unfold strP strOf
  simp only [Nat.zero_add]
end Go.Proofs.Ytjedagkkeicpkaa
