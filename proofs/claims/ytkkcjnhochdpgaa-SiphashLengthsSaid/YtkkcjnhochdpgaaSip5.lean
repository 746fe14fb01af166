/- SipHash: the reference's round and sum. -/
import Derived.Test.YtkkcjnhochdpgaaSip4
namespace Go.Proofs.Ytkkcjnhochdpgaa
open Go.RowKit
abbrev agg4 (s : St) : Value := .agg #[.int .u64 (T64 s.1), .int .u64 (T64 s.2.1), .int .u64 (T64 s.2.2.1), .int .u64 (T64 s.2.2.2)]
set_option maxHeartbeats 800000 in
theorem rround_any (s : St) (w : World) :
    Calls Try.prog 30 #[agg4 s] w fun e w' => e = .returned (agg4 (rnd s)) ∧ Below w.heap.size w w' := by
  obtain ⟨a, b, c, d⟩ := s
  go_enter Try.func30, Try.ntmps30
  go_wp2_with fail
  go_quiet (fail)
  go_wp2_with (first | (go_at_call_of 32 (Value.int IntKind.i64 13); refine (rotr_13 _ _).mono ?_; rintro e w' ⟨rfl, nq, rfl⟩) | (go_at_call_of 32 (Value.int IntKind.i64 16); refine (rotr_16 _ _).mono ?_; rintro e w' ⟨rfl, nq, rfl⟩) | (go_at_call_of 32 (Value.int IntKind.i64 17); refine (rotr_17 _ _).mono ?_; rintro e w' ⟨rfl, nq, rfl⟩) | (go_at_call_of 32 (Value.int IntKind.i64 21); refine (rotr_21 _ _).mono ?_; rintro e w' ⟨rfl, nq, rfl⟩) | (go_at_call_of 32 (Value.int IntKind.i64 32); refine (rotr_32 _ _).mono ?_; rintro e w' ⟨rfl, nq, rfl⟩))
  refine bodyPost_ret (v := agg4 (rnd (a, b, c, d))) (by simp [results, Try.results30, go_sem]; exact ⟨rfl, rfl, rfl, rfl⟩) rfl ⟨rfl, ?_⟩
  repeat (first | exact Below.refl _ _ | refine Below.setCell ?_ (by first | (simp; done) | (simp; omega)) _ | refine below_drewN ?_ _ | refine Below.drew ?_ | refine Below.alloc ?_ (by first | (simp; done) | (simp; omega)) _)

theorem numTo_take (l : List UInt8) (j n : Nat) (h : j ≤ n) : numTo (l.take n) j = numTo l j := by
  induction j with
  | zero => rfl
  | succ j ih => simp only [numTo]; rw [ih (by omega)]; simp [List.getD_eq_getElem?_getD, List.getElem?_take_of_lt (show j < n by omega)]
theorem num_take8 (l : List UInt8) (h : 8 ≤ l.length) : numTo l 8 = num (l.take 8) := by
  rw [num, List.length_take, Nat.min_eq_left h, numTo_take _ _ _ (Nat.le_refl _)]
theorem rnds4 (s : St) : rnds 4 s = rnd (rnd (rnd (rnd s))) := rfl
theorem wordS_eq (s : St) (m : UInt64) : wordS s m = ((rnd (rnd (s.1, s.2.1, s.2.2.1, s.2.2.2 ^^^ m))).1 ^^^ m, (rnd (rnd (s.1, s.2.1, s.2.2.1, s.2.2.2 ^^^ m))).2) := rfl
theorem mul56 (a : Nat) : a * 2 ^ 56 % 2 ^ 64 = a % 256 * 2 ^ 56 := by
  rw [show (2 : Nat) ^ 64 = 256 * 2 ^ 56 from rfl, Nat.mul_mod_mul_right]
theorem shl56_mod (n : Nat) : IntKind.u64.wrap (((n % 256 : Nat) : Int) * 72057594037927936) = T64 (UInt64.ofNat n <<< 56) := by
  rw [shl56 (n % 256) (by omega)]
  have h : UInt64.ofNat (n % 256) <<< 56 = UInt64.ofNat n <<< 56 := by
    apply UInt64.toNat_inj.1
    rw [UInt64.toNat_shiftLeft, UInt64.toNat_shiftLeft, UInt64.toNat_ofNat', UInt64.toNat_ofNat', Nat.shiftLeft_eq, Nat.shiftLeft_eq, show (56 : UInt64).toNat % 64 = 56 from rfl, mul56, mul56]
    rw [Nat.mod_mod_of_dvd _ (by decide), Nat.mod_mod_of_dvd n (show 256 ∣ 2 ^ 64 by decide)]
    try rw [Nat.mod_mod]
  rw [h]
attribute [local irreducible] rnds rnd wordS
set_option maxHeartbeats 4000000 in
theorem rsum_any (a b : UInt64) (q : Option Addr) (n c : Nat) (l : List UInt8) (hn : n = l.length) (hmax : n ≤ 1000000000000) (w : World) (hc : Cells w q (bytesV l)) :
    Calls Try.prog 18 #[.agg #[.int .u64 (T64 a), .int .u64 (T64 b)], .slice q n c] w fun e w' => e = .returned (.int .u64 (T64 (sip a b l))) ∧ Below w.heap.size w w' := by
  have HC := Lib.hid hc
  have HN := Lib.hid hn
  clear hc hn
  go_enter Try.func18, Try.ntmps18
  go_wp2
  go_loopw [6, 7, 8, 9] (fun at_ m nn i wr => ∃ k : Nat, 8 * k ≤ n ∧ at_ = .int .i64 ((8 * k : Nat) : Int) ∧
    S4g 56 w wr (w.heap.size + 1) (blk a b l k).1 (blk a b l k).2.1 (blk a b l k).2.2.1 (blk a b l k).2.2.2) (fun at_ _ _ _ _ => n - (intOf at_).toNat)
  case atStart => exact ⟨0, by omega, rfl, heap_new1 _ _ _, ((Only.refl _ _).alloc _).alloc _⟩
  case round =>
    obtain ⟨k, hk, rfl, hs⟩ := hrel
    have HS := Lib.hid hs
    obtain ⟨c0, c1, c2, c3, f0⟩ := hs.facts
    clear hs
    have HC1 : Hid (Cells wr q (bytesV l)) := HC.out.only HS.out.only (by omega)
    by_cases hlt : 8 ≤ n - 8 * k
    · have h8 : (8 : Int) ≤ (n : Int) - 8 * (k : Int) := by omega
      go_wp2_with fail
      go_loop [7, 9] (fun m i => ∃ j : Nat, j ≤ 8 ∧ i = .int .i64 j ∧ ∃ m' : UInt64, m = .int .u64 (T64 m') ∧ Hid (m' = numTo (l.drop (8 * k)) j)) (fun _ i => 8 - (intOf i).toNat)
      case atStart => exact ⟨0, by omega, rfl, 0, rfl, rfl⟩
      case round =>
        obtain ⟨j, hj, rfl, m', rfl, HM⟩ := hrel
        by_cases hjl : j < 8
        · have hk' : 8 * k + j < l.length := by have := HN.out; omega
          obtain ⟨bb, o, rfl, hx⟩ := bytes_at HC1.out (8 * k + j) hk'
          have hs := u64_shlv l[8 * k + j].toUInt64 (8 * j) (by omega)
          go_wp2_with fail
          go_round
          case rel => exact ⟨j + 1, by omega, by go_num, _, rfl, (by show _ = numTo _ (j + 1); rw [HM.out]; simp [numTo, hk'])⟩
          case measure => simp [intOf]; omega
        · have hM : Hid (m' = num ((l.drop (8 * k)).take 8)) := by
            show _ = _; rw [HM.out, show j = 8 by omega]; exact num_take8 _ (by rw [List.length_drop]; have := HN.out; omega)
          go_wp2_with fail
          have H1 := Lib.hid (HS.out.set3 ((blk a b l k).2.2.2 ^^^ m'))
          clear c0 c1 c2 c3 f0
          refine (rround_any ((blk a b l k).1, (blk a b l k).2.1, (blk a b l k).2.2.1, (blk a b l k).2.2.2 ^^^ m') _).mono ?_
          rintro e w1 ⟨rfl, hb⟩
          have HB1 := Lib.hid hb
          clear hb
          generalize hr : rnd ((blk a b l k).1, (blk a b l k).2.1, (blk a b l k).2.2.1, (blk a b l k).2.2.2 ^^^ m') = r1
          have HR1 := Lib.hid hr
          clear hr
          go_wp2_with fail
          refine (rround_any r1 _).mono ?_
          rintro e w2 ⟨rfl, hb⟩
          have HB2 := Lib.hid hb
          clear hb
          generalize hr : rnd r1 = r2
          have HR2 := Lib.hid hr
          clear hr
          have hs2 := (H1.out.callee HB1.out).callee HB2.out
          have H2 := Lib.hid hs2
          obtain ⟨d0, d1, d2, d3, f1⟩ := hs2.facts
          clear hs2
          go_wp2_with fail
          go_roundw
          case rel =>
            refine ⟨k + 1, by omega, by go_num, ?_⟩
            have e : blk a b l (k + 1) = (r2.1 ^^^ m', r2.2) := by rw [blk, ← hM.out, wordS_eq, HR1.out, HR2.out]
            rw [e]
            exact ((((H2.out.set0 _).set1 _).set2 _).set3 _).set0 _
          case measure => simp [intOf]; omega
    · have h8 : ¬ (8 : Int) ≤ (n : Int) - 8 * (k : Int) := by omega
      have h9 : (n : Int) - 8 * (k : Int) < 8 := by omega
      have hnk : (n : Int) - 8 * (k : Int) = ((n - 8 * k : Nat) : Int) := by omega
      go_wp2_with fail
      go_loop [7, 9] (fun m i => ∃ j : Nat, j ≤ n - 8 * k ∧ i = .int .i64 j ∧ ∃ m' : UInt64, m = .int .u64 (T64 m') ∧ Hid (m' = numTo (l.drop (8 * k)) j)) (fun _ i => (n - 8 * k) - (intOf i).toNat)
      case atStart => exact ⟨0, by omega, rfl, 0, rfl, rfl⟩
      case round =>
        obtain ⟨j, hj, rfl, m', rfl, HM⟩ := hrel
        by_cases hjl : j < n - 8 * k
        · have hk' : 8 * k + j < l.length := by have := HN.out; omega
          obtain ⟨bb, o, rfl, hx⟩ := bytes_at HC1.out (8 * k + j) hk'
          have hs := u64_shlv l[8 * k + j].toUInt64 (8 * j) (by omega)
          go_wp2_with fail
          go_round
          case rel => exact ⟨j + 1, by omega, by go_num, _, rfl, (by show _ = numTo _ (j + 1); rw [HM.out]; simp [numTo, hk'])⟩
          case measure => simp [intOf]; omega
        · have hM : Hid (m' = num (l.drop (8 * k))) := by
            show _ = _; rw [HM.out, show j = (l.drop (8 * k)).length by rw [List.length_drop]; have := HN.out; omega]; rfl
          have hK : Hid (k = l.length / 8) := by show k = _; have := HN.out; omega
          have hw : IntKind.u64.wrap ((n : Int) % 256 * 72057594037927936) = T64 (UInt64.ofNat n <<< 56) := by have := shl56_mod n; simpa using this
          go_wp2_with fail
          generalize hm2 : m' ||| UInt64.ofNat n <<< 56 = m2
          have HM2 := Lib.hid hm2
          clear hm2
          have H1 := Lib.hid (HS.out.set3 ((blk a b l k).2.2.2 ^^^ m2))
          clear c0 c1 c2 c3 f0
          refine (rround_any ((blk a b l k).1, (blk a b l k).2.1, (blk a b l k).2.2.1, (blk a b l k).2.2.2 ^^^ m2) _).mono ?_
          rintro e w1 ⟨rfl, hb⟩
          have HB1 := Lib.hid hb
          clear hb
          generalize hr : rnd ((blk a b l k).1, (blk a b l k).2.1, (blk a b l k).2.2.1, (blk a b l k).2.2.2 ^^^ m2) = r1
          have HR1 := Lib.hid hr
          clear hr
          go_wp2_with fail
          refine (rround_any r1 _).mono ?_
          rintro e w2 ⟨rfl, hb⟩
          have HB2 := Lib.hid hb
          clear hb
          generalize hr : rnd r1 = r2
          have HR2 := Lib.hid hr
          clear hr
          have hs2 := (H1.out.callee HB1.out).callee HB2.out
          have H2 := Lib.hid hs2
          obtain ⟨d0, d1, d2, d3, f1⟩ := hs2.facts
          clear hs2
          go_upto_region 17 with (fail)
          refine wp_abs (S4g 56 w · (w.heap.size + 1) (r2.1 ^^^ m2) r2.2.1 (r2.2.2.1 ^^^ 255) r2.2.2.2) ((((((H2.out.set0 _).set1 _).set2 _).set3 _).set0 _).set2 _) ?_
          clear d0 d1 d2 d3 f1
          intro wy hs3
          have H3 := Lib.hid hs3
          obtain ⟨d0, d1, d2, d3, f1⟩ := hs3.facts
          clear hs3
          go_wp2_with fail
          clear d0 d1 d2 d3 f1
          refine (rround_any (r2.1 ^^^ m2, r2.2.1, r2.2.2.1 ^^^ 255, r2.2.2.2) _).mono ?_
          rintro e w3 ⟨rfl, hb⟩
          have HB3 := Lib.hid hb
          clear hb
          generalize hr : rnd (r2.1 ^^^ m2, r2.2.1, r2.2.2.1 ^^^ 255, r2.2.2.2) = r3
          have HR3 := Lib.hid hr
          clear hr
          go_wp2_with fail
          refine (rround_any r3 _).mono ?_
          rintro e w4 ⟨rfl, hb⟩
          have HB4 := Lib.hid hb
          clear hb
          generalize hr : rnd r3 = r4
          have HR4 := Lib.hid hr
          clear hr
          go_wp2_with fail
          refine (rround_any r4 _).mono ?_
          rintro e w5 ⟨rfl, hb⟩
          have HB5 := Lib.hid hb
          clear hb
          generalize hr : rnd r4 = r5
          have HR5 := Lib.hid hr
          clear hr
          go_wp2_with fail
          refine (rround_any r5 _).mono ?_
          rintro e w6 ⟨rfl, hb⟩
          have HB6 := Lib.hid hb
          clear hb
          generalize hr : rnd r5 = r6
          have HR6 := Lib.hid hr
          clear hr
          have hs6 := (((H3.out.callee HB3.out).callee HB4.out).callee HB5.out).callee HB6.out
          have H6 := Lib.hid hs6
          obtain ⟨d0, d1, d2, d3, f1⟩ := hs6.facts
          clear hs6
          go_wp2_with fail
          go_ret
          refine ⟨ret_eq ?_, ?_⟩
          · show Value.int .u64 (T64 (r6.1 ^^^ r6.2.1 ^^^ r6.2.2.1 ^^^ r6.2.2.2)) = _
            have e2 : wordS (blk a b l k) m2 = (r2.1 ^^^ m2, r2.2) := by rw [wordS_eq, HR1.out, HR2.out]
            have e6 : rnds 4 (r2.1 ^^^ m2, r2.2.1, r2.2.2.1 ^^^ 255, r2.2.2.2) = r6 := by
              rw [← HR6.out, ← HR5.out, ← HR4.out, ← HR3.out]; exact rnds4 _
            rw [sip, sipEnd, ← hK.out, ← hM.out, ← HN.out, HM2.out, e2, e6]
          · exact (((((H6.out.set0 _).set1 _).set2 _).set3 _).only).toBelow (Nat.le_refl _) (by omega)
end Go.Proofs.Ytkkcjnhochdpgaa
