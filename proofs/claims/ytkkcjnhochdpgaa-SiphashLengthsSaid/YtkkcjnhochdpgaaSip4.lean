/- SipHash of texts. -/
import Derived.Test.YtkkcjnhochdpgaaSip3
import Derived.Test.YtkkcjnhochdpgaaMem
namespace Go.Proofs.Ytkkcjnhochdpgaa
open Go.RowKit

/-- A part: its length in two bytes, then the part. -/
def part1 (t : List UInt8) : List UInt8 := UInt8.ofNat (t.length / 256) :: UInt8.ofNat t.length :: t
def partsOf (ss : List ByteArray) : List UInt8 := ss.flatMap fun s => part1 (s.data.toList.take 65535)
theorem Try.infoU8 : (Try.prog.info? 5).map (fun i => (i.zero, i.size, i.bytes)) = some (some (.int .u8 0), 1, 1) := by kernel_rfl
theorem partsOf_le (ss : List ByteArray) : (partsOf ss).length ≤ 65537 * ss.length := by
  induction ss with
  | nil => simp [partsOf]
  | cons s ss ih => simp only [partsOf, List.flatMap_cons, List.length_append, part1, List.length_cons, List.length_take] at *; omega
theorem partsOf_snoc (ss : List ByteArray) (k : Nat) (h : k < ss.length) : partsOf (ss.take (k + 1)) = partsOf (ss.take k) ++ part1 (ss[k].data.toList.take 65535) := by
  unfold partsOf; rw [List.take_succ_eq_append_getElem h, List.flatMap_append, List.flatMap_singleton]
theorem u8_hi (m : Nat) (h : m ≤ 65535) : (m : Int) / 256 = T8 (UInt8.ofNat (m / 256)) := by unfold T8; rw [UInt8.toNat_ofNat']; omega
theorem u8_lo (m : Nat) : (m : Int) % 256 = T8 (UInt8.ofNat m) := by unfold T8; rw [UInt8.toNat_ofNat']; omega
theorem bytesV_length (l : List UInt8) : (bytesV l).length = l.length := by simp [bytesV]
theorem bytesV_append (l l' : List UInt8) : bytesV (l ++ l') = bytesV l ++ bytesV l' := by simp [bytesV]
theorem bytesV_one (l : List UInt8) : ∀ u ∈ bytesV l, u.oneCell' = true := by
  intro u hu; obtain ⟨_, _, rfl⟩ := List.mem_map.1 hu; rfl
set_option maxHeartbeats 1600000 in
theorem parts_any (a b : UInt64) (q : Option Addr) (n c : Nat) (ss : List ByteArray) (hn : n = ss.length) (hl : n ≤ 1000) (w : World) (hc : Cells w q (strV ss)) :
    Calls Try.prog 14 #[.agg #[.int .u64 (T64 a), .int .u64 (T64 b)], .slice q n c] w fun e w' => e = .returned (.int .u64 (T64 (sip a b (partsOf ss)))) ∧ Below w.heap.size w w' := by
  obtain ⟨i0, hi0, hz0, hz1, hz2⟩ := info_parts Try.infoU8
  have HC := Lib.hid hc
  have HN := Lib.hid hn
  clear hc hn
  go_enter Try.func14, Try.ntmps14
  go_wp2
  go_loopw [5, 7, 10] (fun v s i wr => ∃ k : Nat, k ≤ n ∧ i = .int .i64 k ∧ Hid (wr.ownsRow (w.heap.size + 1) 5 1 v (bytesV (partsOf (ss.take k))).length (bytesV (partsOf (ss.take k)))) ∧ Hid (Below (w.heap.size + 1) (w.alloc (.cells #[.int .u64 (T64 a), .int .u64 (T64 b)] 29)) wr)) (fun _ _ i _ => n - (intOf i).toNat)
  case atStart => exact ⟨0, by omega, rfl, World.ownsRow_nil _ _ _ _, Below.refl _ _⟩
  case round =>
    obtain ⟨k, hk, rfl, HO, HB⟩ := hrel
    have hsz : w.heap.size + 1 ≤ wr.heap.size := by have := HB.out.size; simpa using this
    have hB : Hid (Below w.heap.size w wr) := ((Below.refl _ w).alloc (Nat.le_refl _) _).trans (HB.out.mono (by omega))
    by_cases hlt : k < n
    · have hk' : k < ss.length := by have := HN.out; omega
      obtain ⟨bb, o, rfl, hx⟩ := str_at (HC.out.below hB.out) k hk'
      generalize hs : ss[k] = s at hx
      have HP : Hid (partsOf (ss.take (k + 1)) = partsOf (ss.take k) ++ part1 (s.data.toList.take 65535)) := by show _ = _; rw [partsOf_snoc _ _ hk', hs]
      clear hs
      have hpl : (bytesV (partsOf (ss.take k))).length ≤ 65537 * 1000 := by
        rw [bytesV_length]; have := partsOf_le (ss.take k); have h2 : (ss.take k).length ≤ k := List.length_take_le _ _; omega
      by_cases hlen : s.size ≤ 65535
      · obtain ⟨t, rfl⟩ : ∃ t, s = t := ⟨_, rfl⟩
        have htl : Hid (s.data.toList = s.data.toList.take 65535) := (List.take_of_length_le (by simpa using hlen)).symm
        have hts : s.size ≤ 65535 := hlen
        have e1 := u8_hi s.size hlen
        have e2 := u8_lo s.size
        go_wp2_with (first
          | (at_builtin; go_loud (refine wpList_app rfl (.tmp 19) (.tmp 27) 32 rfl (w.heap.size + 1) 5 i0 (.int .u8 0) 1 Try.underlying32 hi0 hz0 hz1 hz2 rfl _ (bytesV (partsOf (ss.take k))) rfl (HO.out.alloc _) _ 2 2 (bytesV [UInt8.ofNat (s.size / 256), UInt8.ofNat s.size]) rfl rfl (cells_new _ (bytesV [UInt8.ofNat (s.size / 256), UInt8.ofNat s.size]) _ _) (bytesV_one _) (by rw [bytesV_length [_, _]]; simp only [List.length_cons, List.length_nil]; omega) (by rw [bytesV_length [_, _]]; simp only [List.length_cons, List.length_nil]; omega) (by simp; omega) ?_); intro v1 w1 hown1 hb1 _ _; have HO1 := Lib.hid hown1; have HB1 := Lib.hid (((HB.out.alloc hsz _).trans hb1)); clear hown1 hb1)
          | (at_builtin; go_loud (refine wpList_appStr rfl (.tmp 29) (.tmp 30) 32 9 rfl (w.heap.size + 1) 5 i0 Try.underlying32 Try.underlying9 hi0 hz0 hz1 hz2 _ _ rfl HO1.out s rfl (by rw [List.length_append, bytesV_length [_, _]]; simp only [List.length_cons, List.length_nil]; omega) (Nat.le_trans (by simp) HB1.out.size) ?_); intro v2 w2 hown2 hb2 _; have HO2 := Lib.hid hown2; have HB2 := Lib.hid (HB1.out.trans hb2); clear hown2 hb2))
        go_roundw
        case rel =>
          refine ⟨k + 1, by omega, by go_num, ?_, HB2.out⟩
          have e : bytesV (partsOf (ss.take (k + 1))) = bytesV (partsOf (ss.take k)) ++ bytesV [UInt8.ofNat (s.size / 256), UInt8.ofNat s.size] ++ s.data.toList.map fun b => Value.int .u8 (T8 b) := by
            rw [HP.out, bytesV_append, List.append_assoc, ← htl.out]
            have hz : s.data.toList.length = s.size := by simp
            simp [part1, bytesV]
          rw [e]; exact HO2.out
        case measure => simp [intOf]; omega
      · obtain ⟨t, ht⟩ : ∃ t, s.extract 0 65535 = t := ⟨_, rfl⟩
        have htl : Hid (t.data.toList = s.data.toList.take 65535) := by show _ = _; rw [← ht]; simp
        have hts : t.size ≤ 65535 := by rw [← ht]; simp; omega
        have e1 := u8_hi t.size hts
        have e2 := u8_lo t.size
        go_wp2_with (first
          | (at_builtin; go_loud (refine wpList_app rfl (.tmp 19) (.tmp 27) 32 rfl (w.heap.size + 1) 5 i0 (.int .u8 0) 1 Try.underlying32 hi0 hz0 hz1 hz2 rfl _ (bytesV (partsOf (ss.take k))) rfl (HO.out.alloc _) _ 2 2 (bytesV [UInt8.ofNat (t.size / 256), UInt8.ofNat t.size]) rfl rfl (cells_new _ (bytesV [UInt8.ofNat (t.size / 256), UInt8.ofNat t.size]) _ _) (bytesV_one _) (by rw [bytesV_length [_, _]]; simp only [List.length_cons, List.length_nil]; omega) (by rw [bytesV_length [_, _]]; simp only [List.length_cons, List.length_nil]; omega) (by simp; omega) ?_); intro v1 w1 hown1 hb1 _ _; have HO1 := Lib.hid hown1; have HB1 := Lib.hid (((HB.out.alloc hsz _).trans hb1)); clear hown1 hb1)
          | (at_builtin; go_loud (refine wpList_appStr rfl (.tmp 29) (.tmp 30) 32 9 rfl (w.heap.size + 1) 5 i0 Try.underlying32 Try.underlying9 hi0 hz0 hz1 hz2 _ _ rfl HO1.out t rfl (by rw [List.length_append, bytesV_length [_, _]]; simp only [List.length_cons, List.length_nil]; omega) (Nat.le_trans (by simp) HB1.out.size) ?_); intro v2 w2 hown2 hb2 _; have HO2 := Lib.hid hown2; have HB2 := Lib.hid (HB1.out.trans hb2); clear hown2 hb2))
        go_roundw
        case rel =>
          refine ⟨k + 1, by omega, by go_num, ?_, HB2.out⟩
          have e : bytesV (partsOf (ss.take (k + 1))) = bytesV (partsOf (ss.take k)) ++ bytesV [UInt8.ofNat (t.size / 256), UInt8.ofNat t.size] ++ t.data.toList.map fun b => Value.int .u8 (T8 b) := by
            rw [HP.out, bytesV_append, List.append_assoc, ← htl.out]
            have hz : t.data.toList.length = t.size := by simp
            simp [part1, bytesV]
          rw [e]; exact HO2.out
        case measure => simp [intOf]; omega
    · have HK := Lib.hid (show k = n by omega)
      have ck0 : wr.cell? ⟨w.heap.size, 0, none⟩ = some (.int .u64 (T64 a)) := by rw [HB.out.cell (by simp)]; exact cell_at (heap_new _ _) 0
      have ck1 : wr.cell? ⟨w.heap.size, 1, none⟩ = some (.int .u64 (T64 b)) := by rw [HB.out.cell (by simp)]; exact cell_at (heap_new _ _) 1
      obtain ⟨q', c', rfl, hn', hc', hm', HC'⟩ := own_cells HO.out
      have HC1 := Lib.hid HC'
      have hE : Hid (ss.take k = ss) := by show _ = _; rw [HK.out, HN.out]; exact List.take_length ..
      clear HC'
      go_wp2_with fail
      refine (sum_any a b q' _ c' (partsOf (ss.take k)) (by rw [bytesV_length]) hc' hm' _ HC1.out).mono ?_
      rintro e w' ⟨rfl, hb⟩
      have HB1 := Lib.hid hb
      clear hb
      go_wp2_with fail
      go_ret
      exact ⟨ret_eq (by show Value.int .u64 (T64 _) = _; rw [hE.out]), hB.out.trans (HB1.out.mono (by omega))⟩
end Go.Proofs.Ytkkcjnhochdpgaa
