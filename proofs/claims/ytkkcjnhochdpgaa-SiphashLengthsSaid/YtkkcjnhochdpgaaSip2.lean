/- SipHash: what the rounds compute. -/
import Derived.Test.YtkkcjnhochdpgaaSip
namespace Go.Proofs.Ytkkcjnhochdpgaa
open Go.RowKit

/-- Block p holds a state; of the blocks of w0 only p has changed. -/
structure S4g (E : TypeId) (w0 w : World) (p : Nat) (a b c d : UInt64) : Prop where
  blk : w.heap[p]? = some (.cells #[.int .u64 (T64 a), .int .u64 (T64 b), .int .u64 (T64 c), .int .u64 (T64 d)] E (0, 0))
  only : Only p w0 w
abbrev S4 := S4g 50
namespace S4g
variable {E : TypeId}
variable {w0 w : World} {p : Nat} {a b c d : UInt64}
theorem facts (h : S4g E w0 w p a b c d) : w.cell? ⟨p, 0, none⟩ = some (.int .u64 (T64 a)) ∧ w.cell? ⟨p, 1, none⟩ = some (.int .u64 (T64 b)) ∧ w.cell? ⟨p, 2, none⟩ = some (.int .u64 (T64 c)) ∧
    w.cell? ⟨p, 3, none⟩ = some (.int .u64 (T64 d)) ∧ ∀ k, w.frozen? ⟨p, k, none⟩ = false :=
  ⟨cell_at h.blk 0, cell_at h.blk 1, cell_at h.blk 2, cell_at h.blk 3, frozen_at h.blk⟩
theorem drewN (h : S4g E w0 w p a b c d) (n : Nat) : S4g E w0 (w.drewN n) p a b c d := ⟨h.blk, h.only.drewN n⟩
theorem set0 (h : S4g E w0 w p a b c d) (x : UInt64) : S4g E w0 (w.setCell ⟨p, 0, none⟩ (.int .u64 (T64 x))) p x b c d := ⟨heap_setCell_eq h.blk _ _, h.only.setCell _ _⟩
theorem set1 (h : S4g E w0 w p a b c d) (x : UInt64) : S4g E w0 (w.setCell ⟨p, 1, none⟩ (.int .u64 (T64 x))) p a x c d := ⟨heap_setCell_eq h.blk _ _, h.only.setCell _ _⟩
theorem set2 (h : S4g E w0 w p a b c d) (x : UInt64) : S4g E w0 (w.setCell ⟨p, 2, none⟩ (.int .u64 (T64 x))) p a b x d := ⟨heap_setCell_eq h.blk _ _, h.only.setCell _ _⟩
theorem set3 (h : S4g E w0 w p a b c d) (x : UInt64) : S4g E w0 (w.setCell ⟨p, 3, none⟩ (.int .u64 (T64 x))) p a b c x := ⟨heap_setCell_eq h.blk _ _, h.only.setCell _ _⟩
theorem callee {w' : World} (h : S4g E w0 w p a b c d) (k : Below w.heap.size w w') : S4g E w0 w' p a b c d := ⟨(k.block p (lt_of_heap h.blk)).trans h.blk, h.only.callee k⟩
end S4g

set_option maxHeartbeats 1600000 in
set_option maxRecDepth 100000 in
theorem rounds_any (p : Nat) (n : Nat) (hn : n ≤ 4) (s : St) (w : World) (hp : S4 w w p s.1 s.2.1 s.2.2.1 s.2.2.2) :
    Calls Try.prog 26 #[.pointer (some ⟨p, 0, none⟩), .int .i64 n] w fun e w' => e = .returned (.tuple #[]) ∧
      S4 w w' p (rnds n s).1 (rnds n s).2.1 (rnds n s).2.2.1 (rnds n s).2.2.2 := by
  have HP := Lib.hid hp
  clear hp
  go_enter Try.func26, Try.ntmps26
  go_wp2
  go_loopw [5] (fun i wr => ∃ k : Nat, k ≤ n ∧ i = .int .i64 k ∧ ∃ t : St, Hid (rnds (n - k) t = rnds n s) ∧ S4 w wr p t.1 t.2.1 t.2.2.1 t.2.2.2) (fun i _ => n - (intOf i).toNat)
  case atStart => exact ⟨0, by omega, rfl, s, rfl, HP.out⟩
  case round =>
    obtain ⟨k, hk, rfl, ⟨a, b, c, d⟩, HT, hs⟩ := hrel
    have H := Lib.hid hs
    obtain ⟨c0, c1, c2, c3, f0⟩ := hs.facts
    clear hs
    by_cases hlt : k < n
    · skip
      go_wp2_with (first | (go_at_call_of 31 (Value.int IntKind.i64 13); refine (rotp_13 _ _).mono ?_; rintro e w' ⟨rfl, rfl⟩) | (go_at_call_of 31 (Value.int IntKind.i64 16); refine (rotp_16 _ _).mono ?_; rintro e w' ⟨rfl, rfl⟩) | (go_at_call_of 31 (Value.int IntKind.i64 17); refine (rotp_17 _ _).mono ?_; rintro e w' ⟨rfl, rfl⟩) | (go_at_call_of 31 (Value.int IntKind.i64 21); refine (rotp_21 _ _).mono ?_; rintro e w' ⟨rfl, rfl⟩) | (go_at_call_of 31 (Value.int IntKind.i64 32); refine (rotp_32 _ _).mono ?_; rintro e w' ⟨rfl, rfl⟩))
      refine wp_region_qtail 11 (by kernel_rfl) (by kernel_rfl) ?_
      simp only [List.take_succ_cons, List.take_zero, List.drop_succ_cons, List.drop_zero]
      repeat (quiet_step ((first | (go_at_call_of 31 (Value.int IntKind.i64 13); exact quiet_of_eq (rotp_13 _ _)) | (go_at_call_of 31 (Value.int IntKind.i64 16); exact quiet_of_eq (rotp_16 _ _)) | (go_at_call_of 31 (Value.int IntKind.i64 17); exact quiet_of_eq (rotp_17 _ _)) | (go_at_call_of 31 (Value.int IntKind.i64 21); exact quiet_of_eq (rotp_21 _ _)) | (go_at_call_of 31 (Value.int IntKind.i64 32); exact quiet_of_eq (rotp_32 _ _)))))
      refine wpQuiet_nil ?_
      rintro _ ⟨nq, rfl⟩
      go_wp2_with (first | (go_at_call_of 31 (Value.int IntKind.i64 13); refine (rotp_13 _ _).mono ?_; rintro e w' ⟨rfl, rfl⟩) | (go_at_call_of 31 (Value.int IntKind.i64 16); refine (rotp_16 _ _).mono ?_; rintro e w' ⟨rfl, rfl⟩) | (go_at_call_of 31 (Value.int IntKind.i64 17); refine (rotp_17 _ _).mono ?_; rintro e w' ⟨rfl, rfl⟩) | (go_at_call_of 31 (Value.int IntKind.i64 21); refine (rotp_21 _ _).mono ?_; rintro e w' ⟨rfl, rfl⟩) | (go_at_call_of 31 (Value.int IntKind.i64 32); refine (rotp_32 _ _).mono ?_; rintro e w' ⟨rfl, rfl⟩))
      refine wp_abs (S4 w · p _ _ _ _) ((H.out.drewN nq).set0 _) ?_
      clear H c0 c1 c2 c3 f0
      intro wr hs
      have H := Lib.hid hs
      obtain ⟨c0, c1, c2, c3, f0⟩ := hs.facts
      clear hs
      refine wp_region_qtail 13 (by kernel_rfl) (by kernel_rfl) ?_
      simp only [List.take_succ_cons, List.take_zero, List.drop_succ_cons, List.drop_zero]
      repeat (quiet_step ((first | (go_at_call_of 31 (Value.int IntKind.i64 13); exact quiet_of_eq (rotp_13 _ _)) | (go_at_call_of 31 (Value.int IntKind.i64 16); exact quiet_of_eq (rotp_16 _ _)) | (go_at_call_of 31 (Value.int IntKind.i64 17); exact quiet_of_eq (rotp_17 _ _)) | (go_at_call_of 31 (Value.int IntKind.i64 21); exact quiet_of_eq (rotp_21 _ _)) | (go_at_call_of 31 (Value.int IntKind.i64 32); exact quiet_of_eq (rotp_32 _ _)))))
      refine wpQuiet_nil ?_
      rintro _ ⟨nq, rfl⟩
      go_wp2_with (first | (go_at_call_of 31 (Value.int IntKind.i64 13); refine (rotp_13 _ _).mono ?_; rintro e w' ⟨rfl, rfl⟩) | (go_at_call_of 31 (Value.int IntKind.i64 16); refine (rotp_16 _ _).mono ?_; rintro e w' ⟨rfl, rfl⟩) | (go_at_call_of 31 (Value.int IntKind.i64 17); refine (rotp_17 _ _).mono ?_; rintro e w' ⟨rfl, rfl⟩) | (go_at_call_of 31 (Value.int IntKind.i64 21); refine (rotp_21 _ _).mono ?_; rintro e w' ⟨rfl, rfl⟩) | (go_at_call_of 31 (Value.int IntKind.i64 32); refine (rotp_32 _ _).mono ?_; rintro e w' ⟨rfl, rfl⟩))
      refine wp_abs (S4 w · p _ _ _ _) (((H.out.drewN nq).set1 _).set0 _) ?_
      clear H c0 c1 c2 c3 f0
      intro wr hs
      have H := Lib.hid hs
      obtain ⟨c0, c1, c2, c3, f0⟩ := hs.facts
      clear hs
      refine wp_region_qtail 11 (by kernel_rfl) (by kernel_rfl) ?_
      simp only [List.take_succ_cons, List.take_zero, List.drop_succ_cons, List.drop_zero]
      repeat (quiet_step ((first | (go_at_call_of 31 (Value.int IntKind.i64 13); exact quiet_of_eq (rotp_13 _ _)) | (go_at_call_of 31 (Value.int IntKind.i64 16); exact quiet_of_eq (rotp_16 _ _)) | (go_at_call_of 31 (Value.int IntKind.i64 17); exact quiet_of_eq (rotp_17 _ _)) | (go_at_call_of 31 (Value.int IntKind.i64 21); exact quiet_of_eq (rotp_21 _ _)) | (go_at_call_of 31 (Value.int IntKind.i64 32); exact quiet_of_eq (rotp_32 _ _)))))
      refine wpQuiet_nil ?_
      rintro _ ⟨nq, rfl⟩
      go_wp2_with (first | (go_at_call_of 31 (Value.int IntKind.i64 13); refine (rotp_13 _ _).mono ?_; rintro e w' ⟨rfl, rfl⟩) | (go_at_call_of 31 (Value.int IntKind.i64 16); refine (rotp_16 _ _).mono ?_; rintro e w' ⟨rfl, rfl⟩) | (go_at_call_of 31 (Value.int IntKind.i64 17); refine (rotp_17 _ _).mono ?_; rintro e w' ⟨rfl, rfl⟩) | (go_at_call_of 31 (Value.int IntKind.i64 21); refine (rotp_21 _ _).mono ?_; rintro e w' ⟨rfl, rfl⟩) | (go_at_call_of 31 (Value.int IntKind.i64 32); refine (rotp_32 _ _).mono ?_; rintro e w' ⟨rfl, rfl⟩))
      refine wp_abs (S4 w · p _ _ _ _) ((H.out.drewN nq).set2 _) ?_
      clear H c0 c1 c2 c3 f0
      intro wr hs
      have H := Lib.hid hs
      obtain ⟨c0, c1, c2, c3, f0⟩ := hs.facts
      clear hs
      refine wp_region_qtail 13 (by kernel_rfl) (by kernel_rfl) ?_
      simp only [List.take_succ_cons, List.take_zero, List.drop_succ_cons, List.drop_zero]
      repeat (quiet_step ((first | (go_at_call_of 31 (Value.int IntKind.i64 13); exact quiet_of_eq (rotp_13 _ _)) | (go_at_call_of 31 (Value.int IntKind.i64 16); exact quiet_of_eq (rotp_16 _ _)) | (go_at_call_of 31 (Value.int IntKind.i64 17); exact quiet_of_eq (rotp_17 _ _)) | (go_at_call_of 31 (Value.int IntKind.i64 21); exact quiet_of_eq (rotp_21 _ _)) | (go_at_call_of 31 (Value.int IntKind.i64 32); exact quiet_of_eq (rotp_32 _ _)))))
      refine wpQuiet_nil ?_
      rintro _ ⟨nq, rfl⟩
      go_wp2_with (first | (go_at_call_of 31 (Value.int IntKind.i64 13); refine (rotp_13 _ _).mono ?_; rintro e w' ⟨rfl, rfl⟩) | (go_at_call_of 31 (Value.int IntKind.i64 16); refine (rotp_16 _ _).mono ?_; rintro e w' ⟨rfl, rfl⟩) | (go_at_call_of 31 (Value.int IntKind.i64 17); refine (rotp_17 _ _).mono ?_; rintro e w' ⟨rfl, rfl⟩) | (go_at_call_of 31 (Value.int IntKind.i64 21); refine (rotp_21 _ _).mono ?_; rintro e w' ⟨rfl, rfl⟩) | (go_at_call_of 31 (Value.int IntKind.i64 32); refine (rotp_32 _ _).mono ?_; rintro e w' ⟨rfl, rfl⟩))
      refine wp_abs (S4 w · p _ _ _ _) ((H.out.drewN nq).set3 _) ?_
      clear H c0 c1 c2 c3 f0
      intro wr hs
      have H := Lib.hid hs
      obtain ⟨c0, c1, c2, c3, f0⟩ := hs.facts
      clear hs
      refine wp_region_qtail 11 (by kernel_rfl) (by kernel_rfl) ?_
      simp only [List.take_succ_cons, List.take_zero, List.drop_succ_cons, List.drop_zero]
      repeat (quiet_step ((first | (go_at_call_of 31 (Value.int IntKind.i64 13); exact quiet_of_eq (rotp_13 _ _)) | (go_at_call_of 31 (Value.int IntKind.i64 16); exact quiet_of_eq (rotp_16 _ _)) | (go_at_call_of 31 (Value.int IntKind.i64 17); exact quiet_of_eq (rotp_17 _ _)) | (go_at_call_of 31 (Value.int IntKind.i64 21); exact quiet_of_eq (rotp_21 _ _)) | (go_at_call_of 31 (Value.int IntKind.i64 32); exact quiet_of_eq (rotp_32 _ _)))))
      refine wpQuiet_nil ?_
      rintro _ ⟨nq, rfl⟩
      go_wp2_with (first | (go_at_call_of 31 (Value.int IntKind.i64 13); refine (rotp_13 _ _).mono ?_; rintro e w' ⟨rfl, rfl⟩) | (go_at_call_of 31 (Value.int IntKind.i64 16); refine (rotp_16 _ _).mono ?_; rintro e w' ⟨rfl, rfl⟩) | (go_at_call_of 31 (Value.int IntKind.i64 17); refine (rotp_17 _ _).mono ?_; rintro e w' ⟨rfl, rfl⟩) | (go_at_call_of 31 (Value.int IntKind.i64 21); refine (rotp_21 _ _).mono ?_; rintro e w' ⟨rfl, rfl⟩) | (go_at_call_of 31 (Value.int IntKind.i64 32); refine (rotp_32 _ _).mono ?_; rintro e w' ⟨rfl, rfl⟩))
      refine wp_abs (S4 w · p _ _ _ _) ((H.out.drewN nq).set0 _) ?_
      clear H c0 c1 c2 c3 f0
      intro wr hs
      have H := Lib.hid hs
      obtain ⟨c0, c1, c2, c3, f0⟩ := hs.facts
      clear hs
      refine wp_region_qtail 13 (by kernel_rfl) (by kernel_rfl) ?_
      simp only [List.take_succ_cons, List.take_zero, List.drop_succ_cons, List.drop_zero]
      repeat (quiet_step ((first | (go_at_call_of 31 (Value.int IntKind.i64 13); exact quiet_of_eq (rotp_13 _ _)) | (go_at_call_of 31 (Value.int IntKind.i64 16); exact quiet_of_eq (rotp_16 _ _)) | (go_at_call_of 31 (Value.int IntKind.i64 17); exact quiet_of_eq (rotp_17 _ _)) | (go_at_call_of 31 (Value.int IntKind.i64 21); exact quiet_of_eq (rotp_21 _ _)) | (go_at_call_of 31 (Value.int IntKind.i64 32); exact quiet_of_eq (rotp_32 _ _)))))
      refine wpQuiet_nil ?_
      rintro _ ⟨nq, rfl⟩
      go_wp2_with (first | (go_at_call_of 31 (Value.int IntKind.i64 13); refine (rotp_13 _ _).mono ?_; rintro e w' ⟨rfl, rfl⟩) | (go_at_call_of 31 (Value.int IntKind.i64 16); refine (rotp_16 _ _).mono ?_; rintro e w' ⟨rfl, rfl⟩) | (go_at_call_of 31 (Value.int IntKind.i64 17); refine (rotp_17 _ _).mono ?_; rintro e w' ⟨rfl, rfl⟩) | (go_at_call_of 31 (Value.int IntKind.i64 21); refine (rotp_21 _ _).mono ?_; rintro e w' ⟨rfl, rfl⟩) | (go_at_call_of 31 (Value.int IntKind.i64 32); refine (rotp_32 _ _).mono ?_; rintro e w' ⟨rfl, rfl⟩))
      refine wp_abs (S4 w · p _ _ _ _) ((H.out.drewN nq).set3 _) ?_
      clear H c0 c1 c2 c3 f0
      intro wr hs
      have H := Lib.hid hs
      obtain ⟨c0, c1, c2, c3, f0⟩ := hs.facts
      clear hs
      refine wp_region_qtail 11 (by kernel_rfl) (by kernel_rfl) ?_
      simp only [List.take_succ_cons, List.take_zero, List.drop_succ_cons, List.drop_zero]
      repeat (quiet_step ((first | (go_at_call_of 31 (Value.int IntKind.i64 13); exact quiet_of_eq (rotp_13 _ _)) | (go_at_call_of 31 (Value.int IntKind.i64 16); exact quiet_of_eq (rotp_16 _ _)) | (go_at_call_of 31 (Value.int IntKind.i64 17); exact quiet_of_eq (rotp_17 _ _)) | (go_at_call_of 31 (Value.int IntKind.i64 21); exact quiet_of_eq (rotp_21 _ _)) | (go_at_call_of 31 (Value.int IntKind.i64 32); exact quiet_of_eq (rotp_32 _ _)))))
      refine wpQuiet_nil ?_
      rintro _ ⟨nq, rfl⟩
      go_wp2_with (first | (go_at_call_of 31 (Value.int IntKind.i64 13); refine (rotp_13 _ _).mono ?_; rintro e w' ⟨rfl, rfl⟩) | (go_at_call_of 31 (Value.int IntKind.i64 16); refine (rotp_16 _ _).mono ?_; rintro e w' ⟨rfl, rfl⟩) | (go_at_call_of 31 (Value.int IntKind.i64 17); refine (rotp_17 _ _).mono ?_; rintro e w' ⟨rfl, rfl⟩) | (go_at_call_of 31 (Value.int IntKind.i64 21); refine (rotp_21 _ _).mono ?_; rintro e w' ⟨rfl, rfl⟩) | (go_at_call_of 31 (Value.int IntKind.i64 32); refine (rotp_32 _ _).mono ?_; rintro e w' ⟨rfl, rfl⟩))
      refine wp_abs (S4 w · p _ _ _ _) ((H.out.drewN nq).set2 _) ?_
      clear H c0 c1 c2 c3 f0
      intro wr hs
      have H := Lib.hid hs
      obtain ⟨c0, c1, c2, c3, f0⟩ := hs.facts
      clear hs
      refine wp_region_qtail 13 (by kernel_rfl) (by kernel_rfl) ?_
      simp only [List.take_succ_cons, List.take_zero, List.drop_succ_cons, List.drop_zero]
      repeat (quiet_step ((first | (go_at_call_of 31 (Value.int IntKind.i64 13); exact quiet_of_eq (rotp_13 _ _)) | (go_at_call_of 31 (Value.int IntKind.i64 16); exact quiet_of_eq (rotp_16 _ _)) | (go_at_call_of 31 (Value.int IntKind.i64 17); exact quiet_of_eq (rotp_17 _ _)) | (go_at_call_of 31 (Value.int IntKind.i64 21); exact quiet_of_eq (rotp_21 _ _)) | (go_at_call_of 31 (Value.int IntKind.i64 32); exact quiet_of_eq (rotp_32 _ _)))))
      refine wpQuiet_nil ?_
      rintro _ ⟨nq, rfl⟩
      go_wp2_with (first | (go_at_call_of 31 (Value.int IntKind.i64 13); refine (rotp_13 _ _).mono ?_; rintro e w' ⟨rfl, rfl⟩) | (go_at_call_of 31 (Value.int IntKind.i64 16); refine (rotp_16 _ _).mono ?_; rintro e w' ⟨rfl, rfl⟩) | (go_at_call_of 31 (Value.int IntKind.i64 17); refine (rotp_17 _ _).mono ?_; rintro e w' ⟨rfl, rfl⟩) | (go_at_call_of 31 (Value.int IntKind.i64 21); refine (rotp_21 _ _).mono ?_; rintro e w' ⟨rfl, rfl⟩) | (go_at_call_of 31 (Value.int IntKind.i64 32); refine (rotp_32 _ _).mono ?_; rintro e w' ⟨rfl, rfl⟩))
      go_roundw
      case rel => exact ⟨k + 1, by omega, by go_num, rnd (a, b, c, d), (by have := HT.out; rw [show n - k = (n - (k + 1)) + 1 by omega] at this; exact this), ((H.out.drewN nq).set1 _).set2 _⟩
      case measure => simp [intOf]; omega
    · have HK := Lib.hid (show n = k by omega)
      go_wp2
      go_end0
      have ht : rnds n s = (a, b, c, d) := by have := HT.out; rw [HK.out, Nat.sub_self] at this; rw [HK.out]; exact this.symm
      exact ⟨rfl, by rw [ht]; exact H.out⟩
end Go.Proofs.Ytkkcjnhochdpgaa
