/- SipHash: the walk of SiphashCut. -/
import Derived.Test.YtkkcjnhochdpgaaWalk08b
import Derived.Laws.IdiomStrings
namespace Go.Proofs.Ytkkcjnhochdpgaa
open Go.RowKit
set_option linter.constructorNameAsVariable false

theorem u8_of (x : Int) : ∃ y : UInt8, IntKind.u8.wrap x = T8 y := by
  refine ⟨UInt8.ofNat (IntKind.u8.wrap x).toNat, ?_⟩
  have h : IntKind.u8.wrap x = x % 256 := by simp [IntKind.wrap, IntKind.bits, IntKind.signed]
  unfold T8
  rw [UInt8.toNat_ofNat', h]
  omega
theorem own_made {w : World} {base g n : Nat} {e : TypeId} {xs : List Value} (h : w.ownsRow base e 1 (.slice (some ⟨g, 0, none⟩) n n) n xs) : xs.length = n ∧ w.heap[g]? = some (.cells xs.toArray e (0, 0)) := by
  have hl := own_len h
  refine ⟨hl.symm, ?_⟩
  rcases h.2 with ⟨h1, _⟩ | ⟨g', cap, cur, h1, _, hh, _, _, h4, h5⟩
  · cases h1
  · injection h1 with h1 _ h2
    injection h1 with h1
    injection h1 with h1
    subst h1; subst h2
    rw [hh]
    have : cur = xs.toArray := by
      apply Array.ext'
      rw [← h5]; simp; rw [List.take_of_length_le]; simp; omega
    rw [this]
theorem madeU8 (n : Nat) : (madeCells #[.int .u8 0] n).toList = bytesV (List.replicate n 0) := by
  apply List.ext_getElem
  · simp [madeCells, bytesV]
  · intro i h1 h2
    simp [madeCells, bytesV, Nat.mod_one]
    rfl
theorem bytes_set (l : List UInt8) (k : Nat) (y : UInt8) : (bytesV l).toArray.setIfInBounds k (.int .u8 (T8 y)) = (bytesV (l.set k y)).toArray := by
  simp [bytesV, List.map_set]
theorem cells_of_blk {w : World} {g : Nat} {e : TypeId} {l : List Value} {m : Nat × Nat} (h : w.heap[g]? = some (.cells l.toArray e m)) : Cells w (some ⟨g, 0, none⟩) l := fun i hi =>
  ⟨g, 0, rfl, by rw [cell_at h]; simp [hi]⟩
theorem partsOf_cut (s : ByteArray) : partsOf [s.extract 0 65535] = partsOf [s] := by
  simp [partsOf, List.take_take]

set_option maxHeartbeats 3200000 in
theorem cut_walk (a b : UInt64) (m : Nat) (w : World) (hm : m ≤ 255) :
    Calls Try.prog 4 #[.agg #[.int .u64 (T64 a), .int .u64 (T64 b)], .int .u8 (m : Int)] w fun e w' => e = .returned (.bool true) ∧ Below w.heap.size w w' := by
  obtain ⟨i0, hi0, hz0, hz1, hz2⟩ := info_parts Try.infoU8
  go_enter Try.func4, Try.ntmps4
  go_wp2_with fail
  refine (awake_any _).mono ?_
  rintro e w1 ⟨rfl, hb⟩
  have HB1 := Lib.hid hb
  clear hb
  go_wp2_with (at_make; go_loud (refine wpList_make_full _ rfl _ _ 32 rfl (w.heap.size + 1) 5 i0 (.int .u8 0) 1 Try.underlying32 hi0 hz0 hz1 _ _ _ _ (65535 + m) rfl rfl (by omega) (by omega) (by rw [hz2]; omega) (by unfold maxLen; omega) (by have := HB1.out.size; simp at this; omega) ?_); intro w2 hown hg)
  obtain ⟨hlen, hblk⟩ := own_made hown
  rw [Nat.mul_one, show (Value.int IntKind.u8 0).cells = #[.int .u8 0] from rfl, madeU8] at hblk
  have HK2 := Lib.hid hblk
  have HB2 : Hid (Below (w.heap.size + 1) (w.alloc (.cells #[.int .u64 (T64 a), .int .u64 (T64 b)] 29)) w2) := by
    have h := HB1.out
    rw [World.size_alloc] at h
    exact h.grown hg (by have := h.size; simpa using this) (by intro k hk; simp at hk)
  have hsz1 : w.heap.size + 1 ≤ w1.heap.size := by have := HB1.out.size; simpa using this
  have hlt2 := lt_of_heap hblk
  clear hown hg hlen hblk
  go_loopw [6, 16] (fun _ v16 wr => ∃ (k : Nat) (l : List UInt8), v16 = .int .i64 (k : Int) ∧ k ≤ 65535 + m ∧ l.length = 65535 + m ∧ Hid (wr.heap[w1.heap.size]? = some (.cells (bytesV l).toArray 5 (0, 0))) ∧ Hid (Only w1.heap.size w2 wr)) (fun _ v16 _ => 65535 + m - (intOf v16).toNat)
  case atStart => exact ⟨0, _, rfl, by omega, List.length_replicate .., HK2.out, Only.refl _ _⟩
  case round =>
    obtain ⟨k, l, rfl, hk, hl, HK, HO⟩ := hrel
    by_cases hlt : k < 65535 + m
    · have hlt' : (k : Int) < 65535 + (m : Int) := by omega
      have c0 : wr.cell? ⟨w1.heap.size, k, none⟩ = some (.int .u8 (T8 l[k])) := by rw [cell_at HK.out]; simp [bytesV, show k < l.length by omega]
      have f0 : wr.frozen? ⟨w1.heap.size, k, none⟩ = false := frozen_at HK.out k
      obtain ⟨y, hy⟩ := u8_of ((k : Int) * 7)
      go_wp2_with fail
      go_roundw
      case rel =>
        refine ⟨k + 1, l.set k y, by go_num, by omega, by simp [hl], ?_, HO.out.setCell _ _⟩
        have := heap_setCell_eq HK.out k (.int .u8 (T8 y))
        rw [bytes_set] at this
        exact this
      case measure => simp [intOf]; omega
    · have hlt' : ¬ (k : Int) < 65535 + (m : Int) := by omega
      have HKn := Lib.hid (show k = 65535 + m by omega)
      have kc := run_convert_bytes_back (P := Try.prog) wr 32 9 5 ⟨w1.heap.size, 0, none⟩ (65535 + m) l Try.underlying32 Try.underlying5 Try.underlying9 (fun j hj => by rw [Addr.add_lit, cell_at HK.out]; simp [bytesV, hj]; rfl)
      rw [hl] at kc
      generalize hs : (⟨l.toArray⟩ : ByteArray) = s at kc
      have hsz : s.size = 65535 + m := by rw [← hs]; simpa [ByteArray.size] using hl
      clear hs
      obtain ⟨t, ht⟩ : ∃ t, s.extract 0 65535 = t := ⟨_, rfl⟩
      have HP := Lib.hid (show partsOf [t] = partsOf [s] by rw [← ht]; exact partsOf_cut s)
      have h65 : (65535 : Int) ≤ (s.size : Int) := by omega
      have hlow : Hid (Below w.heap.size w wr) := ((Below.refl w.heap.size w).alloc (Nat.le_refl _) _).trans ((below_only HB2.out HO.out (by omega) hsz1).mono (by omega))
      have ck : ∀ o, wr.cell? ⟨w.heap.size, o, none⟩ = (w.alloc (.cells #[.int .u64 (T64 a), .int .u64 (T64 b)] 29)).cell? ⟨w.heap.size, o, none⟩ := fun o => (below_only HB2.out HO.out (by omega) hsz1).cell (p := ⟨w.heap.size, o, none⟩) (by simp)
      have ck0 : wr.cell? ⟨w.heap.size, 0, none⟩ = some (.int .u64 (T64 a)) := (ck 0).trans (cell_at (heap_new _ _) 0)
      have ck1 : wr.cell? ⟨w.heap.size, 1, none⟩ = some (.int .u64 (T64 b)) := (ck 1).trans (cell_at (heap_new _ _) 1)
      have hz : w.heap.size < wr.heap.size := by have := HO.out.size; omega
      clear ck
      go_wp2_with fail
      clear hsz1 hlt2 hsz hl hlt hlt' hk
      refine wp_rely 23 [is (.agg #[.int .u64 (T64 a), .int .u64 (T64 b)]), is (.string s), such (isCells 1 1 (strV [s])), is (.int .u64 (T64 (sip a b (partsOf [s])))), is (.agg #[.int .u64 (T64 a), .int .u64 (T64 b)]), is (.string s), is (.string (t)), such (isCells 1 1 (strV [t])), is (.int .u64 (T64 (sip a b (partsOf [s])))), is (.bool true), is (.bool true), is (.agg #[.int .u64 (T64 a), .int .u64 (T64 b)]), is (.string s), is (.string (t)), such (isCells 1 1 (strV [t])), is (.int .u64 (T64 (sip a b (partsOf [s])))), is (.agg #[.int .u64 (T64 a), .int .u64 (T64 b)]), is (.string s), such (isCells 1 1 (strV [s])), is (.int .u64 (T64 (sip a b (partsOf [s])))), is (.bool true), is (.bool true), is (.bool true)] (by kernel_rfl) (by kernel_rfl) (mono_cons (is_mono _) ( mono_cons (is_mono _) ( mono_cons (isCells_mono _ _ _) ( mono_cons (is_mono _) ( mono_cons (is_mono _) ( mono_cons (is_mono _) ( mono_cons (is_mono _) ( mono_cons (isCells_mono _ _ _) ( mono_cons (is_mono _) ( mono_cons (is_mono _) ( mono_cons (is_mono _) ( mono_cons (is_mono _) ( mono_cons (is_mono _) ( mono_cons (is_mono _) ( mono_cons (isCells_mono _ _ _) ( mono_cons (is_mono _) ( mono_cons (is_mono _) ( mono_cons (is_mono _) ( mono_cons (isCells_mono _ _ _) ( mono_cons (is_mono _) ( mono_cons (is_mono _) ( mono_cons (is_mono _) ( mono_cons (is_mono _) (mono_nil)))))))))))))))))))))))) ?_
      simp only [List.take_succ_cons, List.take_zero, List.drop_succ_cons, List.drop_zero]
      refine ⟨fun wk hE hF => ?_, ?_⟩
      · clear hF; have hcE := hE.cells.1; have hfE := hE.cells.2; have a0 := (hcE _ 0 hz).trans ck0; have a1 := (hcE _ 1 hz).trans ck1; clear hcE hfE
        go_simp
        exact ⟨rfl, Grow.refl _⟩
      change Steps _ _ _ _ _ _ _ _ _
      simp only [put_lit, List.set, List.nil_append]
      refine ⟨fun wk hE hF => ?_, ?_⟩
      · clear hF; have hcE := hE.cells.1; have hfE := hE.cells.2; have a0 := (hcE _ 0 hz).trans ck0; have a1 := (hcE _ 1 hz).trans ck1; clear hcE hfE
        go_simp
        exact ⟨rfl, Grow.refl _⟩
      change Steps _ _ _ _ _ _ _ _ _
      simp only [put_lit, List.set, List.nil_append, List.cons_append]
      refine ⟨fun wk hE hF => ?_, fun vr2 => ?_⟩
      · clear hF; have hcE := hE.cells.1; have hfE := hE.cells.2; have a0 := (hcE _ 0 hz).trans ck0; have a1 := (hcE _ 1 hz).trans ck1; clear hcE hfE
        go_simp
        exact ⟨⟨_, rfl, cells_new _ (strV [s]) _ _⟩, Grow.alloc _ _⟩
      change Steps _ _ _ _ _ _ _ _ _
      simp only [put_lit, List.set, List.nil_append, List.cons_append]
      refine ⟨fun wk hE hF => ?_, ?_⟩
      · obtain ⟨q, rfl, hcc⟩ := facts_get hF (j := 2) (by decide); clear hF; have hcE := hE.cells.1; have hfE := hE.cells.2; have a0 := (hcE _ 0 hz).trans ck0; have a1 := (hcE _ 1 hz).trans ck1; clear hcE hfE
        go_simp
        (refine (parts_any a b _ 1 1 [s] rfl (by omega) _ hcc).mono ?_; rintro e w2 ⟨rfl, hb⟩; exact ⟨_, rfl, rfl, hb⟩)
      change Steps _ _ _ _ _ _ _ _ _
      simp only [put_lit, List.set, List.nil_append, List.cons_append]
      refine ⟨fun wk hE hF => ?_, ?_⟩
      · clear hF; have hcE := hE.cells.1; have hfE := hE.cells.2; have a0 := (hcE _ 0 hz).trans ck0; have a1 := (hcE _ 1 hz).trans ck1; clear hcE hfE
        go_simp
        exact ⟨rfl, Grow.refl _⟩
      change Steps _ _ _ _ _ _ _ _ _
      simp only [put_lit, List.set, List.nil_append, List.cons_append]
      refine ⟨fun wk hE hF => ?_, ?_⟩
      · clear hF; have hcE := hE.cells.1; have hfE := hE.cells.2; have a0 := (hcE _ 0 hz).trans ck0; have a1 := (hcE _ 1 hz).trans ck1; clear hcE hfE
        go_simp
        exact ⟨rfl, Grow.refl _⟩
      change Steps _ _ _ _ _ _ _ _ _
      simp only [put_lit, List.set, List.nil_append, List.cons_append]
      refine ⟨fun wk hE hF => ?_, ?_⟩
      · clear hF; have hcE := hE.cells.1; have hfE := hE.cells.2; have a0 := (hcE _ 0 hz).trans ck0; have a1 := (hcE _ 1 hz).trans ck1; clear hcE hfE
        go_simp
        exact ⟨rfl, Grow.refl _⟩
      change Steps _ _ _ _ _ _ _ _ _
      simp only [put_lit, List.set, List.nil_append, List.cons_append]
      refine ⟨fun wk hE hF => ?_, fun vr7 => ?_⟩
      · clear hF; have hcE := hE.cells.1; have hfE := hE.cells.2; have a0 := (hcE _ 0 hz).trans ck0; have a1 := (hcE _ 1 hz).trans ck1; clear hcE hfE
        go_simp
        exact ⟨⟨_, rfl, cells_new _ (strV [t]) _ _⟩, Grow.alloc _ _⟩
      change Steps _ _ _ _ _ _ _ _ _
      simp only [put_lit, List.set, List.nil_append, List.cons_append]
      refine ⟨fun wk hE hF => ?_, ?_⟩
      · obtain ⟨q, rfl, hcc⟩ := facts_get hF (j := 7) (by decide); clear hF; have hcE := hE.cells.1; have hfE := hE.cells.2; have a0 := (hcE _ 0 hz).trans ck0; have a1 := (hcE _ 1 hz).trans ck1; clear hcE hfE
        go_simp
        (refine (parts_any a b _ 1 1 [t] rfl (by omega) _ hcc).mono ?_; rintro e w2 ⟨rfl, hb⟩; rw [HP.out]; exact ⟨_, rfl, rfl, hb⟩)
      change Steps _ _ _ _ _ _ _ _ _
      simp only [put_lit, List.set, List.nil_append, List.cons_append]
      refine ⟨fun wk hE hF => ?_, ?_⟩
      · clear hF; have hcE := hE.cells.1; have hfE := hE.cells.2; have a0 := (hcE _ 0 hz).trans ck0; have a1 := (hcE _ 1 hz).trans ck1; clear hcE hfE
        go_simp
        exact ⟨rfl, Grow.refl _⟩
      change Steps _ _ _ _ _ _ _ _ _
      simp only [put_lit, List.set, List.nil_append, List.cons_append]
      refine ⟨fun wk hE hF => ?_, ?_⟩
      · clear hF; have hcE := hE.cells.1; have hfE := hE.cells.2; have a0 := (hcE _ 0 hz).trans ck0; have a1 := (hcE _ 1 hz).trans ck1; clear hcE hfE
        go_simp
        exact ⟨rfl, Grow.refl _⟩
      change Steps _ _ _ _ _ _ _ _ _
      simp only [put_lit, List.set, List.nil_append, List.cons_append]
      refine ⟨fun wk hE hF => ?_, ?_⟩
      · clear hF; have hcE := hE.cells.1; have hfE := hE.cells.2; have a0 := (hcE _ 0 hz).trans ck0; have a1 := (hcE _ 1 hz).trans ck1; clear hcE hfE
        rw [if_pos (wanted_guard rfl (by kernel_rfl))]
        go_simp
        exact ⟨rfl, Grow.refl _⟩
      change Steps _ _ _ _ _ _ _ _ _
      simp only [put_lit, List.set, List.nil_append, List.cons_append]
      refine ⟨fun wk hE hF => ?_, ?_⟩
      · clear hF; have hcE := hE.cells.1; have hfE := hE.cells.2; have a0 := (hcE _ 0 hz).trans ck0; have a1 := (hcE _ 1 hz).trans ck1; clear hcE hfE
        rw [if_pos (wanted_guard rfl (by kernel_rfl))]
        go_simp
        exact ⟨rfl, Grow.refl _⟩
      change Steps _ _ _ _ _ _ _ _ _
      simp only [put_lit, List.set, List.nil_append, List.cons_append]
      refine ⟨fun wk hE hF => ?_, ?_⟩
      · clear hF; have hcE := hE.cells.1; have hfE := hE.cells.2; have a0 := (hcE _ 0 hz).trans ck0; have a1 := (hcE _ 1 hz).trans ck1; clear hcE hfE
        rw [if_pos (wanted_guard rfl (by kernel_rfl))]
        go_simp
        exact ⟨rfl, Grow.refl _⟩
      change Steps _ _ _ _ _ _ _ _ _
      simp only [put_lit, List.set, List.nil_append, List.cons_append]
      refine ⟨fun wk hE hF => ?_, fun vr14 => ?_⟩
      · clear hF; have hcE := hE.cells.1; have hfE := hE.cells.2; have a0 := (hcE _ 0 hz).trans ck0; have a1 := (hcE _ 1 hz).trans ck1; clear hcE hfE
        rw [if_pos (wanted_guard rfl (by kernel_rfl))]
        go_simp
        exact ⟨⟨_, rfl, cells_new _ (strV [t]) _ _⟩, Grow.alloc _ _⟩
      change Steps _ _ _ _ _ _ _ _ _
      simp only [put_lit, List.set, List.nil_append, List.cons_append]
      refine ⟨fun wk hE hF => ?_, ?_⟩
      · obtain ⟨q, rfl, hcc⟩ := facts_get hF (j := 14) (by decide); clear hF; have hcE := hE.cells.1; have hfE := hE.cells.2; have a0 := (hcE _ 0 hz).trans ck0; have a1 := (hcE _ 1 hz).trans ck1; clear hcE hfE
        rw [if_pos (wanted_guard rfl (by kernel_rfl))]
        go_simp
        (refine (parts_any a b _ 1 1 [t] rfl (by omega) _ hcc).mono ?_; rintro e w2 ⟨rfl, hb⟩; rw [HP.out]; exact ⟨_, rfl, rfl, hb⟩)
      change Steps _ _ _ _ _ _ _ _ _
      simp only [put_lit, List.set, List.nil_append, List.cons_append]
      refine ⟨fun wk hE hF => ?_, ?_⟩
      · clear hF; have hcE := hE.cells.1; have hfE := hE.cells.2; have a0 := (hcE _ 0 hz).trans ck0; have a1 := (hcE _ 1 hz).trans ck1; clear hcE hfE
        rw [if_pos (wanted_guard rfl (by kernel_rfl))]
        go_simp
        exact ⟨rfl, Grow.refl _⟩
      change Steps _ _ _ _ _ _ _ _ _
      simp only [put_lit, List.set, List.nil_append, List.cons_append]
      refine ⟨fun wk hE hF => ?_, ?_⟩
      · clear hF; have hcE := hE.cells.1; have hfE := hE.cells.2; have a0 := (hcE _ 0 hz).trans ck0; have a1 := (hcE _ 1 hz).trans ck1; clear hcE hfE
        rw [if_pos (wanted_guard rfl (by kernel_rfl))]
        go_simp
        exact ⟨rfl, Grow.refl _⟩
      change Steps _ _ _ _ _ _ _ _ _
      simp only [put_lit, List.set, List.nil_append, List.cons_append]
      refine ⟨fun wk hE hF => ?_, fun vr18 => ?_⟩
      · clear hF; have hcE := hE.cells.1; have hfE := hE.cells.2; have a0 := (hcE _ 0 hz).trans ck0; have a1 := (hcE _ 1 hz).trans ck1; clear hcE hfE
        rw [if_pos (wanted_guard rfl (by kernel_rfl))]
        go_simp
        exact ⟨⟨_, rfl, cells_new _ (strV [s]) _ _⟩, Grow.alloc _ _⟩
      change Steps _ _ _ _ _ _ _ _ _
      simp only [put_lit, List.set, List.nil_append, List.cons_append]
      refine ⟨fun wk hE hF => ?_, ?_⟩
      · obtain ⟨q, rfl, hcc⟩ := facts_get hF (j := 18) (by decide); clear hF; have hcE := hE.cells.1; have hfE := hE.cells.2; have a0 := (hcE _ 0 hz).trans ck0; have a1 := (hcE _ 1 hz).trans ck1; clear hcE hfE
        rw [if_pos (wanted_guard rfl (by kernel_rfl))]
        go_simp
        (refine (rparts_any a b _ 1 1 [s] rfl (by omega) _ hcc).mono ?_; rintro e w2 ⟨rfl, hb⟩; exact ⟨_, rfl, rfl, hb⟩)
      change Steps _ _ _ _ _ _ _ _ _
      simp only [put_lit, List.set, List.nil_append, List.cons_append]
      refine ⟨fun wk hE hF => ?_, ?_⟩
      · clear hF; have hcE := hE.cells.1; have hfE := hE.cells.2; have a0 := (hcE _ 0 hz).trans ck0; have a1 := (hcE _ 1 hz).trans ck1; clear hcE hfE
        rw [if_pos (wanted_guard rfl (by kernel_rfl))]
        go_simp
        exact ⟨rfl, Grow.refl _⟩
      change Steps _ _ _ _ _ _ _ _ _
      simp only [put_lit, List.set, List.nil_append, List.cons_append]
      refine ⟨fun wk hE hF => ?_, ?_⟩
      · clear hF; have hcE := hE.cells.1; have hfE := hE.cells.2; have a0 := (hcE _ 0 hz).trans ck0; have a1 := (hcE _ 1 hz).trans ck1; clear hcE hfE
        go_simp
        exact ⟨rfl, Grow.refl _⟩
      change Steps _ _ _ _ _ _ _ _ _
      simp only [put_lit, List.set, List.nil_append, List.cons_append]
      refine ⟨fun wk hE hF => ?_, ?_⟩
      · clear hF; have hcE := hE.cells.1; have hfE := hE.cells.2; have a0 := (hcE _ 0 hz).trans ck0; have a1 := (hcE _ 1 hz).trans ck1; clear hcE hfE
        go_simp
        exact ⟨rfl, Grow.refl _⟩
      change Steps _ _ _ _ _ _ _ _ _
      simp only [put_lit, List.set, List.nil_append, List.cons_append]
      intro wk hE hF
      clear hF; obtain ⟨hcE, hfE⟩ := hE.cells; have HE := Lib.hid hE; clear hE
      go_wp2_with fail
      go_ret
      exact ⟨rfl, hlow.out.trans (Below.mono ((Below.refl _ wr).drew.trans HE.out) hlow.out.size)⟩
end Go.Proofs.Ytkkcjnhochdpgaa
