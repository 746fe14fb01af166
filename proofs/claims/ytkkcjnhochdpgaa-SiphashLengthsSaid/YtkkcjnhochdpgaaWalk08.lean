/- SipHash: the walks of the statements. -/
import Derived.Test.YtkkcjnhochdpgaaLaw08
import Derived.Test.YtkkcjnhochdpgaaArgs
namespace Go.Proofs.Ytkkcjnhochdpgaa
open Go.RowKit
set_option linter.constructorNameAsVariable false

set_option maxHeartbeats 1600000 in
theorem derive_walk (a0 : Option Addr) (n c : Nat) (zs : List Int) (s : ByteArray) (w : World) (h0 : RowI .i64 w a0 n c zs) :
    Calls Try.prog 7 #[.slice a0 n c, .string s] w fun e w' => e = .returned (.bool true) ∧ Below w.heap.size w w' := by
  have H0 := Lib.hid h0
  clear h0
  by_cases hn : n ≤ 400
  · have hne : n = 0 ∨ ∀ x, a0 = some x → x.block < w.heap.size := by
      rcases Nat.eq_zero_or_pos n with h | h
      · exact .inl h
      · exact .inr (H0.out.low h)
    by_cases hsh : shortB [s] = true
    · have HSH := Lib.hid hsh
      clear hsh
      go_enter Try.func7, Try.ntmps7
      go_wp2_with fail
      refine (awake_any _).mono ?_
      rintro e w1 ⟨rfl, hb⟩
      have HB1 := Lib.hid hb
      clear hb
      go_wp2_with fail
      refine (few_yes _ _ _ hn _).mono ?_
      rintro e w2 ⟨rfl, rfl⟩
      go_wp2_with fail
      refine (short_any _ 1 1 [s] rfl (by omega) _ (cells_new w1 (strV [s]) _ _)).mono ?_
      rw [HSH.out]
      rintro e w2 ⟨rfl, rfl⟩
      go_wp2_with fail
      refine (new_any a0 n c (zs.take n) H0.out.cells.1 hn _ ((H0.out.cells.2.below HB1.out).below ((Below.refl _ _).alloc (Nat.le_refl _) _)) ?_).mono ?_
      · exact hne.imp id fun f x hx => by have := f x hx; have := HB1.out.size; simp; omega
      rintro e w3 ⟨rfl, hd, hb⟩
      have HD3 : Hid (Deck w3 (w1.heap.size + 1)) := by have := hd; rw [World.size_alloc] at this; exact this
      have HB3 := Lib.hid ((HB1.out.alloc HB1.out.size _).trans (hb.mono (by have := HB1.out.size; simp; omega)))
      clear hd hb
      go_wp2_with fail
      refine (key_any (w1.heap.size + 1) _ HD3.out).mono ?_
      rintro e w4 ⟨v, rfl, ⟨x, y, rfl⟩, hd, ho⟩
      have HB4 := Lib.hid (below_only HB3.out ho HB3.out.size (by have := HB1.out.size; simp; omega))
      clear hd ho
      go_wp2_with fail
      refine (derive_any x y s _).mono ?_
      rintro e w6 ⟨rfl, hb⟩
      have hc6 := fun b o => hb.cell (p := ⟨b, o, none⟩)
      have hz6 : w4.heap.size < w6.heap.size := by have := hb.size; simp at this; omega
      have HB6 := Lib.hid ((HB4.out.alloc HB4.out.size _).trans (hb.mono (by have := HB4.out.size; simp; omega)))
      have k0 : w6.cell? ⟨w4.heap.size, 0, none⟩ = some (.int .u64 (T64 x)) := by rw [hc6 _ _ (by simp)]; exact cell_at (heap_new _ _) 0
      have k1 : w6.cell? ⟨w4.heap.size, 1, none⟩ = some (.int .u64 (T64 y)) := by rw [hc6 _ _ (by simp)]; exact cell_at (heap_new _ _) 1
      clear hb hc6
      go_wp2_with fail
      refine wp_rely 17 [is (.pointer (some ⟨w6.heap.size, 0, none⟩)), is (.int .u64 (T64 (sip x y (partsOf [s, txA])))), is (.agg #[.int .u64 (T64 x), .int .u64 (T64 y)]), is (.string s), such (isCells 2 2 (strV [s, txA])), is (.int .u64 (T64 (sip x y (partsOf [s, txA])))), is (.bool true), is (.bool true), is (.pointer (some ⟨w6.heap.size, 1, none⟩)), is (.int .u64 (T64 (sip x y (partsOf [s, txB])))), is (.agg #[.int .u64 (T64 x), .int .u64 (T64 y)]), is (.string s), such (isCells 2 2 (strV [s, txB])), is (.int .u64 (T64 (sip x y (partsOf [s, txB])))), is (.bool true), is (.bool true), is (.bool true)] (by kernel_rfl) (by kernel_rfl) (mono_cons (is_mono _) ( mono_cons (is_mono _) ( mono_cons (is_mono _) ( mono_cons (is_mono _) ( mono_cons (isCells_mono _ _ _) ( mono_cons (is_mono _) ( mono_cons (is_mono _) ( mono_cons (is_mono _) ( mono_cons (is_mono _) ( mono_cons (is_mono _) ( mono_cons (is_mono _) ( mono_cons (is_mono _) ( mono_cons (isCells_mono _ _ _) ( mono_cons (is_mono _) ( mono_cons (is_mono _) ( mono_cons (is_mono _) ( mono_cons (is_mono _) (mono_nil)))))))))))))))))) ?_
      simp only [List.take_succ_cons, List.take_zero, List.drop_succ_cons, List.drop_zero]
      refine ⟨fun wk hE hF => ?_, ?_⟩
      · clear hF; have hcE := hE.cells.1; have hfE := hE.cells.2; have hsE := hE.size
        go_simp
        exact ⟨rfl, Grow.refl _⟩
      change Steps _ _ _ _ _ _ _ _ _
      simp only [put_lit, List.set, List.nil_append]
      refine ⟨fun wk hE hF => ?_, ?_⟩
      · clear hF; have hcE := hE.cells.1; have hfE := hE.cells.2; have hsE := hE.size
        go_simp
        exact ⟨rfl, Grow.refl _⟩
      change Steps _ _ _ _ _ _ _ _ _
      simp only [put_lit, List.set, List.nil_append, List.cons_append]
      refine ⟨fun wk hE hF => ?_, ?_⟩
      · clear hF; have hcE := hE.cells.1; have hfE := hE.cells.2; have hsE := hE.size
        go_simp
        exact ⟨rfl, Grow.refl _⟩
      change Steps _ _ _ _ _ _ _ _ _
      simp only [put_lit, List.set, List.nil_append, List.cons_append]
      refine ⟨fun wk hE hF => ?_, ?_⟩
      · clear hF; have hcE := hE.cells.1; have hfE := hE.cells.2; have hsE := hE.size
        go_simp
        exact ⟨rfl, Grow.refl _⟩
      change Steps _ _ _ _ _ _ _ _ _
      simp only [put_lit, List.set, List.nil_append, List.cons_append]
      refine ⟨fun wk hE hF => ?_, fun vr4 => ?_⟩
      · clear hF; have hcE := hE.cells.1; have hfE := hE.cells.2; have hsE := hE.size
        go_simp
        exact ⟨⟨_, rfl, cells_pair (by go_simp) (by go_simp; rfl)⟩, Grow.alloc _ _⟩
      change Steps _ _ _ _ _ _ _ _ _
      simp only [put_lit, List.set, List.nil_append, List.cons_append]
      refine ⟨fun wk hE hF => ?_, ?_⟩
      · obtain ⟨q, rfl, hcc⟩ := facts_get hF (j := 4) (by decide); clear hF; have hcE := hE.cells.1; have hfE := hE.cells.2; have hsE := hE.size
        go_simp
        (refine (parts_any x y _ 2 2 [s, txA] rfl (by omega) _ hcc).mono ?_; rintro e w2 ⟨rfl, hb⟩; exact ⟨_, rfl, rfl, hb⟩)
      change Steps _ _ _ _ _ _ _ _ _
      simp only [put_lit, List.set, List.nil_append, List.cons_append]
      refine ⟨fun wk hE hF => ?_, ?_⟩
      · clear hF; have hcE := hE.cells.1; have hfE := hE.cells.2; have hsE := hE.size
        go_simp
        exact ⟨rfl, Grow.refl _⟩
      change Steps _ _ _ _ _ _ _ _ _
      simp only [put_lit, List.set, List.nil_append, List.cons_append]
      refine ⟨fun wk hE hF => ?_, ?_⟩
      · clear hF; have hcE := hE.cells.1; have hfE := hE.cells.2; have hsE := hE.size
        go_simp
        exact ⟨rfl, Grow.refl _⟩
      change Steps _ _ _ _ _ _ _ _ _
      simp only [put_lit, List.set, List.nil_append, List.cons_append]
      refine ⟨fun wk hE hF => ?_, ?_⟩
      · clear hF; have hcE := hE.cells.1; have hfE := hE.cells.2; have hsE := hE.size
        rw [if_pos (wanted_guard rfl (by kernel_rfl))]
        go_simp
        exact ⟨rfl, Grow.refl _⟩
      change Steps _ _ _ _ _ _ _ _ _
      simp only [put_lit, List.set, List.nil_append, List.cons_append]
      refine ⟨fun wk hE hF => ?_, ?_⟩
      · clear hF; have hcE := hE.cells.1; have hfE := hE.cells.2; have hsE := hE.size
        rw [if_pos (wanted_guard rfl (by kernel_rfl))]
        go_simp
        exact ⟨rfl, Grow.refl _⟩
      change Steps _ _ _ _ _ _ _ _ _
      simp only [put_lit, List.set, List.nil_append, List.cons_append]
      refine ⟨fun wk hE hF => ?_, ?_⟩
      · clear hF; have hcE := hE.cells.1; have hfE := hE.cells.2; have hsE := hE.size
        rw [if_pos (wanted_guard rfl (by kernel_rfl))]
        go_simp
        exact ⟨rfl, Grow.refl _⟩
      change Steps _ _ _ _ _ _ _ _ _
      simp only [put_lit, List.set, List.nil_append, List.cons_append]
      refine ⟨fun wk hE hF => ?_, ?_⟩
      · clear hF; have hcE := hE.cells.1; have hfE := hE.cells.2; have hsE := hE.size
        rw [if_pos (wanted_guard rfl (by kernel_rfl))]
        go_simp
        exact ⟨rfl, Grow.refl _⟩
      change Steps _ _ _ _ _ _ _ _ _
      simp only [put_lit, List.set, List.nil_append, List.cons_append]
      refine ⟨fun wk hE hF => ?_, fun vr12 => ?_⟩
      · clear hF; have hcE := hE.cells.1; have hfE := hE.cells.2; have hsE := hE.size
        rw [if_pos (wanted_guard rfl (by kernel_rfl))]
        go_simp
        exact ⟨⟨_, rfl, cells_pair (by go_simp) (by go_simp; rfl)⟩, Grow.alloc _ _⟩
      change Steps _ _ _ _ _ _ _ _ _
      simp only [put_lit, List.set, List.nil_append, List.cons_append]
      refine ⟨fun wk hE hF => ?_, ?_⟩
      · obtain ⟨q, rfl, hcc⟩ := facts_get hF (j := 12) (by decide); clear hF; have hcE := hE.cells.1; have hfE := hE.cells.2; have hsE := hE.size
        rw [if_pos (wanted_guard rfl (by kernel_rfl))]
        go_simp
        (refine (parts_any x y _ 2 2 [s, txB] rfl (by omega) _ hcc).mono ?_; rintro e w2 ⟨rfl, hb⟩; exact ⟨_, rfl, rfl, hb⟩)
      change Steps _ _ _ _ _ _ _ _ _
      simp only [put_lit, List.set, List.nil_append, List.cons_append]
      refine ⟨fun wk hE hF => ?_, ?_⟩
      · clear hF; have hcE := hE.cells.1; have hfE := hE.cells.2; have hsE := hE.size
        rw [if_pos (wanted_guard rfl (by kernel_rfl))]
        go_simp
        exact ⟨rfl, Grow.refl _⟩
      change Steps _ _ _ _ _ _ _ _ _
      simp only [put_lit, List.set, List.nil_append, List.cons_append]
      refine ⟨fun wk hE hF => ?_, ?_⟩
      · clear hF; have hcE := hE.cells.1; have hfE := hE.cells.2; have hsE := hE.size
        go_simp
        exact ⟨rfl, Grow.refl _⟩
      change Steps _ _ _ _ _ _ _ _ _
      simp only [put_lit, List.set, List.nil_append, List.cons_append]
      refine ⟨fun wk hE hF => ?_, ?_⟩
      · clear hF; have hcE := hE.cells.1; have hfE := hE.cells.2; have hsE := hE.size
        go_simp
        exact ⟨rfl, Grow.refl _⟩
      change Steps _ _ _ _ _ _ _ _ _
      simp only [put_lit, List.set, List.nil_append, List.cons_append]
      intro wk hE hF
      clear hF; obtain ⟨hcE, hfE⟩ := hE.cells; have HE := Lib.hid hE; clear hE
      go_wp2_with fail
      go_ret
      refine ⟨rfl, HB6.out.trans (Below.mono (Below.trans ((Below.refl _ w6).alloc (Nat.le_refl _) _).drew (HE.out.mono ?_)) HB6.out.size)⟩
      show _ ≤ (World.alloc _ _).heap.size
      simp
    · have HSH := Lib.hid (show shortB [s] = false by simpa using hsh)
      clear hsh
      go_enter Try.func7, Try.ntmps7
      go_wp2_with fail
      refine (awake_any _).mono ?_
      rintro e w1 ⟨rfl, hb⟩
      have HB1 := Lib.hid hb
      clear hb
      go_wp2_with fail
      refine (few_yes _ _ _ hn _).mono ?_
      rintro e w2 ⟨rfl, rfl⟩
      go_wp2_with fail
      refine (short_any _ 1 1 [s] rfl (by omega) _ (cells_new w1 (strV [s]) _ _)).mono ?_
      rw [HSH.out]
      rintro e w2 ⟨rfl, rfl⟩
      go_wp2_with fail
      refine (awake_any _).mono ?_
      rintro e w3 ⟨rfl, hb⟩
      have HB3 := Lib.hid hb
      clear hb
      go_wp2_with fail
      go_ret
      exact ⟨rfl, (HB1.out.alloc HB1.out.size _).trans (HB3.out.mono (by have := HB1.out.size; simp; omega))⟩
  · go_enter Try.func7, Try.ntmps7
    go_wp2_with fail
    refine (awake_any _).mono ?_
    rintro e w1 ⟨rfl, hb⟩
    have HB1 := Lib.hid hb
    clear hb
    go_wp2_with fail
    refine (few_no _ _ _ hn _).mono ?_
    rintro e w2 ⟨rfl, rfl⟩
    go_wp2_with fail
    refine (awake_any _).mono ?_
    rintro e w3 ⟨rfl, hb⟩
    have HB3 := Lib.hid hb
    clear hb
    go_wp2_with fail
    go_ret
    exact ⟨rfl, HB1.out.trans (HB3.out.mono HB1.out.size)⟩
end Go.Proofs.Ytkkcjnhochdpgaa
