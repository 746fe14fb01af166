/- SipHash: the sanity check of the statements, and what they share. -/
import Derived.Test.YtkkcjnhochdpgaaSip6
import Derived.Test.YtkkcjnhochdpgaaDeck
namespace Go.Proofs.Ytkkcjnhochdpgaa
open Go.RowKit
set_option linter.constructorNameAsVariable false

theorem aw1 : sip 506097522914230528 1084818905618843912 [0, 1, 2, 3, 4, 5, 6, 7, 8, 9, 10, 11, 12, 13, 14] = 11613035633349379557 := by decide +kernel
theorem aw2 : sip 506097522914230528 1084818905618843912 [] = 8246050544436514353 := by decide +kernel
theorem aw3 : sip 506097522914230528 1084818905618843912 (partsOf []) = 8246050544436514353 := aw2
theorem aw4 : T64 11613035633349379557 = 11613035633349379557 := by decide +kernel
theorem aw5 : T64 8246050544436514353 = 8246050544436514353 := by decide +kernel
def awB : List UInt8 := [0, 1, 2, 3, 4, 5, 6, 7, 8, 9, 10, 11, 12, 13, 14]
def awK : Value := .agg #[.int .u64 506097522914230528, .int .u64 1084818905618843912]
theorem awK_eq : awK = .agg #[.int .u64 (T64 506097522914230528), .int .u64 (T64 1084818905618843912)] := rfl
theorem sum_aw (v : Value) (q : Option Addr) (n c : Nat) (l : List UInt8) (r : UInt64) (x : Int) (hv : v = awK) (hr : sip 506097522914230528 1084818905618843912 l = r) (hx : T64 r = x) (hn : n = l.length) (hcap : n ≤ c) (hmax : c ≤ 9223372036854775807) (w : World) (hc : Cells w q (bytesV l)) :
    Calls Try.prog 15 #[v, .slice q n c] w fun e w' => e = .returned (.int .u64 x) ∧ Below w.heap.size w w' := by
  subst hv; subst hr; subst hx; exact sum_any _ _ q n c l hn hcap hmax w hc
theorem parts_aw (v : Value) (q : Option Addr) (n c : Nat) (ss : List ByteArray) (r : UInt64) (x : Int) (hv : v = awK) (hr : sip 506097522914230528 1084818905618843912 (partsOf ss) = r) (hx : T64 r = x) (hn : n = ss.length) (hl : n ≤ 1000) (w : World) (hc : Cells w q (strV ss)) :
    Calls Try.prog 14 #[v, .slice q n c] w fun e w' => e = .returned (.int .u64 x) ∧ Below w.heap.size w w' := by
  subst hv; subst hr; subst hx; exact parts_any _ _ q n c ss hn hl w hc
set_option maxHeartbeats 1600000 in
theorem awake_any (w : World) : Calls Try.prog 8 #[] w fun e w' => e = .returned (.bool true) ∧ Below w.heap.size w w' := by
  go_enter Try.func8, Try.ntmps8
  go_wp2_with fail
  have HB0 := Lib.hid (cells_new1 w (.cells #[.int .u64 506097522914230528, .int .u64 1084818905618843912] 29) (bytesV awB) 5 (0, 0)).drew
  refine wp_rely 17 [is (awK), is (.slice (some ⟨w.heap.size + 1, 0, none⟩) 15 15), is (.int .u64 11613035633349379557), is (.bool true), is (.bool true), is (awK), is (.int .u64 8246050544436514353), is (.bool true), is (.bool true), is (.bool true), is (awK), is (.int .u64 8246050544436514353), is (awK), is (.int .u64 8246050544436514353), is (.bool true), is (.bool true), is (.bool true)] (by kernel_rfl) (by kernel_rfl) (mono_cons (is_mono _) ( mono_cons (is_mono _) ( mono_cons (is_mono _) ( mono_cons (is_mono _) ( mono_cons (is_mono _) ( mono_cons (is_mono _) ( mono_cons (is_mono _) ( mono_cons (is_mono _) ( mono_cons (is_mono _) ( mono_cons (is_mono _) ( mono_cons (is_mono _) ( mono_cons (is_mono _) ( mono_cons (is_mono _) ( mono_cons (is_mono _) ( mono_cons (is_mono _) ( mono_cons (is_mono _) ( mono_cons (is_mono _) (mono_nil)))))))))))))))))) ?_
  simp only [List.take_succ_cons, List.take_zero, List.drop_succ_cons, List.drop_zero]
  refine ⟨fun wk hE hF => ?_, ?_⟩
  · clear hF; have hcE := hE.cells.1; have hfE := hE.cells.2; have hsE := hE.size
    go_simp
    exact ⟨rfl, Grow.refl _⟩
  change Steps _ _ _ _ _ _ _ _ _
  simp only [put_lit, List.set, List.nil_append]
  refine ⟨fun wk hE hF => ?_, ?_⟩
  · clear hF; have hcE := hE.cells.1; have hfE := hE.cells.2; have hsE := hE.size
    go_simp
    exact ⟨rfl, Grow.refl _⟩
  change Steps _ _ _ _ _ _ _ _ _
  simp only [put_lit, List.set, List.nil_append, List.cons_append]
  refine ⟨fun wk hE hF => ?_, ?_⟩
  · clear hF; have hcE := hE.cells.1; have hfE := hE.cells.2; have hsE := hE.size
    go_simp
    (refine (sum_aw _ _ 15 15 awB _ _ rfl aw1 aw4 rfl (by omega) (by omega) _ (HB0.out.below hE)).mono ?_; rintro e w2 ⟨rfl, hb⟩; exact ⟨_, rfl, rfl, hb⟩)
  change Steps _ _ _ _ _ _ _ _ _
  simp only [put_lit, List.set, List.nil_append, List.cons_append]
  refine ⟨fun wk hE hF => ?_, ?_⟩
  · clear hF; have hcE := hE.cells.1; have hfE := hE.cells.2; have hsE := hE.size
    go_simp
    exact ⟨rfl, Grow.refl _⟩
  change Steps _ _ _ _ _ _ _ _ _
  simp only [put_lit, List.set, List.nil_append, List.cons_append]
  refine ⟨fun wk hE hF => ?_, ?_⟩
  · clear hF; have hcE := hE.cells.1; have hfE := hE.cells.2; have hsE := hE.size
    go_simp
    exact ⟨rfl, Grow.refl _⟩
  change Steps _ _ _ _ _ _ _ _ _
  simp only [put_lit, List.set, List.nil_append, List.cons_append]
  refine ⟨fun wk hE hF => ?_, ?_⟩
  · clear hF; have hcE := hE.cells.1; have hfE := hE.cells.2; have hsE := hE.size
    rw [if_pos (wanted_guard rfl (by kernel_rfl))]
    go_simp
    exact ⟨rfl, Grow.refl _⟩
  change Steps _ _ _ _ _ _ _ _ _
  simp only [put_lit, List.set, List.nil_append, List.cons_append]
  refine ⟨fun wk hE hF => ?_, ?_⟩
  · clear hF; have hcE := hE.cells.1; have hfE := hE.cells.2; have hsE := hE.size
    rw [if_pos (wanted_guard rfl (by kernel_rfl))]
    go_simp
    (refine (sum_aw _ none 0 0 [] _ _ rfl aw2 aw5 rfl (by omega) (by omega) _ (Cells.nil _ _)).mono ?_; rintro e w2 ⟨rfl, hb⟩; exact ⟨_, rfl, rfl, hb⟩)
  change Steps _ _ _ _ _ _ _ _ _
  simp only [put_lit, List.set, List.nil_append, List.cons_append]
  refine ⟨fun wk hE hF => ?_, ?_⟩
  · clear hF; have hcE := hE.cells.1; have hfE := hE.cells.2; have hsE := hE.size
    rw [if_pos (wanted_guard rfl (by kernel_rfl))]
    go_simp
    exact ⟨rfl, Grow.refl _⟩
  change Steps _ _ _ _ _ _ _ _ _
  simp only [put_lit, List.set, List.nil_append, List.cons_append]
  refine ⟨fun wk hE hF => ?_, ?_⟩
  · clear hF; have hcE := hE.cells.1; have hfE := hE.cells.2; have hsE := hE.size
    go_simp
    exact ⟨rfl, Grow.refl _⟩
  change Steps _ _ _ _ _ _ _ _ _
  simp only [put_lit, List.set, List.nil_append, List.cons_append]
  refine ⟨fun wk hE hF => ?_, ?_⟩
  · clear hF; have hcE := hE.cells.1; have hfE := hE.cells.2; have hsE := hE.size
    go_simp
    exact ⟨rfl, Grow.refl _⟩
  change Steps _ _ _ _ _ _ _ _ _
  simp only [put_lit, List.set, List.nil_append, List.cons_append]
  refine ⟨fun wk hE hF => ?_, ?_⟩
  · clear hF; have hcE := hE.cells.1; have hfE := hE.cells.2; have hsE := hE.size
    rw [if_pos (wanted_guard rfl (by kernel_rfl))]
    go_simp
    exact ⟨rfl, Grow.refl _⟩
  change Steps _ _ _ _ _ _ _ _ _
  simp only [put_lit, List.set, List.nil_append, List.cons_append]
  refine ⟨fun wk hE hF => ?_, ?_⟩
  · clear hF; have hcE := hE.cells.1; have hfE := hE.cells.2; have hsE := hE.size
    rw [if_pos (wanted_guard rfl (by kernel_rfl))]
    go_simp
    (refine (parts_aw _ none 0 0 [] _ _ rfl aw3 aw5 rfl (by omega) _ (Cells.nil _ _)).mono ?_; rintro e w2 ⟨rfl, hb⟩; exact ⟨_, rfl, rfl, hb⟩)
  change Steps _ _ _ _ _ _ _ _ _
  simp only [put_lit, List.set, List.nil_append, List.cons_append]
  refine ⟨fun wk hE hF => ?_, ?_⟩
  · clear hF; have hcE := hE.cells.1; have hfE := hE.cells.2; have hsE := hE.size
    rw [if_pos (wanted_guard rfl (by kernel_rfl))]
    go_simp
    exact ⟨rfl, Grow.refl _⟩
  change Steps _ _ _ _ _ _ _ _ _
  simp only [put_lit, List.set, List.nil_append, List.cons_append]
  refine ⟨fun wk hE hF => ?_, ?_⟩
  · clear hF; have hcE := hE.cells.1; have hfE := hE.cells.2; have hsE := hE.size
    rw [if_pos (wanted_guard rfl (by kernel_rfl))]
    go_simp
    (refine (sum_aw _ none 0 0 [] _ _ rfl aw2 aw5 rfl (by omega) (by omega) _ (Cells.nil _ _)).mono ?_; rintro e w2 ⟨rfl, hb⟩; exact ⟨_, rfl, rfl, hb⟩)
  change Steps _ _ _ _ _ _ _ _ _
  simp only [put_lit, List.set, List.nil_append, List.cons_append]
  refine ⟨fun wk hE hF => ?_, ?_⟩
  · clear hF; have hcE := hE.cells.1; have hfE := hE.cells.2; have hsE := hE.size
    rw [if_pos (wanted_guard rfl (by kernel_rfl))]
    go_simp
    exact ⟨rfl, Grow.refl _⟩
  change Steps _ _ _ _ _ _ _ _ _
  simp only [put_lit, List.set, List.nil_append, List.cons_append]
  refine ⟨fun wk hE hF => ?_, ?_⟩
  · clear hF; have hcE := hE.cells.1; have hfE := hE.cells.2; have hsE := hE.size
    go_simp
    exact ⟨rfl, Grow.refl _⟩
  change Steps _ _ _ _ _ _ _ _ _
  simp only [put_lit, List.set, List.nil_append, List.cons_append]
  refine ⟨fun wk hE hF => ?_, ?_⟩
  · clear hF; have hcE := hE.cells.1; have hfE := hE.cells.2; have hsE := hE.size
    go_simp
    exact ⟨rfl, Grow.refl _⟩
  change Steps _ _ _ _ _ _ _ _ _
  simp only [put_lit, List.set, List.nil_append, List.cons_append]
  intro wk hE hF
  clear hF; obtain ⟨hcE, hfE⟩ := hE.cells; have HE := Lib.hid hE; clear hE
  go_wp2_with fail
  go_ret
  refine ⟨rfl, Below.trans ?_ (HE.out.mono ?_)⟩
  · exact ((((Below.refl _ _).alloc (Nat.le_refl _) _).alloc (by simp) _).drew)
  · first | (simp; done) | (simp; omega) | (show w.heap.size ≤ (World.alloc _ _).heap.size; simp; omega)
end Go.Proofs.Ytkkcjnhochdpgaa
