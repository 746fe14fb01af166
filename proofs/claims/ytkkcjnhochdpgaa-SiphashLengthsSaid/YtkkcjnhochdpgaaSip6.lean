/- SipHash: the reference's texts; derived keys. -/
import Derived.Test.YtkkcjnhochdpgaaSip5b
namespace Go.Proofs.Ytkkcjnhochdpgaa
open Go.RowKit
def txA : ByteArray := ⟨#[97]⟩
def txB : ByteArray := ⟨#[98]⟩

set_option maxHeartbeats 1600000 in
theorem derive_any (a b : UInt64) (s : ByteArray) (w : World) :
    Calls Try.prog 20 #[.agg #[.int .u64 (T64 a), .int .u64 (T64 b)], .string s] w fun e w' =>
      e = .returned (.agg #[.int .u64 (T64 (sip a b (partsOf [s, txA]))), .int .u64 (T64 (sip a b (partsOf [s, txB])))]) ∧ Below w.heap.size w w' := by
  go_enter Try.func20, Try.ntmps20
  go_wp2_with fail
  refine wp_rely 9 [is (.agg #[.int .u64 (T64 a), .int .u64 (T64 b)]), is (.string s), such (isCells 2 2 (strV [s, txA])), is (.int .u64 (T64 (sip a b (partsOf [s, txA])))), is (.agg #[.int .u64 (T64 a), .int .u64 (T64 b)]), is (.string s), such (isCells 2 2 (strV [s, txB])), is (.int .u64 (T64 (sip a b (partsOf [s, txB])))), is (.agg #[.int .u64 (T64 (sip a b (partsOf [s, txA]))), .int .u64 (T64 (sip a b (partsOf [s, txB])))])] (by kernel_rfl) (by kernel_rfl) (mono_cons (is_mono _) ( mono_cons (is_mono _) ( mono_cons (isCells_mono _ _ _) ( mono_cons (is_mono _) ( mono_cons (is_mono _) ( mono_cons (is_mono _) ( mono_cons (isCells_mono _ _ _) ( mono_cons (is_mono _) ( mono_cons (is_mono _) (mono_nil)))))))))) ?_
  simp only [List.take_succ_cons, List.take_zero, List.drop_succ_cons, List.drop_zero]
  refine ⟨fun wk hE hF => ?_, ?_⟩
  · clear hF; have hcE := hE.cells.1; have hfE := hE.cells.2; have hsE := hE.size
    go_simp
    exact ⟨rfl, Grow.refl _⟩
  change Steps _ _ _ _ _ _ _ _ _
  simp only [put_lit, List.set, List.nil_append]
  refine ⟨fun wk hE hF => ?_, ?_⟩
  · clear hF; have hcE := hE.cells.1; have hfE := hE.cells.2; have hsE := hE.size
    go_simp
    exact ⟨rfl, Grow.refl _⟩
  change Steps _ _ _ _ _ _ _ _ _
  simp only [put_lit, List.set, List.nil_append, List.cons_append]
  refine ⟨fun wk hE hF => ?_, fun vr2 => ?_⟩
  · clear hF; have hcE := hE.cells.1; have hfE := hE.cells.2; have hsE := hE.size
    go_simp
    exact ⟨⟨_, rfl, cells_pair (by go_simp) (by go_simp; rfl)⟩, Grow.alloc _ _⟩
  change Steps _ _ _ _ _ _ _ _ _
  simp only [put_lit, List.set, List.nil_append, List.cons_append]
  refine ⟨fun wk hE hF => ?_, ?_⟩
  · obtain ⟨q, rfl, hcc⟩ := facts_get hF (j := 2) (by decide); clear hF; have hcE := hE.cells.1; have hfE := hE.cells.2; have hsE := hE.size
    go_simp
    refine (parts_any a b _ 2 2 [s, txA] rfl (by omega) _ hcc).mono ?_; rintro e w2 ⟨rfl, hb⟩; exact ⟨_, rfl, rfl, hb⟩
  change Steps _ _ _ _ _ _ _ _ _
  simp only [put_lit, List.set, List.nil_append, List.cons_append]
  refine ⟨fun wk hE hF => ?_, ?_⟩
  · clear hF; have hcE := hE.cells.1; have hfE := hE.cells.2; have hsE := hE.size
    go_simp
    exact ⟨rfl, Grow.refl _⟩
  change Steps _ _ _ _ _ _ _ _ _
  simp only [put_lit, List.set, List.nil_append, List.cons_append]
  refine ⟨fun wk hE hF => ?_, ?_⟩
  · clear hF; have hcE := hE.cells.1; have hfE := hE.cells.2; have hsE := hE.size
    go_simp
    exact ⟨rfl, Grow.refl _⟩
  change Steps _ _ _ _ _ _ _ _ _
  simp only [put_lit, List.set, List.nil_append, List.cons_append]
  refine ⟨fun wk hE hF => ?_, fun vr6 => ?_⟩
  · clear hF; have hcE := hE.cells.1; have hfE := hE.cells.2; have hsE := hE.size
    go_simp
    exact ⟨⟨_, rfl, cells_pair (by go_simp) (by go_simp; rfl)⟩, Grow.alloc _ _⟩
  change Steps _ _ _ _ _ _ _ _ _
  simp only [put_lit, List.set, List.nil_append, List.cons_append]
  refine ⟨fun wk hE hF => ?_, ?_⟩
  · obtain ⟨q, rfl, hcc⟩ := facts_get hF (j := 6) (by decide); clear hF; have hcE := hE.cells.1; have hfE := hE.cells.2; have hsE := hE.size
    go_simp
    refine (parts_any a b _ 2 2 [s, txB] rfl (by omega) _ hcc).mono ?_; rintro e w2 ⟨rfl, hb⟩; exact ⟨_, rfl, rfl, hb⟩
  change Steps _ _ _ _ _ _ _ _ _
  simp only [put_lit, List.set, List.nil_append, List.cons_append]
  refine ⟨fun wk hE hF => ?_, ?_⟩
  · clear hF; have hcE := hE.cells.1; have hfE := hE.cells.2; have hsE := hE.size
    go_simp
    exact ⟨rfl, Grow.refl _⟩
  change Steps _ _ _ _ _ _ _ _ _
  simp only [put_lit, List.set, List.nil_append, List.cons_append]
  intro wk hE hF
  clear hF; obtain ⟨hcE, hfE⟩ := hE.cells; have HE := Lib.hid hE; clear hE
  have d0 : wk.cell? ⟨w.heap.size + 1, 0, none⟩ = some (.int .u64 0) := by rw [hcE _ _ (by simp)]; go_simp
  have d1 : wk.cell? ⟨w.heap.size + 1, 1, none⟩ = some (.int .u64 0) := by rw [hcE _ _ (by simp)]; go_simp
  have g0 : ∀ k, wk.frozen? ⟨w.heap.size + 1, k, none⟩ = false := fun k => by rw [hfE _ _ (by simp)]; go_simp
  clear hcE hfE
  go_wp2_with fail
  refine bodyPost_ret (v := .agg #[.int .u64 (T64 (sip a b (partsOf [s, txA]))), .int .u64 (T64 (sip a b (partsOf [s, txB])))]) (by simp [results, Try.results20, go_sem, d0, d1]) rfl ⟨rfl, ?_⟩
  refine Below.setCell (Below.setCell (Below.trans ?_ (HE.out.mono ?_)) ?_ _) ?_ _
  · exact ((((Below.refl _ _).alloc (Nat.le_refl _) _).alloc (by simp) _).drew)
  all_goals (first | (simp; done) | (simp; omega))
set_option maxHeartbeats 1600000 in
theorem rderive_any (a b : UInt64) (s : ByteArray) (w : World) :
    Calls Try.prog 21 #[.agg #[.int .u64 (T64 a), .int .u64 (T64 b)], .string s] w fun e w' =>
      e = .returned (.agg #[.int .u64 (T64 (sip a b (partsOf [s, txA]))), .int .u64 (T64 (sip a b (partsOf [s, txB])))]) ∧ Below w.heap.size w w' := by
  go_enter Try.func21, Try.ntmps21
  go_wp2_with fail
  refine wp_rely 9 [is (.agg #[.int .u64 (T64 a), .int .u64 (T64 b)]), is (.string s), such (isCells 2 2 (strV [s, txA])), is (.int .u64 (T64 (sip a b (partsOf [s, txA])))), is (.agg #[.int .u64 (T64 a), .int .u64 (T64 b)]), is (.string s), such (isCells 2 2 (strV [s, txB])), is (.int .u64 (T64 (sip a b (partsOf [s, txB])))), is (.agg #[.int .u64 (T64 (sip a b (partsOf [s, txA]))), .int .u64 (T64 (sip a b (partsOf [s, txB])))])] (by kernel_rfl) (by kernel_rfl) (mono_cons (is_mono _) ( mono_cons (is_mono _) ( mono_cons (isCells_mono _ _ _) ( mono_cons (is_mono _) ( mono_cons (is_mono _) ( mono_cons (is_mono _) ( mono_cons (isCells_mono _ _ _) ( mono_cons (is_mono _) ( mono_cons (is_mono _) (mono_nil)))))))))) ?_
  simp only [List.take_succ_cons, List.take_zero, List.drop_succ_cons, List.drop_zero]
  refine ⟨fun wk hE hF => ?_, ?_⟩
  · clear hF; have hcE := hE.cells.1; have hfE := hE.cells.2; have hsE := hE.size
    go_simp
    exact ⟨rfl, Grow.refl _⟩
  change Steps _ _ _ _ _ _ _ _ _
  simp only [put_lit, List.set, List.nil_append]
  refine ⟨fun wk hE hF => ?_, ?_⟩
  · clear hF; have hcE := hE.cells.1; have hfE := hE.cells.2; have hsE := hE.size
    go_simp
    exact ⟨rfl, Grow.refl _⟩
  change Steps _ _ _ _ _ _ _ _ _
  simp only [put_lit, List.set, List.nil_append, List.cons_append]
  refine ⟨fun wk hE hF => ?_, fun vr2 => ?_⟩
  · clear hF; have hcE := hE.cells.1; have hfE := hE.cells.2; have hsE := hE.size
    go_simp
    exact ⟨⟨_, rfl, cells_pair (by go_simp) (by go_simp; rfl)⟩, Grow.alloc _ _⟩
  change Steps _ _ _ _ _ _ _ _ _
  simp only [put_lit, List.set, List.nil_append, List.cons_append]
  refine ⟨fun wk hE hF => ?_, ?_⟩
  · obtain ⟨q, rfl, hcc⟩ := facts_get hF (j := 2) (by decide); clear hF; have hcE := hE.cells.1; have hfE := hE.cells.2; have hsE := hE.size
    go_simp
    refine (rparts_any a b _ 2 2 [s, txA] rfl (by omega) _ hcc).mono ?_; rintro e w2 ⟨rfl, hb⟩; exact ⟨_, rfl, rfl, hb⟩
  change Steps _ _ _ _ _ _ _ _ _
  simp only [put_lit, List.set, List.nil_append, List.cons_append]
  refine ⟨fun wk hE hF => ?_, ?_⟩
  · clear hF; have hcE := hE.cells.1; have hfE := hE.cells.2; have hsE := hE.size
    go_simp
    exact ⟨rfl, Grow.refl _⟩
  change Steps _ _ _ _ _ _ _ _ _
  simp only [put_lit, List.set, List.nil_append, List.cons_append]
  refine ⟨fun wk hE hF => ?_, ?_⟩
  · clear hF; have hcE := hE.cells.1; have hfE := hE.cells.2; have hsE := hE.size
    go_simp
    exact ⟨rfl, Grow.refl _⟩
  change Steps _ _ _ _ _ _ _ _ _
  simp only [put_lit, List.set, List.nil_append, List.cons_append]
  refine ⟨fun wk hE hF => ?_, fun vr6 => ?_⟩
  · clear hF; have hcE := hE.cells.1; have hfE := hE.cells.2; have hsE := hE.size
    go_simp
    exact ⟨⟨_, rfl, cells_pair (by go_simp) (by go_simp; rfl)⟩, Grow.alloc _ _⟩
  change Steps _ _ _ _ _ _ _ _ _
  simp only [put_lit, List.set, List.nil_append, List.cons_append]
  refine ⟨fun wk hE hF => ?_, ?_⟩
  · obtain ⟨q, rfl, hcc⟩ := facts_get hF (j := 6) (by decide); clear hF; have hcE := hE.cells.1; have hfE := hE.cells.2; have hsE := hE.size
    go_simp
    refine (rparts_any a b _ 2 2 [s, txB] rfl (by omega) _ hcc).mono ?_; rintro e w2 ⟨rfl, hb⟩; exact ⟨_, rfl, rfl, hb⟩
  change Steps _ _ _ _ _ _ _ _ _
  simp only [put_lit, List.set, List.nil_append, List.cons_append]
  refine ⟨fun wk hE hF => ?_, ?_⟩
  · clear hF; have hcE := hE.cells.1; have hfE := hE.cells.2; have hsE := hE.size
    go_simp
    exact ⟨rfl, Grow.refl _⟩
  change Steps _ _ _ _ _ _ _ _ _
  simp only [put_lit, List.set, List.nil_append, List.cons_append]
  intro wk hE hF
  clear hF; obtain ⟨hcE, hfE⟩ := hE.cells; have HE := Lib.hid hE; clear hE
  have d0 : wk.cell? ⟨w.heap.size + 1, 0, none⟩ = some (.int .u64 0) := by rw [hcE _ _ (by simp)]; go_simp
  have d1 : wk.cell? ⟨w.heap.size + 1, 1, none⟩ = some (.int .u64 0) := by rw [hcE _ _ (by simp)]; go_simp
  have g0 : ∀ k, wk.frozen? ⟨w.heap.size + 1, k, none⟩ = false := fun k => by rw [hfE _ _ (by simp)]; go_simp
  clear hcE hfE
  go_wp2_with fail
  refine bodyPost_ret (v := .agg #[.int .u64 (T64 (sip a b (partsOf [s, txA]))), .int .u64 (T64 (sip a b (partsOf [s, txB])))]) (by simp [results, Try.results21, go_sem, d0, d1]) rfl ⟨rfl, ?_⟩
  refine Below.setCell (Below.setCell (Below.trans ?_ (HE.out.mono ?_)) ?_ _) ?_ _
  · exact ((((Below.refl _ _).alloc (Nat.le_refl _) _).alloc (by simp) _).drew)
  all_goals (first | (simp; done) | (simp; omega))
end Go.Proofs.Ytkkcjnhochdpgaa
