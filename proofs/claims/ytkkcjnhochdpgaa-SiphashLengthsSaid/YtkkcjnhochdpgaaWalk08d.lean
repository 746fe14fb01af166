/- SipHash: the walk of SiphashExact. -/
import Derived.Test.YtkkcjnhochdpgaaWalk08c
import Derived.Test.YtkkcjnhochdpgaaDeckR
namespace Go.Proofs.Ytkkcjnhochdpgaa
open Go.RowKit
set_option linter.constructorNameAsVariable false

/-- The list of two keys. -/
def isKeys (p : Nat) (a b : UInt64) : Fact := fun v w => ∃ g x y, v = .slice (some ⟨g, 0, none⟩) 2 2 ∧ g ≠ p ∧ Cells w (some ⟨g, 0, none⟩) [.int .u64 (T64 a), .int .u64 (T64 b), .int .u64 (T64 x), .int .u64 (T64 y)]
theorem isKeys_monoD (p : Nat) (a b : UInt64) : MonoD p (such (isKeys p a b)) := fun _ _ _ h ⟨g, x, y, hv, hg, hc⟩ => ⟨g, x, y, hv, hg, hc.onlyNe h.1 (fun a ha => by injection ha with ha; subst ha; exact hg)⟩
theorem cells_four (w : World) (x y z u : Value) (e : TypeId) : Cells (w.alloc (.cells #[x, y, z, u] e)) (some ⟨w.heap.size, 0, none⟩) [x, y, z, u] := cells_new w [x, y, z, u] e _

theorem keys_at {w : World} {g : Nat} {a b x y : UInt64} (h : Cells w (some ⟨g, 0, none⟩) [.int .u64 (T64 a), .int .u64 (T64 b), .int .u64 (T64 x), .int .u64 (T64 y)]) (k : Nat) (hk : k < 2) :
    ∃ A B : UInt64, w.cell? ⟨g, k * 2, none⟩ = some (.int .u64 (T64 A)) ∧ w.cell? ⟨g, k * 2 + 1, none⟩ = some (.int .u64 (T64 B)) := by
  have at_ : ∀ (i : Nat) (hi : i < 4), w.cell? ⟨g, i, none⟩ = some [Value.int .u64 (T64 a), .int .u64 (T64 b), .int .u64 (T64 x), .int .u64 (T64 y)][i] := fun i hi => by
    obtain ⟨b', o, e, hc⟩ := h i hi
    injection e with e
    injection e with e1 e2 _
    subst e1; subst e2
    rw [Nat.zero_add] at hc
    exact hc
  rcases (by omega : k = 0 ∨ k = 1) with rfl | rfl
  · exact ⟨a, b, at_ 0 (by omega), at_ 1 (by omega)⟩
  · exact ⟨x, y, at_ 2 (by omega), at_ 3 (by omega)⟩
theorem take_bytes {w : World} {q : Option Addr} {l : List UInt8} (k : Nat) (h : Cells w q (bytesV l)) : Cells w q (bytesV (l.take k)) := by
  have := h.take k
  rw [bytesV, List.map_take]; exact this
set_option maxHeartbeats 3200000 in
theorem exact_walk (a0 : Option Addr) (n0 c0 : Nat) (zs : List Int) (a b : UInt64) (a2 : Option Addr) (n2 c2 : Nat) (l2 : List UInt8) (a3 : Option Addr) (n3 c3 : Nat) (l3 : List ByteArray) (s : ByteArray) (w : World) (h0 : RowI .i64 w a0 n0 c0 zs)
    (x2 : n2 = l2.length) (y2 : n2 ≤ c2) (z2 : c2 ≤ maxLen) (w2 : Cells w a2 (bytesV l2)) (x3 : n3 = l3.length) (w3 : Cells w a3 (strV l3)) :
    Calls Try.prog 6 #[.slice a0 n0 c0, .agg #[.int .u64 (T64 a), .int .u64 (T64 b)], .slice a2 n2 c2, .slice a3 n3 c3, .string s] w fun e w' => e = .returned (.bool true) ∧ Below w.heap.size w w' := by
  have H0 := Lib.hid h0
  have X2 := Lib.hid x2
  have W2 := Lib.hid w2
  have X3 := Lib.hid x3
  have W3 := Lib.hid w3
  have Z2 := Lib.hid z2
  clear h0 x2 w2 x3 w3 z2
  have HBX : Hid (Below w.heap.size w (w.alloc (.cells #[.int .u64 (T64 a), .int .u64 (T64 b)] 29))) := (Below.refl _ w).alloc (Nat.le_refl _) _
  by_cases hn : n0 ≤ 400
  · by_cases hb : n2 ≤ 4000
    · have hb' : ¬ (4000 : Int) < (n2 : Int) := by omega
      by_cases hp : n3 ≤ 60
      · have hp' : ¬ (60 : Int) < (n3 : Int) := by omega
        by_cases hs3 : shortB l3 = true
        · have HS3 := Lib.hid hs3
          clear hs3
          by_cases hs4 : shortB [s] = true
          · have HS4 := Lib.hid hs4
            clear hs4
            go_enter Try.func6, Try.ntmps6
            go_wp2_with fail
            refine (awake_any _).mono ?_
            rintro e w1 ⟨rfl, hb1⟩
            have HB1 := Lib.hid (HBX.out.trans (hb1.mono HBX.out.size))
            have HK1 : Hid (w1.cell? ⟨w.heap.size, 0, none⟩ = some (.int .u64 (T64 a)) ∧ w1.cell? ⟨w.heap.size, 1, none⟩ = some (.int .u64 (T64 b))) :=
              ⟨(hb1.cell (p := ⟨w.heap.size, 0, none⟩) (by simp)).trans (cell_at (heap_new _ _) 0), (hb1.cell (p := ⟨w.heap.size, 1, none⟩) (by simp)).trans (cell_at (heap_new _ _) 1)⟩
            have hz1 : w.heap.size < w1.heap.size := by have := hb1.size; simp at this; omega
            clear hb1
            go_wp2_with fail
            refine (few_yes _ _ _ hn _).mono ?_
            rintro e w2' ⟨rfl, rfl⟩
            go_wp2_with fail
            refine (short_any _ _ _ l3 X3.out (by omega) _ (W3.out.below HB1.out)).mono ?_
            rw [HS3.out]
            rintro e w2' ⟨rfl, rfl⟩
            go_wp2_with fail
            refine (short_any _ 1 1 [s] rfl (by omega) _ (cells_new w1 (strV [s]) _ _)).mono ?_
            rw [HS4.out]
            rintro e w2' ⟨rfl, rfl⟩
            go_wp2_with fail
            have hne : n0 = 0 ∨ ∀ x, a0 = some x → x.block < w.heap.size := by
              rcases Nat.eq_zero_or_pos n0 with h | h
              · exact .inl h
              · exact .inr (H0.out.low h)
            refine (new_any a0 n0 c0 (zs.take n0) H0.out.cells.1 hn _ ((H0.out.cells.2.below HB1.out).below ((Below.refl _ _).alloc (Nat.le_refl _) _)) ?_).mono ?_
            · exact hne.imp id fun f x hx => by have := f x hx; simp; omega
            rintro e w3 ⟨rfl, hd, hb3⟩
            have HD3 : Hid (Deck w3 (w1.heap.size + 1)) := by have := hd; rw [World.size_alloc] at this; exact this
            have HB3 := Lib.hid ((HB1.out.alloc HB1.out.size _).trans (hb3.mono (by simp; omega)))
            have k0 : w3.cell? ⟨w.heap.size, 0, none⟩ = some (.int .u64 (T64 a)) := (hb3.cell (p := ⟨w.heap.size, 0, none⟩) (by simp; omega)).trans ((World.cell?_alloc_lt _ _ _ hz1).trans HK1.out.1)
            have k1 : w3.cell? ⟨w.heap.size, 1, none⟩ = some (.int .u64 (T64 b)) := (hb3.cell (p := ⟨w.heap.size, 1, none⟩) (by simp; omega)).trans ((World.cell?_alloc_lt _ _ _ hz1).trans HK1.out.2)
            clear hd hb3 hne
            go_wp2_with fail
            refine wp_relyD (w1.heap.size + 1) 6 [is (.agg #[.int .u64 (T64 a), .int .u64 (T64 b)]), is (.pointer (some ⟨w1.heap.size + 1, 0, none⟩)), such (holdsV isKey), such (isKeys (w1.heap.size + 1) a b), is (.int .i64 2), is (.int .i64 0)] (by kernel_rfl) (by kernel_rfl) (monoD_cons (isD_mono _) ( monoD_cons (isD_mono _) ( monoD_cons (holdsV_monoD _ _) ( monoD_cons (isKeys_monoD _ _ _) ( monoD_cons (isD_mono _) ( monoD_cons (isD_mono _) (monoD_nil))))))) ?_
            simp only [List.take_succ_cons, List.take_zero, List.drop_succ_cons, List.drop_zero]
            refine ⟨fun wk hE hF => ?_, ?_⟩
            · clear hF; have a0 := hE.cell k0 (by omega); have a1 := hE.cell k1 (by omega)
              go_simp
              exact ⟨rfl, GrowD.rfl_⟩
            change Steps _ _ _ _ _ _ _ _ _
            simp only [put_lit, List.set, List.nil_append]
            refine ⟨fun wk hE hF => ?_, ?_⟩
            · clear hF; have a0 := hE.cell k0 (by omega); have a1 := hE.cell k1 (by omega)
              go_simp
              exact ⟨rfl, GrowD.rfl_⟩
            change Steps _ _ _ _ _ _ _ _ _
            simp only [put_lit, List.set, List.nil_append, List.cons_append]
            refine ⟨fun wk hE hF => ?_, fun vr2 => ?_⟩
            · clear hF; have a0 := hE.cell k0 (by omega); have a1 := hE.cell k1 (by omega)
              go_simp
              (refine (key_any (w1.heap.size + 1) _ (hE.2 (HD3.out.below (Below.refl _ _).drew))).mono ?_; rintro e w2 ⟨v, rfl, hk, hd, ho⟩; exact ⟨_, rfl, hk, GrowD.of ho hd⟩)
            change Steps _ _ _ _ _ _ _ _ _
            simp only [put_lit, List.set, List.nil_append, List.cons_append]
            refine ⟨fun wk hE hF => ?_, fun vr3 => ?_⟩
            · obtain ⟨x, y, rfl⟩ := facts_get hF (j := 2) (by decide); clear hF; have a0 := hE.cell k0 (by omega); have a1 := hE.cell k1 (by omega)
              go_simp
              exact ⟨⟨wk.heap.size, x, y, rfl, by have := hE.1.size; have := HD3.out.lt; simp at *; omega, cells_four _ _ _ _ _ _⟩, GrowD.alloc _ _ _⟩
            change Steps _ _ _ _ _ _ _ _ _
            simp only [put_lit, List.set, List.nil_append, List.cons_append]
            refine ⟨fun wk hE hF => ?_, ?_⟩
            · obtain ⟨g, x', y', rfl, hg, hcg⟩ := facts_get hF (j := 3) (by decide); clear hF; have a0 := hE.cell k0 (by omega); have a1 := hE.cell k1 (by omega)
              go_simp
              exact ⟨rfl, GrowD.rfl_⟩
            change Steps _ _ _ _ _ _ _ _ _
            simp only [put_lit, List.set, List.nil_append, List.cons_append]
            refine ⟨fun wk hE hF => ?_, ?_⟩
            · clear hF; have a0 := hE.cell k0 (by omega); have a1 := hE.cell k1 (by omega)
              go_simp
              exact ⟨rfl, GrowD.rfl_⟩
            change Steps _ _ _ _ _ _ _ _ _
            simp only [put_lit, List.set, List.nil_append, List.cons_append]
            intro wk hE hF
            obtain ⟨g, x', y', rfl, hg, hcg⟩ := facts_get hF (j := 3) (List.mem_range.2 (by simp)); clear hF; have HE := Lib.hid hE; clear hE
            rename World => wb
            have HG := Lib.hid hcg
            have HBk : Hid (Below w.heap.size w wb) := below_only HB3.out ((Only.refl _ _).drew.trans HE.out.1) HB3.out.size (by omega)
            have hgk : g < wb.heap.size := hcg.low (by simp) _ rfl
            clear hcg k0 k1 hg HE
            go_wp2_with fail
            go_loopw [13, 14, 51] (fun _ _ v wr => ∃ k : Nat, k ≤ 2 ∧ v = .int .i64 (k : Int) ∧ Hid (Below wb.heap.size wb wr)) (fun _ _ v _ => 2 - (intOf v).toNat)
            case atStart => exact ⟨0, by omega, rfl, Below.refl _ _⟩
            case round =>
              obtain ⟨k, hk, rfl, HBo⟩ := hrel
              rename World => wo
              by_cases hlt : k < 2
              · have hlt' : (k : Int) < 2 := by omega
                obtain ⟨A, B, hA, hB⟩ : ∃ A B : UInt64, wo.cell? ⟨g, k * 2, none⟩ = some (.int .u64 (T64 A)) ∧ wo.cell? ⟨g, k * 2 + 1, none⟩ = some (.int .u64 (T64 B)) :=
                  keys_at (HG.out.below HBo.out) k hlt
                go_wp2_with fail
                clear hA hB
                have hzr : wo.heap.size < wo.heap.size + 1 := by omega
                go_loopw [14] (fun v wr => ∃ j : Nat, v = .int .i64 (j : Int) ∧ Hid (Below (wo.heap.size + 1) (wo.alloc (.cells #[.int .u64 (T64 A), .int .u64 (T64 B)] 29)) wr)) (fun v _ => 20 - (intOf v).toNat)
                case atStart => exact ⟨0, rfl, Below.refl _ _⟩
                case round =>
                  obtain ⟨j, rfl, HBr⟩ := hrel
                  have q0 : wr.cell? ⟨wo.heap.size, 0, none⟩ = some (.int .u64 (T64 A)) := (HBr.out.cell (p := ⟨wo.heap.size, 0, none⟩) (by simp)).trans (cell_at (heap_new _ _) 0)
                  have q1 : wr.cell? ⟨wo.heap.size, 1, none⟩ = some (.int .u64 (T64 B)) := (HBr.out.cell (p := ⟨wo.heap.size, 1, none⟩) (by simp)).trans (cell_at (heap_new _ _) 1)
                  have hzq : wo.heap.size < wr.heap.size := by have := HBr.out.size; simp at this; omega
                  have HBr' := Lib.hid HBr.out
                  have HBwo : Hid (Below wb.heap.size wb wr) := HBo.out.trans (((Below.refl _ wo).alloc (Nat.le_refl _) _ |>.trans (HBr.out.mono (by omega))).mono HBo.out.size)
                  have HBw : Hid (Below w.heap.size w wr) := HBk.out.trans (HBwo.out.mono HBk.out.size)
                  have hc2 : Hid (c2 ≤ 9223372036854775807) := by have := Z2.out; unfold maxLen at this; exact this
                  by_cases hj : j ≤ n2 ∧ j < 20
                  · have hj1 : (j : Int) ≤ (n2 : Int) := by omega
                    have hj2 : (j : Int) < 20 := by omega
                    have hjc : (j : Int) ≤ (c2 : Int) := by omega
                    have hjl : Hid (j = (l2.take j).length) := by show j = _; rw [List.length_take]; have := X2.out; omega
                    have HC := Lib.hid (W2.out.below HBw.out)
                    go_wp2_with fail
                    refine wp_rely 11 [is (.agg #[.int .u64 (T64 A), .int .u64 (T64 B)]), is (.slice a2 n2 c2), is (.int .i64 (j : Int)), is (.slice a2 j c2), is (.int .u64 (T64 (sip A B (l2.take j)))), is (.agg #[.int .u64 (T64 A), .int .u64 (T64 B)]), is (.slice a2 n2 c2), is (.int .i64 (j : Int)), is (.slice a2 j c2), is (.int .u64 (T64 (sip A B (l2.take j)))), is (.bool false)] (by kernel_rfl) (by kernel_rfl) (mono_cons (is_mono _) ( mono_cons (is_mono _) ( mono_cons (is_mono _) ( mono_cons (is_mono _) ( mono_cons (is_mono _) ( mono_cons (is_mono _) ( mono_cons (is_mono _) ( mono_cons (is_mono _) ( mono_cons (is_mono _) ( mono_cons (is_mono _) ( mono_cons (is_mono _) (mono_nil)))))))))))) ?_
                    simp only [List.take_succ_cons, List.take_zero, List.drop_succ_cons, List.drop_zero]
                    refine ⟨fun wk hE hF => ?_, ?_⟩
                    · clear hF; have hcE := hE.cells.1; have hfE := hE.cells.2; have a0 := (hcE _ 0 hzq).trans q0; have a1 := (hcE _ 1 hzq).trans q1; clear hcE hfE
                      go_simp
                      exact ⟨rfl, Grow.refl _⟩
                    change Steps _ _ _ _ _ _ _ _ _
                    simp only [put_lit, List.set, List.nil_append]
                    refine ⟨fun wk hE hF => ?_, ?_⟩
                    · clear hF; have hcE := hE.cells.1; have hfE := hE.cells.2; have a0 := (hcE _ 0 hzq).trans q0; have a1 := (hcE _ 1 hzq).trans q1; clear hcE hfE
                      go_simp
                      exact ⟨rfl, Grow.refl _⟩
                    change Steps _ _ _ _ _ _ _ _ _
                    simp only [put_lit, List.set, List.nil_append, List.cons_append]
                    refine ⟨fun wk hE hF => ?_, ?_⟩
                    · clear hF; have hcE := hE.cells.1; have hfE := hE.cells.2; have a0 := (hcE _ 0 hzq).trans q0; have a1 := (hcE _ 1 hzq).trans q1; clear hcE hfE
                      go_simp
                      exact ⟨rfl, Grow.refl _⟩
                    change Steps _ _ _ _ _ _ _ _ _
                    simp only [put_lit, List.set, List.nil_append, List.cons_append]
                    refine ⟨fun wk hE hF => ?_, ?_⟩
                    · clear hF; have hcE := hE.cells.1; have hfE := hE.cells.2; have a0 := (hcE _ 0 hzq).trans q0; have a1 := (hcE _ 1 hzq).trans q1; clear hcE hfE
                      go_simp
                      exact ⟨rfl, Grow.refl _⟩
                    change Steps _ _ _ _ _ _ _ _ _
                    simp only [put_lit, List.set, List.nil_append, List.cons_append]
                    refine ⟨fun wk hE hF => ?_, ?_⟩
                    · clear hF; have hcE := hE.cells.1; have hfE := hE.cells.2; have a0 := (hcE _ 0 hzq).trans q0; have a1 := (hcE _ 1 hzq).trans q1; clear hcE hfE
                      go_simp
                      (refine (sum_any A B a2 j c2 (l2.take j) hjl.out (by omega) hc2.out _ (take_bytes j (HC.out.drew.below hE))).mono ?_; rintro e w2 ⟨rfl, hb⟩; exact ⟨_, rfl, rfl, hb⟩)
                    change Steps _ _ _ _ _ _ _ _ _
                    simp only [put_lit, List.set, List.nil_append, List.cons_append]
                    refine ⟨fun wk hE hF => ?_, ?_⟩
                    · clear hF; have hcE := hE.cells.1; have hfE := hE.cells.2; have a0 := (hcE _ 0 hzq).trans q0; have a1 := (hcE _ 1 hzq).trans q1; clear hcE hfE
                      go_simp
                      exact ⟨rfl, Grow.refl _⟩
                    change Steps _ _ _ _ _ _ _ _ _
                    simp only [put_lit, List.set, List.nil_append, List.cons_append]
                    refine ⟨fun wk hE hF => ?_, ?_⟩
                    · clear hF; have hcE := hE.cells.1; have hfE := hE.cells.2; have a0 := (hcE _ 0 hzq).trans q0; have a1 := (hcE _ 1 hzq).trans q1; clear hcE hfE
                      go_simp
                      exact ⟨rfl, Grow.refl _⟩
                    change Steps _ _ _ _ _ _ _ _ _
                    simp only [put_lit, List.set, List.nil_append, List.cons_append]
                    refine ⟨fun wk hE hF => ?_, ?_⟩
                    · clear hF; have hcE := hE.cells.1; have hfE := hE.cells.2; have a0 := (hcE _ 0 hzq).trans q0; have a1 := (hcE _ 1 hzq).trans q1; clear hcE hfE
                      go_simp
                      exact ⟨rfl, Grow.refl _⟩
                    change Steps _ _ _ _ _ _ _ _ _
                    simp only [put_lit, List.set, List.nil_append, List.cons_append]
                    refine ⟨fun wk hE hF => ?_, ?_⟩
                    · clear hF; have hcE := hE.cells.1; have hfE := hE.cells.2; have a0 := (hcE _ 0 hzq).trans q0; have a1 := (hcE _ 1 hzq).trans q1; clear hcE hfE
                      go_simp
                      exact ⟨rfl, Grow.refl _⟩
                    change Steps _ _ _ _ _ _ _ _ _
                    simp only [put_lit, List.set, List.nil_append, List.cons_append]
                    refine ⟨fun wk hE hF => ?_, ?_⟩
                    · clear hF; have hcE := hE.cells.1; have hfE := hE.cells.2; have a0 := (hcE _ 0 hzq).trans q0; have a1 := (hcE _ 1 hzq).trans q1; clear hcE hfE
                      go_simp
                      (refine (rsum_any A B a2 j c2 (l2.take j) hjl.out (by omega) _ (take_bytes j (HC.out.drew.below hE))).mono ?_; rintro e w2 ⟨rfl, hb⟩; exact ⟨_, rfl, rfl, hb⟩)
                    change Steps _ _ _ _ _ _ _ _ _
                    simp only [put_lit, List.set, List.nil_append, List.cons_append]
                    refine ⟨fun wk hE hF => ?_, ?_⟩
                    · clear hF; have hcE := hE.cells.1; have hfE := hE.cells.2; have a0 := (hcE _ 0 hzq).trans q0; have a1 := (hcE _ 1 hzq).trans q1; clear hcE hfE
                      go_simp
                      exact ⟨rfl, Grow.refl _⟩
                    change Steps _ _ _ _ _ _ _ _ _
                    simp only [put_lit, List.set, List.nil_append, List.cons_append]
                    intro wk hE hF
                    clear hF; obtain ⟨hcE, hfE⟩ := hE.cells; have HE := Lib.hid hE; clear hE
                    go_wp2_with fail
                    go_roundw
                    case rel => exact ⟨j + 1, by go_num, HBr'.out.trans (((Below.refl _ wr).drew.trans HE.out).mono hzq)⟩
                    case measure => simp [intOf]; omega
                  · have HC := Lib.hid (W2.out.below HBw.out)
                    have HC3 := Lib.hid (W3.out.below HBw.out)
                    by_cases hj1 : (j : Int) ≤ (n2 : Int)
                    all_goals try have hj2 : ¬ (j : Int) < 20 := by omega
                    all_goals
                      go_wp2_with fail
                      refine wp_rely 25 [is (.agg #[.int .u64 (T64 A), .int .u64 (T64 B)]), is (.slice a2 n2 c2), is (.int .u64 (T64 (sip A B l2))), is (.agg #[.int .u64 (T64 A), .int .u64 (T64 B)]), is (.slice a2 n2 c2), is (.int .u64 (T64 (sip A B l2))), is (.bool false), is (.bool false), is (.agg #[.int .u64 (T64 A), .int .u64 (T64 B)]), is (.slice a3 n3 c3), is (.int .u64 (T64 (sip A B (partsOf l3)))), is (.agg #[.int .u64 (T64 A), .int .u64 (T64 B)]), is (.slice a3 n3 c3), is (.int .u64 (T64 (sip A B (partsOf l3)))), is (.bool false), is (.bool false), is (.bool false), is (.agg #[.int .u64 (T64 A), .int .u64 (T64 B)]), is (.string s), is (.agg #[.int .u64 (T64 (sip A B (partsOf [s, txA]))), .int .u64 (T64 (sip A B (partsOf [s, txB])))]), is (.agg #[.int .u64 (T64 A), .int .u64 (T64 B)]), is (.string s), is (.agg #[.int .u64 (T64 (sip A B (partsOf [s, txA]))), .int .u64 (T64 (sip A B (partsOf [s, txB])))]), is (.bool false), is (.bool false)] (by kernel_rfl) (by kernel_rfl) (mono_cons (is_mono _) ( mono_cons (is_mono _) ( mono_cons (is_mono _) ( mono_cons (is_mono _) ( mono_cons (is_mono _) ( mono_cons (is_mono _) ( mono_cons (is_mono _) ( mono_cons (is_mono _) ( mono_cons (is_mono _) ( mono_cons (is_mono _) ( mono_cons (is_mono _) ( mono_cons (is_mono _) ( mono_cons (is_mono _) ( mono_cons (is_mono _) ( mono_cons (is_mono _) ( mono_cons (is_mono _) ( mono_cons (is_mono _) ( mono_cons (is_mono _) ( mono_cons (is_mono _) ( mono_cons (is_mono _) ( mono_cons (is_mono _) ( mono_cons (is_mono _) ( mono_cons (is_mono _) ( mono_cons (is_mono _) ( mono_cons (is_mono _) (mono_nil)))))))))))))))))))))))))) ?_
                      simp only [List.take_succ_cons, List.take_zero, List.drop_succ_cons, List.drop_zero]
                      refine ⟨fun wk hE hF => ?_, ?_⟩
                      · clear hF; have hcE := hE.cells.1; have hfE := hE.cells.2; have a0 := (hcE _ 0 hzq).trans q0; have a1 := (hcE _ 1 hzq).trans q1; clear hcE hfE
                        go_simp
                        exact ⟨rfl, Grow.refl _⟩
                      change Steps _ _ _ _ _ _ _ _ _
                      simp only [put_lit, List.set, List.nil_append]
                      refine ⟨fun wk hE hF => ?_, ?_⟩
                      · clear hF; have hcE := hE.cells.1; have hfE := hE.cells.2; have a0 := (hcE _ 0 hzq).trans q0; have a1 := (hcE _ 1 hzq).trans q1; clear hcE hfE
                        go_simp
                        exact ⟨rfl, Grow.refl _⟩
                      change Steps _ _ _ _ _ _ _ _ _
                      simp only [put_lit, List.set, List.nil_append, List.cons_append]
                      refine ⟨fun wk hE hF => ?_, ?_⟩
                      · clear hF; have hcE := hE.cells.1; have hfE := hE.cells.2; have a0 := (hcE _ 0 hzq).trans q0; have a1 := (hcE _ 1 hzq).trans q1; clear hcE hfE
                        go_simp
                        (refine (sum_any A B a2 n2 c2 l2 X2.out y2 hc2.out _ (HC.out.drew.below hE)).mono ?_; rintro e w2 ⟨rfl, hb⟩; exact ⟨_, rfl, rfl, hb⟩)
                      change Steps _ _ _ _ _ _ _ _ _
                      simp only [put_lit, List.set, List.nil_append, List.cons_append]
                      refine ⟨fun wk hE hF => ?_, ?_⟩
                      · clear hF; have hcE := hE.cells.1; have hfE := hE.cells.2; have a0 := (hcE _ 0 hzq).trans q0; have a1 := (hcE _ 1 hzq).trans q1; clear hcE hfE
                        go_simp
                        exact ⟨rfl, Grow.refl _⟩
                      change Steps _ _ _ _ _ _ _ _ _
                      simp only [put_lit, List.set, List.nil_append, List.cons_append]
                      refine ⟨fun wk hE hF => ?_, ?_⟩
                      · clear hF; have hcE := hE.cells.1; have hfE := hE.cells.2; have a0 := (hcE _ 0 hzq).trans q0; have a1 := (hcE _ 1 hzq).trans q1; clear hcE hfE
                        go_simp
                        exact ⟨rfl, Grow.refl _⟩
                      change Steps _ _ _ _ _ _ _ _ _
                      simp only [put_lit, List.set, List.nil_append, List.cons_append]
                      refine ⟨fun wk hE hF => ?_, ?_⟩
                      · clear hF; have hcE := hE.cells.1; have hfE := hE.cells.2; have a0 := (hcE _ 0 hzq).trans q0; have a1 := (hcE _ 1 hzq).trans q1; clear hcE hfE
                        go_simp
                        (refine (rsum_any A B a2 n2 c2 l2 X2.out (by omega) _ (HC.out.drew.below hE)).mono ?_; rintro e w2 ⟨rfl, hb⟩; exact ⟨_, rfl, rfl, hb⟩)
                      change Steps _ _ _ _ _ _ _ _ _
                      simp only [put_lit, List.set, List.nil_append, List.cons_append]
                      refine ⟨fun wk hE hF => ?_, ?_⟩
                      · clear hF; have hcE := hE.cells.1; have hfE := hE.cells.2; have a0 := (hcE _ 0 hzq).trans q0; have a1 := (hcE _ 1 hzq).trans q1; clear hcE hfE
                        go_simp
                        exact ⟨rfl, Grow.refl _⟩
                      change Steps _ _ _ _ _ _ _ _ _
                      simp only [put_lit, List.set, List.nil_append, List.cons_append]
                      refine ⟨fun wk hE hF => ?_, ?_⟩
                      · clear hF; have hcE := hE.cells.1; have hfE := hE.cells.2; have a0 := (hcE _ 0 hzq).trans q0; have a1 := (hcE _ 1 hzq).trans q1; clear hcE hfE
                        go_simp
                        exact ⟨rfl, Grow.refl _⟩
                      change Steps _ _ _ _ _ _ _ _ _
                      simp only [put_lit, List.set, List.nil_append, List.cons_append]
                      refine ⟨fun wk hE hF => ?_, ?_⟩
                      · clear hF; have hcE := hE.cells.1; have hfE := hE.cells.2; have a0 := (hcE _ 0 hzq).trans q0; have a1 := (hcE _ 1 hzq).trans q1; clear hcE hfE
                        rw [if_pos (wanted_guard rfl (by kernel_rfl))]
                        go_simp
                        exact ⟨rfl, Grow.refl _⟩
                      change Steps _ _ _ _ _ _ _ _ _
                      simp only [put_lit, List.set, List.nil_append, List.cons_append]
                      refine ⟨fun wk hE hF => ?_, ?_⟩
                      · clear hF; have hcE := hE.cells.1; have hfE := hE.cells.2; have a0 := (hcE _ 0 hzq).trans q0; have a1 := (hcE _ 1 hzq).trans q1; clear hcE hfE
                        rw [if_pos (wanted_guard rfl (by kernel_rfl))]
                        go_simp
                        exact ⟨rfl, Grow.refl _⟩
                      change Steps _ _ _ _ _ _ _ _ _
                      simp only [put_lit, List.set, List.nil_append, List.cons_append]
                      refine ⟨fun wk hE hF => ?_, ?_⟩
                      · clear hF; have hcE := hE.cells.1; have hfE := hE.cells.2; have a0 := (hcE _ 0 hzq).trans q0; have a1 := (hcE _ 1 hzq).trans q1; clear hcE hfE
                        rw [if_pos (wanted_guard rfl (by kernel_rfl))]
                        go_simp
                        (refine (parts_any A B a3 n3 c3 l3 X3.out (by omega) _ (HC3.out.drew.below hE)).mono ?_; rintro e w2 ⟨rfl, hb⟩; exact ⟨_, rfl, rfl, hb⟩)
                      change Steps _ _ _ _ _ _ _ _ _
                      simp only [put_lit, List.set, List.nil_append, List.cons_append]
                      refine ⟨fun wk hE hF => ?_, ?_⟩
                      · clear hF; have hcE := hE.cells.1; have hfE := hE.cells.2; have a0 := (hcE _ 0 hzq).trans q0; have a1 := (hcE _ 1 hzq).trans q1; clear hcE hfE
                        rw [if_pos (wanted_guard rfl (by kernel_rfl))]
                        go_simp
                        exact ⟨rfl, Grow.refl _⟩
                      change Steps _ _ _ _ _ _ _ _ _
                      simp only [put_lit, List.set, List.nil_append, List.cons_append]
                      refine ⟨fun wk hE hF => ?_, ?_⟩
                      · clear hF; have hcE := hE.cells.1; have hfE := hE.cells.2; have a0 := (hcE _ 0 hzq).trans q0; have a1 := (hcE _ 1 hzq).trans q1; clear hcE hfE
                        rw [if_pos (wanted_guard rfl (by kernel_rfl))]
                        go_simp
                        exact ⟨rfl, Grow.refl _⟩
                      change Steps _ _ _ _ _ _ _ _ _
                      simp only [put_lit, List.set, List.nil_append, List.cons_append]
                      refine ⟨fun wk hE hF => ?_, ?_⟩
                      · clear hF; have hcE := hE.cells.1; have hfE := hE.cells.2; have a0 := (hcE _ 0 hzq).trans q0; have a1 := (hcE _ 1 hzq).trans q1; clear hcE hfE
                        rw [if_pos (wanted_guard rfl (by kernel_rfl))]
                        go_simp
                        (refine (rparts_any A B a3 n3 c3 l3 X3.out (by omega) _ (HC3.out.drew.below hE)).mono ?_; rintro e w2 ⟨rfl, hb⟩; exact ⟨_, rfl, rfl, hb⟩)
                      change Steps _ _ _ _ _ _ _ _ _
                      simp only [put_lit, List.set, List.nil_append, List.cons_append]
                      refine ⟨fun wk hE hF => ?_, ?_⟩
                      · clear hF; have hcE := hE.cells.1; have hfE := hE.cells.2; have a0 := (hcE _ 0 hzq).trans q0; have a1 := (hcE _ 1 hzq).trans q1; clear hcE hfE
                        rw [if_pos (wanted_guard rfl (by kernel_rfl))]
                        go_simp
                        exact ⟨rfl, Grow.refl _⟩
                      change Steps _ _ _ _ _ _ _ _ _
                      simp only [put_lit, List.set, List.nil_append, List.cons_append]
                      refine ⟨fun wk hE hF => ?_, ?_⟩
                      · clear hF; have hcE := hE.cells.1; have hfE := hE.cells.2; have a0 := (hcE _ 0 hzq).trans q0; have a1 := (hcE _ 1 hzq).trans q1; clear hcE hfE
                        go_simp
                        exact ⟨rfl, Grow.refl _⟩
                      change Steps _ _ _ _ _ _ _ _ _
                      simp only [put_lit, List.set, List.nil_append, List.cons_append]
                      refine ⟨fun wk hE hF => ?_, ?_⟩
                      · clear hF; have hcE := hE.cells.1; have hfE := hE.cells.2; have a0 := (hcE _ 0 hzq).trans q0; have a1 := (hcE _ 1 hzq).trans q1; clear hcE hfE
                        go_simp
                        exact ⟨rfl, Grow.refl _⟩
                      change Steps _ _ _ _ _ _ _ _ _
                      simp only [put_lit, List.set, List.nil_append, List.cons_append]
                      refine ⟨fun wk hE hF => ?_, ?_⟩
                      · clear hF; have hcE := hE.cells.1; have hfE := hE.cells.2; have a0 := (hcE _ 0 hzq).trans q0; have a1 := (hcE _ 1 hzq).trans q1; clear hcE hfE
                        rw [if_pos (wanted_guard rfl (by kernel_rfl))]
                        go_simp
                        exact ⟨rfl, Grow.refl _⟩
                      change Steps _ _ _ _ _ _ _ _ _
                      simp only [put_lit, List.set, List.nil_append, List.cons_append]
                      refine ⟨fun wk hE hF => ?_, ?_⟩
                      · clear hF; have hcE := hE.cells.1; have hfE := hE.cells.2; have a0 := (hcE _ 0 hzq).trans q0; have a1 := (hcE _ 1 hzq).trans q1; clear hcE hfE
                        rw [if_pos (wanted_guard rfl (by kernel_rfl))]
                        go_simp
                        exact ⟨rfl, Grow.refl _⟩
                      change Steps _ _ _ _ _ _ _ _ _
                      simp only [put_lit, List.set, List.nil_append, List.cons_append]
                      refine ⟨fun wk hE hF => ?_, ?_⟩
                      · clear hF; have hcE := hE.cells.1; have hfE := hE.cells.2; have a0 := (hcE _ 0 hzq).trans q0; have a1 := (hcE _ 1 hzq).trans q1; clear hcE hfE
                        rw [if_pos (wanted_guard rfl (by kernel_rfl))]
                        go_simp
                        (refine (derive_any A B s _).mono ?_; rintro e w2 ⟨rfl, hb⟩; exact ⟨_, rfl, rfl, hb⟩)
                      change Steps _ _ _ _ _ _ _ _ _
                      simp only [put_lit, List.set, List.nil_append, List.cons_append]
                      refine ⟨fun wk hE hF => ?_, ?_⟩
                      · clear hF; have hcE := hE.cells.1; have hfE := hE.cells.2; have a0 := (hcE _ 0 hzq).trans q0; have a1 := (hcE _ 1 hzq).trans q1; clear hcE hfE
                        rw [if_pos (wanted_guard rfl (by kernel_rfl))]
                        go_simp
                        exact ⟨rfl, Grow.refl _⟩
                      change Steps _ _ _ _ _ _ _ _ _
                      simp only [put_lit, List.set, List.nil_append, List.cons_append]
                      refine ⟨fun wk hE hF => ?_, ?_⟩
                      · clear hF; have hcE := hE.cells.1; have hfE := hE.cells.2; have a0 := (hcE _ 0 hzq).trans q0; have a1 := (hcE _ 1 hzq).trans q1; clear hcE hfE
                        rw [if_pos (wanted_guard rfl (by kernel_rfl))]
                        go_simp
                        exact ⟨rfl, Grow.refl _⟩
                      change Steps _ _ _ _ _ _ _ _ _
                      simp only [put_lit, List.set, List.nil_append, List.cons_append]
                      refine ⟨fun wk hE hF => ?_, ?_⟩
                      · clear hF; have hcE := hE.cells.1; have hfE := hE.cells.2; have a0 := (hcE _ 0 hzq).trans q0; have a1 := (hcE _ 1 hzq).trans q1; clear hcE hfE
                        rw [if_pos (wanted_guard rfl (by kernel_rfl))]
                        go_simp
                        (refine (rderive_any A B s _).mono ?_; rintro e w2 ⟨rfl, hb⟩; exact ⟨_, rfl, rfl, hb⟩)
                      change Steps _ _ _ _ _ _ _ _ _
                      simp only [put_lit, List.set, List.nil_append, List.cons_append]
                      refine ⟨fun wk hE hF => ?_, ?_⟩
                      · clear hF; have hcE := hE.cells.1; have hfE := hE.cells.2; have a0 := (hcE _ 0 hzq).trans q0; have a1 := (hcE _ 1 hzq).trans q1; clear hcE hfE
                        rw [if_pos (wanted_guard rfl (by kernel_rfl))]
                        go_simp
                        exact ⟨rfl, Grow.refl _⟩
                      change Steps _ _ _ _ _ _ _ _ _
                      simp only [put_lit, List.set, List.nil_append, List.cons_append]
                      refine ⟨fun wk hE hF => ?_, ?_⟩
                      · clear hF; have hcE := hE.cells.1; have hfE := hE.cells.2; have a0 := (hcE _ 0 hzq).trans q0; have a1 := (hcE _ 1 hzq).trans q1; clear hcE hfE
                        go_simp
                        exact ⟨rfl, Grow.refl _⟩
                      change Steps _ _ _ _ _ _ _ _ _
                      simp only [put_lit, List.set, List.nil_append, List.cons_append]
                      intro wk hE hF
                      clear hF; obtain ⟨hcE, hfE⟩ := hE.cells; have HE := Lib.hid hE; clear hE
                      go_wp2_with fail
                      go_roundw
                      case rel =>
                        refine ⟨k + 1, by omega, by go_num, ?_⟩
                        have h1 : Hid (Below wb.heap.size wb wr) := HBwo.out
                        exact h1.out.trans (((Below.refl _ wr).drew.trans HE.out).mono h1.out.size)
                      case measure => simp [intOf]; omega
              · have hlt' : ¬ (k : Int) < 2 := by omega
                go_wp2_with fail
                go_ret
                exact ⟨rfl, HBk.out.trans (HBo.out.mono HBk.out.size)⟩
          · have HS4 := Lib.hid (show shortB [s] = false by simpa using hs4)
            clear hs4
            go_enter Try.func6, Try.ntmps6
            go_wp2_with fail
            refine (awake_any _).mono ?_
            rintro e w1 ⟨rfl, hb1⟩
            have HB1 := Lib.hid (HBX.out.trans (hb1.mono HBX.out.size))
            clear hb1
            go_wp2_with fail
            refine (few_yes _ _ _ hn _).mono ?_
            rintro e w2' ⟨rfl, rfl⟩
            go_wp2_with fail
            refine (short_any _ _ _ l3 X3.out (by omega) _ (W3.out.below HB1.out)).mono ?_
            rw [HS3.out]
            rintro e w2' ⟨rfl, rfl⟩
            go_wp2_with fail
            refine (short_any _ 1 1 [s] rfl (by omega) _ (cells_new w1 (strV [s]) _ _)).mono ?_
            rw [HS4.out]
            rintro e w2' ⟨rfl, rfl⟩
            go_wp2_with fail
            refine (awake_any _).mono ?_
            rintro e w3 ⟨rfl, hb3⟩
            go_wp2_with fail
            go_ret
            exact ⟨rfl, (HB1.out.alloc HB1.out.size _).trans (hb3.mono (by have := HB1.out.size; simp; omega))⟩
        · have HS3 := Lib.hid (show shortB l3 = false by simpa using hs3)
          clear hs3
          go_enter Try.func6, Try.ntmps6
          go_wp2_with fail
          refine (awake_any _).mono ?_
          rintro e w1 ⟨rfl, hb1⟩
          have HB1 := Lib.hid (HBX.out.trans (hb1.mono HBX.out.size))
          clear hb1
          go_wp2_with fail
          refine (few_yes _ _ _ hn _).mono ?_
          rintro e w2' ⟨rfl, rfl⟩
          go_wp2_with fail
          refine (short_any _ _ _ l3 X3.out (by omega) _ (W3.out.below HB1.out)).mono ?_
          rw [HS3.out]
          rintro e w2' ⟨rfl, rfl⟩
          go_wp2_with fail
          refine (awake_any _).mono ?_
          rintro e w3 ⟨rfl, hb3⟩
          go_wp2_with fail
          go_ret
          exact ⟨rfl, HB1.out.trans (hb3.mono HB1.out.size)⟩
      · have hp' : (60 : Int) < (n3 : Int) := by omega
        go_enter Try.func6, Try.ntmps6
        go_wp2_with fail
        refine (awake_any _).mono ?_
        rintro e w1 ⟨rfl, hb1⟩
        have HB1 := Lib.hid (HBX.out.trans (hb1.mono HBX.out.size))
        clear hb1
        go_wp2_with fail
        refine (few_yes _ _ _ hn _).mono ?_
        rintro e w2' ⟨rfl, rfl⟩
        go_wp2_with fail
        refine (awake_any _).mono ?_
        rintro e w3 ⟨rfl, hb3⟩
        go_wp2_with fail
        go_ret
        exact ⟨rfl, HB1.out.trans (hb3.mono HB1.out.size)⟩
    · have hb' : (4000 : Int) < (n2 : Int) := by omega
      go_enter Try.func6, Try.ntmps6
      go_wp2_with fail
      refine (awake_any _).mono ?_
      rintro e w1 ⟨rfl, hb1⟩
      have HB1 := Lib.hid (HBX.out.trans (hb1.mono HBX.out.size))
      clear hb1
      go_wp2_with fail
      refine (few_yes _ _ _ hn _).mono ?_
      rintro e w2' ⟨rfl, rfl⟩
      go_wp2_with fail
      refine (awake_any _).mono ?_
      rintro e w3 ⟨rfl, hb3⟩
      go_wp2_with fail
      go_ret
      exact ⟨rfl, HB1.out.trans (hb3.mono HB1.out.size)⟩
  · go_enter Try.func6, Try.ntmps6
    go_wp2_with fail
    refine (awake_any _).mono ?_
    rintro e w1 ⟨rfl, hb1⟩
    have HB1 := Lib.hid (HBX.out.trans (hb1.mono HBX.out.size))
    clear hb1
    go_wp2_with fail
    refine (few_no _ _ _ hn _).mono ?_
    rintro e w2' ⟨rfl, rfl⟩
    go_wp2_with fail
    refine (awake_any _).mono ?_
    rintro e w3 ⟨rfl, hb3⟩
    go_wp2_with fail
    go_ret
    exact ⟨rfl, HB1.out.trans (hb3.mono HB1.out.size)⟩
end Go.Proofs.Ytkkcjnhochdpgaa
