/- SipHash: the walk of SiphashParts. -/
import Derived.Test.YtkkcjnhochdpgaaWalk08
import Derived.Test.YtkkcjnhochdpgaaDeck3
namespace Go.Proofs.Ytkkcjnhochdpgaa
open Go.RowKit
set_option linter.constructorNameAsVariable false

theorem Only.belowBase {p : Nat} {w w' w'' : World} (h : Only p w w') (k : Below w.heap.size w' w'') : Only p w w'' :=
  ⟨k.os.trans h.os, k.tape.trans h.tape, k.output.trans h.output, Nat.le_trans h.size k.size, fun i hi hp => (k.block i hi).trans (h.block i hi hp)⟩
theorem Only.grown {p : Nat} {w w' : World} (h : Only p w w') : w.grownBy w' (some p) := ⟨h.os, h.tape, h.output, h.size, fun k hk hne => h.block k hk (by rintro rfl; exact hne rfl)⟩
theorem own_only {p : Nat} {w w' : World} {base : Nat} {e : TypeId} {size n : Nat} {v : Value} {xs : List Value} (h : w.ownsRow base e size v n xs) (k : Only p w w') (hp : p < base) : w'.ownsRow base e size v n xs :=
  h.kept k.grown (by
    cases hv : v.ownBlock with
    | none => exact .inl rfl
    | some b => exact .inr (by have := (h.lt b hv).1; intro e; injection e with e; omega))
theorem Try.infoStr : (Try.prog.info? 9).map (fun i => (i.zero, i.size, i.bytes)) = some (some (.string ⟨#[]⟩), 1, 16) := by kernel_rfl

theorem keepB {w w' : World} {B n : Nat} {q : Option Addr} {l : List Int} (hn : n = l.length) (h : Cells w q (intsV l)) (k : Below B w w') (hp : n = 0 ∨ ∀ a, q = some a → a.block < B) : Cells w' q (intsV l) := by
  rcases hp with h0 | h0
  · have : l = [] := List.eq_nil_of_length_eq_zero (by omega)
    subst this; exact Cells.nil _ _
  · intro i hi
    obtain ⟨b, o, rfl, hc⟩ := h i hi
    exact ⟨b, o, rfl, by rw [k.cell (p := ⟨b, o + i, none⟩) (h0 ⟨b, o, none⟩ rfl)]; exact hc⟩
theorem Deck.belowB {w w' : World} {p B : Nat} (h : Deck w p) (k : Below B w w') (hp : p < B) : Deck w' p := by
  obtain ⟨q, n, c, l, at_, st, hb, h1, h2, h3, h4, h5, h6⟩ := h
  exact ⟨q, n, c, l, at_, st, (k.block p hp).trans hb, h1, keepB h1 h2 k (h3.imp id fun f a ha => by have := f a ha; omega), h3, h4, h5, h6⟩
theorem own_keepA {w w' : World} {o : Obj} {base base' : Nat} {e e' : TypeId} {size size' n n' : Nat} {v v' : Value} {xs xs' : List Value} (h : w.ownsRow base e size v n xs) (h' : w.ownsRow base' e' size' v' n' xs') (hne : e ≠ e')
    (hg : (w.alloc o).grownBy w' v'.ownBlock) : w'.ownsRow base e size v n xs := (h.alloc o).kept hg (own_own_ne (h.alloc o) (h'.alloc o) hne)
theorem strV_append (l l' : List ByteArray) : strV (l ++ l') = strV l ++ strV l' := by simp [strV]
theorem strV_length (l : List ByteArray) : (strV l).length = l.length := by simp [strV]
theorem partsOf_app (ss : List ByteArray) (s : ByteArray) (h : s.size ≤ 65535) : partsOf (ss ++ [s]) = partsOf ss ++ part1 s.data.toList := by
  unfold partsOf
  rw [List.flatMap_append, List.flatMap_singleton, List.take_of_length_le (by simpa using h)]
theorem strV_one (l : List ByteArray) : ∀ u ∈ strV l, u.oneCell' = true := by
  intro u hu; obtain ⟨_, _, rfl⟩ := List.mem_map.1 hu; rfl
set_option maxHeartbeats 3200000 in
theorem parts_walk (a0 : Option Addr) (n c : Nat) (zs : List Int) (w : World) (h0 : RowI .i64 w a0 n c zs) :
    Calls Try.prog 3 #[.slice a0 n c] w fun e w' => e = .returned (.bool true) ∧ Below w.heap.size w w' := by
  have H0 := Lib.hid h0
  clear h0
  by_cases hn : n ≤ 400
  · have hne : n = 0 ∨ ∀ x, a0 = some x → x.block < w.heap.size := by
      rcases Nat.eq_zero_or_pos n with h | h
      · exact .inl h
      · exact .inr (H0.out.low h)
    go_enter Try.func3, Try.ntmps3
    go_wp2_with fail
    refine (awake_any _).mono ?_
    rintro e w1 ⟨rfl, hb⟩
    have HB1 := Lib.hid hb
    clear hb
    go_wp2_with fail
    refine (few_yes _ _ _ hn _).mono ?_
    rintro e w2 ⟨rfl, rfl⟩
    go_wp2_with fail
    refine (new_any a0 n c (zs.take n) H0.out.cells.1 hn _ (H0.out.cells.2.below HB1.out) ?_).mono ?_
    · exact hne.imp id fun f x hx => by have := f x hx; have := HB1.out.size; omega
    rintro e w3 ⟨rfl, hd, hb⟩
    have HD3 := Lib.hid hd
    have HB3 := Lib.hid (HB1.out.trans (hb.mono HB1.out.size))
    clear hd hb
    go_wp2_with fail
    refine (key_any w1.heap.size _ HD3.out).mono ?_
    rintro e w4 ⟨v, rfl, ⟨x, y, rfl⟩, hd, ho⟩
    have HD4 := Lib.hid hd
    have HB4 := Lib.hid (below_only HB3.out ho HB3.out.size HB1.out.size)
    have hlt4 := hd.lt
    clear hd ho
    go_wp2_with fail
    refine (next_any w1.heap.size 5 (by omega) (by omega) _ (HD4.out.below ((Below.refl _ _).alloc (Nat.le_refl _) _))).mono ?_
    rintro e w5 ⟨v, rfl, ⟨k, rfl, k0, k1⟩, hd, ho⟩
    obtain ⟨k, rfl⟩ := Int.eq_ofNat_of_zero_le k0
    have HD5 := Lib.hid hd
    have HO5 := Lib.hid ho
    clear hd ho
    go_wp2_with fail
    go_loopw [5, 6, 7, 8] (fun v5 v6 v7 v8 wr => ∃ (ss : List ByteArray) (j : Nat), v7 = .int .i64 j ∧ j + ss.length ≤ 4 ∧ Hid (wr.ownsRow (w4.heap.size + 1) 9 1 v5 (strV ss).length (strV ss)) ∧
      Hid (wr.ownsRow (w4.heap.size + 1) 5 1 v6 (bytesV (partsOf ss)).length (bytesV (partsOf ss))) ∧ Hid (Deck wr w1.heap.size) ∧ Hid (Only w1.heap.size (w4.alloc (.cells #[.int .u64 (T64 x), .int .u64 (T64 y)] 29)) wr)) (fun _ _ v7 _ _ => (intOf v7).toNat)
    case atStart => exact ⟨[], k, rfl, by simp; omega, World.ownsRow_nil _ _ _ _, World.ownsRow_nil _ _ _ _, HD5.out, HO5.out⟩
    case round =>
      obtain ⟨ss, j, rfl, hj, HO5', HO6, HD, HO⟩ := hrel
      have hsz : w4.heap.size + 1 ≤ wr.heap.size := by have := HO.out.size; simpa using this
      by_cases hj0 : 0 < j
      · have hj' : (0 : Int) < (j : Int) := by omega
        go_wp2_with fail
        refine (text_any w1.heap.size wr HD.out).mono ?_
        rintro e w6 ⟨v, rfl, ⟨s, rfl, hs⟩, hd, ho⟩
        have HD6 := Lib.hid hd
        have HO6x := Lib.hid (HO.out.trans ho)
        have P6 := Lib.hid (own_only HO5'.out ho (by omega))
        have B6 := Lib.hid (own_only HO6.out ho (by omega))
        have hsz6 : w4.heap.size + 1 ≤ w6.heap.size := Nat.le_trans hsz ho.size
        have e1 := u8_hi s.size (by omega)
        have e2 := u8_lo s.size
        clear hd ho
        obtain ⟨iS, hiS, hzS, hyS, hbS⟩ := info_parts Try.infoStr
        obtain ⟨i0, hi0, hz0, hz1, hz2⟩ := info_parts Try.infoU8
        have hpl : (bytesV (partsOf ss)).length ≤ 65537 * 4 := by
          rw [bytesV_length]; have := partsOf_le ss; omega
        have hsl : (strV ss).length ≤ 4 := by rw [strV_length]; omega
        go_wp2_with (first
          | (at_builtin; (refine wpList_app rfl (.tmp 29) (.tmp 31) 31 rfl (w4.heap.size + 1) 9 iS (.string ⟨#[]⟩) 16 Try.underlying31 hiS hzS hyS hbS rfl _ (strV ss) rfl (P6.out.alloc _) _ 1 1 (strV [s]) rfl rfl (cells_new _ (strV [s]) _ _) (strV_one _) (by rw [strV_length [_]]; simp only [List.length_cons, List.length_nil]; omega) (by rw [strV_length [_]]; simp only [List.length_cons, List.length_nil]; omega) (by simp; omega) ?_); intro v1 w7 hown1 hb1 hg1 _; have P7 := Lib.hid hown1; have B7 := Lib.hid (own_keepA B6.out P6.out (by decide) hg1); have HB7 := Lib.hid (((Below.refl (w4.heap.size + 1) w6).alloc hsz6 _).trans hb1); have hsz7 := Nat.le_trans hsz6 HB7.out.size; clear hown1 hb1 hg1)
          | (at_builtin; refine wpList_app rfl (.tmp 33) (.tmp 42) 32 rfl (w4.heap.size + 1) 5 i0 (.int .u8 0) 1 Try.underlying32 hi0 hz0 hz1 hz2 rfl _ (bytesV (partsOf ss)) rfl (B7.out.alloc _) _ 2 2 (bytesV [UInt8.ofNat (s.size / 256), UInt8.ofNat s.size]) rfl rfl (cells_new _ (bytesV [UInt8.ofNat (s.size / 256), UInt8.ofNat s.size]) _ _) (bytesV_one _) (by rw [bytesV_length [_, _]]; simp only [List.length_cons, List.length_nil]; omega) (by rw [bytesV_length [_, _]]; simp only [List.length_cons, List.length_nil]; omega) (by simp; omega) ?_; intro v2 w8 hown2 hb2 hg2 _; have B8 := Lib.hid hown2; have P8 := Lib.hid (own_keepA P7.out B7.out (by decide) hg2); have HB8 := Lib.hid ((HB7.out.alloc hsz7 _).trans hb2); have hsz8 := Nat.le_trans hsz6 HB8.out.size; clear hown2 hb2 hg2)
          | (at_builtin; refine wpList_appStr rfl (.tmp 44) (.tmp 45) 32 9 rfl (w4.heap.size + 1) 5 i0 Try.underlying32 Try.underlying9 hi0 hz0 hz1 hz2 _ _ rfl B8.out s rfl (by rw [List.length_append, bytesV_length [_, _]]; simp only [List.length_cons, List.length_nil]; omega) hsz8 ?_; intro v3 w9 hown3 hb3 hg3; have B9 := Lib.hid hown3; have P9 := Lib.hid (P8.out.kept hg3 (own_own_ne P8.out B8.out (by decide))); have HB9 := Lib.hid (HB8.out.trans hb3); clear hown3 hb3 hg3))
        go_roundw
        case rel =>
          refine ⟨ss ++ [s], j - 1, by go_num, by simp; omega, ?_, ?_, HD6.out.belowB HB9.out (by omega), HO6x.out.belowBase (by rw [World.size_alloc]; exact HB9.out)⟩
          · rw [strV_append]; exact P9.out
          · have e : bytesV (partsOf (ss ++ [s])) = bytesV (partsOf ss) ++ bytesV [UInt8.ofNat (s.size / 256), UInt8.ofNat s.size] ++ s.data.toList.map fun b => Value.int .u8 (T8 b) := by
              rw [partsOf_app _ _ (by omega), bytesV_append, List.append_assoc]
              simp [part1, bytesV]
            rw [e]; exact B9.out
        case measure => simp [intOf]; omega
      · have hj' : ¬ (0 : Int) < (j : Int) := by omega
        have ck0 : wr.cell? ⟨w4.heap.size, 0, none⟩ = some (.int .u64 (T64 x)) := by rw [HO.out.cell (by simp) (by show w4.heap.size ≠ _; omega)]; exact cell_at (heap_new _ _) 0
        have ck1 : wr.cell? ⟨w4.heap.size, 1, none⟩ = some (.int .u64 (T64 y)) := by rw [HO.out.cell (by simp) (by show w4.heap.size ≠ _; omega)]; exact cell_at (heap_new _ _) 1
        obtain ⟨qs, cs, rfl, _, _, _, hcs⟩ := own_cells HO5'.out
        have HCS := Lib.hid hcs
        obtain ⟨qb, cb, rfl, _, hcb1, hcb2, hcb⟩ := own_cells HO6.out
        have HCB := Lib.hid hcb
        clear hcs hcb
        have hz : w4.heap.size < wr.heap.size := hsz
        clear hsz
        have HBr := Lib.hid (below_only HB4.out ((Only.refl _ _).alloc _ |>.trans HO.out) HB4.out.size (by have := HB1.out.size; omega))
        go_wp2_with fail
        refine wp_rely 8 [is (.agg #[.int .u64 (T64 x), .int .u64 (T64 y)]), is (.slice qs (strV ss).length cs), is (.int .u64 (T64 (sip x y (partsOf ss)))), is (.agg #[.int .u64 (T64 x), .int .u64 (T64 y)]), is (.slice qb (bytesV (partsOf ss)).length cb), is (.int .u64 (T64 (sip x y (partsOf ss)))), is (.bool true), is (.bool true)] (by kernel_rfl) (by kernel_rfl) (mono_cons (is_mono _) ( mono_cons (is_mono _) ( mono_cons (is_mono _) ( mono_cons (is_mono _) ( mono_cons (is_mono _) ( mono_cons (is_mono _) ( mono_cons (is_mono _) ( mono_cons (is_mono _) (mono_nil))))))))) ?_
        simp only [List.take_succ_cons, List.take_zero, List.drop_succ_cons, List.drop_zero]
        refine ⟨fun wk hE hF => ?_, ?_⟩
        · clear hF; have hcE := hE.cells.1; have hfE := hE.cells.2; have a0 := (hcE _ 0 hz).trans ck0; have a1 := (hcE _ 1 hz).trans ck1; clear hcE hfE
          go_simp
          exact ⟨rfl, Grow.refl _⟩
        change Steps _ _ _ _ _ _ _ _ _
        simp only [put_lit, List.set, List.nil_append]
        refine ⟨fun wk hE hF => ?_, ?_⟩
        · clear hF; have hcE := hE.cells.1; have hfE := hE.cells.2; have a0 := (hcE _ 0 hz).trans ck0; have a1 := (hcE _ 1 hz).trans ck1; clear hcE hfE
          go_simp
          exact ⟨rfl, Grow.refl _⟩
        change Steps _ _ _ _ _ _ _ _ _
        simp only [put_lit, List.set, List.nil_append, List.cons_append]
        refine ⟨fun wk hE hF => ?_, ?_⟩
        · clear hF; have hcE := hE.cells.1; have hfE := hE.cells.2; have a0 := (hcE _ 0 hz).trans ck0; have a1 := (hcE _ 1 hz).trans ck1; clear hcE hfE
          go_simp
          (refine (parts_any x y _ _ _ ss (by rw [strV_length]) (by rw [strV_length]; omega) _ (HCS.out.drew.below hE)).mono ?_; rintro e w2 ⟨rfl, hb⟩; exact ⟨_, rfl, rfl, hb⟩)
        change Steps _ _ _ _ _ _ _ _ _
        simp only [put_lit, List.set, List.nil_append, List.cons_append]
        refine ⟨fun wk hE hF => ?_, ?_⟩
        · clear hF; have hcE := hE.cells.1; have hfE := hE.cells.2; have a0 := (hcE _ 0 hz).trans ck0; have a1 := (hcE _ 1 hz).trans ck1; clear hcE hfE
          go_simp
          exact ⟨rfl, Grow.refl _⟩
        change Steps _ _ _ _ _ _ _ _ _
        simp only [put_lit, List.set, List.nil_append, List.cons_append]
        refine ⟨fun wk hE hF => ?_, ?_⟩
        · clear hF; have hcE := hE.cells.1; have hfE := hE.cells.2; have a0 := (hcE _ 0 hz).trans ck0; have a1 := (hcE _ 1 hz).trans ck1; clear hcE hfE
          go_simp
          exact ⟨rfl, Grow.refl _⟩
        change Steps _ _ _ _ _ _ _ _ _
        simp only [put_lit, List.set, List.nil_append, List.cons_append]
        refine ⟨fun wk hE hF => ?_, ?_⟩
        · clear hF; have hcE := hE.cells.1; have hfE := hE.cells.2; have a0 := (hcE _ 0 hz).trans ck0; have a1 := (hcE _ 1 hz).trans ck1; clear hcE hfE
          go_simp
          (refine (sum_any x y _ _ _ (partsOf ss) (by rw [bytesV_length]) hcb1 hcb2 _ (HCB.out.drew.below hE)).mono ?_; rintro e w2 ⟨rfl, hb⟩; exact ⟨_, rfl, rfl, hb⟩)
        change Steps _ _ _ _ _ _ _ _ _
        simp only [put_lit, List.set, List.nil_append, List.cons_append]
        refine ⟨fun wk hE hF => ?_, ?_⟩
        · clear hF; have hcE := hE.cells.1; have hfE := hE.cells.2; have a0 := (hcE _ 0 hz).trans ck0; have a1 := (hcE _ 1 hz).trans ck1; clear hcE hfE
          go_simp
          exact ⟨rfl, Grow.refl _⟩
        change Steps _ _ _ _ _ _ _ _ _
        simp only [put_lit, List.set, List.nil_append, List.cons_append]
        refine ⟨fun wk hE hF => ?_, ?_⟩
        · clear hF; have hcE := hE.cells.1; have hfE := hE.cells.2; have a0 := (hcE _ 0 hz).trans ck0; have a1 := (hcE _ 1 hz).trans ck1; clear hcE hfE
          go_simp
          exact ⟨rfl, Grow.refl _⟩
        change Steps _ _ _ _ _ _ _ _ _
        simp only [put_lit, List.set, List.nil_append, List.cons_append]
        intro wk hE hF
        clear hF; obtain ⟨hcE, hfE⟩ := hE.cells; have HE := Lib.hid hE; clear hE
        go_wp2_with fail
        go_ret
        exact ⟨rfl, HBr.out.trans (Below.mono ((Below.refl _ wr).drew.trans HE.out) HBr.out.size)⟩
  · go_enter Try.func3, Try.ntmps3
    go_wp2_with fail
    refine (awake_any _).mono ?_
    rintro e w1 ⟨rfl, hb⟩
    have HB1 := Lib.hid hb
    clear hb
    go_wp2_with fail
    refine (few_no _ _ _ hn _).mono ?_
    rintro e w2 ⟨rfl, rfl⟩
    go_wp2_with fail
    refine (awake_any _).mono ?_
    rintro e w3 ⟨rfl, hb⟩
    have HB3 := Lib.hid hb
    clear hb
    go_wp2_with fail
    go_ret
    exact ⟨rfl, HB1.out.trans (HB3.out.mono HB1.out.size)⟩
end Go.Proofs.Ytkkcjnhochdpgaa
