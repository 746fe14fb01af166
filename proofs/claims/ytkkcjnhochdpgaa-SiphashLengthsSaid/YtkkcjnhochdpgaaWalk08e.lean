/- SipHash: the walk of SiphashLengths. -/
import Derived.Test.YtkkcjnhochdpgaaWalk08d
import Derived.Test.YtkkcjnhochdpgaaApp
namespace Go.Proofs.Ytkkcjnhochdpgaa
open Go.RowKit
set_option linter.constructorNameAsVariable false

theorem own_lit {w : World} {B : Nat} {e : TypeId} (xs : List Value) (n : Nat) (hn : xs.length = n) (hm : n ≤ maxLen) (hB : B ≤ w.heap.size) : (w.alloc (.cells xs.toArray e)).ownsRow B e 1 (.slice (some ⟨w.heap.size, 0, none⟩) n n) n xs :=
  ⟨by omega, .inr ⟨w.heap.size, n, xs.toArray, rfl, hB, heap_new _ _, Nat.le_refl _, hm, by simp; omega, by rw [Nat.mul_one]; simp [← hn]⟩⟩
theorem part1_short (t : List UInt8) (h : t.length ≤ 255) : part1 t = 0 :: UInt8.ofNat t.length :: t := by
  rw [part1, show t.length / 256 = 0 by omega]; rfl
theorem parts_one (s : ByteArray) (h : s.size ≤ 255) : partsOf [s] = [0, UInt8.ofNat s.size] ++ s.data.toList := by
  have hl : s.data.toList.length = s.size := by simp
  simp only [partsOf, List.flatMap_cons, List.flatMap_nil, List.append_nil]
  rw [List.take_of_length_le (by omega), part1_short _ (by omega), hl]; rfl
theorem ext_list (s : ByteArray) (i j : Nat) : (s.extract i j).data.toList = (s.data.toList.take j).drop i := by
  rw [ByteArray.data_extract]
  simp [List.extract_eq_take_drop, List.drop_take]
theorem parts_cut (s : ByteArray) (i : Nat) (h : s.size ≤ 255) (hi : i ≤ s.size) :
    partsOf [s.extract 0 i, s.extract i s.size] = ([0, UInt8.ofNat i] ++ s.data.toList.take i) ++ [0, UInt8.ofNat (s.size - i)] ++ s.data.toList.drop i := by
  have hl : s.data.toList.length = s.size := by simp
  have e1 : (s.extract 0 i).data.toList = s.data.toList.take i := by rw [ext_list]; simp
  have e2 : (s.extract i s.size).data.toList = s.data.toList.drop i := by rw [ext_list, List.take_of_length_le (by omega)]
  have l1 : (s.data.toList.take i).length = i := by rw [List.length_take]; omega
  have l2 : (s.data.toList.drop i).length = s.size - i := by rw [List.length_drop]; omega
  simp only [partsOf, List.flatMap_cons, List.flatMap_nil, List.append_nil]
  have h3 : (s.data.toList.take i).take 65535 = s.data.toList.take i := List.take_of_length_le (by omega)
  have h4 : (s.data.toList.drop i).take 65535 = s.data.toList.drop i := List.take_of_length_le (by omega)
  rw [e1, e2, h3, h4, part1_short _ (by omega), part1_short _ (by omega), l1, l2]
  simp

theorem parts_nil (s : ByteArray) : partsOf [s, ⟨#[]⟩] = partsOf [s] ++ [0, 0] := by
  simp [partsOf, part1]
  exact ⟨rfl, rfl⟩
theorem nat8 (k : Nat) (h : k ≤ 255) : Value.int .u8 (T8 (UInt8.ofNat k)) = .int .u8 (k : Int) := by
  have e : T8 (UInt8.ofNat k) = (k : Int) := by unfold T8; rw [UInt8.toNat_ofNat']; omega
  rw [e]
theorem strCells_bytes (s : ByteArray) : Lib.strCells s = bytesV s.data.toList := rfl
theorem bytes_lit (k : Nat) (h : k ≤ 255) : [Value.int .u8 0, .int .u8 (k : Int)] = bytesV [0, UInt8.ofNat k] := by
  rw [← nat8 k h]; rfl
theorem wrap_nat64 (d : Nat) (h : d < 9223372036854775808) : IntKind.i64.wrap (d : Int) = (d : Int) := by
  simp [IntKind.wrap, IntKind.bits, IntKind.signed]; omega
theorem wrap_nat8 (d : Nat) (h : d < 256) : IntKind.u8.wrap (d : Int) = (d : Int) := by
  simp [IntKind.wrap, IntKind.bits, IntKind.signed]; omega
set_option maxHeartbeats 3200000 in
theorem lengths_walk (a0 : Option Addr) (n c : Nat) (zs : List Int) (m : Nat) (w : World) (h0 : RowI .i64 w a0 n c zs) (hm : m ≤ 255) :
    Calls Try.prog 5 #[.slice a0 n c, .int .u8 (m : Int)] w fun e w' => e = .returned (.bool true) ∧ Below w.heap.size w w' := by
  have H0 := Lib.hid h0
  clear h0
  by_cases hn : n ≤ 400
  · have hne : n = 0 ∨ ∀ x, a0 = some x → x.block < w.heap.size := by
      rcases Nat.eq_zero_or_pos n with h | h
      · exact .inl h
      · exact .inr (H0.out.low h)
    obtain ⟨i0, hi0, hz0, hz1, hz2⟩ := info_parts Try.infoU8
    go_enter Try.func5, Try.ntmps5
    go_wp2_with fail
    refine (awake_any _).mono ?_
    rintro e w1 ⟨rfl, hb⟩
    have HB1 := Lib.hid hb
    clear hb
    go_wp2_with fail
    refine (few_yes _ _ _ hn _).mono ?_
    rintro e w2 ⟨rfl, rfl⟩
    go_wp2_with fail
    refine (new_any a0 n c (zs.take n) H0.out.cells.1 hn _ (H0.out.cells.2.below HB1.out) ?_).mono ?_
    · exact hne.imp id fun f x hx => by have := f x hx; have := HB1.out.size; omega
    rintro e w3 ⟨rfl, hd, hb⟩
    have HD3 := Lib.hid hd
    have HB3 := Lib.hid (HB1.out.trans (hb.mono HB1.out.size))
    clear hd hb
    go_wp2_with fail
    refine (key_any w1.heap.size _ HD3.out).mono ?_
    rintro e w4 ⟨v, rfl, ⟨x, y, rfl⟩, hd, ho⟩
    have HD4 := Lib.hid hd
    have HB4 := Lib.hid (below_only HB3.out ho HB3.out.size HB1.out.size)
    have hlt4 := hd.lt
    clear hd ho
    go_wp2_with fail
    refine (token_any w1.heap.size _ (HD4.out.below ((Below.refl _ _).alloc (Nat.le_refl _) _))).mono ?_
    rintro e w5 ⟨v, rfl, ⟨t, rfl, ht⟩, hd, ho⟩
    have HD5 := Lib.hid hd
    have HO5 := Lib.hid ho
    clear hd ho
    go_wp2_with fail
    refine (token_any w1.heap.size _ HD5.out).mono ?_
    rintro e w6 ⟨v, rfl, ⟨u, rfl, hu⟩, hd, ho⟩
    have HO6 := Lib.hid (HO5.out.trans ho)
    clear hd ho
    have hsz : (t ++ u).size ≤ 18 := by rw [ByteArray.size_append]; omega
    obtain ⟨s, hs⟩ : ∃ s, t ++ u = s := ⟨_, rfl⟩
    rw [hs] at hsz
    obtain ⟨i, hi, hI⟩ : ∃ i : Nat, i ≤ s.size ∧ (m : Int) % ((s.size : Int) + 1) = (i : Int) := by
      refine ⟨m % (s.size + 1), ?_, ?_⟩
      · have := Nat.mod_lt m (show 0 < s.size + 1 by omega); omega
      · have : ((s.size : Int) + 1) = ((s.size + 1 : Nat) : Int) := by omega
        rw [this]; omega
    have e2 := u8_lo i
    have e4 := u8_lo s.size
    obtain ⟨d, hd⟩ : ∃ d, s.size - i = d := ⟨_, rfl⟩
    have hd1 : d ≤ 18 := by omega
    have hd2 : i + d = s.size := by omega
    have hi' : (i : Int) ≤ (s.size : Int) := by omega
    have hxs : (s.extract 0 i).size = i := by simp; omega
    have hsub : (s.size : Int) - (i : Int) = (d : Int) := by omega
    clear hd
    have k0 : w6.cell? ⟨w4.heap.size, 0, none⟩ = some (.int .u64 (T64 x)) := (HO6.out.cell (a := ⟨w4.heap.size, 0, none⟩) (by simp) (by show w4.heap.size ≠ _; omega)).trans (cell_at (heap_new _ _) 0)
    have k1 : w6.cell? ⟨w4.heap.size, 1, none⟩ = some (.int .u64 (T64 y)) := (HO6.out.cell (a := ⟨w4.heap.size, 1, none⟩) (by simp) (by show w4.heap.size ≠ _; omega)).trans (cell_at (heap_new _ _) 1)
    have hz6 : w4.heap.size < w6.heap.size := by have := HO6.out.size; simp at this; omega
    have HB6 : Hid (Below w.heap.size w w6) := below_only HB4.out (((Only.refl _ _).alloc _).trans HO6.out) HB4.out.size HB1.out.size
    go_wp2_with (at_builtin; go_loud (refine wpList_appStr rfl (.tmp 36) (.tmp 39) 32 9 rfl w6.heap.size 5 i0 Try.underlying32 Try.underlying9 hi0 hz0 hz1 hz2 _ [.int .u8 0, .int .u8 (i : Int)] rfl (own_lit (w := w6) (e := 5) [.int .u8 0, .int .u8 (i : Int)] 2 rfl (by unfold maxLen; omega) (Nat.le_refl _)) (s.extract 0 i) rfl (by simp only [List.length_cons, List.length_nil]; omega) (by simp) ?_); intro v1 w7 hown1 hb1 _; have P7 := Lib.hid hown1; have HB7 := Lib.hid (((Below.refl w6.heap.size w6).alloc (Nat.le_refl _) _).trans hb1); clear hown1 hb1)
    have hs67 : w6.heap.size ≤ w7.heap.size := HB7.out.size
    have HB7' : Hid (Below w.heap.size w w7) := HB6.out.trans (HB7.out.mono HB6.out.size)
    have k0' : w7.cell? ⟨w4.heap.size, 0, none⟩ = some (.int .u64 (T64 x)) := (HB7.out.cell (p := ⟨w4.heap.size, 0, none⟩) hz6).trans k0
    have k1' : w7.cell? ⟨w4.heap.size, 1, none⟩ = some (.int .u64 (T64 y)) := (HB7.out.cell (p := ⟨w4.heap.size, 1, none⟩) hz6).trans k1
    clear k0 k1
    obtain ⟨X1, hX1⟩ : ∃ X, [Value.int .u8 0, .int .u8 (i : Int)] ++ Lib.strCells (s.extract 0 i) = X := ⟨_, rfl⟩
    obtain ⟨X2, hX2⟩ : ∃ X, X1 ++ [Value.int .u8 0, .int .u8 (d : Int)] = X := ⟨_, rfl⟩
    obtain ⟨X3, hX3⟩ : ∃ X, X2 ++ Lib.strCells (s.extract i s.size) = X := ⟨_, rfl⟩
    obtain ⟨n1, hn1⟩ : ∃ k, X1.length = k := ⟨_, rfl⟩
    obtain ⟨n2, hn2⟩ : ∃ k, n1 + 2 = k := ⟨_, rfl⟩
    obtain ⟨n3, hn3⟩ : ∃ k, n2 + (s.extract i s.size).size = k := ⟨_, rfl⟩
    have HN1 := Lib.hid (show n1 = 2 + i by rw [← hn1, ← hX1, List.length_append, Lib.strCells_length, hxs]; rfl)
    have P7' : Hid (w7.drew.ownsRow w6.heap.size 5 1 v1 n1 X1) := by rw [← hn1, ← hX1]; exact P7.out.drew
    have HP2 := Lib.hid (show X2 <+: X3 by rw [← hX3]; exact List.prefix_append _ _)
    have HP1 := Lib.hid (show X1 <+: X3 by refine List.IsPrefix.trans ?_ HP2.out; rw [← hX2]; exact List.prefix_append _ _)
    have HXS := Lib.hid (show (s.extract i s.size).size = d by simp; omega)
    have wd1 : IntKind.i64.wrap (d : Int) = (d : Int) := wrap_nat64 _ (by omega)
    have wd2 : IntKind.u8.wrap (d : Int) = (d : Int) := wrap_nat8 _ (by omega)
    have HX1 := Lib.hid hX1
    have HX2 := Lib.hid hX2
    have HX3 := Lib.hid hX3
    have HN2 := Lib.hid hn2
    have HN3 := Lib.hid hn3
    clear hX1 hX2 hX3 hn1 hn2 hn3
    refine wp_relyA w6.heap.size 5 X3 2 13 [is (v1), is (.string s), is (.int .i64 (s.size : Int)), is (.int .i64 (i : Int)), is (.int .i64 (d : Int)), is (.int .u8 (d : Int)), such (isLit 5 2 #[.int .u8 0, .int .u8 (d : Int)]), such (isOwn w6.heap.size 5 n2 X2), is (.string s), is (.int .i64 (i : Int)), is (.string (s.extract i s.size)), such (isOwn w6.heap.size 5 n3 X3), such (isOwn w6.heap.size 5 n3 X3)] (by kernel_rfl) (by kernel_rfl) (monoA_cons (isA_mono _) ( monoA_cons (isA_mono _) ( monoA_cons (isA_mono _) ( monoA_cons (isA_mono _) ( monoA_cons (isA_mono _) ( monoA_cons (isA_mono _) ( monoA_cons (isLit_monoA _ _ _ (.inr (Nat.le_refl 2))) ( monoA_cons (isOwn_monoA _ _ HP2.out) ( monoA_cons (isA_mono _) ( monoA_cons (isA_mono _) ( monoA_cons (isA_mono _) ( monoA_cons (isOwn_monoA _ _ (List.prefix_refl _)) ( monoA_cons (isOwn_monoA _ _ (List.prefix_refl _)) (monoA_nil)))))))))))))) ?_
    simp only [List.take_succ_cons, List.take_zero, List.drop_succ_cons, List.drop_zero]
    refine ⟨fun wk hE hF => ?_, ?_⟩
    · clear hF; have hBk := Nat.le_trans hs67 hE.1.size
      go_simp
      exact ⟨rfl, GrowA.rfl_⟩
    change Steps _ _ _ _ _ _ _ _ _
    simp only [put_lit, List.set, List.nil_append]
    refine ⟨fun wk hE hF => ?_, ?_⟩
    · clear hF; have hBk := Nat.le_trans hs67 hE.1.size
      go_simp
      exact ⟨rfl, GrowA.rfl_⟩
    change Steps _ _ _ _ _ _ _ _ _
    simp only [put_lit, List.set, List.nil_append, List.cons_append]
    refine ⟨fun wk hE hF => ?_, ?_⟩
    · clear hF; have hBk := Nat.le_trans hs67 hE.1.size
      go_simp
      exact ⟨rfl, GrowA.rfl_⟩
    change Steps _ _ _ _ _ _ _ _ _
    simp only [put_lit, List.set, List.nil_append, List.cons_append]
    refine ⟨fun wk hE hF => ?_, ?_⟩
    · clear hF; have hBk := Nat.le_trans hs67 hE.1.size
      go_simp
      exact ⟨rfl, GrowA.rfl_⟩
    change Steps _ _ _ _ _ _ _ _ _
    simp only [put_lit, List.set, List.nil_append, List.cons_append]
    refine ⟨fun wk hE hF => ?_, ?_⟩
    · clear hF; have hBk := Nat.le_trans hs67 hE.1.size
      go_simp
      exact ⟨rfl, GrowA.rfl_⟩
    change Steps _ _ _ _ _ _ _ _ _
    simp only [put_lit, List.set, List.nil_append, List.cons_append]
    refine ⟨fun wk hE hF => ?_, ?_⟩
    · clear hF; have hBk := Nat.le_trans hs67 hE.1.size
      go_simp
      exact ⟨rfl, GrowA.rfl_⟩
    change Steps _ _ _ _ _ _ _ _ _
    simp only [put_lit, List.set, List.nil_append, List.cons_append]
    refine ⟨fun wk hE hF => ?_, fun vr6 => ?_⟩
    · clear hF; have hBk := Nat.le_trans hs67 hE.1.size
      go_simp
      exact ⟨⟨_, rfl, Blk.new _ _ _⟩, GrowA.alloc _ _ hBk⟩
    change Steps _ _ _ _ _ _ _ _ _
    simp only [put_lit, List.set, List.nil_append, List.cons_append]
    refine ⟨fun wk hE hF => ?_, fun vr7 => ?_⟩
    · obtain ⟨g, rfl, hlit⟩ := facts_get hF (j := 6) (by decide); clear hF; have hBk := Nat.le_trans hs67 hE.1.size
      rw [if_pos (wanted_free rfl)]
      (obtain ⟨v', w', h1, h2, h3⟩ := yield_app (B := w6.heap.size) (N := 2) (ty := 32) (c := 2) (m := 2) Try.underlying32 hi0 hz0 hz1 hz2 rfl (hE.2.1 v1 _ X1 HP1.out P7'.out) rfl (Blk.cells (l := [Value.int .u8 0, .int .u8 (d : Int)]) hlit) (by simp [Value.oneCell']) (by have := HN1.out; omega) (by have := HN1.out; omega) hBk (by rw [HX2.out]; exact HP2.out) (.inl (by have := HN1.out; omega)); rw [HX2.out, HN2.out] at h2; exact yield_append (.tmp 41) (.tmp 47) _ _ rfl rfl rfl h1 ⟨h2, h3⟩)
    change Steps _ _ _ _ _ _ _ _ _
    simp only [put_lit, List.set, List.nil_append, List.cons_append]
    refine ⟨fun wk hE hF => ?_, ?_⟩
    · clear hF; have hBk := Nat.le_trans hs67 hE.1.size
      go_simp
      exact ⟨rfl, GrowA.rfl_⟩
    change Steps _ _ _ _ _ _ _ _ _
    simp only [put_lit, List.set, List.nil_append, List.cons_append]
    refine ⟨fun wk hE hF => ?_, ?_⟩
    · clear hF; have hBk := Nat.le_trans hs67 hE.1.size
      go_simp
      exact ⟨rfl, GrowA.rfl_⟩
    change Steps _ _ _ _ _ _ _ _ _
    simp only [put_lit, List.set, List.nil_append, List.cons_append]
    refine ⟨fun wk hE hF => ?_, ?_⟩
    · clear hF; have hBk := Nat.le_trans hs67 hE.1.size
      go_simp
      exact ⟨rfl, GrowA.rfl_⟩
    change Steps _ _ _ _ _ _ _ _ _
    simp only [put_lit, List.set, List.nil_append, List.cons_append]
    refine ⟨fun wk hE hF => ?_, fun vr11 => ?_⟩
    · obtain hown7 := facts_get hF (j := 7) (by decide); clear hF; have hBk := Nat.le_trans hs67 hE.1.size
      rw [if_pos (wanted_free rfl)]
      (obtain ⟨v', w', h1, h2, h3⟩ := yield_appStr (B := w6.heap.size) (N := 2) (L := X3) (ty := 32) Try.underlying32 Try.underlying9 hi0 hz0 hz1 hz2 hown7 (s.extract i s.size) (by rw [HXS.out]; have := HN1.out; have := HN2.out; omega) hBk (by rw [HX3.out]; exact List.prefix_refl _) (.inl (by have := HN1.out; have := HN2.out; omega)); rw [HX3.out, HN3.out] at h2; exact yield_append (.tmp 48) (.tmp 51) _ _ rfl rfl rfl h1 ⟨h2, h3⟩)
    change Steps _ _ _ _ _ _ _ _ _
    simp only [put_lit, List.set, List.nil_append, List.cons_append]
    refine ⟨fun wk hE hF => ?_, fun vr12 => ?_⟩
    · obtain hown11 := facts_get hF (j := 11) (by decide); clear hF; have hBk := Nat.le_trans hs67 hE.1.size
      go_simp
      exact ⟨hown11, GrowA.rfl_⟩
    change Steps _ _ _ _ _ _ _ _ _
    simp only [put_lit, List.set, List.nil_append, List.cons_append]
    intro wk hE hF
    obtain hown12 := facts_get hF (j := 12) (List.mem_range.2 (by simp)); clear hF; have HE := Lib.hid hE; clear hE
    have HB8 : Hid (Below w6.heap.size w6 wk) := HB7.out.trans ((Below.refl _ w7).drew.trans HE.out.1)
    have j0 : wk.cell? ⟨w4.heap.size, 0, none⟩ = some (.int .u64 (T64 x)) := (HE.out.1.cell (p := ⟨w4.heap.size, 0, none⟩) hz6).trans k0'
    have j1 : wk.cell? ⟨w4.heap.size, 1, none⟩ = some (.int .u64 (T64 y)) := (HE.out.1.cell (p := ⟨w4.heap.size, 1, none⟩) hz6).trans k1'
    have hown12' : wk.ownsRow w6.heap.size 5 1 vr12 n3 X3 := hown12
    have P12 := Lib.hid hown12'
    clear hown12 hown12' HE k0' k1' wd1 wd2
    rename World => wb
    go_wp2_with (at_builtin; go_loud (refine wpList_appStr rfl (.tmp 56) (.tmp 57) 32 9 rfl wb.heap.size 5 i0 Try.underlying32 Try.underlying9 hi0 hz0 hz1 hz2 _ [.int .u8 0, .int .u8 (s.size : Int)] rfl (own_lit (w := wb) (e := 5) [.int .u8 0, .int .u8 (s.size : Int)] 2 rfl (by unfold maxLen; omega) (Nat.le_refl _)) s rfl (by simp only [List.length_cons, List.length_nil]; omega) (by simp) ?_); intro v9 w9 hown9 hb9 _; have P9 := Lib.hid hown9; have HB9 := Lib.hid (((Below.refl wb.heap.size wb).alloc (Nat.le_refl _) _).trans hb9); clear hown9 hb9)
    have HR8 := Lib.hid (show X3 = bytesV (partsOf [s.extract 0 i, s.extract i s.size]) by
      rw [parts_cut s i (by omega) hi, show s.size - i = d by omega, ← HX3.out, ← HX2.out, ← HX1.out, bytes_lit i (by omega), bytes_lit d (by omega), strCells_bytes, strCells_bytes, ext_list, ext_list]
      have hl : s.data.toList.length = s.size := by simp
      rw [List.take_of_length_le (l := s.data.toList) (i := s.size) (by omega)]
      simp [bytesV])
    have HR9 := Lib.hid (show [Value.int .u8 0, .int .u8 (s.size : Int)] ++ s.data.toList.map (fun b => Value.int .u8 (T8 b)) = bytesV (partsOf [s]) by
      rw [parts_one s (by omega), bytes_lit s.size (by omega)]; simp [bytesV])
    have hown8 := own_below P12.out (HB9.out)
    have hown9 := P9.out
    rw [HR8.out] at hown8
    rw [HR9.out] at hown9
    obtain ⟨n9, hn9'⟩ : ∃ k, (bytesV (partsOf [s])).length = k := ⟨_, rfl⟩
    rw [hn9'] at hown9
    obtain ⟨q8, c8, rfl, hn8, _, _, hcs8⟩ := own_cells hown8
    obtain ⟨q9, c9, rfl, hn9, _, _, hcs9⟩ := own_cells hown9
    have HC8 := Lib.hid hcs8
    have HC9 := Lib.hid hcs9
    have HN8 := Lib.hid hn8
    clear hown8 hown9 hcs8 hcs9 hn8 hn9 P12 P9
    have HBB := Lib.hid (HB6.out.trans ((HB8.out.trans (HB9.out.mono HB8.out.size)).mono HB6.out.size))
    have l0 : w9.cell? ⟨w4.heap.size, 0, none⟩ = some (.int .u64 (T64 x)) := by
      have h := HB8.out.size
      exact (HB9.out.cell (p := ⟨w4.heap.size, 0, none⟩) (by show w4.heap.size < _; omega)).trans j0
    have l1 : w9.cell? ⟨w4.heap.size, 1, none⟩ = some (.int .u64 (T64 y)) := by
      have h := HB8.out.size
      exact (HB9.out.cell (p := ⟨w4.heap.size, 1, none⟩) (by show w4.heap.size < _; omega)).trans j1
    have hz9 : w4.heap.size < w9.heap.size := by have h := HB8.out.size; have h2 := HB9.out.size; omega
    have hl8 : Hid ((partsOf [s.extract 0 i, s.extract i s.size]).length = n3) := by show _ = _; rw [HN8.out, bytesV_length]
    have hl9 : Hid (n9 = (partsOf [s]).length) := by show _ = _; rw [← hn9', bytesV_length]
    have hl9' : Hid (n9 = s.size + 2) := by show _ = _; rw [hl9.out, parts_one s (by omega)]; simp
    have hl8' : Hid (n3 = s.size + 4) := by show _ = _; rw [← hl8.out, parts_cut s i (by omega) hi]; simp; omega
    obtain ⟨n10, hn10⟩ : ∃ k, n9 + 2 = k := ⟨_, rfl⟩
    have HN10 := Lib.hid hn10
    have HX10 := Lib.hid (show bytesV (partsOf [s]) ++ [Value.int .u8 0, .int .u8 0] = bytesV (partsOf [s, ⟨#[]⟩]) by rw [parts_nil]; simp [bytesV]; rfl)
    have HP9 := Lib.hid (show bytesV (partsOf [s]) <+: bytesV (partsOf [s, ⟨#[]⟩]) by rw [← HX10.out]; exact List.prefix_append _ _)
    have hsz' : Hid (s.size ≤ 18) := hsz
    clear hn9' hn10 e2 e4 hI hd1 hd2 hsub hxs j0 j1 hs67
    refine wp_relyA w9.heap.size 5 (bytesV (partsOf [s, ⟨#[]⟩])) 2 37 [is (.agg #[.int .u64 (T64 x), .int .u64 (T64 y)]), is (.string s), is (.int .i64 (i : Int)), is (.string (s.extract 0 i)), is (.string s), is (.int .i64 (i : Int)), is (.string (s.extract i s.size)), such (isLit 9 2 #[.string (s.extract 0 i), .string (s.extract i s.size)]), is (.int .u64 (T64 (sip x y (partsOf [s.extract 0 i, s.extract i s.size])))), is (.agg #[.int .u64 (T64 x), .int .u64 (T64 y)]), is (.slice q8 n3 c8), is (.int .u64 (T64 (sip x y (partsOf [s.extract 0 i, s.extract i s.size])))), is (.bool true), is (.bool true), is (.agg #[.int .u64 (T64 x), .int .u64 (T64 y)]), is (.string s), such (isLit 9 1 #[.string s]), is (.int .u64 (T64 (sip x y (partsOf [s])))), is (.agg #[.int .u64 (T64 x), .int .u64 (T64 y)]), is (.slice q9 n9 c9), is (.int .u64 (T64 (sip x y (partsOf [s])))), is (.bool true), is (.bool true), is (.bool true), is (.agg #[.int .u64 (T64 x), .int .u64 (T64 y)]), is (.string s), such (isLit 9 2 #[.string s, .string ⟨#[]⟩]), is (.int .u64 (T64 (sip x y (partsOf [s, ⟨#[]⟩])))), is (.agg #[.int .u64 (T64 x), .int .u64 (T64 y)]), is (.slice q9 n9 c9), such (isOwn w9.heap.size 5 n9 (bytesV (partsOf [s]))), such (isLit 5 2 #[.int .u8 0, .int .u8 0]), such (isOwn w9.heap.size 5 n10 (bytesV (partsOf [s, ⟨#[]⟩]))), is (.int .u64 (T64 (sip x y (partsOf [s, ⟨#[]⟩])))), is (.bool true), is (.bool true), is (.bool true)] (by kernel_rfl) (by kernel_rfl) (monoA_cons (isA_mono _) ( monoA_cons (isA_mono _) ( monoA_cons (isA_mono _) ( monoA_cons (isA_mono _) ( monoA_cons (isA_mono _) ( monoA_cons (isA_mono _) ( monoA_cons (isA_mono _) ( monoA_cons (isLit_monoA _ _ _ (.inl (by decide))) ( monoA_cons (isA_mono _) ( monoA_cons (isA_mono _) ( monoA_cons (isA_mono _) ( monoA_cons (isA_mono _) ( monoA_cons (isA_mono _) ( monoA_cons (isA_mono _) ( monoA_cons (isA_mono _) ( monoA_cons (isA_mono _) ( monoA_cons (isLit_monoA _ _ _ (.inl (by decide))) ( monoA_cons (isA_mono _) ( monoA_cons (isA_mono _) ( monoA_cons (isA_mono _) ( monoA_cons (isA_mono _) ( monoA_cons (isA_mono _) ( monoA_cons (isA_mono _) ( monoA_cons (isA_mono _) ( monoA_cons (isA_mono _) ( monoA_cons (isA_mono _) ( monoA_cons (isLit_monoA _ _ _ (.inl (by decide))) ( monoA_cons (isA_mono _) ( monoA_cons (isA_mono _) ( monoA_cons (isA_mono _) ( monoA_cons (isOwn_monoA _ _ HP9.out) ( monoA_cons (isLit_monoA _ _ _ (.inr (Nat.le_refl 2))) ( monoA_cons (isOwn_monoA _ _ (List.prefix_refl _)) ( monoA_cons (isA_mono _) ( monoA_cons (isA_mono _) ( monoA_cons (isA_mono _) ( monoA_cons (isA_mono _) (monoA_nil)))))))))))))))))))))))))))))))))))))) ?_
    simp only [List.take_succ_cons, List.take_zero, List.drop_succ_cons, List.drop_zero]
    refine ⟨fun wk hE hF => ?_, ?_⟩
    · clear hF; have hBk := hE.1.size; have hcE := (bcell (W := w9.drew) hE.1).1; have a0 := (hcE _ 0 hz9).trans l0; have a1 := (hcE _ 1 hz9).trans l1; clear hcE
      go_simp
      exact ⟨rfl, GrowA.rfl_⟩
    change Steps _ _ _ _ _ _ _ _ _
    simp only [put_lit, List.set, List.nil_append]
    refine ⟨fun wk hE hF => ?_, ?_⟩
    · clear hF; have hBk := hE.1.size; have hcE := (bcell (W := w9.drew) hE.1).1; have a0 := (hcE _ 0 hz9).trans l0; have a1 := (hcE _ 1 hz9).trans l1; clear hcE
      go_simp
      exact ⟨rfl, GrowA.rfl_⟩
    change Steps _ _ _ _ _ _ _ _ _
    simp only [put_lit, List.set, List.nil_append, List.cons_append]
    refine ⟨fun wk hE hF => ?_, ?_⟩
    · clear hF; have hBk := hE.1.size; have hcE := (bcell (W := w9.drew) hE.1).1; have a0 := (hcE _ 0 hz9).trans l0; have a1 := (hcE _ 1 hz9).trans l1; clear hcE
      go_simp
      exact ⟨rfl, GrowA.rfl_⟩
    change Steps _ _ _ _ _ _ _ _ _
    simp only [put_lit, List.set, List.nil_append, List.cons_append]
    refine ⟨fun wk hE hF => ?_, ?_⟩
    · clear hF; have hBk := hE.1.size; have hcE := (bcell (W := w9.drew) hE.1).1; have a0 := (hcE _ 0 hz9).trans l0; have a1 := (hcE _ 1 hz9).trans l1; clear hcE
      go_simp
      exact ⟨rfl, GrowA.rfl_⟩
    change Steps _ _ _ _ _ _ _ _ _
    simp only [put_lit, List.set, List.nil_append, List.cons_append]
    refine ⟨fun wk hE hF => ?_, ?_⟩
    · clear hF; have hBk := hE.1.size; have hcE := (bcell (W := w9.drew) hE.1).1; have a0 := (hcE _ 0 hz9).trans l0; have a1 := (hcE _ 1 hz9).trans l1; clear hcE
      go_simp
      exact ⟨rfl, GrowA.rfl_⟩
    change Steps _ _ _ _ _ _ _ _ _
    simp only [put_lit, List.set, List.nil_append, List.cons_append]
    refine ⟨fun wk hE hF => ?_, ?_⟩
    · clear hF; have hBk := hE.1.size; have hcE := (bcell (W := w9.drew) hE.1).1; have a0 := (hcE _ 0 hz9).trans l0; have a1 := (hcE _ 1 hz9).trans l1; clear hcE
      go_simp
      exact ⟨rfl, GrowA.rfl_⟩
    change Steps _ _ _ _ _ _ _ _ _
    simp only [put_lit, List.set, List.nil_append, List.cons_append]
    refine ⟨fun wk hE hF => ?_, ?_⟩
    · clear hF; have hBk := hE.1.size; have hcE := (bcell (W := w9.drew) hE.1).1; have a0 := (hcE _ 0 hz9).trans l0; have a1 := (hcE _ 1 hz9).trans l1; clear hcE
      go_simp
      exact ⟨rfl, GrowA.rfl_⟩
    change Steps _ _ _ _ _ _ _ _ _
    simp only [put_lit, List.set, List.nil_append, List.cons_append]
    refine ⟨fun wk hE hF => ?_, fun vr7 => ?_⟩
    · clear hF; have hBk := hE.1.size; have hcE := (bcell (W := w9.drew) hE.1).1; have a0 := (hcE _ 0 hz9).trans l0; have a1 := (hcE _ 1 hz9).trans l1; clear hcE
      go_simp
      exact ⟨⟨_, rfl, Blk.new _ _ _⟩, GrowA.alloc _ _ hBk⟩
    change Steps _ _ _ _ _ _ _ _ _
    simp only [put_lit, List.set, List.nil_append, List.cons_append]
    refine ⟨fun wk hE hF => ?_, ?_⟩
    · obtain ⟨g, rfl, hlit⟩ := facts_get hF (j := 7) (by decide); clear hF; have hBk := hE.1.size; have hcE := (bcell (W := w9.drew) hE.1).1; have a0 := (hcE _ 0 hz9).trans l0; have a1 := (hcE _ 1 hz9).trans l1; clear hcE
      go_simp
      (refine (parts_any x y _ 2 2 [s.extract 0 i, s.extract i s.size] rfl (by omega) _ (Blk.cells (l := strV [s.extract 0 i, s.extract i s.size]) hlit)).mono ?_; rintro e w2 ⟨rfl, hb⟩; exact ⟨_, rfl, rfl, GrowA.below hb hBk⟩)
    change Steps _ _ _ _ _ _ _ _ _
    simp only [put_lit, List.set, List.nil_append, List.cons_append]
    refine ⟨fun wk hE hF => ?_, ?_⟩
    · clear hF; have hBk := hE.1.size; have hcE := (bcell (W := w9.drew) hE.1).1; have a0 := (hcE _ 0 hz9).trans l0; have a1 := (hcE _ 1 hz9).trans l1; clear hcE
      go_simp
      exact ⟨rfl, GrowA.rfl_⟩
    change Steps _ _ _ _ _ _ _ _ _
    simp only [put_lit, List.set, List.nil_append, List.cons_append]
    refine ⟨fun wk hE hF => ?_, ?_⟩
    · clear hF; have hBk := hE.1.size; have hcE := (bcell (W := w9.drew) hE.1).1; have a0 := (hcE _ 0 hz9).trans l0; have a1 := (hcE _ 1 hz9).trans l1; clear hcE
      go_simp
      exact ⟨rfl, GrowA.rfl_⟩
    change Steps _ _ _ _ _ _ _ _ _
    simp only [put_lit, List.set, List.nil_append, List.cons_append]
    refine ⟨fun wk hE hF => ?_, ?_⟩
    · clear hF; have hBk := hE.1.size; have hcE := (bcell (W := w9.drew) hE.1).1; have a0 := (hcE _ 0 hz9).trans l0; have a1 := (hcE _ 1 hz9).trans l1; clear hcE
      go_simp
      (refine (rsum_any x y q8 n3 c8 (partsOf [s.extract 0 i, s.extract i s.size]) hl8.out.symm (by have := hl8'.out; have := hsz'.out; omega) _ (HC8.out.drew.below hE.1)).mono ?_; rintro e w2 ⟨rfl, hb⟩; exact ⟨_, rfl, rfl, GrowA.below hb hBk⟩)
    change Steps _ _ _ _ _ _ _ _ _
    simp only [put_lit, List.set, List.nil_append, List.cons_append]
    refine ⟨fun wk hE hF => ?_, ?_⟩
    · clear hF; have hBk := hE.1.size; have hcE := (bcell (W := w9.drew) hE.1).1; have a0 := (hcE _ 0 hz9).trans l0; have a1 := (hcE _ 1 hz9).trans l1; clear hcE
      go_simp
      exact ⟨rfl, GrowA.rfl_⟩
    change Steps _ _ _ _ _ _ _ _ _
    simp only [put_lit, List.set, List.nil_append, List.cons_append]
    refine ⟨fun wk hE hF => ?_, ?_⟩
    · clear hF; have hBk := hE.1.size; have hcE := (bcell (W := w9.drew) hE.1).1; have a0 := (hcE _ 0 hz9).trans l0; have a1 := (hcE _ 1 hz9).trans l1; clear hcE
      go_simp
      exact ⟨rfl, GrowA.rfl_⟩
    change Steps _ _ _ _ _ _ _ _ _
    simp only [put_lit, List.set, List.nil_append, List.cons_append]
    refine ⟨fun wk hE hF => ?_, ?_⟩
    · clear hF; have hBk := hE.1.size; have hcE := (bcell (W := w9.drew) hE.1).1; have a0 := (hcE _ 0 hz9).trans l0; have a1 := (hcE _ 1 hz9).trans l1; clear hcE
      rw [if_pos (wanted_guard rfl (by kernel_rfl))]
      go_simp
      exact ⟨rfl, GrowA.rfl_⟩
    change Steps _ _ _ _ _ _ _ _ _
    simp only [put_lit, List.set, List.nil_append, List.cons_append]
    refine ⟨fun wk hE hF => ?_, ?_⟩
    · clear hF; have hBk := hE.1.size; have hcE := (bcell (W := w9.drew) hE.1).1; have a0 := (hcE _ 0 hz9).trans l0; have a1 := (hcE _ 1 hz9).trans l1; clear hcE
      rw [if_pos (wanted_guard rfl (by kernel_rfl))]
      go_simp
      exact ⟨rfl, GrowA.rfl_⟩
    change Steps _ _ _ _ _ _ _ _ _
    simp only [put_lit, List.set, List.nil_append, List.cons_append]
    refine ⟨fun wk hE hF => ?_, fun vr16 => ?_⟩
    · clear hF; have hBk := hE.1.size; have hcE := (bcell (W := w9.drew) hE.1).1; have a0 := (hcE _ 0 hz9).trans l0; have a1 := (hcE _ 1 hz9).trans l1; clear hcE
      rw [if_pos (wanted_guard rfl (by kernel_rfl))]
      go_simp
      exact ⟨⟨_, rfl, Blk.new _ _ _⟩, GrowA.alloc _ _ hBk⟩
    change Steps _ _ _ _ _ _ _ _ _
    simp only [put_lit, List.set, List.nil_append, List.cons_append]
    refine ⟨fun wk hE hF => ?_, ?_⟩
    · obtain ⟨g, rfl, hlit⟩ := facts_get hF (j := 16) (by decide); clear hF; have hBk := hE.1.size; have hcE := (bcell (W := w9.drew) hE.1).1; have a0 := (hcE _ 0 hz9).trans l0; have a1 := (hcE _ 1 hz9).trans l1; clear hcE
      rw [if_pos (wanted_guard rfl (by kernel_rfl))]
      go_simp
      (refine (parts_any x y _ 1 1 [s] rfl (by omega) _ (Blk.cells (l := strV [s]) hlit)).mono ?_; rintro e w2 ⟨rfl, hb⟩; exact ⟨_, rfl, rfl, GrowA.below hb hBk⟩)
    change Steps _ _ _ _ _ _ _ _ _
    simp only [put_lit, List.set, List.nil_append, List.cons_append]
    refine ⟨fun wk hE hF => ?_, ?_⟩
    · clear hF; have hBk := hE.1.size; have hcE := (bcell (W := w9.drew) hE.1).1; have a0 := (hcE _ 0 hz9).trans l0; have a1 := (hcE _ 1 hz9).trans l1; clear hcE
      rw [if_pos (wanted_guard rfl (by kernel_rfl))]
      go_simp
      exact ⟨rfl, GrowA.rfl_⟩
    change Steps _ _ _ _ _ _ _ _ _
    simp only [put_lit, List.set, List.nil_append, List.cons_append]
    refine ⟨fun wk hE hF => ?_, ?_⟩
    · clear hF; have hBk := hE.1.size; have hcE := (bcell (W := w9.drew) hE.1).1; have a0 := (hcE _ 0 hz9).trans l0; have a1 := (hcE _ 1 hz9).trans l1; clear hcE
      rw [if_pos (wanted_guard rfl (by kernel_rfl))]
      go_simp
      exact ⟨rfl, GrowA.rfl_⟩
    change Steps _ _ _ _ _ _ _ _ _
    simp only [put_lit, List.set, List.nil_append, List.cons_append]
    refine ⟨fun wk hE hF => ?_, ?_⟩
    · clear hF; have hBk := hE.1.size; have hcE := (bcell (W := w9.drew) hE.1).1; have a0 := (hcE _ 0 hz9).trans l0; have a1 := (hcE _ 1 hz9).trans l1; clear hcE
      rw [if_pos (wanted_guard rfl (by kernel_rfl))]
      go_simp
      (refine (rsum_any x y q9 n9 c9 (partsOf [s]) hl9.out (by have := hl9'.out; have := hsz'.out; omega) _ (HC9.out.drew.below hE.1)).mono ?_; rintro e w2 ⟨rfl, hb⟩; exact ⟨_, rfl, rfl, GrowA.below hb hBk⟩)
    change Steps _ _ _ _ _ _ _ _ _
    simp only [put_lit, List.set, List.nil_append, List.cons_append]
    refine ⟨fun wk hE hF => ?_, ?_⟩
    · clear hF; have hBk := hE.1.size; have hcE := (bcell (W := w9.drew) hE.1).1; have a0 := (hcE _ 0 hz9).trans l0; have a1 := (hcE _ 1 hz9).trans l1; clear hcE
      rw [if_pos (wanted_guard rfl (by kernel_rfl))]
      go_simp
      exact ⟨rfl, GrowA.rfl_⟩
    change Steps _ _ _ _ _ _ _ _ _
    simp only [put_lit, List.set, List.nil_append, List.cons_append]
    refine ⟨fun wk hE hF => ?_, ?_⟩
    · clear hF; have hBk := hE.1.size; have hcE := (bcell (W := w9.drew) hE.1).1; have a0 := (hcE _ 0 hz9).trans l0; have a1 := (hcE _ 1 hz9).trans l1; clear hcE
      go_simp
      exact ⟨rfl, GrowA.rfl_⟩
    change Steps _ _ _ _ _ _ _ _ _
    simp only [put_lit, List.set, List.nil_append, List.cons_append]
    refine ⟨fun wk hE hF => ?_, ?_⟩
    · clear hF; have hBk := hE.1.size; have hcE := (bcell (W := w9.drew) hE.1).1; have a0 := (hcE _ 0 hz9).trans l0; have a1 := (hcE _ 1 hz9).trans l1; clear hcE
      go_simp
      exact ⟨rfl, GrowA.rfl_⟩
    change Steps _ _ _ _ _ _ _ _ _
    simp only [put_lit, List.set, List.nil_append, List.cons_append]
    refine ⟨fun wk hE hF => ?_, ?_⟩
    · clear hF; have hBk := hE.1.size; have hcE := (bcell (W := w9.drew) hE.1).1; have a0 := (hcE _ 0 hz9).trans l0; have a1 := (hcE _ 1 hz9).trans l1; clear hcE
      rw [if_pos (wanted_guard rfl (by kernel_rfl))]
      go_simp
      exact ⟨rfl, GrowA.rfl_⟩
    change Steps _ _ _ _ _ _ _ _ _
    simp only [put_lit, List.set, List.nil_append, List.cons_append]
    refine ⟨fun wk hE hF => ?_, ?_⟩
    · clear hF; have hBk := hE.1.size; have hcE := (bcell (W := w9.drew) hE.1).1; have a0 := (hcE _ 0 hz9).trans l0; have a1 := (hcE _ 1 hz9).trans l1; clear hcE
      rw [if_pos (wanted_guard rfl (by kernel_rfl))]
      go_simp
      exact ⟨rfl, GrowA.rfl_⟩
    change Steps _ _ _ _ _ _ _ _ _
    simp only [put_lit, List.set, List.nil_append, List.cons_append]
    refine ⟨fun wk hE hF => ?_, fun vr26 => ?_⟩
    · clear hF; have hBk := hE.1.size; have hcE := (bcell (W := w9.drew) hE.1).1; have a0 := (hcE _ 0 hz9).trans l0; have a1 := (hcE _ 1 hz9).trans l1; clear hcE
      rw [if_pos (wanted_guard rfl (by kernel_rfl))]
      go_simp
      exact ⟨⟨_, rfl, Blk.new _ _ _⟩, GrowA.alloc _ _ hBk⟩
    change Steps _ _ _ _ _ _ _ _ _
    simp only [put_lit, List.set, List.nil_append, List.cons_append]
    refine ⟨fun wk hE hF => ?_, ?_⟩
    · obtain ⟨g, rfl, hlit⟩ := facts_get hF (j := 26) (by decide); clear hF; have hBk := hE.1.size; have hcE := (bcell (W := w9.drew) hE.1).1; have a0 := (hcE _ 0 hz9).trans l0; have a1 := (hcE _ 1 hz9).trans l1; clear hcE
      rw [if_pos (wanted_guard rfl (by kernel_rfl))]
      go_simp
      (refine (parts_any x y _ 2 2 [s, ⟨#[]⟩] rfl (by omega) _ (Blk.cells (l := strV [s, ⟨#[]⟩]) hlit)).mono ?_; rintro e w2 ⟨rfl, hb⟩; exact ⟨_, rfl, rfl, GrowA.below hb hBk⟩)
    change Steps _ _ _ _ _ _ _ _ _
    simp only [put_lit, List.set, List.nil_append, List.cons_append]
    refine ⟨fun wk hE hF => ?_, ?_⟩
    · clear hF; have hBk := hE.1.size; have hcE := (bcell (W := w9.drew) hE.1).1; have a0 := (hcE _ 0 hz9).trans l0; have a1 := (hcE _ 1 hz9).trans l1; clear hcE
      rw [if_pos (wanted_guard rfl (by kernel_rfl))]
      go_simp
      exact ⟨rfl, GrowA.rfl_⟩
    change Steps _ _ _ _ _ _ _ _ _
    simp only [put_lit, List.set, List.nil_append, List.cons_append]
    refine ⟨fun wk hE hF => ?_, ?_⟩
    · clear hF; have hBk := hE.1.size; have hcE := (bcell (W := w9.drew) hE.1).1; have a0 := (hcE _ 0 hz9).trans l0; have a1 := (hcE _ 1 hz9).trans l1; clear hcE
      rw [if_pos (wanted_guard rfl (by kernel_rfl))]
      go_simp
      exact ⟨rfl, GrowA.rfl_⟩
    change Steps _ _ _ _ _ _ _ _ _
    simp only [put_lit, List.set, List.nil_append, List.cons_append]
    refine ⟨fun wk hE hF => ?_, fun vr30 => ?_⟩
    · clear hF; have hBk := hE.1.size; have hcE := (bcell (W := w9.drew) hE.1).1; have a0 := (hcE _ 0 hz9).trans l0; have a1 := (hcE _ 1 hz9).trans l1; clear hcE
      rw [if_pos (wanted_guard rfl (by kernel_rfl))]
      (obtain ⟨v', w', h1, h2, h3⟩ := yield_app (w := wk) (B := w9.heap.size) (N := 2) (ty := 32) (c := c9) (m := n9) (v := .slice none 0 0) (n := 0) (xs := []) Try.underlying32 hi0 hz0 hz1 hz2 rfl (World.ownsRow_nil _ _ _ _) (by rw [bytesV_length]; exact hl9.out) (HC9.out.drew.below hE.1) (bytesV_one _) (by have := hl9'.out; have := hsz'.out; omega) (by have := hl9'.out; have := hsz'.out; omega) hBk HP9.out (.inr rfl); rw [Nat.zero_add, List.nil_append] at h2; exact yield_append (.const (.slice none 0 0)) (.tmp 88) _ _ rfl rfl rfl h1 ⟨h2, h3⟩)
    change Steps _ _ _ _ _ _ _ _ _
    simp only [put_lit, List.set, List.nil_append, List.cons_append]
    refine ⟨fun wk hE hF => ?_, fun vr31 => ?_⟩
    · clear hF; have hBk := hE.1.size; have hcE := (bcell (W := w9.drew) hE.1).1; have a0 := (hcE _ 0 hz9).trans l0; have a1 := (hcE _ 1 hz9).trans l1; clear hcE
      rw [if_pos (wanted_guard rfl (by kernel_rfl))]
      go_simp
      exact ⟨⟨_, rfl, Blk.new _ _ _⟩, GrowA.alloc _ _ hBk⟩
    change Steps _ _ _ _ _ _ _ _ _
    simp only [put_lit, List.set, List.nil_append, List.cons_append]
    refine ⟨fun wk hE hF => ?_, fun vr32 => ?_⟩
    · obtain hown30 := facts_get hF (j := 30) (by decide); obtain ⟨g, rfl, hlit⟩ := facts_get hF (j := 31) (by decide); clear hF; have hBk := hE.1.size; have hcE := (bcell (W := w9.drew) hE.1).1; have a0 := (hcE _ 0 hz9).trans l0; have a1 := (hcE _ 1 hz9).trans l1; clear hcE
      rw [if_pos (wanted_guard rfl (by kernel_rfl))]
      (obtain ⟨v', w', h1, h2, h3⟩ := yield_app (B := w9.heap.size) (N := 2) (ty := 32) (c := 2) (m := 2) Try.underlying32 hi0 hz0 hz1 hz2 rfl hown30 rfl (Blk.cells (l := [Value.int .u8 0, .int .u8 0]) hlit) (by simp [Value.oneCell']) (by have := hl9'.out; have := hsz'.out; omega) (by have := hl9'.out; have := hsz'.out; omega) hBk (by rw [HX10.out]; exact List.prefix_refl _) (.inl (by have := hl9'.out; omega)); rw [HX10.out, HN10.out] at h2; exact yield_append (.tmp 89) (.tmp 90) _ _ rfl rfl rfl h1 ⟨h2, h3⟩)
    change Steps _ _ _ _ _ _ _ _ _
    simp only [put_lit, List.set, List.nil_append, List.cons_append]
    refine ⟨fun wk hE hF => ?_, ?_⟩
    · obtain hown32 := facts_get hF (j := 32) (by decide); clear hF; have hBk := hE.1.size; have hcE := (bcell (W := w9.drew) hE.1).1; have a0 := (hcE _ 0 hz9).trans l0; have a1 := (hcE _ 1 hz9).trans l1; clear hcE
      rw [if_pos (wanted_guard rfl (by kernel_rfl))]
      go_simp
      (obtain ⟨q, c', rfl, hnq, hcc, hcm, hcs⟩ := own_cells (show wk.ownsRow w9.heap.size 5 1 _ n10 (bytesV (partsOf [s, ⟨#[]⟩])) from hown32); refine (sum_any x y q n10 c' (partsOf [s, ⟨#[]⟩]) (by rw [hnq, bytesV_length]) hcc hcm _ hcs).mono ?_; rintro e w2 ⟨rfl, hb⟩; exact ⟨_, rfl, rfl, GrowA.below hb hBk⟩)
    change Steps _ _ _ _ _ _ _ _ _
    simp only [put_lit, List.set, List.nil_append, List.cons_append]
    refine ⟨fun wk hE hF => ?_, ?_⟩
    · clear hF; have hBk := hE.1.size; have hcE := (bcell (W := w9.drew) hE.1).1; have a0 := (hcE _ 0 hz9).trans l0; have a1 := (hcE _ 1 hz9).trans l1; clear hcE
      rw [if_pos (wanted_guard rfl (by kernel_rfl))]
      go_simp
      exact ⟨rfl, GrowA.rfl_⟩
    change Steps _ _ _ _ _ _ _ _ _
    simp only [put_lit, List.set, List.nil_append, List.cons_append]
    refine ⟨fun wk hE hF => ?_, ?_⟩
    · clear hF; have hBk := hE.1.size; have hcE := (bcell (W := w9.drew) hE.1).1; have a0 := (hcE _ 0 hz9).trans l0; have a1 := (hcE _ 1 hz9).trans l1; clear hcE
      go_simp
      exact ⟨rfl, GrowA.rfl_⟩
    change Steps _ _ _ _ _ _ _ _ _
    simp only [put_lit, List.set, List.nil_append, List.cons_append]
    refine ⟨fun wk hE hF => ?_, ?_⟩
    · clear hF; have hBk := hE.1.size; have hcE := (bcell (W := w9.drew) hE.1).1; have a0 := (hcE _ 0 hz9).trans l0; have a1 := (hcE _ 1 hz9).trans l1; clear hcE
      go_simp
      exact ⟨rfl, GrowA.rfl_⟩
    change Steps _ _ _ _ _ _ _ _ _
    simp only [put_lit, List.set, List.nil_append, List.cons_append]
    intro wk hE hF
    clear hF; have HE := Lib.hid hE; clear hE
    go_wp2_with fail
    go_ret
    exact ⟨rfl, HBB.out.trans (Below.mono ((Below.refl _ w9).drew.trans HE.out.1) HBB.out.size)⟩
  · go_enter Try.func5, Try.ntmps5
    go_wp2_with fail
    refine (awake_any _).mono ?_
    rintro e w1 ⟨rfl, hb⟩
    have HB1 := Lib.hid hb
    clear hb
    go_wp2_with fail
    refine (few_no _ _ _ hn _).mono ?_
    rintro e w2 ⟨rfl, rfl⟩
    go_wp2_with fail
    refine (awake_any _).mono ?_
    rintro e w3 ⟨rfl, hb⟩
    have HB3 := Lib.hid hb
    clear hb
    go_wp2_with fail
    go_ret
    exact ⟨rfl, HB1.out.trans (HB3.out.mono HB1.out.size)⟩
end Go.Proofs.Ytkkcjnhochdpgaa
