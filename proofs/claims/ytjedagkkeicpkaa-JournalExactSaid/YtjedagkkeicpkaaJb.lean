/- Plain: the functions of journals, of program and reference, on lists of bytes. -/
import Derived.Test.YtjedagkkeicpkaaSa
import Derived.Test.YtjedagkkeicpkaaJa
namespace Go.Proofs.Ytjedagkkeicpkaa
open Vm
set_option linter.unusedVariables false
set_option linter.unusedSimpArgs false
theorem wu8_eq (n : Int) : IntKind.u8.wrap n = n % 256 := by
  simp [IntKind.wrap, IntKind.bits, IntKind.signed]
theorem sh8 (x : Int) {s : Nat} (hs : s ≤ 64) : IntKind.u8.wrap (ishr .u64 x s) = x / ((2 ^ s : Nat) : Int) % 256 := by
  rw [shr_eqN .u64 x hs, wu8_eq]
theorem be8_at (x : Int) : ∀ i : Nat, i < 8 → IntKind.u8.wrap (ishr .u64 x (8 * (7 - (i : Int)))) = (be8 x).getD i 0
  | 0, _ => by
    have e : ((2 ^ 56 : Nat) : Int) = 72057594037927936 := by decide
    rw [show (8 * (7 - ((0 : Nat) : Int)) : Int) = ((56 : Nat) : Int) from rfl, sh8 x (by decide), e]; rfl
  | 1, _ => by
    have e : ((2 ^ 48 : Nat) : Int) = 281474976710656 := by decide
    rw [show (8 * (7 - ((1 : Nat) : Int)) : Int) = ((48 : Nat) : Int) from rfl, sh8 x (by decide), e]; rfl
  | 2, _ => by
    have e : ((2 ^ 40 : Nat) : Int) = 1099511627776 := by decide
    rw [show (8 * (7 - ((2 : Nat) : Int)) : Int) = ((40 : Nat) : Int) from rfl, sh8 x (by decide), e]; rfl
  | 3, _ => by
    have e : ((2 ^ 32 : Nat) : Int) = 4294967296 := by decide
    rw [show (8 * (7 - ((3 : Nat) : Int)) : Int) = ((32 : Nat) : Int) from rfl, sh8 x (by decide), e]; rfl
  | 4, _ => by
    have e : ((2 ^ 24 : Nat) : Int) = 16777216 := by decide
    rw [show (8 * (7 - ((4 : Nat) : Int)) : Int) = ((24 : Nat) : Int) from rfl, sh8 x (by decide), e]; rfl
  | 5, _ => by
    have e : ((2 ^ 16 : Nat) : Int) = 65536 := by decide
    rw [show (8 * (7 - ((5 : Nat) : Int)) : Int) = ((16 : Nat) : Int) from rfl, sh8 x (by decide), e]; rfl
  | 6, _ => by
    have e : ((2 ^ 8 : Nat) : Int) = 256 := by decide
    rw [show (8 * (7 - ((6 : Nat) : Int)) : Int) = ((8 : Nat) : Int) from rfl, sh8 x (by decide), e]; rfl
  | 7, _ => by
    have e : ((2 ^ 0 : Nat) : Int) = 1 := by decide
    rw [show (8 * (7 - ((7 : Nat) : Int)) : Int) = ((0 : Nat) : Int) from rfl, sh8 x (by decide), e, Int.ediv_one]; rfl
theorem be8_take (x : Int) {i : Nat} (hi : i < 8) : (be8 x).take i ++ [(be8 x).getD i 0] = (be8 x).take (i + 1) := by
  rw [List.take_add_one, List.getD_eq_getElem?_getD, List.getElem?_eq_getElem (by rw [be8_len]; exact hi)]
  rfl
theorem put_nil_eq (x : Int) : journal_put_nil x 8 = some (be8 x) := by
  unfold journal_put_nil
  have := loop_for (step := fun v : (List Int) × Int => journal_put_nil_l1 x v.1 v.2) (fun i => ((be8 x).take i, 7 - (i : Int))) 8 (be8 x) (fun i hi => by
      simp only [journal_put_nil_l1]
      have hlen : ((be8 x).take i).length = i := by rw [List.length_take, be8_len]; omega
      rw [if_pos (by simp only [decide_eq_true_eq]; omega), wi64 (n := 8 * (7 - (i : Int))) (by omega) (by omega), if_pos (by omega), if_pos (by rw [hlen]; simp; omega), be8_at x i hi, be8_take x hi, wi64 (by omega) (by omega)]
      rw [show (7 - (i : Int) - 1) = 7 - ((i + 1 : Nat) : Int) by omega]) (by
      simp only [journal_put_nil_l1]
      rw [if_neg (by simp)]
      rfl) (s := (([] : List Int), IntKind.i64.wrap (8 - 1))) (by rw [show IntKind.i64.wrap (8 - 1) = 7 by decide]; rfl)
  rw [this]
  rfl
theorem put_own_eq (l : List Int) (x : Int) (hl : l.length ≤ 1000000) : journal_put_own l x 8 = some (l ++ be8 x) := by
  unfold journal_put_own
  have := loop_for (step := fun v : (List Int) × Int => journal_put_own_l1 x v.1 v.2) (fun i => (l ++ (be8 x).take i, 7 - (i : Int))) 8 (l ++ be8 x) (fun i hi => by
      simp only [journal_put_own_l1]
      have hlen : ((be8 x).take i).length = i := by rw [List.length_take, be8_len]; omega
      rw [if_pos (by simp only [decide_eq_true_eq]; omega), wi64 (n := 8 * (7 - (i : Int))) (by omega) (by omega), if_pos (by omega), if_pos (by rw [List.length_append, hlen]; simp; omega), be8_at x i hi, List.append_assoc, be8_take x hi, wi64 (by omega) (by omega)]
      rw [show (7 - (i : Int) - 1) = 7 - ((i + 1 : Nat) : Int) by omega]) (by
      simp only [journal_put_own_l1]
      rw [if_neg (by simp)]
      rfl) (s := (l, IntKind.i64.wrap (8 - 1))) (by rw [show IntKind.i64.wrap (8 - 1) = 7 by decide]; simp)
  rw [this]
  rfl
theorem ref_number_eq (x : Int) : rl_ref38_number x 8 = some (strOf (be8 x)) := by
  unfold rl_ref38_number
  have := loop_for (step := fun v : ByteArray × Int => rl_ref38_number_l1 x v.1 v.2) (fun i => (strOf ((be8 x).take i), 7 - (i : Int))) 8 (strOf (be8 x)) (fun i hi => by
      simp only [rl_ref38_number_l1]
      have hlen : ((be8 x).take i).length = i := by rw [List.length_take, be8_len]; omega
      have h1 : IntKind.u64.wrap (IntKind.i64.wrap (8 * (7 - (i : Int)))) = 8 * (7 - (i : Int)) := by rw [wi64 (by omega) (by omega), wu64 (by omega) (by omega)]
      rw [if_pos (by simp only [decide_eq_true_eq]; omega), h1, if_pos (by omega), if_pos (by rw [strOf_size, strOf_size, hlen, maxStr]; simp; omega), be8_at x i hi,
        strOf_append ((be8_b8 x).take i) (B8.cons ((be8_b8 x).get (by rw [be8_len]; exact hi)) B8.nil), be8_take x hi, wi64 (by omega) (by omega)]
      rw [show (7 - (i : Int) - 1) = 7 - ((i + 1 : Nat) : Int) by omega]) (by
      simp only [rl_ref38_number_l1]
      rw [if_neg (by simp)]
      rfl) (s := ((ByteArray.mk #[]), IntKind.i64.wrap (8 - 1))) (by rw [show IntKind.i64.wrap (8 - 1) = 7 by decide]; rfl)
  rw [this]
  rfl
/-- the sum of a payload behind another sum -/
def HS (b : Int) (p : List Int) : Int := sipF ⟨1, 2⟩ (be8 b ++ p)
theorem HS_in (b : Int) (p : List Int) : 0 ≤ HS b p ∧ HS b p < 18446744073709551616 := sipF_in _ _
theorem bl_len (s : ByteArray) : (bytesL s).length = s.size := (bytesL_length s).symm
theorem sum_eq (b : Int) {s : ByteArray} (hs : s.size ≤ 1000000) : journal_Sum b s = some (HS b (bytesL s)) := by
  unfold journal_Sum
  rw [put_nil_eq, bind1_pure, if_pos (by rw [be8_len]; omega), sip_eq _ (by rw [List.length_append, be8_len, bl_len]; omega), bind1_pure]
  rfl
theorem ref_sum_eq (b : Int) {s : ByteArray} (hs : s.size ≤ 1000000) : rl_ref38_Sum b s = some (HS b (bytesL s)) := by
  unfold rl_ref38_Sum
  have h1 : (strOf (be8 b)).size = 8 := by rw [strOf_size, be8_len]
  have h2 : (strOf (be8 b) ++ s).size = 8 + s.size := by rw [ByteArray.size_append, h1]
  rw [ref_number_eq, bind1_pure, if_pos (by rw [h1, maxStr]; omega), if_pos (by rw [h2]; unfold maxLen; omega), bytesL_append, bytesL_strOf (be8_b8 b), ref_sip _ (by rw [List.length_append, be8_len, bl_len]; omega), bind1_pure]
  rfl
theorem low_i64 (n : Nat) : iand .i64 (n : Int) 255 = ((n % 256 : Nat) : Int) ∨ 9223372036854775808 ≤ n := by
  by_cases h : n < 9223372036854775808
  · left
    show IntKind.i64.wrap ((BitVec.ofInt 64 (n : Int) &&& BitVec.ofInt 64 ((255 : Nat) : Int)).toNat : Int) = _
    simp only [BitVec.ofInt_natCast, BitVec.toNat_and, BitVec.toNat_ofNat]
    rw [show (2 : Nat) ^ 64 = 18446744073709551616 from rfl, Nat.mod_eq_of_lt (show n < 18446744073709551616 by omega), Nat.mod_eq_of_lt (show 255 < 18446744073709551616 by omega), show (255 : Nat) = 2 ^ 8 - 1 from rfl, Nat.and_two_pow_sub_one_eq_mod]
    exact wi64 (by omega) (by omega)
  · right; omega
theorem hd_eq {n : Nat} (h : n < 65536) : ([IntKind.u8.wrap (ishr .i64 ((n : Nat) : Int) 8), IntKind.u8.wrap ((n : Nat) : Int), IntKind.u8.wrap (255 - (IntKind.u8.wrap (ishr .i64 ((n : Nat) : Int) 8))), IntKind.u8.wrap (255 - (IntKind.u8.wrap ((n : Nat) : Int)))] : List Int) = hd4 n := by
  have e : ishr .i64 (n : Int) 8 = (n : Int) / 256 := by
    rw [show (8 : Int) = ((8 : Nat) : Int) from rfl, shr_eqN .i64 _ (by decide)]; rfl
  rw [e]
  simp only [wu8_eq, hd4, List.cons.injEq, and_true]
  omega
theorem ref_hd_eq {n : Nat} (h : n < 65536) : ([IntKind.u8.wrap (ishr .i64 ((n : Nat) : Int) 8), IntKind.u8.wrap ((n : Nat) : Int), IntKind.u8.wrap (IntKind.i64.wrap (255 - (ishr .i64 ((n : Nat) : Int) 8))), IntKind.u8.wrap (IntKind.i64.wrap (255 - (iand .i64 ((n : Nat) : Int) 255)))] : List Int) = hd4 n := by
  have e : ishr .i64 (n : Int) 8 = (n : Int) / 256 := by
    rw [show (8 : Int) = ((8 : Nat) : Int) from rfl, shr_eqN .i64 _ (by decide)]; rfl
  have e2 : iand .i64 (n : Int) 255 = ((n % 256 : Nat) : Int) := by rcases low_i64 n with h | h; exact h; omega
  rw [e, e2, wi64 (by omega) (by omega), wi64 (by omega) (by omega)]
  simp only [wu8_eq, hd4, List.cons.injEq, and_true]
  omega
theorem write_eq (b : Int) {s : ByteArray} (hs : s.size ≤ 60000) : journal_write b s = some (strOf (rcd HS b (bytesL s))) := by
  unfold journal_write
  rw [hd_eq (by omega), if_pos (by simp only [hd4, List.length_cons, List.length_nil]; omega), sum_eq b (by omega), bind1_pure, put_own_eq _ _ (by rw [List.length_append, bl_len]; simp only [hd4, List.length_cons, List.length_nil]; omega), bind1_pure, rcd, bl_len]
theorem ref_record_eq (b : Int) {s : ByteArray} (hs : s.size ≤ 60000) : rl_ref38_record b s = some (strOf (rcd HS b (bytesL s)), HS b (bytesL s)) := by
  unfold rl_ref38_record
  have h4 : (strOf (hd4 s.size)).size = 4 := by rw [strOf_size]; rfl
  rw [ref_sum_eq b (by omega), bind1_pure, ref_hd_eq (by omega), if_pos (by rw [h4, maxStr]; omega), ref_number_eq, bind1_pure, if_pos (by rw [ByteArray.size_append, h4, strOf_size, be8_len, maxStr]; omega)]
  have h5 : strOf (hd4 s.size) ++ s = strOf (hd4 s.size ++ bytesL s) := by rw [← strOf_append (hd4_b8 (by omega)) (bytesL_b8 s), strOf_bytesL]
  rw [h5, strOf_append ((hd4_b8 (by omega)).append (bytesL_b8 s)) (be8_b8 _), rcd, bl_len]
/-! What stands at the beginning of bytes. -/
def nxtR (b : Int) (l : List Int) : ByteArray × Int × Int := match nxt HS b l with
  | .inl e => (ByteArray.mk #[], 0, e)
  | .inr p => (strOf p, HS b p, 0)
theorem two_bytes {x y : Int} (hx : 0 ≤ x ∧ x < 256) (hy : 0 ≤ y ∧ y < 256) : ior .i64 (ishl .i64 (IntKind.i64.wrap x) 8) (IntKind.i64.wrap y) = x * 256 + y := by
  rw [wi64 (n := x) (by omega) (by omega), wi64 (n := y) (by omega) (by omega), show (8 : Int) = ((8 : Nat) : Int) from rfl, shl_i64 _ (by decide)]
  have e : ((2 ^ 8 : Nat) : Int) = 256 := by decide
  have h := (or_i64 (i := 8) hx.1 hy.1 (by rw [e]; omega) (by rw [e]; omega)).2
  rw [wi64 (n := x * ((2 ^ 8 : Nat) : Int)) (by rw [e]; omega) (by rw [e]; omega), h, e]
theorem ext_eq {s : ByteArray} {i j : Nat} : s.extract i j = strOf (((bytesL s).drop i).take (j - i)) := by
  rw [← bytesL_extract, strOf_bytesL]
theorem str_ne {l k : List Int} (hl : B8 l) (hk : B8 k) : (!((strOf l).toList == (strOf k).toList)) = decide (l ≠ k) := by
  rw [str_eq]
  by_cases h : l = k
  · subst h; simp
  · rw [decide_eq_false (fun e => h ((strOf_inj hl hk).1 e)), decide_eq_true h]; rfl
theorem next_eq (b : Int) {s : ByteArray} (hs : s.size ≤ 1000000) : journal_next s b = some (nxtR b (bytesL s)) := by
  have hb := bytesL_b8 s
  have hlen := bl_len s
  unfold journal_next nxtR nxt
  simp only [str_at]
  generalize hL : bytesL s = l at hb hlen ⊢
  rw [hlen]
  by_cases h4 : s.size < 4
  · rw [if_pos (by simp only [decide_eq_true_eq]; omega), if_pos h4]
  rw [if_neg (by simp only [decide_eq_true_eq]; omega), if_pos (by omega), if_pos (by omega), if_neg h4]
  have g0 := hb.get (i := 0) (by omega)
  have g1 := hb.get (i := 1) (by omega)
  have g2 := hb.get (i := 2) (by omega)
  have g3 := hb.get (i := 3) (by omega)
  rw [two_bytes g0 g1, bind1_pure, if_pos (by omega)]
  generalize l.getD 0 0 = a at g0 ⊢
  generalize l.getD 1 0 = c at g1 ⊢
  generalize l.getD 2 0 = d at g2 ⊢
  generalize l.getD 3 0 = e at g3 ⊢
  simp only [wu8_eq]
  by_cases h1 : a + d ≠ 255 ∨ c + e ≠ 255
  · rw [if_pos h1]
    have k1 : journal_next_k1 s b (a * 256 + c) true = some (ByteArray.mk #[], 0, 14) := rfl
    by_cases h2 : d ≠ (255 - a) % 256
    · rw [if_pos (by simpa using h2), k1]
    · rw [if_neg (by simpa using h2), if_pos (by omega), show (e != (255 - c) % 256) = true by simp; omega, k1]
  rw [if_neg h1]
  rw [if_neg (by simp; omega), if_pos (by omega), show (e != (255 - c) % 256) = false by simp; omega]
  unfold journal_next_k1
  rw [if_neg (by decide)]
  by_cases h2 : 60000 < a * 256 + c
  · rw [if_pos (by simpa using h2), if_pos h2]
  rw [if_neg (by simpa using h2), if_neg h2]
  obtain ⟨n, hn⟩ := Int.eq_ofNat_of_zero_le (show 0 ≤ a * 256 + c by omega)
  rw [hn]
  rw [hn] at h2
  rw [wi64 (n := 4 + (n : Int)) (by omega) (by omega), wi64 (n := 4 + (n : Int) + 8) (by omega) (by omega), Int.toNat_natCast]
  by_cases h3 : s.size < 12 + n
  · rw [if_pos (by simp only [decide_eq_true_eq]; omega), if_pos h3]
  rw [if_neg (by simp only [decide_eq_true_eq]; omega), if_neg h3, if_pos (by omega), show (4 + (n : Int)).toNat = 4 + n by omega, show (4 + (n : Int) + 8).toNat = 4 + n + 8 by omega, if_pos (by omega), if_pos (by omega)]
  have hsz : (s.extract 4 (4 + n)).size ≤ 1000000 := by simp [ByteArray.size_extract]; omega
  rw [sum_eq b hsz, bind1_pure, if_pos (by omega), if_pos (by omega), if_pos (by omega), put_nil_eq, bind1_pure]
  have e1 : s.extract 4 (4 + n) = strOf ((l.drop 4).take n) := by rw [ext_eq, hL, Nat.add_sub_cancel_left]
  have e2 : s.extract (4 + n) (4 + n + 8) = strOf ((l.drop (4 + n)).take 8) := by rw [ext_eq, hL, Nat.add_sub_cancel_left]
  rw [e1, e2, bytesL_strOf ((hb.drop 4).take n), str_ne ((hb.drop _).take 8) (be8_b8 _)]
  by_cases h5 : (l.drop (4 + n)).take 8 ≠ be8 (HS b ((l.drop 4).take n))
  · rw [if_pos (by simpa using h5), if_pos h5]
  · rw [if_neg (by simpa using h5), if_neg h5]
/-! Reading: what a round does. -/
abbrev JO := (List ByteArray × Int × Int) ⊕ (List ByteArray × Int × Int × Int)
def stepR (l : List Int) (acc : List ByteArray) (at_ : Nat) (b : Int) : (List ByteArray × Int × Int) ⊕ JO :=
  if at_ < l.length then (if acc.length = 512 then .inr (.inr (acc, at_, b, 1)) else match nxt HS b (l.drop at_) with
    | .inl e => .inr (.inr (acc, at_, b, e))
    | .inr p => .inl (acc ++ [strOf p], ((at_ + (12 + p.length) : Nat) : Int), HS b p)) else .inr (.inl (acc, at_, b))
theorem nxt_bound {b : Int} {l p : List Int} (hb : B8 l) (h : nxt HS b l = .inr p) : 12 + p.length ≤ l.length ∧ p.length ≤ 60000 ∧ p = (l.drop 4).take p.length ∧ B8 p := by
  unfold nxt at h
  split at h
  · cases h
  rename_i h4
  split at h
  · cases h
  split at h
  · cases h
  rename_i h6
  split at h
  · cases h
  rename_i h7
  split at h
  · cases h
  injection h with h
  have g0 := hb.get (i := 0) (by omega)
  have g1 := hb.get (i := 1) (by omega)
  have hlen : p.length = (l.getD 0 0 * 256 + l.getD 1 0).toNat := by rw [← h, List.length_take, List.length_drop]; omega
  refine ⟨by omega, by omega, ?_, by rw [← h]; exact (hb.drop _).take _⟩
  rw [hlen]; exact h.symm
theorem nxt_err_ne {b : Int} {l : List Int} {e : Int} (h : nxt HS b l = .inl e) : e = 14 ∨ e = 15 ∨ e = 16 ∨ e = 1 := by
  unfold nxt at h
  split at h
  · injection h with h; omega
  split at h
  · injection h with h; omega
  split at h
  · injection h with h; omega
  split at h
  · injection h with h; omega
  split at h
  · injection h with h; omega
  · cases h
theorem read_step (s : ByteArray) (hs : s.size ≤ 1000000) (acc : List ByteArray) (ha : acc.length ≤ 512) (at_ : Nat) (hat : at_ ≤ s.size) (b : Int) : journal_read_l1 s acc at_ b = some (stepR (bytesL s) acc at_ b) := by
  unfold journal_read_l1 stepR
  rw [bl_len]
  by_cases h1 : at_ < s.size
  · rw [if_pos (by simpa using h1), if_pos h1]
    by_cases h2 : acc.length = 512
    · rw [if_pos (by simp [h2]), if_pos h2]
    rw [if_neg (by simp; omega), if_neg h2, if_pos (by omega), if_pos (by omega), Int.toNat_natCast]
    have hx : bytesL (s.extract at_ s.size) = (bytesL s).drop at_ := by
      rw [bytesL_extract, List.take_of_length_le (by rw [List.length_drop, bl_len]; omega)]
    have hb : B8 ((bytesL s).drop at_) := (bytesL_b8 s).drop _
    rw [next_eq b (s := s.extract at_ s.size) (by rw [ByteArray.size_extract]; omega), hx, nxtR]
    cases hn : nxt HS b ((bytesL s).drop at_) with
    | inl e =>
      have he := nxt_err_ne hn
      simp only [bind3_pure]
      rw [if_pos (by simp; omega)]
    | inr p =>
      obtain ⟨p1, p2, _, p4⟩ := nxt_bound hb hn
      rw [List.length_drop, bl_len] at p1
      simp only [bind3_pure]
      rw [if_neg (by simp), if_pos (by simp; omega), strOf_size, wi64 (n := (at_ : Int) + 4) (by omega) (by omega), wi64 (n := (at_ : Int) + 4 + ((p.length : Nat) : Int)) (by omega) (by omega), wi64 (by omega) (by omega), bind1_pure]
      rw [show (at_ : Int) + 4 + ((p.length : Nat) : Int) + 8 = ((at_ + (12 + p.length) : Nat) : Int) by omega]
  · rw [if_neg (by simpa using h1), if_neg h1]
end Go.Proofs.Ytjedagkkeicpkaa
