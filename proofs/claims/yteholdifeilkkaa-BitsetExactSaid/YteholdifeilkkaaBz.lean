/- Plain: arrays of bits: what both sides return for any data. -/
import Derived.Test.YteholdifeilkkaaBy
namespace Go.Proofs.Yteholdifeilkkaa
open Vm
open IntKind (i64 u64 u32 u8)
set_option linter.unusedVariables false
set_option linter.unusedSimpArgs false
theorem new_both (n : Int) : ∃ u e, bitset_New n = some (u, e) ∧ rl_ref09_New n = some (u, e) ∧ u.Words.length < 1000000 := by
  have same : rl_ref09_New n = bitset_New n := by unfold rl_ref09_New bitset_New; rfl
  rw [same, new_eq]
  by_cases h : Right n
  · have := h.2.1
    rw [if_pos h]
    exact ⟨_, _, rfl, rfl, by simp only [List.length_replicate]; omega⟩
  · rw [if_neg h]
    exact ⟨_, _, rfl, rfl, by simp [EB]⟩
theorem same_yes {u : S_api_Bits} (h : u.Words.length < 1000000) : rl_law09_same u u = some true := by
  unfold rl_law09_same
  rw [refcompare_eq h, bind1_pure, cmpB_zero.2 rfl]
  rfl
theorem and_both {p q : S_api_Bits} (hp : p.Words.length ≤ 1000) : ∃ u e, bitset_And p q = some (u, e) ∧ rl_ref09_And p q = some (u, e) ∧ u.Words.length < 1000000 := by
  rw [and_eq, refand_eq]
  split
  · exact ⟨_, _, rfl, rfl, by simp only [List.length_zipWith]; omega⟩
  · exact ⟨_, _, rfl, rfl, by simp [EB]⟩
theorem or_both {p q : S_api_Bits} (hp : p.Words.length ≤ 1000) : ∃ u e, bitset_Or p q = some (u, e) ∧ rl_ref09_Or p q = some (u, e) ∧ u.Words.length < 1000000 := by
  rw [or_eq, refor_eq]
  split
  · exact ⟨_, _, rfl, rfl, by simp only [List.length_zipWith]; omega⟩
  · exact ⟨_, _, rfl, rfl, by simp [EB]⟩
theorem xor_both {p q : S_api_Bits} (hp : p.Words.length ≤ 1000) : ∃ u e, bitset_Xor p q = some (u, e) ∧ rl_ref09_Xor p q = some (u, e) ∧ u.Words.length < 1000000 := by
  rw [xor_eq, refxor_eq]
  split
  · exact ⟨_, _, rfl, rfl, by simp only [List.length_zipWith]; omega⟩
  · exact ⟨_, _, rfl, rfl, by simp [EB]⟩
theorem has_both {p : S_api_Bits} (hw : W64 p.Words) (i : Int) : ∃ u, bitset_Has p i = some u ∧ rl_ref09_Has p i = some u := by
  have same : rl_ref09_Has p i = bitset_Has p i := by unfold rl_ref09_Has bitset_Has; rfl
  exact ⟨_, by rw [← same, refhas_eq hw], refhas_eq hw i⟩
theorem clone_eq {l : List Int} (h : l.length < 1000000) : slices_Clone_uint64 l = some l := by
  grind [slices_Clone_uint64, orBoth]
theorem set_both {p : S_api_Bits} (hl : p.Words.length ≤ 100) (i : Int) : ∃ u e, bitset_Set p i = some (u, e) ∧ rl_ref09_Set p i = some (u, e) ∧ u.Words.length < 1000000 := by
  unfold bitset_Set rl_ref09_Set
  rw [valid_eq, refvalid_eq, bind1_pure, bind1_pure]
  by_cases h : VB p
  rotate_left
  · have z : (!decide (VB p)) = true := by rw [decide_eq_false h]; rfl
    rw [if_pos z, if_pos z]
    exact ⟨_, _, rfl, rfl, by simp⟩
  have z : ¬ (!decide (VB p)) = true := by rw [decide_eq_true h]; decide
  rw [if_neg z, if_neg z]
  by_cases h1 : i < 0
  · have y : decide (i < 0) = true := decide_eq_true h1
    rw [if_pos y, if_pos y]
    exact ⟨_, _, rfl, rfl, by simp⟩
  have y : ¬ decide (i < 0) = true := by rw [decide_eq_true_eq]; exact h1
  rw [if_neg y, if_neg y]
  by_cases h2 : i ≥ p.Length
  · rw [decide_eq_true h2]
    exact ⟨_, _, rfl, rfl, by simp⟩
  have l1 := h.2
  have l2 := h.1.2.1
  have l3 := h.1.2.2
  rw [decide_eq_false h2]
  unfold bitset_Set_k1 rl_ref09_Set_k1
  have x : ¬ false = true := by decide
  have hq : IntKind.i64.wrap (i.tdiv 64) = i / 64 := by rw [tdiv_nn (by omega), wi64 (by omega) (by omega)]
  have hr : i.tmod 64 = i % 64 := tmod_nn (by omega)
  have a1 : 0 ≤ i / 64 := by omega
  have a2 : i / 64 < (p.Words.length : Int) := by omega
  have a3 : 0 ≤ i % 64 := by omega
  rw [if_neg x, if_neg x, clone_eq (by omega), copy_eq hl, bind1_pure, bind1_pure, hq, hr, if_pos a1, if_pos a2, if_pos a3]
  exact ⟨_, _, rfl, rfl, by simp only [List.length_set]; omega⟩
theorem fold_both {p : S_api_Bits} : ∃ u e, bitset_Fold p = some (u, e) ∧ rl_ref09_Fold p = some (u, e) ∧ u.Words.length < 1000000 := by
  unfold bitset_Fold rl_ref09_Fold
  rw [valid_eq, refvalid_eq, bind1_pure, bind1_pure]
  by_cases h : VB p
  rotate_left
  · have z : (!decide (VB p)) = true := by rw [decide_eq_false h]; rfl
    rw [if_pos z, if_pos z]
    exact ⟨_, _, rfl, rfl, by simp⟩
  have z : ¬ (!decide (VB p)) = true := by rw [decide_eq_true h]; decide
  rw [if_neg z, if_neg z]
  have l0 := h.1.1
  have l1 := h.2
  have l2 := h.1.2.1
  have l3 := h.1.2.2
  rw [show p.Length.tmod 128 = p.Length % 128 from tmod_nn (by omega)]
  by_cases h1 : p.Length % 128 = 0
  rotate_left
  · have y : (p.Length % 128 != 0) = true := by rw [bne_iff_ne]; exact h1
    rw [if_pos y, if_pos y]
    exact ⟨_, _, rfl, rfl, by simp⟩
  have y : ¬ (p.Length % 128 != 0) = true := by rw [h1]; decide
  rw [if_neg y, if_neg y]
  obtain ⟨k, hk⟩ : ∃ k : Nat, p.Length = 128 * (k : Int) := ⟨(p.Length / 128).toNat, by omega⟩
  have hw : p.Words.length = 2 * k := by omega
  have hq : IntKind.i64.wrap (((p.Words.length : Nat) : Int).tdiv 2) = (k : Int) := by rw [tdiv_nn (by omega), wi64 (by omega) (by omega)]; omega
  have hd : p.Words.length - k = k := by omega
  have hlen : ((p.Words.drop k).take k).length = k := by simp; omega
  have hlen0 : (p.Words.take k).length = k := by simp; omega
  have hL : loop (fun v : Int × (List Int) => rl_ref09_Fold_l1 p v.1 v.2) (0, ([] : List Int)) = some (List.zipWith (ixor .u64) (p.Words.take k) ((p.Words.drop k).take k)) := by
    refine loop_for (fun i => ((i : Int), List.zipWith (ixor .u64) (p.Words.take i) ((p.Words.drop k).take i))) k _ (fun i hi => ?_) ?_ (by simp)
    · simp only [rl_ref09_Fold_l1]
      have hz : (List.zipWith (ixor .u64) (p.Words.take i) ((p.Words.drop k).take i)).length ≤ 100 := by simp; omega
      have hg : (p.Words.drop k).getD i 0 = p.Words.getD (k + i) 0 := by simp only [List.getD_eq_getElem?_getD, List.getElem?_drop]
      rw [hq, wi64 (n := (k : Int) + (i : Int)) (by omega) (by omega), wi64 (n := (i : Int) + 1) (by omega) (by omega), show (k : Int) + (i : Int) = ((k + i : Nat) : Int) by omega, Int.toNat_natCast, Int.toNat_natCast,
        if_pos (by simp only [decide_eq_true_eq]; omega), if_pos (by omega), if_pos (by omega), if_pos (by omega), if_pos (by omega), if_pos (by simp only [List.length_cons, List.length_nil]; omega),
        take_snoc 0 (l := p.Words) (by omega), take_snoc 0 (l := p.Words.drop k) (by simp; omega), List.zipWith_append (by simp; omega), hg]
      rfl
    · simp only [rl_ref09_Fold_l1]
      rw [hq, if_neg (by simp)]
  rw [hL, bind1_pure, hq, if_pos (by omega), Int.toNat_natCast, if_pos (by omega), hd, wi64 (n := (k : Int) * 64) (by omega) (by omega), xor_eq]
  have R : Right ((k : Int) * 64) := by unfold Right; omega
  rw [if_pos ⟨⟨R, by simp only [hlen0]; omega⟩, ⟨R, by simp only [hlen]; omega⟩, rfl⟩, bind2_pure, tdiv_nn (by omega), wi64 (n := p.Length / 2) (by omega) (by omega), show p.Length / 2 = (k : Int) * 64 by omega]
  exact ⟨_, _, rfl, rfl, by simp only [List.length_zipWith, hlen0, hlen]; omega⟩
/-! Texts. -/
theorem tab_one {n : Nat} (h : n < 16) : (ByteArray.mk #[48, 49, 50, 51, 52, 53, 54, 55, 56, 57, 97, 98, 99, 100, 101, 102]).extract n (n + 1) = strOf [hexD n] := by
  rw [← bytesL_inj, bytesL_extract, bytesL_strOf (B8.cons (hexD_b8 h) B8.nil)]
  have : ∀ n : Fin 16, ((bytesL (ByteArray.mk #[48, 49, 50, 51, 52, 53, 54, 55, 56, 57, 97, 98, 99, 100, 101, 102])).drop n.val).take (n.val + 1 - n.val) = [hexD n.val] := by decide
  exact this ⟨n, h⟩
theorem word_eq {x : Nat} (hx : x < 18446744073709551616) : rl_ref09_Word (x : Int) = some (strOf (hexN x 16)) := by
  unfold rl_ref09_Word
  rw [loop_for (step := fun v : ByteArray × Int => rl_ref09_Word_l1 (x : Int) v.1 v.2) (fun i => (strOf ((hexN x 16).take i), 60 - 4 * (i : Int))) 16 (strOf (hexN x 16)) (fun i hi => by
      have hs : 60 - 4 * (i : Int) = ((60 - 4 * i : Nat) : Int) := by omega
      have hq : x / 2 ^ (60 - 4 * i) % 16 < 16 := Nat.mod_lt _ (by decide)
      have hsz : (ByteArray.mk #[48, 49, 50, 51, 52, 53, 54, 55, 56, 57, 97, 98, 99, 100, 101, 102]).size = 16 := rfl
      simp only [rl_ref09_Word_l1]
      rw [hs, nib_int hx (by omega), wu64 (n := ((x / 2 ^ (60 - 4 * i) % 16 : Nat) : Int) + 1) (by omega) (by omega), show ((x / 2 ^ (60 - 4 * i) % 16 : Nat) : Int) + 1 = ((x / 2 ^ (60 - 4 * i) % 16 + 1 : Nat) : Int) by omega, Int.toNat_natCast, Int.toNat_natCast, tab_one hq,
        if_pos (by simp), if_pos (by omega), if_pos (by omega), if_pos (by omega), if_pos (by omega), if_pos (by rw [hsz]; omega), if_pos (by rw [strOf_size, strOf_size, maxStr]; simp; omega), wi64 (by omega) (by omega), show ((60 - 4 * i : Nat) : Int) - 4 = 60 - 4 * ((i + 1 : Nat) : Int) by omega,
        strOf_append ((hexN_b8 x 16).take i) (B8.cons (hexD_b8 hq) B8.nil), take_snoc 0 (by rw [hexN_length]; omega), hexN_get _ _ _ hi, show 16 - 1 - i = 15 - i by omega, show (60 - 4 * i) = 4 * (15 - i) by omega, Nat.pow_mul, show (2 : Nat) ^ 4 = 16 from rfl]) (by
      simp only [rl_ref09_Word_l1]
      rw [if_neg (by simp), List.take_of_length_le (by rw [hexN_length]; omega)]) (s := (ByteArray.mk #[], 60)) rfl, bind1_pure]
theorem refhex_eq {p : S_api_Bits} (hw : W64 p.Words) : rl_ref09_Hex p = some (if VB p then (strOf (hexOf p.Words), 0) else (ByteArray.mk #[], 8)) := by
  unfold rl_ref09_Hex
  rw [refvalid_eq, bind1_pure]
  by_cases h : VB p
  · have hl := h.len
    rw [decide_eq_true h, if_neg (by simp), if_pos h]
    rw [loop_for (step := fun v : ByteArray × Int => rl_ref09_Hex_l1 p v.1 v.2) (fun i => (strOf (hexOf (p.Words.take i)), (i : Int))) p.Words.length (strOf (hexOf p.Words)) (fun i hi => by
        obtain ⟨x, hx, e⟩ := W64.nat (hw.get hi)
        simp only [rl_ref09_Hex_l1, Int.toNat_natCast]
        rw [if_pos (by simpa using hi), if_pos (by omega), if_pos (by omega), e, word_eq hx, bind1_pure, if_pos (by rw [strOf_size, strOf_size, hexN_length, hexOf_length, maxStr]; simp; omega), wi64 (by omega) (by omega), strOf_append (hexOf_b8 _) (hexN_b8 _ _), take_snoc 0 hi, hexOf_snoc, e, Int.toNat_natCast]
        rfl) (by
        simp only [rl_ref09_Hex_l1]
        rw [if_neg (by simp), List.take_length]) (s := (ByteArray.mk #[], 0)) rfl, bind1_pure]
  · rw [decide_eq_false h, if_pos (by simp), if_neg h]
theorem dig_iff {c : Int} {k : Nat} (hk : k < 16) : hexD k = c ↔ valN c = some k := by
  constructor
  · rintro rfl; exact valN_hexD hk
  · intro h
    unfold valN at h
    unfold hexD
    split at h
    · injection h with h; split <;> omega
    · split at h
      · injection h with h; split <;> omega
      · cases h
theorem read_dig {l : List Int} (hl : B8 l) (h16 : l.length = 16) {i : Nat} (hi : i < 16) : loop (fun v : Int => rl_ref09_Read_l2 (strOf l) (i : Int) v) 0 = some (((valN (l.getD i 0)).getD 16 : Nat) : Int) := by
  have hsz : (ByteArray.mk #[48, 49, 50, 51, 52, 53, 54, 55, 56, 57, 97, 98, 99, 100, 101, 102]).size = 16 := rfl
  obtain ⟨v, hv⟩ : ∃ v, (valN (l.getD i 0)).getD 16 = v := ⟨_, rfl⟩
  have hv16 : v ≤ 16 := by
    rw [← hv]
    cases e : valN (l.getD i 0) with
    | none => decide
    | some u => have := valN_lt e; simp only [Option.getD_some]; omega
  have st : ∀ k : Nat, k < 16 → rl_ref09_Read_l2 (strOf l) (i : Int) (k : Int) = rl_ref09_Read_k3 (k : Int) (hexD k != l.getD i 0) := fun k hk => by
    unfold rl_ref09_Read_l2
    rw [if_pos (by simp only [decide_eq_true_eq]; omega), if_pos (by omega), if_pos (by rw [hsz]; omega), if_pos (by omega), if_pos (by rw [strOf_size]; omega), Int.toNat_natCast, Int.toNat_natCast, tab16 hk, str_at, bytesL_strOf hl]
  rw [hv]
  refine loop_for (fun k => (k : Int)) v _ (fun k hk => ?_) ?_ rfl
  · rw [st k (by omega), show (hexD k != l.getD i 0) = true from bne_iff_ne.2 fun e => ?_]
    · unfold rl_ref09_Read_k3
      rw [if_pos rfl, wi64 (by omega) (by omega)]
      rfl
    · have := (dig_iff (by omega)).1 e
      rw [this] at hv
      simp only [Option.getD_some] at hv
      omega
  · by_cases h : v = 16
    · subst h
      unfold rl_ref09_Read_l2
      rw [if_neg (by decide)]
      rfl
    · rw [st v (by omega)]
      have : valN (l.getD i 0) = some v := by
        cases e : valN (l.getD i 0) with
        | none => rw [e] at hv; exact absurd hv.symm h
        | some u => rw [e] at hv; simp only [Option.getD_some] at hv; rw [hv]
      rw [(dig_iff (by omega)).2 this, show (l.getD i 0 != l.getD i 0) = false by simp]
      rfl
theorem read_eq {l : List Int} (hl : B8 l) (h16 : l.length = 16) : rl_ref09_Read (strOf l) = some (if AllD l then (((numD l : Nat) : Int), true) else (0, false)) := by
  unfold rl_ref09_Read
  rw [strOf_size, if_neg (by rw [h16]; decide)]
  obtain ⟨t, h1, h2⟩ := loop_inv (step := fun v : Int × Int => rl_ref09_Read_l1 (strOf l) v.1 v.2) 16 (fun i s => s = (((numD (l.take i) : Nat) : Int), (i : Int)) ∧ AllD (l.take i)) (fun t => (t = .inl ((numD l : Nat) : Int) ∧ AllD l) ∨ (t = .inr () ∧ ¬ AllD l)) (by
    rintro i hi s ⟨rfl, hd⟩
    have hmem : l.getD i 0 ∈ l := by rw [List.getD_eq_getElem?_getD, List.getElem?_eq_getElem (by omega)]; exact List.getElem_mem (by omega)
    simp only [rl_ref09_Read_l1]
    rw [if_pos (by simp only [decide_eq_true_eq]; omega), read_dig hl h16 hi, bind1_pure]
    cases hv : valN (l.getD i 0) with
    | none =>
      right
      refine ⟨.inr (), by rw [if_pos (by decide)], .inr ⟨rfl, fun h => ?_⟩⟩
      have := h _ hmem
      rw [hv] at this
      cases this
    | some v =>
      left
      have lv := valN_lt hv
      have ln := numD_lt i (l.take i) (by simp; omega)
      have lp : 16 ^ i ≤ 16 ^ 15 := Nat.pow_le_pow_right (by decide) (by omega)
      simp only [Option.getD_some]
      refine ⟨_, by rw [if_neg (by rw [beq_iff_eq]; omega), wu64 (by omega) (by omega), or_nib (by omega) lv, wi64 (by omega) (by omega)], ?_, ?_⟩
      · rw [take_snoc 0 (by omega), numD_snoc, hv]; rfl
      · intro c hc
        rw [take_snoc 0 (by omega)] at hc
        rcases List.mem_append.1 hc with hc | hc
        · exact hd c hc
        · simp only [List.mem_singleton] at hc; subst hc; rw [hv]; rfl) (by
    rintro s ⟨rfl, hd⟩
    rw [List.take_of_length_le (by omega)] at hd
    refine ⟨.inl ((numD l : Nat) : Int), ?_, .inl ⟨rfl, hd⟩⟩
    simp only [rl_ref09_Read_l1]
    rw [if_neg (by simp), List.take_of_length_le (by omega)]) (s := (0, 0)) ⟨rfl, fun c hc => by simp at hc⟩
  rw [h1]
  rcases h2 with ⟨rfl, h3⟩ | ⟨rfl, h3⟩
  · rw [bindE_l, if_pos h3]; rfl
  · rw [bindE_r, if_neg h3]; rfl
def chunk (l : List Int) (k : Nat) : List Int := (l.drop (16 * k)).take 16
theorem allD_chunks {l : List Int} {m : Nat} (hm : l.length = 16 * m) : AllD l ↔ ∀ k, k < m → AllD (chunk l k) := by
  constructor
  · intro h k _ c hc
    exact h c (List.mem_of_mem_drop (List.mem_of_mem_take hc))
  · intro h c hc
    obtain ⟨i, hi, rfl⟩ := List.getElem_of_mem hc
    refine h (i / 16) (by omega) _ ?_
    unfold chunk
    rw [List.mem_iff_getElem?]
    refine ⟨i % 16, ?_⟩
    rw [List.getElem?_take, if_pos (by omega), List.getElem?_drop, show 16 * (i / 16) + i % 16 = i by omega, List.getElem?_eq_getElem hi]
theorem refparse_eq {l : List Int} (hl : B8 l) (hs : l.length < 1000000) : rl_ref09_Parse (strOf l) = some (if Right (4 * (l.length : Int)) ∧ AllD l then (⟨4 * (l.length : Int), wordsAt l (l.length / 16) l.length⟩, 0) else (EB, 14)) := by
  unfold rl_ref09_Parse
  have no : rl_ref09_Parse_k1 (strOf l) true = some (EB, 14) := rfl
  rw [strOf_size]
  by_cases h16 : l.length % 16 = 0
  rotate_left
  · rw [if_pos (by rw [bne_iff_ne, tmod_nn (by omega)]; omega), no, if_neg (fun h => by have := h.1.2.2; omega)]
  rw [if_neg (by rw [tmod_nn (by omega)]; simp; omega), wi64 (n := 4 * (l.length : Int)) (by omega) (by omega), reflen_eq, bind1_pure]
  by_cases hr : Right (4 * (l.length : Int))
  rotate_left
  · rw [decide_eq_false hr, show (!false) = true from rfl, no, if_neg (fun h => hr h.1)]
  obtain ⟨m, hm⟩ : ∃ m, l.length = 16 * m := ⟨l.length / 16, by omega⟩
  have hr2 := hr.2.1
  rw [decide_eq_true hr]
  unfold rl_ref09_Parse_k1
  rw [if_neg (by decide)]
  obtain ⟨t, h1, h2⟩ := loop_inv (step := fun v : Int × (List Int) => rl_ref09_Parse_l2 (strOf l) v.1 v.2) m (fun j s => s = (((16 * j : Nat) : Int), (List.range j).map fun k => ((numD (chunk l k) : Nat) : Int)) ∧ ∀ k, k < j → AllD (chunk l k)) (fun t => (t = .inl ((List.range m).map fun k => ((numD (chunk l k) : Nat) : Int)) ∧ AllD l) ∨ (t = .inr () ∧ ¬ AllD l)) (by
    rintro j hj s ⟨rfl, hd⟩
    simp only [rl_ref09_Parse_l2, strOf_size]
    have hc : chunk l j = (l.drop (16 * j)).take (16 * j + 16 - 16 * j) := by unfold chunk; congr 1; omega
    rw [if_pos (by simp only [decide_eq_true_eq]; omega), if_pos (by omega), wi64 (n := ((16 * j : Nat) : Int) + 16) (by omega) (by omega), show ((16 * j : Nat) : Int) + 16 = ((16 * j + 16 : Nat) : Int) by omega, Int.toNat_natCast, Int.toNat_natCast, if_pos (by omega), if_pos (by omega), if_pos (by omega), strOf_extract hl, ← hc, read_eq (show B8 (chunk l j) from (hl.drop _).take _) (by unfold chunk; simp; omega)]
    by_cases hA : AllD (chunk l j)
    · left
      rw [if_pos hA, bind2_pure, if_neg (by decide), if_pos (by simp; omega)]
      refine ⟨_, rfl, ?_, fun k hk => ?_⟩
      · rw [List.range_succ, List.map_append]; rfl
      · by_cases e : k = j
        · subst e; exact hA
        · exact hd k (by omega)
    · right
      rw [if_neg hA, bind2_pure, if_pos (by decide)]
      exact ⟨_, rfl, .inr ⟨rfl, fun h => hA ((allD_chunks hm).1 h j hj)⟩⟩) (by
    rintro s ⟨rfl, hd⟩
    refine ⟨_, ?_, .inl ⟨rfl, (allD_chunks hm).2 hd⟩⟩
    simp only [rl_ref09_Parse_l2, strOf_size]
    rw [if_neg (by simp only [decide_eq_true_eq]; omega)]) (s := (0, [])) ⟨rfl, fun k hk => absurd hk (by omega)⟩
  rw [h1]
  rcases h2 with ⟨rfl, h3⟩ | ⟨rfl, h3⟩
  · rw [bindE_l, if_pos ⟨hr, h3⟩]
    unfold rl_ref09_Parse_a3
    rw [strOf_size, wi64 (n := 4 * (l.length : Int)) (by omega) (by omega)]
    have : (List.range m).map (fun k => ((numD (chunk l k) : Nat) : Int)) = wordsAt l (l.length / 16) l.length := by
      unfold wordsAt
      rw [show l.length / 16 = m by omega]
      refine List.map_congr_left fun k hk => ?_
      have := List.mem_range.1 hk
      unfold chunk
      rw [show min 16 (l.length - 16 * k) = 16 by omega]
    rw [this]
  · rw [bindE_r, if_neg (fun h => h3 h.2)]
    rfl
theorem parse_both {s : ByteArray} (hs : s.size < 1000000) : ∃ u e, bitset_Parse s = some (u, e) ∧ rl_ref09_Parse s = some (u, e) ∧ u.Words.length < 1000000 := by
  obtain ⟨l, hl, rfl⟩ := str_ex s
  rw [strOf_size] at hs
  rw [parse_eq hl hs, refparse_eq hl hs]
  split
  · exact ⟨_, _, rfl, rfl, by simp only [wordsAt_length]; omega⟩
  · exact ⟨_, _, rfl, rfl, by simp [EB]⟩
end Go.Proofs.Yteholdifeilkkaa
