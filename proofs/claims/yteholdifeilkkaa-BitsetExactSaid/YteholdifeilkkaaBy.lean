/- Plain: texts of arrays of bits: the program. -/
import Derived.Test.YteholdifeilkkaaBx
namespace Go.Proofs.Yteholdifeilkkaa
open Vm
open IntKind (i64 u64 u32 u8)
set_option linter.unusedVariables false
set_option linter.unusedSimpArgs false
def hexD (n : Nat) : Int := if n < 10 then 48 + n else 87 + n
/-- the last m digits of a number -/
def hexN (x : Nat) : Nat → List Int
  | 0 => []
  | m + 1 => hexD (x / 16 ^ m % 16) :: hexN x m
def hexOf (ws : List Int) : List Int := ws.flatMap fun w => hexN w.toNat 16
theorem hexN_length (x : Nat) : ∀ m, (hexN x m).length = m := by
  intro m; induction m with
  | zero => rfl
  | succ m ih => simp [hexN, ih]
theorem hexN_get (x : Nat) : ∀ m i, i < m → (hexN x m).getD i 0 = hexD (x / 16 ^ (m - 1 - i) % 16) := by
  intro m
  induction m with
  | zero => intro i h; omega
  | succ m ih =>
    intro i h
    cases i with
    | zero => simp [hexN]
    | succ i =>
      rw [hexN, List.getD_cons_succ, ih i (by omega)]
      congr 4
      omega
theorem hexD_b8 {n : Nat} (h : n < 16) : 0 ≤ hexD n ∧ hexD n < 256 := by unfold hexD; split <;> omega
theorem hexN_b8 (x : Nat) : ∀ m, B8 (hexN x m) := by
  intro m; induction m with
  | zero => exact B8.nil
  | succ m ih => exact B8.cons (hexD_b8 (Nat.mod_lt _ (by decide))) ih
theorem hexOf_b8 (ws : List Int) : B8 (hexOf ws) := by
  intro x hx
  obtain ⟨w, _, h⟩ := List.mem_flatMap.1 hx
  exact hexN_b8 _ _ x h
theorem hexOf_length (ws : List Int) : (hexOf ws).length = 16 * ws.length := by
  unfold hexOf
  induction ws with
  | nil => rfl
  | cons w ws ih => simp only [List.flatMap_cons, List.length_append, hexN_length, ih, List.length_cons]; omega
theorem hexOf_snoc (ws : List Int) (w : Int) : hexOf (ws ++ [w]) = hexOf ws ++ hexN w.toNat 16 := by
  unfold hexOf; simp
theorem take_snoc {α : Type} (d : α) {l : List α} {i : Nat} (h : i < l.length) : l.take (i + 1) = l.take i ++ [l.getD i d] := by
  rw [List.take_add_one, List.getD_eq_getElem?_getD, List.getElem?_eq_getElem h]
  rfl
theorem tab16 {n : Nat} (h : n < 16) : (((ByteArray.mk #[48, 49, 50, 51, 52, 53, 54, 55, 56, 57, 97, 98, 99, 100, 101, 102]).data.toList.getD n 0).toNat : Int) = hexD n := by
  have : ∀ n : Fin 16, (((ByteArray.mk #[48, 49, 50, 51, 52, 53, 54, 55, 56, 57, 97, 98, 99, 100, 101, 102]).data.toList.getD n.val 0).toNat : Int) = hexD n.val := by decide
  exact this ⟨n, h⟩
theorem nib_int {x : Nat} (hx : x < 18446744073709551616) {s : Nat} (hs : s < 64) : iand .u64 (ishr .u64 (x : Int) (s : Int)) 15 = ((x / 2 ^ s % 16 : Nat) : Int) := by
  rw [ishr64 x (by omega)]
  have hq : x / 2 ^ s < 18446744073709551616 := Nat.lt_of_le_of_lt (Nat.div_le_self _ _) hx
  have := iand64 (x := x / 2 ^ s) (y := 15) hq (by decide)
  rw [show ((15 : Nat) : Int) = 15 from rfl] at this
  rw [this, Nat.and_two_pow_sub_one_eq_mod (n := 4)]
theorem hexL {p : S_api_Bits} (hw : W64 p.Words) {k : Nat} (hk : k < p.Words.length) {out : List Int} (ho : out.length < 1000000) : loop (fun v : List Int × Int => bitset_Hex_l2 p k v.1 v.2) (out, 60) = some (out ++ hexN (p.Words.getD k 0).toNat 16) := by
  obtain ⟨x, hx, e⟩ := W64.nat (hw.get hk)
  refine loop_for (fun i => (out ++ (hexN x 16).take i, 60 - 4 * (i : Int))) 16 _ (fun i hi => ?_) ?_ (by simp)
  · have hs : 60 - 4 * (i : Int) = ((60 - 4 * i : Nat) : Int) := by omega
    simp only [bitset_Hex_l2, Int.toNat_natCast, e]
    rw [hs, nib_int hx (by omega), Int.toNat_natCast, tab16 (Nat.mod_lt _ (by decide))]
    have hq : x / 2 ^ (60 - 4 * i) % 16 < 16 := Nat.mod_lt _ (by decide)
    have hsz : (ByteArray.mk #[48, 49, 50, 51, 52, 53, 54, 55, 56, 57, 97, 98, 99, 100, 101, 102]).size = 16 := rfl
    rw [if_pos (by simp), if_pos (by omega), if_pos (by omega), if_pos (by rw [hsz]; omega), if_pos (by simp [hexN_length]; omega), wi64 (by omega) (by omega), show ((60 - 4 * i : Nat) : Int) - 4 = 60 - 4 * ((i + 1 : Nat) : Int) by omega]
    rw [take_snoc 0 (by rw [hexN_length]; omega), hexN_get _ _ _ hi, List.append_assoc, show 16 - 1 - i = 15 - i by omega, show (60 - 4 * i) = 4 * (15 - i) by omega, Nat.pow_mul, show (2 : Nat) ^ 4 = 16 from rfl]
  · simp only [bitset_Hex_l2]
    rw [if_neg (by simp), e, List.take_of_length_le (by rw [hexN_length]; omega)]
    simp
theorem hex_eq {p : S_api_Bits} (hw : W64 p.Words) : bitset_Hex p = some (if VB p then (strOf (hexOf p.Words), 0) else (ByteArray.mk #[], 8)) := by
  unfold bitset_Hex
  rw [valid_eq, bind1_pure]
  by_cases h : VB p
  · have hl := h.len
    rw [decide_eq_true h, if_neg (by simp), if_pos h]
    have hL : loop (fun v : List Int × Int => bitset_Hex_l1 p v.1 v.2) ([], 0) = some (hexOf p.Words) := by
      refine loop_for (fun i => (hexOf (p.Words.take i), (i : Int))) p.Words.length _ (fun i hi => ?_) ?_ rfl
      · simp only [bitset_Hex_l1]
        rw [if_pos (by simpa using hi), if_pos (by omega), if_pos (by omega), hexL hw hi (by rw [hexOf_length]; simp; omega), bind1_pure, wi64 (by omega) (by omega), take_snoc 0 hi, hexOf_snoc]
        rfl
      · simp only [bitset_Hex_l1]
        rw [if_neg (by simp), List.take_length]
    rw [hL]; rfl
  · rw [decide_eq_false h, if_pos (by simp), if_neg h]
/-! texts that are read -/
def valN (c : Int) : Option Nat := if 48 ≤ c ∧ c ≤ 57 then some (c - 48).toNat else if 97 ≤ c ∧ c ≤ 102 then some (c - 87).toNat else none
theorem valN_lt {c : Int} {v : Nat} (h : valN c = some v) : v < 16 := by unfold valN at h; split at h <;> (try split at h) <;> simp_all <;> omega
theorem valN_hexD {n : Nat} (h : n < 16) : valN (hexD n) = some n := by unfold valN hexD; split <;> (try split) <;> (try split) <;> simp <;> omega
theorem value_eq {c : Int} (h0 : 0 ≤ c) (h1 : c < 256) : bitset_value c = some (match valN c with | some v => ((v : Int), true) | none => (0, false)) := by
  have w8 : ∀ n : Int, 0 ≤ n → n < 256 → IntKind.u8.wrap n = n := by
    intro n a b
    simp only [IntKind.wrap, IntKind.bits, IntKind.signed]
    simp
    omega
  unfold bitset_value bitset_value_k1 bitset_value_k2 valN
  by_cases a1 : 48 ≤ c ∧ c ≤ 57
  · rw [if_pos (by simpa using a1.1), if_pos (by simpa using a1.2), if_pos a1, w8 _ (by omega) (by omega), wu64 (by omega) (by omega)]
    simp only
    congr 2
    omega
  · rw [if_neg a1]
    by_cases a2 : 97 ≤ c ∧ c ≤ 102
    · rw [if_pos (by simp; omega), if_neg (by simp; omega), if_pos (by simp; omega), if_pos (by simp; omega), if_pos a2, w8 _ (by omega) (by omega), wu64 (n := c - 97) (by omega) (by omega), wu64 (by omega) (by omega)]
      simp only [bind1_pure]
      congr 2
      omega
    · rw [if_neg a2]
      grind
/-- the number of some digits -/
def numD (ds : List Int) : Nat := ds.foldl (fun a c => a * 16 + (valN c).getD 0) 0
theorem numD_snoc (ds : List Int) (c : Int) : numD (ds ++ [c]) = numD ds * 16 + (valN c).getD 0 := by unfold numD; simp
theorem numD_lt : ∀ (m : Nat) (ds : List Int), ds.length = m → numD ds < 16 ^ m := by
  intro m
  induction m with
  | zero => intro ds h; rw [List.length_eq_zero_iff.1 h]; decide
  | succ m ih =>
    intro ds h
    obtain ⟨l, c, rfl⟩ : ∃ l c, ds = l ++ [c] := ⟨ds.dropLast, ds.getLast (by intro e; simp [e] at h), (List.dropLast_concat_getLast _).symm⟩
    have := ih l (by simpa using h)
    have hv : (valN c).getD 0 < 16 := by
      cases e : valN c with
      | none => decide
      | some v => exact valN_lt e
    rw [numD_snoc, Nat.pow_succ]
    omega
theorem numD_hexN (x : Nat) : ∀ m a, (hexN x m).foldl (fun a c => a * 16 + (valN c).getD 0) a = a * 16 ^ m + x % 16 ^ m := by
  intro m
  induction m with
  | zero => intro a; simp [hexN, Nat.mod_one]
  | succ m ih =>
    intro a
    rw [hexN, List.foldl_cons, ih, valN_hexD (Nat.mod_lt _ (by decide)), Option.getD_some, Nat.pow_succ, Nat.mod_mul, Nat.add_mul]
    generalize 16 ^ m = P
    generalize x / P % 16 = q
    rw [Nat.mul_comm q P, Nat.mul_assoc, Nat.mul_comm 16 P]
    omega
/-- the words of the first i digits of a text -/
def wordsAt (l : List Int) (m i : Nat) : List Int := (List.range m).map fun k => ((numD ((l.drop (16 * k)).take (min 16 (i - 16 * k))) : Nat) : Int)
theorem wordsAt_length (l : List Int) (m i : Nat) : (wordsAt l m i).length = m := by simp [wordsAt]
theorem wordsAt_get (l : List Int) {m i k : Nat} (h : k < m) : (wordsAt l m i).getD k 0 = ((numD ((l.drop (16 * k)).take (min 16 (i - 16 * k))) : Nat) : Int) := by
  unfold wordsAt
  rw [List.getD_eq_getElem?_getD, List.getElem?_map, List.getElem?_range h]
  rfl
theorem or_nib {x v : Nat} (hx : x < 16 ^ 15) (hv : v < 16) : ior .u64 (ishl .u64 (x : Int) 4) (v : Int) = ((x * 16 + v : Nat) : Int) := by
  have h16 : (16 : Nat) ^ 15 = 1152921504606846976 := by decide
  have h1 := ishl64 x (s := 4) (by decide)
  rw [show ((4 : Nat) : Int) = 4 from rfl] at h1
  rw [h1, show (2 : Nat) ^ 4 = 16 from rfl, Nat.mod_eq_of_lt (by omega), ior64 (by omega) (by omega)]
  congr 1
  have := Nat.two_pow_add_eq_or_of_lt (i := 4) (b := v) (by simpa using hv) x
  rw [show (2 : Nat) ^ 4 = 16 from rfl] at this
  rw [Nat.mul_comm x 16, this]
theorem wordsAt_next {l : List Int} {m i : Nat} (hi : i < l.length) (hm : l.length ≤ 16 * m) {v : Nat} (hv : valN (l.getD i 0) = some v) : (wordsAt l m i).set (i / 16) (ior .u64 (ishl .u64 ((wordsAt l m i).getD (i / 16) 0) 4) (v : Int)) = wordsAt l m (i + 1) := by
  have hk : i / 16 < m := by omega
  apply List.ext_getElem?
  intro k
  by_cases hkm : k < m
  · rw [List.getElem?_set]
    have e2 : (wordsAt l m (i + 1))[k]? = some ((wordsAt l m (i + 1)).getD k 0) := by rw [List.getD_eq_getElem?_getD, List.getElem?_eq_getElem (by rw [wordsAt_length]; exact hkm)]; rfl
    have e1 : (wordsAt l m i)[k]? = some ((wordsAt l m i).getD k 0) := by rw [List.getD_eq_getElem?_getD, List.getElem?_eq_getElem (by rw [wordsAt_length]; exact hkm)]; rfl
    rw [e2, wordsAt_get l hkm]
    split
    · rename_i h
      subst h
      rw [if_pos (by rw [wordsAt_length]; exact hkm), wordsAt_get l hkm]
      have hlt := numD_lt _ ((l.drop (16 * (i / 16))).take (min 16 (i - 16 * (i / 16)))) rfl
      have hlen : ((l.drop (16 * (i / 16))).take (min 16 (i - 16 * (i / 16)))).length = i % 16 := by simp; omega
      rw [hlen] at hlt
      have hle : 16 ^ (i % 16) ≤ 16 ^ 15 := Nat.pow_le_pow_right (by decide) (by omega)
      rw [or_nib (by omega) (valN_lt hv)]
      congr 2
      rw [show min 16 (i + 1 - 16 * (i / 16)) = min 16 (i - 16 * (i / 16)) + 1 by omega, take_snoc 0 (by simp; omega), numD_snoc]
      congr 1
      have : (l.drop (16 * (i / 16))).getD (min 16 (i - 16 * (i / 16))) 0 = l.getD i 0 := by
        simp only [List.getD_eq_getElem?_getD, List.getElem?_drop]
        congr 2
        omega
      rw [this, hv]; rfl
    · rename_i h
      rw [e1, wordsAt_get l hkm]
      congr 4
      omega
  · rw [List.getElem?_eq_none (by rw [List.length_set, wordsAt_length]; omega), List.getElem?_eq_none (by rw [wordsAt_length]; omega)]
theorem new_eq (n : Int) : bitset_New n = some (if Right n then (⟨n, List.replicate (n / 64).toNat 0⟩, 0) else (EB, 2)) := by
  unfold bitset_New
  rw [right_eq, bind1_pure]
  by_cases h : Right n
  · have h1 := h.1
    have h2 := h.2.1
    rw [decide_eq_true h, if_neg (by simp), if_pos h, tdiv_nn (by omega), wi64 (by omega) (by omega), if_pos (by omega), if_pos (by omega)]
  · rw [decide_eq_false h, if_pos (by simp), if_neg h]
    rfl
theorem wordsAt_zero (l : List Int) (m : Nat) : wordsAt l m 0 = List.replicate m 0 := by
  unfold wordsAt
  apply List.ext_getElem?
  intro k
  by_cases h : k < m
  · rw [List.getElem?_map, List.getElem?_range h, List.getElem?_replicate, if_pos h]
    simp [numD]
  · rw [List.getElem?_eq_none (by simp; omega), List.getElem?_eq_none (by simp; omega)]
def AllD (l : List Int) : Prop := ∀ c ∈ l, (valN c).isSome = true
instance (l : List Int) : Decidable (AllD l) := by unfold AllD; infer_instance
theorem parse_eq {l : List Int} (hl : B8 l) (hs : l.length < 1000000) : bitset_Parse (strOf l) = some (if Right (4 * (l.length : Int)) ∧ AllD l then (⟨4 * (l.length : Int), wordsAt l (l.length / 16) l.length⟩, 0) else (EB, 14)) := by
  unfold bitset_Parse
  rw [strOf_size, wi64 (by omega) (by omega), new_eq]
  by_cases hr : Right (4 * (l.length : Int))
  · have hm := hr.2.2
    rw [if_pos hr, bind2_pure, if_neg (by simp)]
    simp only
    rw [show (4 * (l.length : Int) / 64).toNat = l.length / 16 by omega, ← wordsAt_zero l]
    obtain ⟨t, h1, h2⟩ := loop_inv (step := fun v : Int × List Int => bitset_Parse_l1 (strOf l) v.1 v.2) l.length (fun i s => s = ((i : Int), wordsAt l (l.length / 16) i) ∧ AllD (l.take i)) (fun t => (t = .inl (wordsAt l (l.length / 16) l.length) ∧ AllD l) ∨ (t = .inr () ∧ ¬ AllD l)) (by
      rintro i hi s ⟨rfl, hd⟩
      simp only [bitset_Parse_l1, strOf_size, str_at, bytesL_strOf hl, Int.toNat_natCast]
      have hg := hl.get hi
      have hmem : l.getD i 0 ∈ l := by rw [List.getD_eq_getElem?_getD, List.getElem?_eq_getElem hi]; exact List.getElem_mem hi
      rw [value_eq hg.1 hg.2, if_pos (by simpa using hi), if_pos (by omega), if_pos (by omega)]
      cases hv : valN (l.getD i 0) with
      | none =>
        right
        refine ⟨.inr (), by simp [bind2], .inr ⟨rfl, fun h => ?_⟩⟩
        have := h _ hmem
        rw [hv] at this
        cases this
      | some v =>
        left
        refine ⟨(((i + 1 : Nat) : Int), wordsAt l (l.length / 16) (i + 1)), ?_, rfl, ?_⟩
        · simp only
          rw [bind2_pure, if_neg (by simp), tdiv_nn (by omega), wi64 (by omega) (by omega), if_pos (by omega), if_pos (by rw [wordsAt_length]; omega), wi64 (by omega) (by omega)]
          rw [show ((i : Int) / 16).toNat = i / 16 by omega, Nat.zero_add, wordsAt_next hi (by omega) hv]
          rfl
        · intro c hc
          rw [take_snoc 0 hi] at hc
          rcases List.mem_append.1 hc with hc | hc
          · exact hd c hc
          · simp only [List.mem_singleton] at hc; subst hc; rw [hv]; rfl) (by
      rintro s ⟨rfl, hd⟩
      rw [List.take_length] at hd
      refine ⟨.inl (wordsAt l (l.length / 16) l.length), ?_, .inl ⟨rfl, hd⟩⟩
      simp only [bitset_Parse_l1, strOf_size]
      rw [if_neg (by simp)]) (s := (0, wordsAt l (l.length / 16) 0)) ⟨rfl, fun c hc => by simp at hc⟩
    rw [h1]
    rcases h2 with ⟨rfl, h3⟩ | ⟨rfl, h3⟩
    · rw [bindE_l, if_pos ⟨hr, h3⟩]; rfl
    · rw [bindE_r, if_neg (fun h => h3 h.2)]; rfl
  · rw [if_neg hr, bind2_pure, if_pos (by simp), if_neg (fun h => hr h.1)]
    rfl
end Go.Proofs.Yteholdifeilkkaa
