/- Bit arrays: texts that are read; the order of arrays and of their texts. -/
import Derived.Test.YteholdifeilkkaaPh
namespace Go.Proofs.Yteholdifeilkkaa
open Vm
def AllD (l : List Int) : Prop := ∀ c ∈ l, (valN c).isSome = true
instance (l : List Int) : Decidable (AllD l) := by unfold AllD; infer_instance
theorem parse_eq {l : List Int} (hl : B8 l) (hs : l.length < 1000000) : bitset_Parse (strOf l) = some (if Right (4 * (l.length : Int)) ∧ AllD l then (⟨4 * (l.length : Int), wordsAt l (l.length / 16) l.length⟩, 0) else (EB, 14)) := by
  unfold bitset_Parse
  rw [strOf_size, wi64 (by omega) (by omega), new_eq]
  by_cases hr : Right (4 * (l.length : Int))
  · have hm := hr.2.2
    rw [if_pos hr, bind2_pure, if_neg (by simp)]
    simp only
    rw [show (4 * (l.length : Int) / 64).toNat = l.length / 16 by omega, ← wordsAt_zero l]
    obtain ⟨t, h1, h2⟩ := loop_inv (step := fun v : Int × List Int => bitset_Parse_l4 (strOf l) v.1 v.2) l.length (fun i s => s = ((i : Int), wordsAt l (l.length / 16) i) ∧ AllD (l.take i)) (fun t => (t = .inl (wordsAt l (l.length / 16) l.length) ∧ AllD l) ∨ (t = .inr () ∧ ¬ AllD l)) (by
      rintro i hi s ⟨rfl, hd⟩
      simp only [bitset_Parse_l4, strOf_size, str_at, bytesL_strOf hl, Int.toNat_natCast]
      have hg := hl.get hi
      have hmem : l.getD i 0 ∈ l := by rw [List.getD_eq_getElem?_getD, List.getElem?_eq_getElem hi]; exact List.getElem_mem hi
      rw [value_eq hg.1 hg.2, if_pos (by simpa using hi), if_pos (by omega), if_pos (by omega)]
      cases hv : valN (l.getD i 0) with
      | none =>
        right
        refine ⟨.inr (), by simp [bind2], .inr ⟨rfl, fun h => ?_⟩⟩
        have := h _ hmem
        rw [hv] at this
        cases this
      | some v =>
        left
        refine ⟨(((i + 1 : Nat) : Int), wordsAt l (l.length / 16) (i + 1)), ?_, rfl, ?_⟩
        · simp only
          rw [bind2_pure, if_neg (by simp), tdiv_nn (by omega), wi64 (by omega) (by omega), if_pos (by omega), if_pos (by rw [wordsAt_length]; omega), wi64 (by omega) (by omega)]
          rw [show ((i : Int) / 16).toNat = i / 16 by omega, Nat.zero_add, wordsAt_next hi (by omega) hv]
          rfl
        · intro c hc
          rw [take_snoc 0 hi] at hc
          rcases List.mem_append.1 hc with hc | hc
          · exact hd c hc
          · simp only [List.mem_singleton] at hc; subst hc; rw [hv]; rfl) (by
      rintro s ⟨rfl, hd⟩
      rw [List.take_length] at hd
      refine ⟨.inl (wordsAt l (l.length / 16) l.length), ?_, .inl ⟨rfl, hd⟩⟩
      simp only [bitset_Parse_l4, strOf_size]
      rw [if_neg (by simp)]) (s := (0, wordsAt l (l.length / 16) 0)) ⟨rfl, fun c hc => by simp at hc⟩
    rw [h1]
    rcases h2 with ⟨rfl, h3⟩ | ⟨rfl, h3⟩
    · rw [bindE_l, if_pos ⟨hr, h3⟩]; rfl
    · rw [bindE_r, if_neg (fun h => h3 h.2)]; rfl
  · rw [if_neg hr, bind2_pure, if_pos (by simp), if_neg (fun h => hr h.1)]
    rfl
theorem hexOf_part : ∀ (ws : List Int) (k : Nat), k < ws.length → ((hexOf ws).drop (16 * k)).take 16 = hexN (ws.getD k 0).toNat 16 := by
  intro ws
  induction ws with
  | nil => intro k h; simp at h
  | cons w ws ih =>
    intro k h
    have e : hexOf (w :: ws) = hexN w.toNat 16 ++ hexOf ws := by unfold hexOf; simp
    cases k with
    | zero =>
      rw [e, Nat.mul_zero, List.drop_zero, List.take_append_of_le_length (by rw [hexN_length]; omega), List.take_of_length_le (by rw [hexN_length]; omega)]
      rfl
    | succ k =>
      have e0 : (hexN w.toNat 16).drop 16 = [] := List.drop_of_length_le (by rw [hexN_length]; omega)
      rw [e, show 16 * (k + 1) = 16 + 16 * k by omega, ← List.drop_drop, List.drop_append_of_le_length (by rw [hexN_length]; omega), e0, List.nil_append, ih k (by simpa using h)]
      simp
theorem hexN_allD (x : Nat) : ∀ m, AllD (hexN x m) := by
  intro m; induction m with
  | zero => intro c hc; cases hc
  | succ m ih =>
    intro c hc
    rcases List.mem_cons.1 hc with rfl | hc
    · rw [valN_hexD (Nat.mod_lt _ (by decide))]; rfl
    · exact ih c hc
theorem hexOf_allD (ws : List Int) : AllD (hexOf ws) := by
  intro c hc
  obtain ⟨w, _, h⟩ := List.mem_flatMap.1 hc
  exact hexN_allD _ _ c h
theorem wordsAt_hex {ws : List Int} (hw : W64 ws) : wordsAt (hexOf ws) ((hexOf ws).length / 16) (hexOf ws).length = ws := by
  rw [hexOf_length, show 16 * ws.length / 16 = ws.length by omega]
  apply List.ext_getElem?
  intro k
  by_cases h : k < ws.length
  · have e : (wordsAt (hexOf ws) ws.length (16 * ws.length))[k]? = some ((wordsAt (hexOf ws) ws.length (16 * ws.length)).getD k 0) := by rw [List.getD_eq_getElem?_getD, List.getElem?_eq_getElem (by rw [wordsAt_length]; exact h)]; rfl
    rw [e, wordsAt_get _ h, show min 16 (16 * ws.length - 16 * k) = 16 by omega, hexOf_part ws k h]
    obtain ⟨x, hx, e2⟩ := W64.nat (hw.get h)
    have := numD_hexN x 16 0
    rw [Nat.zero_mul, Nat.zero_add, Nat.mod_eq_of_lt (by simpa using hx)] at this
    rw [e2, Int.toNat_natCast, numD, this, ← e2, List.getD_eq_getElem?_getD, List.getElem?_eq_getElem h]
    rfl
  · rw [List.getElem?_eq_none (by rw [wordsAt_length]; omega), List.getElem?_eq_none (by omega)]
/-! orders -/
theorem lessL_hexN : ∀ (m x y : Nat) (r s : List Int), lessL (hexN x m ++ r) (hexN y m ++ s) = (decide (x % 16 ^ m < y % 16 ^ m) || (decide (x % 16 ^ m = y % 16 ^ m) && lessL r s)) := by
  intro m
  induction m with
  | zero => intro x y r s; simp [hexN, Nat.mod_one]
  | succ m ih =>
    intro x y r s
    have hx : x % 16 ^ (m + 1) = x % 16 ^ m + 16 ^ m * (x / 16 ^ m % 16) := by rw [Nat.pow_succ, Nat.mod_mul]
    have hy : y % 16 ^ (m + 1) = y % 16 ^ m + 16 ^ m * (y / 16 ^ m % 16) := by rw [Nat.pow_succ, Nat.mod_mul]
    have lx : x % 16 ^ m < 16 ^ m := Nat.mod_lt _ (Nat.pow_pos (by decide))
    have ly : y % 16 ^ m < 16 ^ m := Nat.mod_lt _ (Nat.pow_pos (by decide))
    have qx : x / 16 ^ m % 16 < 16 := Nat.mod_lt _ (by decide)
    have qy : y / 16 ^ m % 16 < 16 := Nat.mod_lt _ (by decide)
    simp only [hexN, List.cons_append, lessL]
    rw [ih, hx, hy]
    have hD : ∀ a b : Nat, a < 16 → b < 16 → (hexD a < hexD b ↔ a < b) ∧ (hexD a = hexD b ↔ a = b) := by
      intro a b ha hb; unfold hexD; constructor <;> split <;> split <;> omega
    obtain ⟨d1, d2⟩ := hD _ _ qx qy
    generalize x / 16 ^ m % 16 = p at *
    generalize y / 16 ^ m % 16 = q at *
    generalize x % 16 ^ m = u at *
    generalize y % 16 ^ m = v at *
    generalize 16 ^ m = P at *
    rcases Nat.lt_trichotomy p q with h | h | h
    · have : P * (p + 1) ≤ P * q := Nat.mul_le_mul_left _ h
      rw [Nat.mul_succ] at this
      rw [decide_eq_true (d1.2 h), decide_eq_true (show u + P * p < v + P * q by omega)]
      simp
    · subst h
      rw [decide_eq_false (by rw [d1]; omega)]
      simp
    · have : P * (q + 1) ≤ P * p := Nat.mul_le_mul_left _ h
      rw [Nat.mul_succ] at this
      rw [decide_eq_false (by rw [d1]; omega), decide_eq_false (show ¬ u + P * p < v + P * q by omega), decide_eq_false (show ¬ u + P * p = v + P * q by omega)]
      rw [show (hexD p == hexD q) = false by simp only [beq_eq_false_iff_ne, ne_eq, d2]; omega]
      simp
theorem less_cmp : ∀ (a b : List Int), a.length = b.length → W64 a → W64 b → lessL (hexOf a) (hexOf b) = decide (cmpL a b < 0) := by
  intro a
  induction a with
  | nil => intro b h _ _; cases b with
    | nil => rfl
    | cons _ _ => simp at h
  | cons w a ih =>
    intro b h ha hb
    cases b with
    | nil => simp at h
    | cons u b =>
      obtain ⟨x, hx, rfl⟩ := W64.nat (ha w (by simp))
      obtain ⟨y, hy, rfl⟩ := W64.nat (hb u (by simp))
      have h1 := ih b (by simpa using h) (fun z hz => ha z (by simp [hz])) (fun z hz => hb z (by simp [hz]))
      have e : ∀ (w : Int) (ws : List Int), hexOf (w :: ws) = hexN w.toNat 16 ++ hexOf ws := by intro w ws; unfold hexOf; simp
      rw [e, e, lessL_hexN, h1, Int.toNat_natCast, Int.toNat_natCast, Nat.mod_eq_of_lt (by simpa using hx), Nat.mod_eq_of_lt (by simpa using hy)]
      have ho : ordI (x : Int) (y : Int) = if x < y then -1 else if y < x then 1 else 0 := by
        unfold ordI; split <;> split <;> (try split) <;> omega
      have hc : cmpL ((x : Int) :: a) ((y : Int) :: b) = if ordI (x : Int) (y : Int) ≠ 0 then ordI (x : Int) (y : Int) else cmpL a b := rfl
      rcases Nat.lt_trichotomy x y with g | g | g
      · rw [show ordI (x : Int) (y : Int) = -1 by rw [ho, if_pos g], if_pos (by decide)] at hc
        rw [hc, decide_eq_true g]; rfl
      · subst g
        rw [show ordI (x : Int) (x : Int) = 0 by rw [ordI_zero], if_neg (by decide)] at hc
        rw [hc]; simp
      · rw [show ordI (x : Int) (y : Int) = 1 by rw [ho, if_neg (by omega), if_pos g], if_pos (by decide)] at hc
        rw [hc, decide_eq_false (by omega), decide_eq_false (show ¬ x = y by omega)]; rfl
theorem ordI_anti (a b : Int) : ordI b a = - ordI a b := by unfold ordI; split <;> split <;> (try split) <;> (try split) <;> omega
theorem cmpL_anti : ∀ (a b : List Int), cmpL b a = - cmpL a b := by
  intro a
  induction a with
  | nil => intro b; cases b <;> rfl
  | cons x a ih =>
    intro b
    cases b with
    | nil => rfl
    | cons y b =>
      simp only [cmpL]
      rw [ih, ordI_anti]
      by_cases h : ordI x y = 0
      · rw [if_neg (by omega), if_neg (by omega)]
      · rw [if_pos (by omega), if_pos (by omega)]
theorem cmpL_range : ∀ (a b : List Int), cmpL a b = -1 ∨ cmpL a b = 0 ∨ cmpL a b = 1 := by
  intro a
  induction a with
  | nil => intro b; cases b <;> simp [cmpL]
  | cons x a ih =>
    intro b
    cases b with
    | nil => simp [cmpL]
    | cons y b =>
      simp only [cmpL]
      split
      · unfold ordI; split <;> (try split) <;> simp
      · exact ih b
theorem isNaN_int (a : Int) : cmp_isNaN_int a = some false := by unfold cmp_isNaN_int; simp
theorem isNaN_u64 (a : Int) : cmp_isNaN_uint64 a = some false := by unfold cmp_isNaN_uint64; simp
theorem cmpint_eq (a b : Int) : cmp_Compare_int a b = some (ordI a b) := by
  unfold cmp_Compare_int ordI
  rw [isNaN_int, isNaN_int, bind1_pure, bind1_pure]
  grind
theorem cmpu64_eq (a b : Int) : cmp_Compare_uint64 a b = some (ordI a b) := by
  unfold cmp_Compare_uint64 ordI
  rw [isNaN_u64, isNaN_u64, bind1_pure, bind1_pure]
  grind
theorem slicescmp_eq {p q : List Int} (hp : p.length < 1000000) : slices_Compare_uint64 p q = some (cmpL p q) := by
  unfold slices_Compare_uint64
  obtain ⟨t, h1, h2⟩ := loop_inv (step := fun v : Int => slices_Compare_uint64_l4 p q v) p.length (fun i s => s = (i : Int) ∧ i ≤ q.length ∧ cmpL p q = cmpL (p.drop i) (q.drop i)) (fun t => (t = .inl () ∧ cmpL p q = if p.length < q.length then -1 else 0) ∨ t = .inr (cmpL p q)) (by
    rintro i hi s ⟨rfl, hq, hs⟩
    simp only [slices_Compare_uint64_l4, Int.toNat_natCast]
    rw [if_pos (by simpa using hi), if_pos (by omega), if_pos (by omega)]
    by_cases hi2 : i < q.length
    · rw [cmpL_drop hi hi2] at hs
      rw [if_neg (by simp; omega), if_pos (by omega), cmpu64_eq, bind1_pure]
      by_cases h0 : ordI (p.getD i 0) (q.getD i 0) = 0
      · left
        rw [if_neg (by simpa using h0)] at hs
        refine ⟨((i + 1 : Nat) : Int), ?_, rfl, by omega, hs⟩
        rw [h0, if_neg (by simp), wi64 (by omega) (by omega)]
        rfl
      · right
        rw [if_pos h0] at hs
        exact ⟨_, by rw [if_pos (by simp only [bne_iff_ne, ne_eq]; exact h0)], .inr (by rw [hs])⟩
    · right
      refine ⟨.inr 1, by rw [if_pos (by simp; omega)], .inr ?_⟩
      have e0 : q.drop i = [] := List.drop_of_length_le (by omega)
      rw [hs, List.drop_eq_getElem_cons hi, e0]
      rfl) (by
    rintro s ⟨rfl, hq, hs⟩
    refine ⟨.inl (), ?_, .inl ⟨rfl, ?_⟩⟩
    · simp only [slices_Compare_uint64_l4]; rw [if_neg (by simp)]
    · rw [hs, List.drop_length]
      split
      · rename_i h; rw [List.drop_eq_getElem_cons h]; rfl
      · rw [List.drop_of_length_le (by omega)]; rfl) (s := 0) ⟨rfl, Nat.zero_le _, by simp⟩
  rw [h1]
  rcases h2 with ⟨rfl, h3⟩ | rfl
  · rw [bindE_l, h3]
    unfold slices_Compare_uint64_a5
    grind
  · rw [bindE_r]; rfl
theorem or3_eq (a b c : Int) : cmp_Or_int [a, b, c] = some (if a ≠ 0 then a else if b ≠ 0 then b else c) := by
  unfold cmp_Or_int
  have st : ∀ i : Nat, i < 3 → cmp_Or_int_l4 [a, b, c] i = if ([a, b, c] : List Int).getD i 0 ≠ 0 then some (.inr (.inr (([a, b, c] : List Int).getD i 0))) else some (.inl ((i + 1 : Nat) : Int)) := by
    intro i hi
    simp only [cmp_Or_int_l4, Int.toNat_natCast, List.length_cons, List.length_nil]
    rw [if_pos (by simp; omega), if_pos (by omega), if_pos (by omega), wi64 (by omega) (by omega)]
    simp only [bne_iff_ne]
    rfl
  have s0 := st 0 (by decide)
  have s1 := st 1 (by decide)
  have s2 := st 2 (by decide)
  simp only [Nat.zero_add, List.getD_cons_zero, List.getD_cons_succ] at s0 s1 s2
  by_cases h0 : a = 0
  · rw [if_neg (by simpa using h0)] at s0
    rw [if_neg (by simpa using h0), loop_next (by exact s0)]
    by_cases h1 : b = 0
    · rw [if_neg (by simpa using h1)] at s1
      rw [if_neg (by simpa using h1), loop_next (by exact s1)]
      by_cases h2 : c = 0
      · rw [if_neg (by simpa using h2)] at s2
        rw [loop_next (by exact s2), loop_end (t := .inl ()) (by simp [cmp_Or_int_l4]), bindE_l, h2]; rfl
      · rw [if_pos h2] at s2
        rw [loop_end (by exact s2), bindE_r]; rfl
    · rw [if_pos h1] at s1
      rw [if_pos h1, loop_end (by exact s1), bindE_r]; rfl
  · rw [if_pos h0] at s0
    rw [if_pos h0, loop_end (by exact s0), bindE_r]; rfl
theorem bcompare_eq {p q : S_api_Bits} (hp : p.Words.length < 1000000) : bitset_Compare p q = some (cmpB p q) := by
  unfold bitset_Compare
  rw [cmpint_eq, cmpint_eq, slicescmp_eq hp, bind1_pure, bind1_pure, bind1_pure, or3_eq, bind1_pure]
  rfl
end Go.Proofs.Yteholdifeilkkaa
