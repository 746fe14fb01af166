/- Plain: pattern.Tally as numbers of couples by pattern. -/
import Derived.Test.YtknlckjpgmjenaaCe
namespace Go.Proofs.Ytknlckjpgmjenaa
open Vm
open IntKind (i64 u64 u32 u8)
set_option linter.unusedVariables false
set_option linter.unusedSimpArgs false
theorem bits_get {l : List S_api_Bits} {i : Nat} (h : i < l.length) : l.getD i dS_api_Bits ∈ l := by
  rw [List.getD_eq_getElem?_getD, List.getElem?_eq_getElem h]
  exact List.getElem_mem h
theorem enc_get {l : List S_api_Encoded} {i : Nat} (h : i < l.length) : l.getD i dS_api_Encoded ∈ l := by
  rw [List.getD_eq_getElem?_getD, List.getElem?_eq_getElem h]
  exact List.getElem_mem h
theorem int_get {l : List Int} {i : Nat} (h : i < l.length) : l.getD i 0 ∈ l := by
  rw [List.getD_eq_getElem?_getD, List.getElem?_eq_getElem h]
  exact List.getElem_mem h
theorem drop_cons {α : Type} (d : α) {l : List α} {i : Nat} (h : i < l.length) : l.drop i = l.getD i d :: l.drop (i + 1) := by
  rw [List.drop_eq_getElem_cons h, List.getD_eq_getElem?_getD, List.getElem?_eq_getElem h]
  rfl
/-- A loop that looks for the first element with a property. -/
theorem scan_loop {α σ τ : Type} (d : α) (f : α → Bool) (l : List α) (s : Nat → σ) (r : Nat → τ) {υ : Type} (e : υ) {step : σ → Option (σ ⊕ (υ ⊕ τ))} (hs : ∀ i : Nat, i < l.length → step (s i) = if f (l.getD i d) = true then some (.inr (.inr (r i))) else some (.inl (s (i + 1))))
    (he : step (s l.length) = some (.inr (.inl e))) {s0 : σ} (h0 : s0 = s 0 := by rfl) : loop step s0 = some (match l.findIdx? f with | some i => .inr (r i) | none => .inl e) := by
  subst h0
  have key : ∀ k j, j + k = l.length → loop step (s j) = some (match (l.drop j).findIdx? f with | some i => .inr (r (j + i)) | none => .inl e) := by
    intro k
    induction k with
    | zero =>
      intro j hj
      have : j = l.length := by omega
      subst this
      rw [loop_end he, List.drop_length]
      rfl
    | succ k ih =>
      intro j hj
      have hs := hs j (by omega)
      rw [drop_cons d (show j < l.length by omega), List.findIdx?_cons]
      by_cases hf : f (l.getD j d) = true
      · rw [if_pos hf] at hs
        rw [loop_end hs, if_pos hf]
        rfl
      · rw [if_neg hf] at hs
        rw [loop_next hs, ih (j + 1) (by omega), if_neg hf]
        cases (l.drop (j + 1)).findIdx? f with
        | none => rfl
        | some i => simp only [Option.map_some]; rw [show j + (i + 1) = j + 1 + i by omega]
  have := key l.length 0 (by omega)
  rw [this, List.drop_zero]
  cases l.findIdx? f with
  | none => rfl
  | some i => simp only [Nat.zero_add]
theorem any_of_idx {α : Type} {f : α → Bool} {l : List α} : (∃ x ∈ l, f x = true) ↔ l.findIdx? f ≠ none := by
  rw [ne_eq, List.findIdx?_eq_none_iff]
  constructor
  · rintro ⟨x, hx, hf⟩ h
    rw [h x hx] at hf; cases hf
  · intro h
    refine Classical.byContradiction fun hc => h fun x hx => ?_
    cases hf : f x with
    | false => rfl
    | true => exact absurd ⟨x, hx, hf⟩ hc
/-! Right records. -/
def NB (b : S_api_Bits) : Prop := (b.Length = 0 ∧ b.Words.length = 0) ∨ VB b
instance (b : S_api_Bits) : Decidable (NB b) := by unfold NB; infer_instance
def EV (x : S_api_Encoded) : Prop := (1 ≤ x.ID ∧ x.ID ≤ 1048576) ∧ (1 ≤ x.Version ∧ x.Version ≤ 1048576) ∧ (1 ≤ x.Fields.length ∧ x.Fields.length ≤ 5) ∧ ∀ b ∈ x.Fields, NB b
instance (x : S_api_Encoded) : Decidable (EV x) := by unfold EV; infer_instance
theorem bad_eq (b : S_api_Bits) : encode_Valid_f1 b = some (!decide (NB b)) := by
  unfold encode_Valid_f1 encode_none encode_none_k1 encode_Valid_f1_k1 NB
  rw [valid_eq]
  by_cases h1 : b.Length = 0
  · by_cases h2 : b.Words.length = 0
    · simp [h1, h2]
    · simp [h1, h2]
  · simp [h1]
theorem enc_any {l : List S_api_Bits} (hl : l.length < 1000000) : slices_ContainsFunc_api_Bits_encode_Valid_f1 l = some (!decide (∀ b ∈ l, NB b)) := by
  unfold slices_ContainsFunc_api_Bits_encode_Valid_f1 slices_IndexFunc_api_Bits_encode_Valid_f1
  rw [scan_loop dS_api_Bits (fun b => !decide (NB b)) l (fun i => (i : Int)) (fun i => (i : Int)) () (step := fun v : Int => slices_IndexFunc_api_Bits_encode_Valid_f1_l1 l v) (fun i hi => by
      simp only [slices_IndexFunc_api_Bits_encode_Valid_f1_l1, Int.toNat_natCast]
      rw [if_pos (by simp only [decide_eq_true_eq]; omega), if_pos (by omega), if_pos (by omega), bad_eq, bind1_pure, wi64 (n := (i : Int) + 1) (by omega) (by omega)]
      rfl) (by
      simp only [slices_IndexFunc_api_Bits_encode_Valid_f1_l1]
      rw [if_neg (by simp)])]
  by_cases h : ∀ b ∈ l, NB b
  · rw [decide_eq_true h, List.findIdx?_eq_none_iff.2 (fun b hb => by simp [h b hb])]
    rfl
  · rw [decide_eq_false h]
    have : l.findIdx? (fun b => !decide (NB b)) ≠ none := any_of_idx.1 (by simpa using h)
    cases hi : l.findIdx? (fun b => !decide (NB b)) with
    | none => exact absurd hi this
    | some i =>
      simp only [bindE_r, slices_IndexFunc_api_Bits_encode_Valid_f1_a3, bind1_pure]
      rw [decide_eq_true (show (i : Int) ≥ 0 by omega)]
      rfl
theorem encvalid_eq {x : S_api_Encoded} (hl : x.Fields.length < 1000000) : encode_Valid x = some (decide (EV x)) := by
  unfold encode_Valid encode_Valid_k1
  rw [enc_any hl]
  unfold EV
  by_cases h1 : x.ID ≥ 1 <;> by_cases h2 : x.ID ≤ 1048576 <;> by_cases h3 : x.Version ≥ 1 <;> by_cases h4 : x.Version ≤ 1048576 <;> by_cases h5 : x.Fields.length ≥ 1 <;> by_cases h6 : x.Fields.length ≤ 5 <;> grind
theorem thr_any {l : List Int} (hl : l.length < 1000000) : slices_ContainsFunc_int_pattern_check_f1 l = some (!decide (∀ t ∈ l, 0 ≤ t ∧ t ≤ 1000)) := by
  unfold slices_ContainsFunc_int_pattern_check_f1 slices_IndexFunc_int_pattern_check_f1
  have hf : ∀ t : Int, pattern_check_f1 t = some (!decide (0 ≤ t ∧ t ≤ 1000)) := fun t => by
    unfold pattern_check_f1 pattern_check_f1_k1
    by_cases h1 : t < 0 <;> by_cases h2 : t > 1000 <;> grind
  rw [scan_loop 0 (fun t : Int => !decide (0 ≤ t ∧ t ≤ 1000)) l (fun i => (i : Int)) (fun i => (i : Int)) () (step := fun v : Int => slices_IndexFunc_int_pattern_check_f1_l1 l v) (fun i hi => by
      simp only [slices_IndexFunc_int_pattern_check_f1_l1, Int.toNat_natCast]
      rw [if_pos (by simp only [decide_eq_true_eq]; omega), if_pos (by omega), if_pos (by omega), hf, bind1_pure, wi64 (n := (i : Int) + 1) (by omega) (by omega)]
      rfl) (by
      simp only [slices_IndexFunc_int_pattern_check_f1_l1]
      rw [if_neg (by simp)])]
  by_cases h : ∀ t ∈ l, 0 ≤ t ∧ t ≤ 1000
  · rw [decide_eq_true h, List.findIdx?_eq_none_iff.2 (fun b hb => by simp [h b hb])]
    rfl
  · rw [decide_eq_false h]
    have : l.findIdx? (fun t : Int => !decide (0 ≤ t ∧ t ≤ 1000)) ≠ none := any_of_idx.1 (by
      have : ∃ t ∈ l, ¬ (0 ≤ t ∧ t ≤ 1000) := by
        refine Classical.byContradiction fun hc => h fun t ht => Classical.byContradiction fun hn => hc ⟨t, ht, hn⟩
      obtain ⟨t, ht, hn⟩ := this
      exact ⟨t, ht, by simp only [Bool.not_eq_true']; exact decide_eq_false hn⟩)
    cases hi : l.findIdx? (fun t : Int => !decide (0 ≤ t ∧ t ≤ 1000)) with
    | none => exact absurd hi this
    | some i =>
      simp only [bindE_r, slices_IndexFunc_int_pattern_check_f1_a3, bind1_pure]
      rw [decide_eq_true (show (i : Int) ≥ 0 by omega)]
      rfl
theorem concat_eq {a b : List S_api_Encoded} (ha : a.length < 1000000) (hb : b.length < 1000000) : slices_Concat_api_Encoded [a, b] = some (a ++ b) := by
  unfold slices_Concat_api_Encoded
  have l1 : loop (fun v : Int × Int => slices_Concat_api_Encoded_l1 [a, b] v.1 v.2) (0, 0) = some ((a.length : Int) + (b.length : Int)) := by
    rw [loop_next (s' := ((a.length : Int), 1)) (by
      simp only [slices_Concat_api_Encoded_l1]
      rw [if_pos (by simp), if_pos (by decide), if_pos (by simp), bind1_pure]
      show (if decide (IntKind.i64.wrap (0 + ((a.length : Nat) : Int)) < 0) = true then _ else some (Sum.inl (IntKind.i64.wrap (0 + ((a.length : Nat) : Int)), _))) = _
      rw [wi64 (by omega) (by omega), if_neg (by simp only [decide_eq_true_eq]; omega), Int.zero_add]
      rfl), loop_next (s' := ((a.length : Int) + (b.length : Int), 2)) (by
      simp only [slices_Concat_api_Encoded_l1]
      rw [if_pos (by simp), if_pos (by decide), if_pos (by simp), bind1_pure]
      show (if decide (IntKind.i64.wrap ((a.length : Int) + ((b.length : Nat) : Int)) < 0) = true then _ else some (Sum.inl (IntKind.i64.wrap ((a.length : Int) + ((b.length : Nat) : Int)), _))) = _
      rw [wi64 (by omega) (by omega), if_neg (by simp only [decide_eq_true_eq]; omega)]
      rfl), loop_end (by
      simp only [slices_Concat_api_Encoded_l1]
      rw [if_neg (by simp)])]
  rw [l1, bind1_pure]
  have g : slices_Grow_api_Encoded_nil ((a.length : Int) + (b.length : Int)) = some [] := by
    unfold slices_Grow_api_Encoded_nil slices_Grow_api_Encoded_nil_k1
    rw [show i64.wrap (0 - 0) = 0 from rfl, Int.sub_zero, wi64 (n := (a.length : Int) + (b.length : Int)) (by omega) (by omega), if_neg (by simp only [decide_eq_true_eq]; omega)]
    by_cases h : (a.length : Int) + (b.length : Int) > 0
    · rw [if_pos (by simp only [decide_eq_true_eq]; exact h), if_pos h, if_pos (by omega), if_pos (Nat.zero_le _), List.take_zero]
    · rw [if_neg (by simp only [decide_eq_true_eq]; exact h)]
  rw [g, bind1_pure]
  rw [loop_next (s' := (a, 1)) (by
      simp only [slices_Concat_api_Encoded_l2]
      rw [if_pos (by simp), if_pos (by decide), if_pos (by simp), if_pos (by show [].length + a.length ≤ _; simp; omega)]
      rfl), loop_next (s' := (a ++ b, 2)) (by
      simp only [slices_Concat_api_Encoded_l2]
      rw [if_pos (by simp), if_pos (by decide), if_pos (by simp), if_pos (by show a.length + b.length ≤ _; omega)]
      rfl), loop_end (by
      simp only [slices_Concat_api_Encoded_l2]
      rw [if_neg (by simp)]), bind1_pure]
theorem ppow_loop {step : Int × Int → Option ((Int × Int) ⊕ Int)} {n : Nat} (hn : n ≤ 5) (hs : ∀ v : Int × Int, step v = if (decide (v.2 < (n : Int))) = true then (some (.inl (IntKind.i64.wrap (v.1 * 3), IntKind.i64.wrap (v.2 + 1)))) else (some (.inr v.1))) : loop step (1, 0) = some ((3 ^ n : Nat) : Int) := by
  refine loop_for (fun i => (((3 ^ i : Nat) : Int), (i : Int))) n _ (fun i hi => ?_) ?_ rfl
  · rw [hs]
    have h3 := (pow3_le (i := i) (by omega)).2
    simp only
    rw [Nat.pow_succ]
    generalize 3 ^ i = q at h3 ⊢
    rw [if_pos (by simpa using hi), wi64 (n := (q : Int) * 3) (by omega) (by omega), wi64 (n := (i : Int) + 1) (by omega) (by omega)]
    rfl
  · rw [hs]
    simp only
    rw [if_neg (by simp)]
theorem psize_any (n : Int) : pattern_Size n = some (if 1 ≤ n ∧ n ≤ 5 then (((3 ^ n.toNat : Nat) : Int), 0) else (0, 8)) := by
  unfold pattern_Size pattern_Size_k1
  by_cases h : 1 ≤ n ∧ n ≤ 5
  · obtain ⟨m, rfl⟩ := Int.eq_ofNat_of_zero_le (show 0 ≤ n by omega)
    rw [if_neg (by simp only [decide_eq_true_eq]; omega), if_neg (by simp only [decide_eq_true_eq]; omega), ppow_loop (step := fun v : Int × Int => pattern_Size_l2 (m : Int) v.1 v.2) (by omega) (fun v => rfl), bind1_pure, if_pos h]
    rfl
  · rw [if_neg h]
    by_cases h1 : n < 1
    · rw [if_pos (by simpa using h1)]; rfl
    · rw [if_neg (by simpa using h1), if_pos (by simp only [decide_eq_true_eq]; omega)]
def RecN (n : Nat) (x : S_api_Encoded) : Prop := EV x ∧ x.Fields.length = n
instance (n : Nat) (x : S_api_Encoded) : Decidable (RecN n x) := by unfold RecN; infer_instance
def chkS (m : Nat) (a b : List S_api_Encoded) (ts : List Int) : Int :=
  if ¬ (1 ≤ ts.length ∧ ts.length ≤ 5) then 8 else if 4096 < m then 1 else if ¬ ∀ t ∈ ts, 0 ≤ t ∧ t ≤ 1000 then 2 else if ¬ ∀ x ∈ a ++ b, RecN ts.length x then 7 else 0
theorem pcheck_eq {cs : List S_api_Couple} {a b : List S_api_Encoded} {ts : List Int} (ha : a.length < 100000) (hb : b.length < 100000) (hf : ∀ x ∈ a ++ b, x.Fields.length < 1000000) (ht : ts.length < 1000000) : pattern_check cs a b ts = some (chkS cs.length a b ts) := by
  unfold pattern_check chkS
  rw [psize_any]
  by_cases h1 : 1 ≤ ts.length ∧ ts.length ≤ 5
  · rw [if_pos (show 1 ≤ (ts.length : Int) ∧ (ts.length : Int) ≤ 5 by omega), bind2_pure, if_neg (by decide), if_neg (show ¬ ¬ (1 ≤ ts.length ∧ ts.length ≤ 5) from fun k => k h1)]
    by_cases h2 : 4096 < cs.length
    · rw [if_pos (by simp only [decide_eq_true_eq]; omega), if_pos h2]
    · rw [if_neg (by simp only [decide_eq_true_eq]; omega), if_neg h2, thr_any ht, bind1_pure]
      by_cases h3 : ∀ t ∈ ts, 0 ≤ t ∧ t ≤ 1000
      · rw [decide_eq_true h3, if_neg (by decide), if_neg (show ¬ ¬ _ from fun k => k h3), concat_eq (by omega) (by omega), bind1_pure]
        have hlen : (a ++ b).length < 1000000 := by rw [List.length_append]; omega
        rw [scan_loop dS_api_Encoded (fun x => !decide (RecN ts.length x)) (a ++ b) (fun i => (i : Int)) (fun _ => ()) () (step := fun v : Int => pattern_check_l1 ts (a ++ b) v) (fun i hi => by
            have hx := hf _ (enc_get hi)
            simp only [pattern_check_l1, Int.toNat_natCast, Nat.zero_add]
            rw [if_pos (by simp only [decide_eq_true_eq]; omega), if_pos (by omega), if_pos (by omega), encvalid_eq hx, bind1_pure]
            unfold pattern_check_k2
            rw [wi64 (n := (i : Int) + 1) (by omega) (by omega)]
            by_cases h4 : EV ((a ++ b).getD i dS_api_Encoded)
            · rw [decide_eq_true h4, if_neg (by decide)]
              by_cases h5 : ((a ++ b).getD i dS_api_Encoded).Fields.length = ts.length
              · rw [if_neg (by simp only [bne_iff_ne, ne_eq]; omega), decide_eq_true (show RecN ts.length ((a ++ b).getD i dS_api_Encoded) from ⟨h4, h5⟩)]
                rfl
              · rw [if_pos (by simp only [bne_iff_ne, ne_eq]; omega), decide_eq_false (fun k : RecN ts.length ((a ++ b).getD i dS_api_Encoded) => h5 k.2)]
                rfl
            · rw [decide_eq_false h4, if_pos (by decide), decide_eq_false (fun k : RecN ts.length ((a ++ b).getD i dS_api_Encoded) => h4 k.1)]
              rfl) (by
            simp only [pattern_check_l1]
            rw [if_neg (by simp)])]
        by_cases h4 : ∀ x ∈ a ++ b, RecN ts.length x
        · rw [if_neg (show ¬ ¬ _ from fun k => k h4), List.findIdx?_eq_none_iff.2 (fun b hb => by simp only [decide_eq_true (h4 b hb), Bool.not_true])]
          rfl
        · rw [if_pos h4]
          have : (a ++ b).findIdx? (fun x => !decide (RecN ts.length x)) ≠ none := any_of_idx.1 (by
            have : ∃ t ∈ a ++ b, ¬ RecN ts.length t := by
              refine Classical.byContradiction fun hc => h4 fun t ht => Classical.byContradiction fun hn => hc ⟨t, ht, hn⟩
            obtain ⟨t, ht, hn⟩ := this
            exact ⟨t, ht, by simp only [Bool.not_eq_true']; exact decide_eq_false hn⟩)
          cases hi : (a ++ b).findIdx? (fun x => !decide (RecN ts.length x)) with
          | none => exact absurd hi this
          | some i => rfl
      · rw [decide_eq_false h3, if_pos (by decide), if_pos h3]
  · rw [if_neg (show ¬ (1 ≤ (ts.length : Int) ∧ (ts.length : Int) ≤ 5) by omega), bind2_pure, if_pos (by decide), if_pos h1]
/-! Records by their numbers. -/
def fndI (l : List S_api_Encoded) (id : Int) : Option Nat := l.findIdx? (fun x => x.ID == id)
def recOf (l : List S_api_Encoded) (id : Int) : S_api_Encoded := l.getD ((fndI l id).getD 0) dS_api_Encoded
theorem find_eq {l : List S_api_Encoded} {id : Int} (hl : l.length < 1000000) : pattern_find l id = some (match fndI l id with | some i => (l.getD i dS_api_Encoded, true) | none => (⟨0, 0, []⟩, false)) := by
  unfold pattern_find slices_IndexFunc_api_Encoded_pattern_find_f1
  rw [scan_loop dS_api_Encoded (fun x => x.ID == id) l (fun i => ((i : Int), id)) (fun i => ((i : Int), id)) id (step := fun v : Int × Int => slices_IndexFunc_api_Encoded_pattern_find_f1_l1 l v.1 v.2) (fun i hi => by
      simp only [slices_IndexFunc_api_Encoded_pattern_find_f1_l1, Int.toNat_natCast, pattern_find_f1, bind2_pure]
      rw [if_pos (by simp only [decide_eq_true_eq]; omega), if_pos (by omega), if_pos (by omega), wi64 (n := (i : Int) + 1) (by omega) (by omega)]
      rfl) (by
      simp only [slices_IndexFunc_api_Encoded_pattern_find_f1_l1]
      rw [if_neg (by simp)])]
  unfold fndI
  cases hi : l.findIdx? (fun x => x.ID == id) with
  | none => rfl
  | some i =>
    have hlt : i < l.length := (List.findIdx?_eq_some_iff_getElem.1 hi).1
    simp only [bindE_r, slices_IndexFunc_api_Encoded_pattern_find_f1_a3, bind2_pure]
    rw [if_neg (by simp only [decide_eq_true_eq]; omega), if_pos (by omega), if_pos (by omega), Int.toNat_natCast]
theorem fndI_lt {l : List S_api_Encoded} {id : Int} {i : Nat} (h : fndI l id = some i) : i < l.length := (List.findIdx?_eq_some_iff_getElem.1 h).1
theorem fndI_some {l : List S_api_Encoded} {id : Int} (h : ∃ x ∈ l, x.ID = id) : ∃ i, fndI l id = some i := by
  obtain ⟨x, hx, he⟩ := h
  have : fndI l id ≠ none := any_of_idx.1 ⟨x, hx, by simpa using he⟩
  cases h : fndI l id with
  | none => exact absurd h this
  | some i => exact ⟨i, rfl⟩
/-! Numbers of couples by pattern. -/
def cntL (m : Nat) (ps : List Nat) : List Int := (List.range m).map fun i => ((ps.count i : Nat) : Int)
theorem cntL_length (m : Nat) (ps : List Nat) : (cntL m ps).length = m := by simp [cntL]
theorem cntL_get {m : Nat} {ps : List Nat} {i : Nat} (h : i < m) : (cntL m ps).getD i 0 = ((ps.count i : Nat) : Int) := by
  unfold cntL
  rw [List.getD_eq_getElem?_getD, List.getElem?_map, List.getElem?_range h]
  rfl
theorem getD_ext {l k : List Int} (hl : l.length = k.length) (h : ∀ i, i < l.length → l.getD i 0 = k.getD i 0) : l = k := by
  refine List.ext_getElem hl fun i h1 h2 => ?_
  have := h i h1
  rw [List.getD_eq_getElem?_getD, List.getD_eq_getElem?_getD, List.getElem?_eq_getElem h1, List.getElem?_eq_getElem h2] at this
  simpa using this
theorem cntL_bump {m : Nat} {ps : List Nat} {p : Nat} (h : p < m) : (cntL m ps).set p ((cntL m ps).getD p 0 + 1) = cntL m (ps ++ [p]) := by
  refine getD_ext (by simp [cntL_length]) fun i hi => ?_
  rw [List.length_set, cntL_length] at hi
  rw [cntL_get hi, cntL_get h, List.count_append, List.getD_eq_getElem?_getD, List.getElem?_set]
  by_cases e : p = i
  · subst e
    rw [if_pos rfl, if_pos (by rw [cntL_length]; exact h)]
    simp
  · rw [if_neg e, ← List.getD_eq_getElem?_getD, cntL_get hi, List.count_singleton, if_neg (by simpa using e)]
    simp
theorem cntL_nil (m : Nat) : cntL m [] = List.replicate m 0 := by
  refine getD_ext (by simp [cntL_length]) fun i hi => ?_
  rw [cntL_length] at hi
  rw [cntL_get hi, List.getD_eq_getElem?_getD, List.getElem?_replicate, if_pos hi]
  rfl
def patN (ts : List Int) (x y : S_api_Encoded) : Nat := (num3 (List.zipWith outc ts (List.zipWith simB x.Fields y.Fields))).toNat
theorem patN_int (ts : List Int) (x y : S_api_Encoded) : num3 (List.zipWith outc ts (List.zipWith simB x.Fields y.Fields)) = ((patN ts x y : Nat) : Int) := by
  unfold patN
  have := (num3_range _ (zip_all (f := outc) outc_range (l := ts) (k := List.zipWith simB x.Fields y.Fields))).1
  omega
theorem patN_lt {ts : List Int} {x y : S_api_Encoded} : patN ts x y < 3 ^ ts.length := by
  have h1 := num3_range _ (zip_all (f := outc) outc_range (l := ts) (k := List.zipWith simB x.Fields y.Fields))
  have h2 : (List.zipWith outc ts (List.zipWith simB x.Fields y.Fields)).length ≤ ts.length := by rw [List.length_zipWith]; exact Nat.min_le_left _ _
  have h3 := Nat.pow_le_pow_right (show 0 < 3 by decide) h2
  rw [patN_int] at h1
  omega
def cpl (a b : List S_api_Encoded) (ts : List Int) (c : S_api_Couple) : Option Nat := match fndI a c.A, fndI b c.B with
  | some i, some j => some (patN ts (a.getD i dS_api_Encoded) (b.getD j dS_api_Encoded))
  | _, _ => none
def pats (f : S_api_Couple → Option Nat) : List S_api_Couple → Option (List Nat)
  | [] => some []
  | c :: l => match f c, pats f l with
    | some p, some ps => some (p :: ps)
    | _, _ => none
theorem pats_all {f : S_api_Couple → Option Nat} {g : S_api_Couple → Nat} : ∀ {l : List S_api_Couple}, (∀ c ∈ l, f c = some (g c)) → pats f l = some (l.map g)
  | [], _ => rfl
  | c :: l, h => by
    simp only [pats, h c List.mem_cons_self, pats_all (l := l) fun x hx => h x (List.mem_cons_of_mem _ hx), List.map_cons]
/-- Similarities of any arrays are in their range. -/
theorem popI_and_le : ∀ {a b : List Int}, W64 a → W64 b → popI (List.zipWith (iand .u64) a b) ≤ popI a ∧ popI (List.zipWith (iand .u64) a b) ≤ popI b
  | [], _, _, _ => ⟨by simp [popI], by simp [popI]⟩
  | _ :: _, [], _, _ => ⟨by simp [popI], by simp [popI]⟩
  | x :: a, y :: b, ha, hb => by
    have ih := popI_and_le (fun w h => ha w (List.mem_cons_of_mem _ h)) (fun w h => hb w (List.mem_cons_of_mem _ h)) (a := a) (b := b)
    have hx := ha x List.mem_cons_self
    have hy := hb y List.mem_cons_self
    obtain ⟨u, rfl⟩ := Int.eq_ofNat_of_zero_le hx.1
    obtain ⟨v, rfl⟩ := Int.eq_ofNat_of_zero_le hy.1
    have h := popN_and_le 64 u v
    simp only [List.zipWith_cons_cons, popI]
    rw [iand64 (by omega) (by omega), Int.toNat_natCast, Int.toNat_natCast, Int.toNat_natCast]
    unfold pop64
    omega
theorem simB_range {p q : S_api_Bits} (hp : W64 p.Words) (hq : W64 q.Words) : -1 ≤ simB p q ∧ simB p q ≤ 1000 := by
  unfold simB
  split
  · split
    · omega
    · have h := popI_and_le hp hq
      generalize popI p.Words = a at *
      generalize popI q.Words = b at *
      generalize popI (List.zipWith (iand .u64) p.Words q.Words) = c at *
      have : (4000 * c + (a + b)) / (2 * (a + b)) < 1001 := by
        rw [Nat.div_lt_iff_lt_mul (by omega)]
        omega
      generalize (4000 * c + (a + b)) / (2 * (a + b)) = q at this ⊢
      omega
  · omega
theorem zip_sims {p q : List S_api_Bits} (hp : WF p) (hq : WF q) : ∀ s ∈ List.zipWith simB p q, -1 ≤ s ∧ s ≤ 1000 := by
  intro s hs
  obtain ⟨i, hi, rfl⟩ := List.mem_iff_getElem.1 hs
  rw [List.getElem_zipWith]
  exact simB_range (hp _ (List.getElem_mem _)) (hq _ (List.getElem_mem _))
def TallyS (cs : List S_api_Couple) (a b : List S_api_Encoded) (ts : List Int) : List Int × Int :=
  if chkS cs.length a b ts ≠ 0 then ([], chkS cs.length a b ts) else match pats (cpl a b ts) cs with
    | some ps => (cntL (3 ^ ts.length) ps, 0)
    | none => ([], 13)
theorem chk_ok {m : Nat} {a b : List S_api_Encoded} {ts : List Int} (h : ¬ chkS m a b ts ≠ 0) : (1 ≤ ts.length ∧ ts.length ≤ 5) ∧ m ≤ 4096 ∧ (∀ t ∈ ts, 0 ≤ t ∧ t ≤ 1000) ∧ ∀ x ∈ a ++ b, RecN ts.length x := by
  unfold chkS at h
  by_cases h1 : 1 ≤ ts.length ∧ ts.length ≤ 5
  · rw [if_neg (show ¬ ¬ (1 ≤ ts.length ∧ ts.length ≤ 5) from fun k => k h1)] at h
    by_cases h2 : 4096 < m
    · rw [if_pos h2] at h; exact absurd (by decide) h
    · rw [if_neg h2] at h
      by_cases h3 : ∀ t ∈ ts, 0 ≤ t ∧ t ≤ 1000
      · rw [if_neg (show ¬ ¬ (∀ t ∈ ts, 0 ≤ t ∧ t ≤ 1000) from fun k => k h3)] at h
        by_cases h4 : ∀ x ∈ a ++ b, RecN ts.length x
        · exact ⟨h1, by omega, h3, h4⟩
        · rw [if_pos h4] at h; exact absurd (by decide) h
      · rw [if_pos h3] at h; exact absurd (by decide) h
  · rw [if_pos h1] at h; exact absurd (by decide) h
theorem compat_eq {ts : List Int} {x y : S_api_Encoded} (h1 : 1 ≤ ts.length) (h5 : ts.length ≤ 5) (ht : ∀ t ∈ ts, 0 ≤ t ∧ t ≤ 1000) (hx : x.Fields.length = ts.length) (hy : y.Fields.length = ts.length) (wx : WF x.Fields) (wy : WF y.Fields) :
    similarity_Compare x y = some (List.zipWith simB x.Fields y.Fields, 0) ∧ similarity_Pattern ts (List.zipWith simB x.Fields y.Fields) = some (((patN ts x y : Nat) : Int), 0) := by
  refine ⟨by rw [compare_eq wx wy (by omega), if_pos (by omega)], ?_⟩
  have hz : (List.zipWith simB x.Fields y.Fields).length = ts.length := by rw [List.length_zipWith]; omega
  rw [pattern_eq (by omega), if_pos (by omega), if_pos ⟨ht, zip_sims wx wy⟩, patN_int]
theorem tally_loop {cs : List S_api_Couple} {a b : List S_api_Encoded} {ts : List Int} (ha : a.length < 100000) (hb : b.length < 100000) (hc : cs.length ≤ 4096) (h1 : 1 ≤ ts.length) (h5 : ts.length ≤ 5) (ht : ∀ t ∈ ts, 0 ≤ t ∧ t ≤ 1000) (hr : ∀ x ∈ a ++ b, RecN ts.length x) (hw : ∀ x ∈ a ++ b, WF x.Fields) :
    ∀ (k j : Nat) (ps : List Nat), ps.length = j → j + k = cs.length → loop (fun v : (List Int) × Int => pattern_Tally_l1 cs a b ts v.1 v.2) (cntL (3 ^ ts.length) ps, (j : Int)) = some (match pats (cpl a b ts) (cs.drop j) with | some qs => .inl (cntL (3 ^ ts.length) (ps ++ qs)) | none => .inr 13) := by
  intro k
  induction k with
  | zero =>
    intro j ps hp hj
    have : j = cs.length := by omega
    rw [this, loop_end (t := .inl (cntL (3 ^ ts.length) ps)) (by simp only [pattern_Tally_l1]; rw [if_neg (by simp)]), List.drop_length]
    simp only [pats, List.append_nil]
  | succ k ih =>
    intro j ps hp hj
    have hjl : j < cs.length := by omega
    rw [drop_cons dS_api_Couple hjl]
    have hstep : pattern_Tally_l1 cs a b ts (cntL (3 ^ ts.length) ps) (j : Int) = match cpl a b ts (cs.getD j dS_api_Couple) with | some p => some (.inl (cntL (3 ^ ts.length) (ps ++ [p]), ((j + 1 : Nat) : Int))) | none => some (.inr (.inr 13)) := by
      unfold pattern_Tally_l1 cpl
      rw [if_pos (by simp only [decide_eq_true_eq]; omega), if_pos (by omega), if_pos (by omega), Int.toNat_natCast, find_eq (by omega), find_eq (by omega)]
      cases ei : fndI a (cs.getD j dS_api_Couple).A with
      | none => simp only [bind2_pure]; cases ej : fndI b (cs.getD j dS_api_Couple).B <;> rfl
      | some i =>
        cases ej : fndI b (cs.getD j dS_api_Couple).B with
        | none => rfl
        | some i2 =>
          have hx := enc_get (fndI_lt ei)
          have hy := enc_get (fndI_lt ej)
          have rx := hr _ (List.mem_append_left b hx)
          have ry := hr _ (List.mem_append_right a hy)
          have wx := hw _ (List.mem_append_left b hx)
          have wy := hw _ (List.mem_append_right a hy)
          obtain ⟨e1, e2⟩ := compat_eq h1 h5 ht rx.2 ry.2 wx wy
          simp only [bind2_pure, Bool.not_true, Bool.false_eq_true, if_false, pattern_Tally_k2]
          rw [e1, bind2_pure, if_neg (by decide), e2, bind2_pure, if_neg (by decide)]
          have hp := patN_lt (ts := ts) (x := a.getD i dS_api_Encoded) (y := b.getD i2 dS_api_Encoded)
          have hq := pow3_le h5
          have hcn := List.count_le_length (a := patN ts (a.getD i dS_api_Encoded) (b.getD i2 dS_api_Encoded)) (l := ps)
          rw [if_pos (by omega), if_pos (by rw [cntL_length]; omega), Int.toNat_natCast, Nat.zero_add, ← cntL_bump hp, cntL_get hp, wi64 (n := _ + 1) (by omega) (by omega), wi64 (n := (j : Int) + 1) (by omega) (by omega)]
          rfl
    cases ec : cpl a b ts (cs.getD j dS_api_Couple) with
    | none =>
      rw [ec] at hstep
      rw [loop_end hstep]
      simp only [pats, ec]
    | some p =>
      rw [ec] at hstep
      rw [loop_next hstep, ih (j + 1) (ps ++ [p]) (by simp [hp]) (by omega)]
      simp only [pats, ec]
      cases pats (cpl a b ts) (cs.drop (j + 1)) with
      | none => rfl
      | some qs => simp only [List.append_assoc, List.singleton_append]
theorem tally_eq {cs : List S_api_Couple} {a b : List S_api_Encoded} {ts : List Int} (ha : a.length < 100000) (hb : b.length < 100000) (ht : ts.length < 1000000) (hf : ∀ x ∈ a ++ b, x.Fields.length < 1000000) (hw : ∀ x ∈ a ++ b, WF x.Fields) : pattern_Tally cs a b ts = some (TallyS cs a b ts) := by
  unfold pattern_Tally TallyS
  rw [pcheck_eq ha hb hf ht, bind1_pure]
  by_cases h : chkS cs.length a b ts ≠ 0
  · rw [if_pos (by simpa using h), if_pos h]
  · obtain ⟨⟨h1, h5⟩, hc, hts, hr⟩ := chk_ok h
    have hq := pow3_le h5
    rw [if_neg (by simpa using h), if_neg h, psize_any, if_pos (by omega), bind2_pure, Int.toNat_natCast, if_pos (by omega), if_pos (by omega), Int.toNat_natCast, ← cntL_nil, show (0 : Int) = ((0 : Nat) : Int) from rfl, tally_loop ha hb hc h1 h5 hts hr hw cs.length 0 [] rfl (by omega), List.drop_zero]
    cases pats (cpl a b ts) cs with
    | none => rfl
    | some ps => rfl
end Go.Proofs.Ytknlckjpgmjenaa
