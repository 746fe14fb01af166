/- Plain: journals of payloads: what is made, what is read of them. -/
import Derived.Test.YtjedagkkeicpkaaJc
import Derived.Test.YtjedagkkeicpkaaDk
import Derived.Test.YtjedagkkeicpkaaGE0
namespace Go.Proofs.Ytjedagkkeicpkaa
open Vm
set_option linter.unusedVariables false
set_option linter.unusedSimpArgs false
theorem awake38 : rl_law38_awake = some true := rl_law38_awake_le 200 _ (by kernel_rfl)
/-- The journal of payloads. -/
def jn (ps : List ByteArray) : ByteArray := strOf (recs HS 0 (ps.map bytesL))
def Small (ps : List ByteArray) : Prop := ∀ p ∈ ps, p.size ≤ 60000
theorem Small.map {ps : List ByteArray} (h : Small ps) : ∀ p ∈ ps.map bytesL, B8 p ∧ p.length ≤ 60000 := by
  intro p hp
  obtain ⟨q, hq, rfl⟩ := List.mem_map.1 hp
  exact ⟨bytesL_b8 q, by rw [bl_len]; exact h q hq⟩
theorem Small.len {ps : List ByteArray} (h : Small ps) : ∀ p ∈ ps.map bytesL, p.length ≤ 60000 := fun p hp => (h.map p hp).2
theorem Small.take {ps : List ByteArray} (h : Small ps) (n : Nat) : Small (ps.take n) := fun p hp => h p (List.mem_of_mem_take hp)
theorem Small.snoc {ps : List ByteArray} (h : Small ps) {p : ByteArray} (hp : p.size ≤ 60000) : Small (ps ++ [p]) := by
  intro q hq
  rcases List.mem_append.1 hq with h1 | h1
  · exact h q h1
  · rw [List.mem_singleton.1 h1]; exact hp
theorem map_back (ps : List ByteArray) : (ps.map bytesL).map strOf = ps := by
  rw [List.map_map]
  conv => rhs; rw [← List.map_id ps]
  apply List.map_congr_left
  intro x _
  exact strOf_bytesL x
theorem jn_bytes {ps : List ByteArray} (h : Small ps) : bytesL (jn ps) = recs HS 0 (ps.map bytesL) := bytesL_strOf (recs_b8 HS _ 0 h.map)
/-- the bytes of a journal's records -/
def jlen (ps : List ByteArray) : Nat := lens (ps.map bytesL)
theorem jlen_nil : jlen [] = 0 := rfl
theorem jlen_snoc (ps : List ByteArray) (p : ByteArray) : jlen (ps ++ [p]) = jlen ps + (12 + p.size) := by
  rw [jlen, List.map_append, lens_append, jlen]
  show _ + lens [bytesL p] = _
  rw [lens, lens, bl_len]; omega
theorem jlen_append (ps qs : List ByteArray) : jlen (ps ++ qs) = jlen ps + jlen qs := by rw [jlen, List.map_append, lens_append, jlen, jlen]
theorem jn_size (ps : List ByteArray) : (jn ps).size = jlen ps := by rw [jn, strOf_size, recs_len, jlen]
theorem jlen_le {m : Nat} : ∀ {ps : List ByteArray}, (∀ p ∈ ps, p.size ≤ m) → jlen ps ≤ ps.length * (12 + m)
  | [], _ => Nat.zero_le _
  | p :: ps, h => by
    have h1 := h p List.mem_cons_self
    have h2 := jlen_le (ps := ps) fun q hq => h q (List.mem_cons_of_mem _ hq)
    have h3 : jlen (p :: ps) = 12 + p.size + jlen ps := by rw [jlen, List.map_cons, lens, bl_len, jlen]
    rw [h3, List.length_cons, Nat.succ_mul]
    omega
theorem jn_append (ps qs : List ByteArray) (hp : Small ps) (hq : Small qs) : jn (ps ++ qs) = jn ps ++ strOf (recs HS (lastS HS 0 (ps.map bytesL)) (qs.map bytesL)) := by
  rw [jn, jn, List.map_append, recs_append, strOf_append (recs_b8 HS _ _ hp.map) (recs_b8 HS _ _ hq.map)]
theorem rdJ_jn {ps : List ByteArray} (h : Small ps) (hn : ps.length ≤ 512) : rdJ (jn ps) = (ps, (jlen ps : Int), lastS HS 0 (ps.map bytesL), 0) := by
  rw [rdJ, jn_bytes h, rd_all HS _ 0 h.len (by rw [List.length_map]; exact hn)]
  simp only [map_back, jlen]
theorem appJ_jn {ps : List ByteArray} (h : Small ps) (hn : ps.length < 512) {p : ByteArray} (hp : p.size ≤ 60000) : appJ (jn ps) p = (jn (ps ++ [p]), 0) := by
  rw [appJ, rdJ_jn h (by omega)]
  simp only
  rw [if_neg (by omega), if_neg (by omega), jn_append ps [p] h (fun q hq => by rw [List.mem_singleton.1 hq]; exact hp)]
  simp [recs]
theorem jn_nil : jn [] = ByteArray.mk #[] := rfl
theorem jn_take {ps : List ByteArray} (h : Small ps) (k : Nat) : (jn ps).extract 0 (jlen (ps.take k)) = jn (ps.take k) := by
  have e : bytesL ((jn ps).extract 0 (jlen (ps.take k))) = bytesL (jn (ps.take k)) := by
    rw [bytesL_extract, jn_bytes h, jn_bytes (h.take k), List.drop_zero, Nat.sub_zero]
    have e3 : recs HS 0 (ps.map bytesL) = recs HS 0 ((ps.take k).map bytesL) ++ recs HS (lastS HS 0 ((ps.take k).map bytesL)) ((ps.drop k).map bytesL) := by
      rw [← recs_append, ← List.map_append, List.take_append_drop]
    rw [jlen, ← recs_len HS _ 0, e3, List.take_left]
  exact bytesL_inj.1 e
/-- A loop that looks for the first bad one. -/
theorem scanN {τ : Type} {step : Int → Option (Int ⊕ (Unit ⊕ τ))} (n : Nat) (bad : Nat → Prop) (t : Nat → τ)
    (h : ∀ i, i < n → (bad i ∧ step (i : Int) = some (.inr (.inr (t i)))) ∨ (¬ bad i ∧ step (i : Int) = some (.inl ((i + 1 : Nat) : Int)))) (he : step (n : Int) = some (.inr (.inl ()))) :
    (loop step 0 = some (.inl ()) ∧ ∀ i, i < n → ¬ bad i) ∨ ∃ i, i < n ∧ bad i ∧ loop step 0 = some (.inr (t i)) := by
  have key : ∀ k j, j + k = n → (loop step (j : Int) = some (.inl ()) ∧ ∀ i, j ≤ i → i < n → ¬ bad i) ∨ ∃ i, i < n ∧ bad i ∧ loop step (j : Int) = some (.inr (t i)) := by
    intro k
    induction k with
    | zero =>
      intro j hj
      have : j = n := by omega
      subst this
      exact .inl ⟨loop_end he, fun i h1 h2 => by omega⟩
    | succ k ih =>
      intro j hj
      rcases h j (by omega) with ⟨hb, hs⟩ | ⟨hb, hs⟩
      · exact .inr ⟨j, by omega, hb, loop_end hs⟩
      · rw [loop_next hs]
        rcases ih (j + 1) (by omega) with ⟨h1, h2⟩ | h1
        · refine .inl ⟨h1, fun i h3 h4 => ?_⟩
          rcases Nat.lt_or_eq_of_le h3 with h5 | rfl
          · exact h2 i h5 h4
          · exact hb
        · exact .inr h1
  rcases key n 0 (by omega) with ⟨h1, h2⟩ | h1
  · exact .inl ⟨h1, fun i hi => h2 i (Nat.zero_le _) hi⟩
  · exact .inr h1
theorem list_ext {τ : Type} (d : τ) {a b : List τ} (hl : a.length = b.length) (h : ∀ i, i < a.length → a.getD i d = b.getD i d) : a = b := by
  apply List.ext_getElem? 
  intro i
  by_cases hi : i < a.length
  · have := h i hi
    rw [List.getD_eq_getElem?_getD, List.getD_eq_getElem?_getD, List.getElem?_eq_getElem hi, List.getElem?_eq_getElem (by omega)] at this
    rw [List.getElem?_eq_getElem hi, List.getElem?_eq_getElem (by omega)]
    exact congrArg some this
  · rw [List.getElem?_eq_none (by omega), List.getElem?_eq_none (by omega)]
theorem same38 {a b : List ByteArray} (hl : a.length < 1000000) : rl_ref38_Same a b = some (decide (a = b)) := by
  unfold rl_ref38_Same
  by_cases hlen : a.length = b.length
  · rw [if_neg (by simp [hlen])]
    rcases scanN (step := fun v : Int => rl_ref38_Same_l1 a b v) a.length (fun i => a.getD i ByteArray.empty ≠ b.getD i ByteArray.empty) (fun i => ()) (fun i hi => by
        simp only [rl_ref38_Same_l1, Int.toNat_natCast, str_eq]
        rw [if_pos (by simpa using hi), if_pos (by omega), if_pos (by omega), if_pos (by omega), wi64 (by omega) (by omega)]
        by_cases h : a.getD i ByteArray.empty = b.getD i ByteArray.empty
        · right; rw [decide_eq_true h]; exact ⟨fun k => k h, rfl⟩
        · left; rw [decide_eq_false h]; exact ⟨h, rfl⟩) (by simp only [rl_ref38_Same_l1]; rw [if_neg (by simp)]) with ⟨h1, h2⟩ | ⟨i, hi, hb, h1⟩
    · rw [h1, bindE_l, decide_eq_true (list_ext ByteArray.empty hlen fun i hi => Decidable.not_not.1 (h2 i hi))]
      rfl
    · rw [h1, bindE_r, decide_eq_false (fun k => hb (by rw [k]))]
      rfl
  · rw [if_pos (by simp; omega), decide_eq_false (fun k => hlen (by rw [k]))]
theorem made_pay {d : S_recordlinkmake_Deck} (hd : DeckOk d) {n : Nat} (hn : n < 30) : ∃ s d', loop (fun v : ByteArray × Int × (List Int) × Int × Int => rl_law38_made_l2 v.1 v.2.1 v.2.2.1 v.2.2.2.1 v.2.2.2.2) ((ByteArray.mk #[]), (n : Int), d.list, d.at_, d.state) = some (s, d'.list, d'.at_, d'.state) ∧ s.size = n ∧ DeckOk d' := by
  obtain ⟨t, e1, t1, t2⟩ := loop_inv (step := fun v : ByteArray × Int × (List Int) × Int × Int => rl_law38_made_l2 v.1 v.2.1 v.2.2.1 v.2.2.2.1 v.2.2.2.2) n
    (fun i s => s.1.size = i ∧ s.2.1 = ((n - i : Nat) : Int) ∧ DeckOk ⟨s.2.2.1, s.2.2.2.1, s.2.2.2.2⟩) (fun t => t.1.size = n ∧ DeckOk ⟨t.2.1, t.2.2.1, t.2.2.2⟩) (by
      rintro i hi ⟨s, j, a, b, c⟩ ⟨s1, s2, s3⟩
      left
      simp only [rl_law38_made_l2] at s1 s2 s3 ⊢
      subst s2
      rw [if_pos (by simp only [decide_eq_true_eq]; omega)]
      obtain ⟨x, d2, he, x0, x1, hd2⟩ := next_yes s3 (n := 256) (by decide) (by decide)
      rw [he]; clear he; first | rw [bind2_pure] | rw [bind3_pure] | rw [bind4_pure] | rw [bind1_pure]
      have h1 : (strOf ([IntKind.u8.wrap x] : List Int)).size = 1 := by rw [strOf_size]; rfl
      rw [if_pos (by rw [h1, maxStr]; omega), wi64 (by omega) (by omega)]
      refine ⟨_, rfl, by simp only [ByteArray.size_append, h1]; omega, by simp only; omega, hd2⟩) (by
      rintro ⟨s, j, a, b, c⟩ ⟨s1, s2, s3⟩
      simp only [rl_law38_made_l2] at s1 s2 s3 ⊢
      subst s2
      rw [if_neg (by simp)]
      exact ⟨_, rfl, s1, s3⟩) (s := ((ByteArray.mk #[]), (n : Int), d.list, d.at_, d.state)) ⟨rfl, rfl, hd⟩
  exact ⟨t.1, ⟨t.2.1, t.2.2.1, t.2.2.2⟩, e1, t1, t2⟩
/-- A journal that is dealt. -/
theorem made_yes {d : S_recordlinkmake_Deck} (hd : DeckOk d) {most : Nat} (hm : most ≤ 100) : ∃ j ps d', rl_law38_made d (most : Int) = some (j, ps, d') ∧ j = jn ps ∧ ps.length ≤ most ∧ (∀ p ∈ ps, p.size ≤ 30) ∧ DeckOk d' := by
  unfold rl_law38_made
  rw [wi64 (by omega) (by omega)]
  obtain ⟨x, d1, he, x0, x1, hd1⟩ := next_yes hd (n := (most : Int) + 1) (by omega) (by omega)
  rw [he]; clear he; first | rw [bind2_pure] | rw [bind3_pure] | rw [bind4_pure] | rw [bind1_pure]
  obtain ⟨n, rfl⟩ := Int.eq_ofNat_of_zero_le x0
  obtain ⟨t, e1, t1, t2, t3, t4⟩ := loop_inv (step := fun v : ByteArray × (List ByteArray) × Int × (List Int) × Int × Int => rl_law38_made_l1 v.1 v.2.1 v.2.2.1 v.2.2.2.1 v.2.2.2.2.1 v.2.2.2.2.2) n
    (fun i s => s.1 = jn s.2.1 ∧ s.2.1.length = i ∧ s.2.2.1 = ((n - i : Nat) : Int) ∧ (∀ p ∈ s.2.1, p.size ≤ 30) ∧ DeckOk ⟨s.2.2.2.1, s.2.2.2.2.1, s.2.2.2.2.2⟩)
    (fun t => t.1 = jn t.2.1 ∧ t.2.1.length ≤ most ∧ (∀ p ∈ t.2.1, p.size ≤ 30) ∧ DeckOk ⟨t.2.2.1, t.2.2.2.1, t.2.2.2.2⟩) (by
      rintro i hi ⟨s, ps, j, a, b, c⟩ ⟨s1, s2, s3, s4, s5⟩
      left
      simp only [rl_law38_made_l1] at s1 s2 s3 s4 s5 ⊢
      subst s3
      rw [if_pos (by simp only [decide_eq_true_eq]; omega)]
      obtain ⟨x, d2, he, y0, y1, hd2⟩ := next_yes s5 (n := 30) (by decide) (by decide)
      rw [he]; clear he; first | rw [bind2_pure] | rw [bind3_pure] | rw [bind4_pure] | rw [bind1_pure]
      obtain ⟨k, rfl⟩ := Int.eq_ofNat_of_zero_le y0
      obtain ⟨p, d3, e3, p1, hd3⟩ := made_pay hd2 (n := k) (by omega)
      rw [e3, bind4_pure, s1]
      have hsm : Small ps := fun q hq => by have := s4 q hq; omega
      have hsz := jlen_le s4
      rw [ref_append_eq (s := jn ps) (by rw [jn_size]; omega), appJ_jn hsm (by omega) (by omega), bind2_pure, if_pos (by simp; omega), wi64 (by omega) (by omega)]
      refine ⟨_, rfl, rfl, by simp [s2], by simp only; omega, ?_, hd3⟩
      intro q hq
      rcases List.mem_append.1 hq with h1 | h1
      · exact s4 q h1
      · rw [List.mem_singleton.1 h1]; omega) (by
      rintro ⟨s, ps, j, a, b, c⟩ ⟨s1, s2, s3, s4, s5⟩
      simp only [rl_law38_made_l1] at s1 s2 s3 s4 s5 ⊢
      subst s3
      rw [if_neg (by simp)]
      exact ⟨_, rfl, s1, by simp only; omega, s4, s5⟩) (s := ((ByteArray.mk #[]), ([] : List ByteArray), (n : Int), d1.list, d1.at_, d1.state)) ⟨rfl, rfl, rfl, by simp, hd1⟩
  rw [e1]
  exact ⟨t.1, t.2.1, ⟨t.2.2.1, t.2.2.2.1, t.2.2.2.2⟩, rfl, t1, t2, t3, t4⟩
theorem Read_jn {ps : List ByteArray} (h : Small ps) (hn : ps.length ≤ 512) (hs : jlen ps ≤ 1000000) : journal_Read (jn ps) = some (ps, (jlen ps : Int), 0) := by
  rw [Read_eq (by rw [jn_size]; exact hs), rdJ_jn h hn]
theorem Whole_jn {ps : List ByteArray} (h : Small ps) (hn : ps.length ≤ 512) (hs : jlen ps ≤ 1000000) : journal_Whole (jn ps) = some (jn ps) := by
  have k := jn_take h ps.length
  rw [List.take_of_length_le (Nat.le_refl _)] at k
  rw [whole_eq (by rw [jn_size]; exact hs), rdJ_jn h hn]
  simp only [Int.toNat_natCast, k]
theorem Append_jn {ps : List ByteArray} (h : Small ps) (hn : ps.length < 512) (hs : jlen ps ≤ 1000000) {p : ByteArray} (hp : p.size ≤ 60000) : journal_Append (jn ps) p = some (jn (ps ++ [p]), 0) := by
  rw [append_eq (by rw [jn_size]; exact hs), appJ_jn h hn hp]
theorem str_self (s : ByteArray) : (s.toList == s.toList) = true := by simp
theorem take_snoc {ps : List ByteArray} {i : Nat} (hi : i < ps.length) : ps.take i ++ [ps.getD i ByteArray.empty] = ps.take (i + 1) := by
  rw [List.take_add_one, List.getD_eq_getElem?_getD, List.getElem?_eq_getElem hi]; rfl
theorem jlen_take (ps : List ByteArray) (i : Nat) : jlen (ps.take i) ≤ jlen ps := by
  conv => rhs; rw [← List.take_append_drop i ps, jlen_append]
  omega
theorem getD_le {ps : List ByteArray} {m i : Nat} (h : ∀ p ∈ ps, p.size ≤ m) (hi : i < ps.length) : (ps.getD i ByteArray.empty).size ≤ m := by
  rw [List.getD_eq_getElem?_getD, List.getElem?_eq_getElem hi]
  exact h _ (List.getElem_mem hi)
theorem jlen_step {ps : List ByteArray} {i : Nat} (hi : i < ps.length) : jlen (ps.take (i + 1)) = jlen (ps.take i) + (12 + (ps.getD i ByteArray.empty).size) := by rw [← take_snoc hi, jlen_snoc]
end Go.Proofs.Ytjedagkkeicpkaa
