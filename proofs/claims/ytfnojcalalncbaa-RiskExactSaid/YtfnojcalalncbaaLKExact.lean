/- Plain: the law RiskExact. -/
import Derived.Test.YtfnojcalalncbaaKa
import Derived.Test.YtfnojcalalncbaaGL6
namespace Go.Proofs.Ytfnojcalalncbaa
open Vm
open IntKind (i64 u64 u32 u8)
set_option linter.unusedVariables false
set_option linter.unusedSimpArgs false
theorem reflen_eq (L : Int) : rl_ref09_length L = some (decide (Right L)) := by
  grind [rl_ref09_length, rl_ref09_length_k1, Right, tmod_nn]
theorem refcheck_eq (p : S_api_Parameters) (n : Int) : rl_ref15_check p n = some (ckS p n) := by
  have hn : ∃ b e, rl_ref09_New p.Length = some (b, e) ∧ (e = 0 ↔ Right p.Length) := by
    unfold rl_ref09_New
    rw [reflen_eq, bind1_pure]
    by_cases h : Right p.Length
    · rw [decide_eq_true h, if_neg (by decide), tdiv_nn (by have := h.1; omega), wi64 (by have := h.1; omega) (by have := h.2.1; omega), if_pos (by have := h.1; omega), if_pos (by have := h.2.1; omega)]
      exact ⟨_, _, rfl, by simp [h]⟩
    · rw [decide_eq_false h, if_pos (by decide)]
      exact ⟨_, _, rfl, by simp [h]⟩
  obtain ⟨b, e, h1, h2⟩ := hn
  have hc : rl_ref14_Check p = some (if PV p then 0 else 10) := by
    unfold rl_ref14_Check rl_ref14_Check_k1
    rw [h1, bind2_pure]
    by_cases h : Right p.Length
    · rw [h2.2 h, if_neg (by decide)]
      by_cases h1 : p.Hashes < 1 <;> by_cases h2 : p.Hashes > 16 <;> by_cases h3 : p.Salt < -1 <;> by_cases h4 : p.Salt ≥ 5 <;> grind [PV]
    · rw [if_pos (by simpa using fun k => h (h2.1 k)), if_pos rfl, if_neg (fun k : PV p => h k.1)]
  unfold rl_ref15_check rl_ref15_check_k1 ckS
  rw [hc, bind1_pure]
  by_cases h : PV p
  · rw [if_pos h, if_neg (by decide), if_neg (show ¬ ¬ PV p from fun k => k h)]
    by_cases h1 : n < 0 <;> by_cases h2 : n > 80 <;> grind
  · rw [if_neg h, if_pos (by decide), if_pos h]
theorem refrounded : rl_ref05_Rounded = risk_rounded := rfl
theorem refEmpty_eq (p : S_api_Parameters) (n : Int) : rl_ref15_Empty p n = some (if ckS p n = 0 then (((empS p n : Nat) : Int), 0) else (0, ckS p n)) := by
  rw [← Empty_eq]
  unfold rl_ref15_Empty risk_Empty
  rw [refcheck_eq, check_eq, bind1_pure, bind1_pure]
  have : (fun v : Int × Int => rl_ref15_Empty_l1 p n v.1 v.2) = fun v : Int × Int => risk_empty_l1 p n v.1 v.2 := by
    funext v
    unfold rl_ref15_Empty_l1 risk_empty_l1
    rw [refrounded]
  rw [this]
  unfold risk_empty
  cases loop (fun v : Int × Int => risk_empty_l1 p n v.1 v.2) (1073741824, 0) <;> rfl
theorem refFill_eq (p : S_api_Parameters) (n : Int) : rl_ref15_Fill p n = some (if ckS p n = 0 then (((filS (empS p n) : Nat) : Int), 0) else (0, ckS p n)) := by
  rw [← Fill_eq]
  unfold rl_ref15_Fill risk_Fill
  rw [refEmpty_eq, Empty_eq, refrounded]
theorem refCollision_eq (p : S_api_Parameters) (n : Int) : rl_ref15_Collision p n = some (if ckS p n = 0 then (((colS (empS p n) p.Hashes.toNat : Nat) : Int), 0) else (0, ckS p n)) := by
  rw [← Collision_eq]
  unfold rl_ref15_Collision risk_Collision
  rw [refEmpty_eq, Empty_eq]
  have : ∀ y1, (fun v : Int × Int => rl_ref15_Collision_l1 p y1 v.1 v.2) = fun v : Int × Int => risk_Collision_l1 p y1 v.1 v.2 := fun y1 => by
    funext v
    unfold rl_ref15_Collision_l1 risk_Collision_l1
    rw [refrounded]
  simp only [this, refrounded]
def outR (n low high most : Int) : Prop := n < 0 ∨ n > 80 ∨ low < 0 ∨ low > high ∨ high > 1000 ∨ most < 0 ∨ most > 1000000
instance (n low high most : Int) : Decidable (outR n low high most) := by unfold outR; infer_instance
def chooseA (n low high most : Int) : S_api_Parameters × Int := if outR n low high most then (⟨0, 0, 0⟩, 2) else chooseS n low high most
theorem ChooseA_eq (n low high most : Int) : risk_Choose n low high most = some (chooseA n low high most) := by
  unfold chooseA
  by_cases h : outR n low high most
  · rw [if_pos h]
    unfold risk_Choose
    unfold outR at h
    rw [if_pos h]
  · rw [if_neg h]
    unfold outR at h
    exact Choose_eq (by omega)
theorem refround_eq {n low high most : Int} (h : 0 ≤ n ∧ n ≤ 80) {i j : Nat} (hi : i < 8) (hj : j < 16) :
    rl_ref15_Choose_l3 n low high most (64 * ((i + 1 : Nat) : Int)) ((j + 1 : Nat) : Int) = if meets n low high most (16 * i + j) = true then some (.inr (.inr ((j + 1 : Nat) : Int))) else some (.inl ((j + 1 + 1 : Nat) : Int)) := by
  have hm : 16 * i + j < 128 := by omega
  have hP : chP (16 * i + j) = ⟨64 * ((i + 1 : Nat) : Int), ((j + 1 : Nat) : Int), -1⟩ := by
    unfold chP chL chH
    rw [show (16 * i + j) / 16 = i by omega, show (16 * i + j) % 16 = j by omega]
  have hc := ck_ok (chP_ok hm) h.1 h.2
  unfold rl_ref15_Choose_l3
  rw [if_pos (by simp only [decide_eq_true_eq]; omega), ← hP, refFill_eq, refCollision_eq, if_pos hc, if_pos hc, bind2_pure, bind2_pure]
  unfold meets rl_ref15_Choose_k4
  generalize filS (empS (chP (16 * i + j)) n) = a
  generalize colS (empS (chP (16 * i + j)) n) (chP (16 * i + j)).Hashes.toNat = b
  rw [wi64 (n := ((j + 1 : Nat) : Int) + 1) (by omega) (by omega)]
  by_cases g1 : (a : Int) ≥ low
  · rw [if_pos (by simpa using g1)]
    by_cases g2 : (a : Int) ≤ high
    · rw [if_pos (by simpa using g2)]
      by_cases g3 : (b : Int) ≤ most
      · rw [decide_eq_true g3, if_pos rfl, if_pos (decide_eq_true ⟨g1, g2, g3⟩)]
      · rw [decide_eq_false g3, if_neg (by decide), decide_eq_false (fun h => g3 h.2.2), if_neg (by decide)]
        rfl
    · rw [if_neg (by simpa using g2), if_neg (by decide), decide_eq_false (fun h => g2 h.2.1), if_neg (by decide)]
      rfl
  · rw [if_neg (by simpa using g1), if_neg (by decide), decide_eq_false (fun h => g1 h.1), if_neg (by decide)]
    rfl
theorem refChoose_in {n low high most : Int} (h : ¬ outR n low high most) : rl_ref15_Choose_k1 n low high most false = some (chooseS n low high most) := by
  unfold outR at h
  have hb : 0 ≤ n ∧ n ≤ 80 := by omega
  unfold rl_ref15_Choose_k1 chooseS
  rw [if_neg (by decide)]
  cases hk : (List.range 128).find? (meets n low high most) with
  | none =>
    have hno : ∀ m, m < 128 → meets n low high most m = false := fun m hm => by simpa using List.find?_eq_none.1 hk m (List.mem_range.2 hm)
    have hrow : ∀ i : Nat, i < 8 → loop (fun v : Int => rl_ref15_Choose_l3 n low high most (64 * ((i + 1 : Nat) : Int)) v) 1 = some (.inl ()) := fun i hi => by
      refine loop_for (fun j => ((j + 1 : Nat) : Int)) 16 _ (fun j hj => ?_) ?_ rfl
      · rw [refround_eq hb hi hj, hno _ (by omega), if_neg (by decide)]
      · unfold rl_ref15_Choose_l3; rw [if_neg (by decide)]
    rw [loop_for (step := fun v : Int => rl_ref15_Choose_l2 n low high most v) (fun i => 64 * ((i + 1 : Nat) : Int)) 8 (.inl ()) (s := 64) (fun i hi => by
        unfold rl_ref15_Choose_l2
        rw [if_pos (by simp only [decide_eq_true_eq]; omega), hrow i hi, bindE_l]
        unfold rl_ref15_Choose_a5
        rw [wi64 (by omega) (by omega)]
        congr 2) (by
        unfold rl_ref15_Choose_l2
        rw [if_neg (by decide)]) rfl, bindE_l]
    rfl
  | some q =>
    obtain ⟨q1, q2, q3⟩ := List.find?_range_eq_some.1 hk
    have hq : q < 128 := List.mem_range.1 q2
    have hno : ∀ m, m < q → meets n low high most m = false := fun m hm => by simpa using q3 m hm
    have hrow : ∀ i : Nat, i < q / 16 → loop (fun v : Int => rl_ref15_Choose_l3 n low high most (64 * ((i + 1 : Nat) : Int)) v) 1 = some (.inl ()) := fun i hi => by
      refine loop_for (fun j => ((j + 1 : Nat) : Int)) 16 _ (fun j hj => ?_) ?_ rfl
      · rw [refround_eq hb (by omega) hj, hno _ (by omega), if_neg (by decide)]
      · unfold rl_ref15_Choose_l3; rw [if_neg (by decide)]
    have hlast : loop (fun v : Int => rl_ref15_Choose_l3 n low high most (64 * ((q / 16 + 1 : Nat) : Int)) v) 1 = some (.inr ((q % 16 + 1 : Nat) : Int)) := by
      refine loop_for (fun j => ((j + 1 : Nat) : Int)) (q % 16) _ (fun j hj => ?_) ?_ rfl
      · rw [refround_eq hb (by omega) (by omega), hno _ (by omega), if_neg (by decide)]
      · rw [refround_eq hb (by omega) (by omega), show 16 * (q / 16) + q % 16 = q by omega, q1, if_pos rfl]
    rw [loop_for (step := fun v : Int => rl_ref15_Choose_l2 n low high most v) (fun i => 64 * ((i + 1 : Nat) : Int)) (q / 16) (.inr (64 * ((q / 16 + 1 : Nat) : Int), ((q % 16 + 1 : Nat) : Int))) (s := 64) (fun i hi => by
        unfold rl_ref15_Choose_l2
        rw [if_pos (by simp only [decide_eq_true_eq]; omega), hrow i hi, bindE_l]
        unfold rl_ref15_Choose_a5
        rw [wi64 (by omega) (by omega)]
        congr 2) (by
        unfold rl_ref15_Choose_l2
        rw [if_pos (by simp only [decide_eq_true_eq]; omega), hlast, bindE_r]
        rfl) rfl, bindE_r]
    rfl
theorem refChoose_eq (n low high most : Int) : rl_ref15_Choose n low high most = some (chooseA n low high most) := by
  unfold rl_ref15_Choose chooseA
  have no : rl_ref15_Choose_k1 n low high most true = some (⟨0, 0, 0⟩, 2) := rfl
  by_cases h : outR n low high most
  · rw [if_pos h]
    unfold outR at h
    rw [no]
    by_cases h1 : n < 0
    · rw [if_pos (by simpa using h1)]
    · rw [if_neg (by simpa using h1)]
      by_cases h2 : n > 80
      · rw [if_pos (by simpa using h2)]
      · rw [if_neg (by simpa using h2)]
        by_cases h3 : low < 0
        · rw [if_pos (by simpa using h3)]
        · rw [if_neg (by simpa using h3)]
          by_cases h4 : low > high
          · rw [if_pos (by simpa using h4)]
          · rw [if_neg (by simpa using h4)]
            by_cases h5 : high > 1000
            · rw [if_pos (by simpa using h5)]
            · rw [if_neg (by simpa using h5)]
              by_cases h6 : most < 0
              · rw [if_pos (by simpa using h6)]
              · rw [if_neg (by simpa using h6), decide_eq_true (by omega), no]
  · have hin := refChoose_in h
    rw [if_neg h]
    unfold outR at h
    rw [if_neg (by simp only [decide_eq_true_eq]; omega), if_neg (by simp only [decide_eq_true_eq]; omega), if_neg (by simp only [decide_eq_true_eq]; omega), if_neg (by simp only [decide_eq_true_eq]; omega), if_neg (by simp only [decide_eq_true_eq]; omega), if_neg (by simp only [decide_eq_true_eq]; omega), decide_eq_false (by omega), hin]
theorem take_snoc' {l : List Int} {i : Nat} (h : i < l.length) : l.take (i + 1) = l.take i ++ [l.getD i 0] := by
  rw [List.take_add_one, List.getD_eq_getElem?_getD, List.getElem?_eq_getElem h]
  rfl
theorem refcount_loop {l : List Int} (hl : l.length ≤ 64) {k : Nat} (hk : k < l.length) : loop (fun v : Int × Int => rl_ref15_Unique_l3 l (k : Int) v.1 v.2) (0, 0) = some ((l.count (l.getD k 0) : Nat) : Int) := by
  refine loop_for (fun i => ((((l.take i).count (l.getD k 0) : Nat) : Int), (i : Int))) l.length _ (fun i hi => ?_) ?_ (by simp)
  · have hc : (l.take i).count (l.getD k 0) ≤ i := Nat.le_trans List.count_le_length (by rw [List.length_take]; omega)
    simp only [rl_ref15_Unique_l3, Int.toNat_natCast, rl_ref15_Unique_k4]
    rw [if_pos (by simp only [decide_eq_true_eq]; omega), if_pos (by omega), if_pos (by omega), if_pos (by omega), if_pos (by omega), take_snoc' hi, List.count_append, List.count_singleton, wi64 (n := (i : Int) + 1) (by omega) (by omega)]
    by_cases h : (l.getD i 0 == l.getD k 0) = true
    · rw [if_pos h, if_pos h, wi64 (by omega) (by omega)]
      rfl
    · rw [if_neg h, if_neg h]
      rfl
  · simp only [rl_ref15_Unique_l3]
    rw [if_neg (by simp), List.take_length]
theorem refUnique_eq (l : List Int) : rl_ref15_Unique l = some (if 64 < l.length then (0, 0, 1) else if UnR l then (UnS l, l.sum, 0) else (0, 0, 2)) := by
  unfold rl_ref15_Unique
  by_cases h : 64 < l.length
  · rw [if_pos (by simp only [decide_eq_true_eq]; omega), if_pos h]
  · rw [if_neg (by simp only [decide_eq_true_eq]; omega), if_neg h]
    obtain ⟨t, h1, h2⟩ := loop_inv (step := fun v : Int × Int × Int => rl_ref15_Unique_l1 l v.1 v.2.1 v.2.2) l.length
      (fun i s => s.1 = ((l.take i).filter fun x => decide (l.count x = 1)).sum ∧ s.2.1 = (l.take i).sum ∧ s.2.2 = (i : Int) ∧ UnR (l.take i))
      (fun t => (t = .inl (UnS l, l.sum) ∧ UnR l) ∨ (t = .inr () ∧ ¬ UnR l)) (by
        rintro i hi ⟨a, b, c⟩ ⟨s1, s2, s3, s4⟩
        simp only at s1 s2 s3 s4
        subst s3
        have hb := s4.sum
        have hli : (l.take i).length ≤ 64 := by rw [List.length_take]; omega
        have hf : UnR ((l.take i).filter fun x => decide (l.count x = 1)) := fun x hx => s4 x (List.mem_filter.1 hx).1
        have ha := hf.sum
        have hfl : ((l.take i).filter fun x => decide (l.count x = 1)).length ≤ (l.take i).length := List.length_filter_le _ _
        have hm : l.getD i 0 ∈ l := by rw [List.getD_eq_getElem?_getD, List.getElem?_eq_getElem hi]; exact List.getElem_mem hi
        simp only [rl_ref15_Unique_l1, Int.toNat_natCast]
        rw [if_pos (by simp only [decide_eq_true_eq]; omega), if_pos (by omega), if_pos (by omega)]
        by_cases g1 : l.getD i 0 < 0
        · right
          rw [if_pos (by simpa using g1)]
          exact ⟨_, rfl, .inr ⟨rfl, fun k => by have := k _ hm; omega⟩⟩
        · rw [if_neg (by simpa using g1)]
          unfold rl_ref15_Unique_k2
          by_cases g2 : l.getD i 0 > 1048576
          · right
            rw [if_pos (by simpa using g2)]
            exact ⟨_, rfl, .inr ⟨rfl, fun k => by have := k _ hm; omega⟩⟩
          · left
            have h4 : UnR (l.take (i + 1)) := fun x hx => by
              rw [take_snoc' hi] at hx
              rcases List.mem_append.1 hx with hx | hx
              · exact s4 x hx
              · rw [List.mem_singleton.1 hx]; omega
            rw [if_neg (by simpa using g2), refcount_loop (by omega) hi, bind1_pure]
            unfold rl_ref15_Unique_k5
            simp only [Int.toNat_natCast]
            by_cases g3 : l.count (l.getD i 0) = 1
            · rw [if_pos (by rw [g3]; rfl), if_pos (by omega), if_pos (by omega), if_pos (by omega), if_pos (by omega), wi64 (n := b + _) (by omega) (by omega), wi64 (n := a + _) (by omega) (by omega), wi64 (n := (i : Int) + 1) (by omega) (by omega)]
              refine ⟨_, rfl, ?_, ?_, rfl, h4⟩
              · simp only
                rw [take_snoc' hi, List.filter_append, List.sum_append, List.filter_cons, if_pos (decide_eq_true g3), List.filter_nil, ← s1]
                simp
              · simp only
                rw [take_snoc' hi, List.sum_append, ← s2]
                simp
            · rw [if_neg (by simp only [beq_iff_eq]; omega), if_pos (by omega), if_pos (by omega), wi64 (n := b + _) (by omega) (by omega), wi64 (n := (i : Int) + 1) (by omega) (by omega)]
              refine ⟨_, rfl, ?_, ?_, rfl, h4⟩
              · simp only
                rw [take_snoc' hi, List.filter_append, List.sum_append, List.filter_cons, if_neg (by simpa using g3), List.filter_nil, ← s1]
                simp
              · simp only
                rw [take_snoc' hi, List.sum_append, ← s2]
                simp) (by
        rintro ⟨a, b, c⟩ ⟨s1, s2, s3, s4⟩
        simp only at s1 s2 s3 s4
        subst s3
        rw [List.take_length] at s1 s2 s4
        simp only [rl_ref15_Unique_l1]
        rw [if_neg (by simp)]
        exact ⟨_, rfl, .inl ⟨by rw [s1, s2]; rfl, s4⟩⟩) (s := (0, 0, 0)) ⟨by simp, by simp, rfl, fun x hx => by simp at hx⟩
    rw [h1]
    rcases h2 with ⟨rfl, h3⟩ | ⟨rfl, h3⟩
    · rw [bindE_l, if_pos h3]; rfl
    · rw [bindE_r, if_neg h3]; rfl
theorem Unique_eq (l : List Int) : risk_Unique l = some (if 64 < l.length then (0, 0, 1) else if UnR l then (UnS l, l.sum, 0) else (0, 0, 2)) := by
  unfold risk_Unique
  by_cases h : 64 < l.length
  · rw [if_pos h, if_pos h]
  · rw [if_neg h, if_neg h]
    by_cases h1 : UnR l
    · rw [if_pos h1, if_pos h1]
    · rw [if_neg h1, if_neg h1]
theorem exact_law (p0 : List Int) (p1 : S_api_Parameters) (p2 : Int) (p3 : List Int) (p4 p5 p6 : Int) : rl_law15_RiskExact p0 p1 p2 p3 p4 p5 p6 = some true := by
  unfold rl_law15_RiskExact
  rw [awake15, bind1_pure, if_neg (by decide)]
  have no : rl_law15_RiskExact_k1 p0 p1 p2 p3 p4 p5 p6 true = some true := by
    unfold rl_law15_RiskExact_k1
    rw [if_pos rfl, awake15, bind1_pure]
  unfold rl_make_Few
  rw [bind1_pure]
  by_cases hp : p0.length ≤ 400
  rotate_left
  · rw [decide_eq_false (by omega), if_pos (by decide), no]
  rw [decide_eq_true (by omega), if_neg (by decide)]
  by_cases h3 : (p3.length : Int) > 80
  · rw [decide_eq_true h3, no]
  rw [decide_eq_false h3]
  unfold rl_law15_RiskExact_k1
  obtain ⟨d, he, hd⟩ := new_yes hp
  rw [if_neg (by decide), he, bind1_pure]
  obtain ⟨l, d1, e1, l1, -, hd1⟩ := params_yes hd
  rw [e1, bind2_pure, if_pos (by omega)]
  obtain ⟨t, e2, ⟨a, b, c⟩, rfl, ht⟩ := loop_inv (step := fun v : Int × (List Int) × Int × Int => rl_law15_RiskExact_l2 p1 p2 l v.1 v.2.1 v.2.2.1 v.2.2.2) 3
    (fun i s => s.1 = (i : Int) ∧ DeckOk ⟨s.2.1, s.2.2.1, s.2.2.2⟩) (fun t => ∃ u : (List Int) × Int × Int, t = .inl u ∧ DeckOk ⟨u.1, u.2.1, u.2.2⟩) (by
      rintro i hi ⟨j, a, b, c⟩ ⟨s1, s2⟩
      simp only at s1 s2
      subst s1
      left
      simp only [rl_law15_RiskExact_l2]
      rw [if_pos (by simp; omega), if_pos (by omega), if_pos (by simp; omega)]
      obtain ⟨y, d2, e3, _, _, hd2⟩ := next_yes s2 (n := 30) (by decide) (by decide)
      rw [e3, bind2_pure]
      have hin : loop (fun v : Int => rl_law15_RiskExact_l3 p1 p2 l (i : Int) y v) 0 = some (.inl ()) := by
        refine loop_for (fun m => (m : Int)) 4 _ (fun m hm => ?_) ?_ rfl
        · unfold rl_law15_RiskExact_l3
          rw [if_pos (by simp; omega), if_pos (by omega), if_pos (by simp; omega)]
          generalize ([p1, (l.getD (0 + 0) dS_api_Parameters), (⟨512, 16, (-1)⟩ : S_api_Parameters)] : List S_api_Parameters).getD (0 + (i : Int).toNat) dS_api_Parameters = P
          generalize ([p2, y, 80, 81] : List Int).getD (0 + (m : Int).toNat) 0 = K
          rw [Empty_eq, refEmpty_eq, Fill_eq, refFill_eq, Collision_eq, refCollision_eq]
          generalize (if ckS P K = 0 then (((empS P K : Nat) : Int), (0 : Int)) else (0, ckS P K)) = X1
          generalize (if ckS P K = 0 then (((filS (empS P K) : Nat) : Int), (0 : Int)) else (0, ckS P K)) = X2
          generalize (if ckS P K = 0 then (((colS (empS P K) P.Hashes.toNat : Nat) : Int), (0 : Int)) else (0, ckS P K)) = X3
          obtain ⟨x1, x2⟩ := X1
          obtain ⟨x3, x4⟩ := X2
          obtain ⟨x5, x6⟩ := X3
          rw [bind2_pure, bind2_pure, bind2_pure, bind2_pure, bind2_pure, bind2_pure]
          simp only [bne_self_eq_false, Bool.false_eq_true, if_false]
          unfold rl_law15_RiskExact_k4
          rw [if_neg (by decide), wi64 (by omega) (by omega)]
          rfl
        · unfold rl_law15_RiskExact_l3
          rw [if_neg (by simp)]
      rw [hin, bindE_l]
      unfold rl_law15_RiskExact_a5
      rw [wi64 (by omega) (by omega)]
      exact ⟨_, rfl, rfl, hd2⟩) (by
      rintro ⟨j, a, b, c⟩ ⟨s1, s2⟩
      simp only at s1 s2
      subst s1
      simp only [rl_law15_RiskExact_l2]
      rw [if_neg (by simp)]
      exact ⟨_, rfl, _, rfl, s2⟩) (s := (0, d1.list, d1.at_, d1.state)) ⟨rfl, hd1⟩
  rw [e2, bindE_l]
  unfold rl_law15_RiskExact_a15
  obtain ⟨y1, f1, g1, -, -, hf1⟩ := next_yes ht (n := 4) (by decide) (by decide)
  obtain ⟨y2, f2, g2, -, -, hf2⟩ := next_yes hf1 (n := 4) (by decide) (by decide)
  obtain ⟨y3, f3, g3, -, -, hf3⟩ := next_yes hf2 (n := 4) (by decide) (by decide)
  obtain ⟨y4, f4, g4, -, -, hf4⟩ := next_yes hf3 (n := 9) (by decide) (by decide)
  rw [g1, bind2_pure, g2, bind2_pure, g3, bind2_pure, g4, bind2_pure]
  have h7 : loop (fun v : Int => rl_law15_RiskExact_l7 p3 y1 y2 y3 y4 v) 0 = some (.inl ()) := by
    refine loop_for (fun m => (m : Int)) 2 _ (fun m hm => ?_) ?_ rfl
    · unfold rl_law15_RiskExact_l7
      rw [if_pos (by simp; omega), if_pos (by omega), if_pos (by simp; omega)]
      generalize ([p3, ([y1, y2, y3, y4] : List Int)] : List (List Int)).getD (0 + (m : Int).toNat) ([] : List Int) = L
      rw [Unique_eq, refUnique_eq]
      generalize (if 64 < L.length then ((0 : Int), (0 : Int), (1 : Int)) else if UnR L then (UnS L, L.sum, 0) else (0, 0, 2)) = X
      obtain ⟨x1, x2, x3⟩ := X
      rw [bind3_pure, bind3_pure]
      simp only [bne_self_eq_false, Bool.false_eq_true, if_false]
      unfold rl_law15_RiskExact_k8
      rw [if_neg (by decide), wi64 (by omega) (by omega)]
      rfl
    · unfold rl_law15_RiskExact_l7
      rw [if_neg (by simp)]
  rw [h7, bindE_l]
  unfold rl_law15_RiskExact_a13
  obtain ⟨z1, f5, g5, -, -, hf5⟩ := next_yes hf4 (n := 900) (by decide) (by decide)
  obtain ⟨z2, f6, g6, -, -, hf6⟩ := next_yes hf5 (n := 20) (by decide) (by decide)
  obtain ⟨z3, f7, g7, -, -, hf7⟩ := next_yes hf6 (n := 200) (by decide) (by decide)
  obtain ⟨z4, f8, g8, -, -, hf8⟩ := next_yes hf7 (n := 1000001) (by decide) (by decide)
  rw [g5, bind2_pure, g6, bind2_pure, g7, bind2_pure, g8, bind2_pure]
  have h9 : loop (fun v : Int => rl_law15_RiskExact_l9 p2 p4 p5 p6 z1 z2 z3 z4 v) 0 = some (.inl ()) := by
    refine loop_for (fun m => (m : Int)) 3 _ (fun m hm => ?_) ?_ rfl
    · unfold rl_law15_RiskExact_l9
      rw [if_pos (by simp; omega), if_pos (by omega), if_pos (by simp; omega)]
      generalize ([[p2, p4, p5, p6], [z2, z1, i64.wrap (z1 + z3), z4], [5, 0, 1000, 1000000]] : List (List Int)).getD (0 + (m : Int).toNat) (List.replicate 4 (0 : Int)) = L
      rw [ChooseA_eq, refChoose_eq]
      generalize chooseA (L.getD 0 0) (L.getD 1 0) (L.getD 2 0) (L.getD 3 0) = X
      obtain ⟨⟨x1, x2, x3⟩, x4⟩ := X
      rw [bind2_pure, bind2_pure]
      simp only [beq_self_eq_true, Bool.and_true, Bool.not_true, Bool.false_eq_true, if_false, bne_self_eq_false]
      unfold rl_law15_RiskExact_k10
      rw [if_neg (by decide), wi64 (by omega) (by omega)]
      rfl
    · unfold rl_law15_RiskExact_l9
      rw [if_neg (by simp)]
  rw [h9, bindE_l]
  rfl
end Go.Proofs.Ytfnojcalalncbaa
