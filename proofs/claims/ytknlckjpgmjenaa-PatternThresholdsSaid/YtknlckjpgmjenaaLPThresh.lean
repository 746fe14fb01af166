/- Plain: the law PatternThresholds. -/
import Derived.Test.YtknlckjpgmjenaaPd
import Derived.Test.YtknlckjpgmjenaaGL9
namespace Go.Proofs.Ytknlckjpgmjenaa
open Vm
open IntKind (i64 u64 u32 u8)
set_option linter.unusedVariables false
set_option linter.unusedSimpArgs false
/-- how many patterns have outcome k for field f -/
def mk (f k : Nat) (ps : List Nat) : Nat := ps.countP fun p => decide (p / 3 ^ f % 3 = k)
def mkB (f k i : Nat) (ps : List Nat) : Nat := ps.countP fun p => decide (p < i ∧ p / 3 ^ f % 3 = k)
theorem mkB_zero (f k : Nat) (ps : List Nat) : mkB f k 0 ps = 0 := by
  unfold mkB
  rw [List.countP_eq_zero]
  intro p _ h
  have := (of_decide_eq_true h).1
  omega
theorem mkB_succ (f k i : Nat) : ∀ ps : List Nat, mkB f k (i + 1) ps = mkB f k i ps + (if i / 3 ^ f % 3 = k then ps.count i else 0)
  | [] => by unfold mkB; simp
  | p :: ps => by
    have ih := mkB_succ f k i ps
    unfold mkB at ih ⊢
    rw [List.countP_cons, List.countP_cons, ih, List.count_cons]
    by_cases h1 : p = i
    · subst h1
      by_cases h2 : p / 3 ^ f % 3 = k
      · simp [h2]; omega
      · simp [h2]
    · by_cases h2 : p / 3 ^ f % 3 = k
      · by_cases h3 : p < i
        · have : p < i + 1 := by omega
          simp [h1, h2, h3, this]; omega
        · have : ¬ p < i + 1 := by omega
          simp [h1, h2, h3, this]
      · simp [h1, h2]
theorem mkB_all {f k m : Nat} {ps : List Nat} (h : ∀ p ∈ ps, p < m) : mkB f k m ps = mk f k ps := by
  unfold mkB mk
  refine List.countP_congr fun p hp => ?_
  have := h p hp
  simp only [decide_eq_true_eq]
  omega
theorem marginal_cnt {n f : Nat} {ps : List Nat} (h1 : 1 ≤ n) (h5 : n ≤ 5) (hf : f < n) (hp : ∀ p ∈ ps, p < 3 ^ n) (hl : ps.length ≤ 4096) : pattern_Marginal (cntL (3 ^ n) ps) (n : Int) (f : Int) = some ([((mk f 0 ps : Nat) : Int), ((mk f 1 ps : Nat) : Int), ((mk f 2 ps : Nat) : Int)], 0) := by
  have hc := cv_cnt hp hl
  have h3 := pow3_le h5
  have hq := pow3_le (show f ≤ 5 by omega)
  have hlen := cntL_length (3 ^ n) ps
  have main : pattern_Marginal_k2 (cntL (3 ^ n) ps) ((3 ^ f : Nat) : Int) = some ([((mk f 0 ps : Nat) : Int), ((mk f 1 ps : Nat) : Int), ((mk f 2 ps : Nat) : Int)], 0) := by
    unfold pattern_Marginal_k2
    rw [loop_for (step := fun v : Int × (List Int) => pattern_Marginal_l3 (cntL (3 ^ n) ps) ((3 ^ f : Nat) : Int) v.1 v.2) (fun i => ((i : Int), [((mkB f 0 i ps : Nat) : Int), ((mkB f 1 i ps : Nat) : Int), ((mkB f 2 i ps : Nat) : Int)])) (3 ^ n) ([((mk f 0 ps : Nat) : Int), ((mk f 1 ps : Nat) : Int), ((mk f 2 ps : Nat) : Int)]) (fun i hi => by
        have c0 : mkB f 0 i ps ≤ ps.length := List.countP_le_length
        have c1 : mkB f 1 i ps ≤ ps.length := List.countP_le_length
        have c2 : mkB f 2 i ps ≤ ps.length := List.countP_le_length
        have c3 : ps.count i ≤ ps.length := List.count_le_length
        simp only [pattern_Marginal_l3, hlen, mkB_succ]
        have hd : (i : Int) / ((3 ^ f : Nat) : Int) = ((i / 3 ^ f : Nat) : Int) := by rw [Int.natCast_ediv]
        have hd1 : i / 3 ^ f ≤ i := Nat.div_le_self _ _
        rw [if_pos (by simp only [decide_eq_true_eq]; omega), if_pos (by omega), if_pos (by omega), if_pos (by omega), tdiv_nn (by omega), hd]
        generalize i / 3 ^ f = q at hd1 ⊢
        have hu : (q : Int) % 3 = ((q % 3 : Nat) : Int) := by omega
        rw [wi64 (n := (q : Int)) (by omega) (by omega), tmod_nn (by omega), hu, Int.toNat_natCast, Int.toNat_natCast, Nat.zero_add, cntL_get hi, wi64 (n := (i : Int) + 1) (by omega) (by omega)]
        have hlt : q % 3 < 3 := Nat.mod_lt _ (by decide)
        rw [if_pos (by omega), if_pos (by omega), if_pos (by simp)]
        generalize q % 3 = u at hlt ⊢
        have : u = 0 ∨ u = 1 ∨ u = 2 := by omega
        rcases this with rfl | rfl | rfl <;> simp only [List.getD_cons_zero, List.getD_cons_succ, List.set_cons_zero, List.set_cons_succ] <;> rw [wi64 (by omega) (by omega)] <;> simp) (by
        simp only [pattern_Marginal_l3, hlen]
        rw [if_neg (by simp), mkB_all hp, mkB_all hp, mkB_all hp]) (s := (0, [0, 0, 0])) (by simp only [mkB_zero]; rfl), bind1_pure]
  unfold pattern_Marginal
  rw [pcheck_yes h1 h5 hc, bind1_pure, if_neg (by decide), if_neg (by simp only [decide_eq_true_eq]; omega), decide_eq_false (by omega)]
  unfold pattern_Marginal_k1
  rw [if_neg (by decide)]
  by_cases h0 : f = 0
  · subst h0
    rw [show (if (1 : Int) > ((0 : Nat) : Int) then (1 : Int) else ((0 : Nat) : Int)) = ((1 : Nat) : Int) from rfl, psize_eq (by decide) (by decide), bind2_pure, if_pos (by decide)]
    exact main
  · rw [if_neg (by omega), psize_eq (by omega) (by omega), bind2_pure, if_neg (by rw [beq_iff_eq]; omega)]
    exact main
theorem num3_digit : ∀ {l : List Int} {f : Nat}, (∀ x ∈ l, 0 ≤ x ∧ x ≤ 2) → f < l.length → num3 l / ((3 ^ f : Nat) : Int) % 3 = l.getD f 0
  | [], f, _, h => by simp at h
  | d :: l, 0, hl, _ => by
    have := hl d List.mem_cons_self
    simp only [num3, List.getD_cons_zero]
    simp
    omega
  | d :: l, f + 1, hl, h => by
    have hd := hl d List.mem_cons_self
    have ih := num3_digit (l := l) (f := f) (fun x hx => hl x (List.mem_cons_of_mem _ hx)) (by simpa using h)
    simp only [num3, List.getD_cons_succ]
    rw [← ih, Nat.pow_succ, Nat.mul_comm, Int.natCast_mul, ← Int.ediv_ediv_of_nonneg (by omega)]
    congr 2
    show (d + 3 * num3 l) / 3 = num3 l
    omega
theorem patC_digit {ts : List Int} {a b : List S_api_Encoded} {c : S_api_Couple} {n f : Nat} (hn : ts.length = n) (hf : f < n) (hx : (recOf a c.A).Fields.length = n) (hy : (recOf b c.B).Fields.length = n) :
    ((patC ts a b c / 3 ^ f % 3 : Nat) : Int) = outc (ts.getD f 0) ((List.zipWith simB (recOf a c.A).Fields (recOf b c.B).Fields).getD f 0) := by
  have hz : (List.zipWith simB (recOf a c.A).Fields (recOf b c.B).Fields).length = n := by rw [List.length_zipWith, hx, hy, Nat.min_self]
  have h := num3_digit (f := f) (zip_all (f := outc) outc_range (l := ts) (k := List.zipWith simB (recOf a c.A).Fields (recOf b c.B).Fields)) (by rw [List.length_zipWith]; omega)
  rw [patN_int] at h
  have e : (List.zipWith outc ts (List.zipWith simB (recOf a c.A).Fields (recOf b c.B).Fields)).getD f 0 = outc (ts.getD f 0) ((List.zipWith simB (recOf a c.A).Fields (recOf b c.B).Fields).getD f 0) := by
    rw [List.getD_eq_getElem?_getD, List.getElem?_eq_getElem (by rw [List.length_zipWith]; omega), List.getElem_zipWith, Option.getD_some, List.getD_eq_getElem?_getD, List.getElem?_eq_getElem (by omega), List.getD_eq_getElem?_getD, List.getElem?_eq_getElem (by omega)]
    rfl
  rw [← e, ← h]
  unfold patC
  simp
theorem mk_map {f k : Nat} {cs : List S_api_Couple} {g : S_api_Couple → Nat} : mk f k (cs.map g) = cs.countP fun c => decide (g c / 3 ^ f % 3 = k) := by
  unfold mk
  rw [List.countP_map]
  rfl
theorem thresholds_law (p : List Int) : rl_law23_PatternThresholds p = some true := by
  unfold rl_law23_PatternThresholds
  rw [awake23]
  simp only [Option.bind_some, Bool.not_true, Bool.false_eq_true, if_false, rl_make_Few]
  by_cases hp : p.length ≤ 400
  rotate_left
  · rw [decide_eq_false (by omega : ¬ ((p.length : Nat) : Int) ≤ 400)]
    simp only [Bool.not_false, rl_law23_PatternThresholds_k1, if_true, awake23, Option.bind_some]
  rw [decide_eq_true (by omega : ((p.length : Nat) : Int) ≤ 400)]
  simp only [Bool.not_true, rl_law23_PatternThresholds_k1, Bool.false_eq_true, if_false]
  obtain ⟨d, he, hd⟩ := new_yes hp
  rw [he]; clear he; simp only [Option.bind_some]
  obtain ⟨x0, d1, he, x0a, x0b, hd1⟩ := next_yes hd (n := 3) (by decide) (by decide)
  rw [he]; clear he; first | rw [bind2_pure] | rw [bind3_pure] | rw [bind4_pure] | rw [bind1_pure]
  obtain ⟨n, hn⟩ : ∃ n : Nat, 1 + x0 = n := ⟨(1 + x0).toNat, by omega⟩
  have hw : IntKind.i64.wrap (1 + x0) = (n : Int) := by rw [wi64 (n := 1 + x0) (by omega) (by omega), hn]
  rw [hw]
  obtain ⟨a, d2, e2, la, ha, hd2⟩ := records_yes hd1 (n := n) (m := 5) (by omega) (by decide)
  rw [show (5 : Int) = ((5 : Nat) : Int) from rfl, e2, bind2_pure]
  obtain ⟨b, d3, e3, lb, hb, hd3⟩ := records_yes hd2 (n := n) (m := 5) (by omega) (by decide)
  rw [e3, bind2_pure]
  obtain ⟨cs, d4, e4, lc, hc, hd4⟩ := couples_yes hd3 (a := a) (b := b) (by omega) (by omega) (m := 12) (by decide)
  have e4' : rl_law23_couples d3 a b 12 = some (cs, d4) := e4
  rw [e4', bind2_pure]
  obtain ⟨⟨hi, lo⟩, e5, h1, h2, h3, h4, h5⟩ := loop_inv (step := fun v : (List Int) × (List Int) × Int × (List Int) × Int × Int => rl_law23_PatternThresholds_l2 x0 v.1 v.2.1 v.2.2.1 v.2.2.2.1 v.2.2.2.2.1 v.2.2.2.2.2) n
    (fun i s => s.1.length = i ∧ s.2.1.length = i ∧ s.2.2.1 = (i : Int) ∧ (∀ x ∈ s.1, 0 ≤ x ∧ x ≤ 1000) ∧ (∀ x ∈ s.2.1, 0 ≤ x ∧ x ≤ 1000) ∧ (∀ j, j < i → s.2.1.getD j 0 ≤ s.1.getD j 0) ∧ DeckOk ⟨s.2.2.2.1, s.2.2.2.2.1, s.2.2.2.2.2⟩)
    (fun t : (List Int) × (List Int) => t.1.length = n ∧ t.2.length = n ∧ (∀ x ∈ t.1, 0 ≤ x ∧ x ≤ 1000) ∧ (∀ x ∈ t.2, 0 ≤ x ∧ x ≤ 1000) ∧ ∀ j, j < n → t.2.getD j 0 ≤ t.1.getD j 0) (by
      rintro i hi' ⟨u, v, k, q1, q2, q3⟩ ⟨s1, s2, s3, s4, s5, s6, s7⟩
      left
      simp only [rl_law23_PatternThresholds_l2] at s1 s2 s3 s4 s5 s6 s7 ⊢
      subst s3
      rw [hw, if_pos (by simp only [decide_eq_true_eq]; omega)]
      obtain ⟨t, d5, he, t0, t1, hd5⟩ := next_yes s7 (n := 1001) (by decide) (by decide)
      rw [he]; clear he; first | rw [bind2_pure] | rw [bind3_pure] | rw [bind4_pure] | rw [bind1_pure]
      rw [if_pos (by simp; omega), wi64 (n := t + 1) (by omega) (by omega)]
      obtain ⟨t', d6, he, t0', t1', hd6⟩ := next_yes hd5 (n := t + 1) (by omega) (by omega)
      rw [he]; clear he; first | rw [bind2_pure] | rw [bind3_pure] | rw [bind4_pure] | rw [bind1_pure]
      rw [if_pos (by simp; omega), wi64 (n := (i : Int) + 1) (by omega) (by omega)]
      refine ⟨_, rfl, by simp [s1], by simp [s2], rfl, snoc_all s4 (by omega), snoc_all s5 (by omega), fun j hj => ?_, hd6⟩
      rcases Nat.lt_or_eq_of_le (Nat.lt_succ_iff.1 hj) with h | rfl
      · have := s6 j h
        simp only [List.getD_eq_getElem?_getD] at this ⊢
        rw [List.getElem?_append_left (by omega), List.getElem?_append_left (by omega)]
        exact this
      · simp only [List.getD_eq_getElem?_getD]
        rw [List.getElem?_append_right (by omega), List.getElem?_append_right (by omega), s1, s2, Nat.sub_self]
        show t' ≤ t
        omega) (by
      rintro ⟨u, v, k, q1, q2, q3⟩ ⟨s1, s2, s3, s4, s5, s6, s7⟩
      simp only [rl_law23_PatternThresholds_l2] at s1 s2 s3 s4 s5 s6 s7 ⊢
      subst s3
      rw [hw, if_neg (by simp only [decide_eq_true_eq]; omega)]
      exact ⟨_, rfl, s1, s2, s4, s5, s6⟩) (s := (([] : List Int), ([] : List Int), 0, d4.list, d4.at_, d4.state)) ⟨rfl, rfl, rfl, by simp, by simp, fun j hj => absurd hj (by omega), hd4⟩
  simp only at h1 h2 h3 h4 h5
  rw [e5, bind2_pure, tally_dealt (by omega) (by omega) h1 h3 ha hb (by omega) (by omega) hc (by omega), bind2_pure, tally_dealt (by omega) (by omega) h2 h4 ha hb (by omega) (by omega) hc (by omega), bind2_pure, if_neg (by decide)]
  unfold rl_law23_PatternThresholds_k3
  rw [if_neg (by decide)]
  have pl : ∀ ts : List Int, ts.length = n → ∀ q ∈ cs.map (patC ts a b), q < 3 ^ n := fun ts ht q hq => by
    obtain ⟨c, _, rfl⟩ := List.mem_map.1 hq
    rw [← ht]
    exact patC_lt
  rw [loop_for (step := fun v : Int => rl_law23_PatternThresholds_l4 x0 (cntL (3 ^ n) (cs.map (patC hi a b))) (cntL (3 ^ n) (cs.map (patC lo a b))) v) (fun i => (i : Int)) n (.inl ()) (fun f hf => by
      have m1 := marginal_cnt (by omega) (by omega) hf (pl hi h1) (by simp; omega)
      have m2 := marginal_cnt (by omega) (by omega) hf (pl lo h2) (by simp; omega)
      have dig : ∀ (ts : List Int) (ht : ts.length = n) (c : S_api_Couple), c ∈ cs → ((patC ts a b c / 3 ^ f % 3 : Nat) : Int) = outc (ts.getD f 0) ((List.zipWith simB (recOf a c.A).Fields (recOf b c.B).Fields).getD f 0) := fun ts ht c hcm =>
        patC_digit ht hf (ha _ (recOf_mem (hc c hcm).1)).1 (hb _ (recOf_mem (hc c hcm).2)).1
      have hle := h5 f hf
      have k2 : mk f 2 (cs.map (patC hi a b)) ≤ mk f 2 (cs.map (patC lo a b)) := by
        rw [mk_map, mk_map]
        refine List.countP_mono_left fun c hcm h => ?_
        have e1 := dig hi h1 c hcm
        have e2 := dig lo h2 c hcm
        have h := of_decide_eq_true h
        rw [h] at e1
        refine decide_eq_true ?_
        unfold outc at e1 e2
        by_cases g1 : (List.zipWith simB (recOf a c.A).Fields (recOf b c.B).Fields).getD f 0 < 0
        · rw [if_pos g1] at e1; omega
        · by_cases g2 : (List.zipWith simB (recOf a c.A).Fields (recOf b c.B).Fields).getD f 0 < hi.getD f 0
          · rw [if_neg g1, if_pos g2] at e1; omega
          · rw [if_neg g1, if_neg (by omega)] at e2
            omega
      have k0 : mk f 0 (cs.map (patC hi a b)) = mk f 0 (cs.map (patC lo a b)) := by
        rw [mk_map, mk_map]
        refine List.countP_congr fun c hcm => ?_
        have e1 := dig hi h1 c hcm
        have e2 := dig lo h2 c hcm
        simp only [decide_eq_true_eq]
        unfold outc at e1 e2
        by_cases g1 : (List.zipWith simB (recOf a c.A).Fields (recOf b c.B).Fields).getD f 0 < 0
        · rw [if_pos g1] at e1 e2; omega
        · rw [if_neg g1] at e1 e2
          have e3 : ((patC hi a b c / 3 ^ f % 3 : Nat) : Int) ≠ 0 := by rw [e1]; split <;> decide
          have e4 : ((patC lo a b c / 3 ^ f % 3 : Nat) : Int) ≠ 0 := by rw [e2]; split <;> decide
          omega
      unfold rl_law23_PatternThresholds_l4
      rw [hw, if_pos (by simp only [decide_eq_true_eq]; omega), m1, bind2_pure, m2, bind2_pure, if_neg (by decide), if_neg (by decide)]
      simp only [List.getD_cons_zero, List.getD_cons_succ]
      rw [if_neg (by simp only [decide_eq_true_eq]; omega), k0]
      unfold rl_law23_PatternThresholds_k5
      rw [if_neg (by simp), wi64 (n := (f : Int) + 1) (by omega) (by omega)]
      rfl) (by
      unfold rl_law23_PatternThresholds_l4
      rw [hw, if_neg (by simp only [decide_eq_true_eq]; omega)]) (s := 0) rfl, bindE_l]
  rfl
end Go.Proofs.Ytknlckjpgmjenaa
