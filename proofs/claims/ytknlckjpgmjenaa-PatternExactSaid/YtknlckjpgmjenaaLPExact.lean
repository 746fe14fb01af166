/- Plain: the law PatternExact. -/
import Derived.Test.YtknlckjpgmjenaaPx
import Derived.Test.YtknlckjpgmjenaaGL10
namespace Go.Proofs.Ytknlckjpgmjenaa
open Vm
open IntKind (i64 u64 u32 u8)
set_option linter.unusedVariables false
set_option linter.unusedSimpArgs false
def RecT (l : List S_api_Encoded) : Prop := (∀ y ∈ l, (IntKind.i64.min ≤ y.ID ∧ y.ID ≤ IntKind.i64.max) ∧ (IntKind.i64.min ≤ y.Version ∧ y.Version ≤ IntKind.i64.max) ∧ ((∀ y1 ∈ y.Fields, (IntKind.i64.min ≤ y1.Length ∧ y1.Length ≤ IntKind.i64.max) ∧ ((∀ y2 ∈ y1.Words, IntKind.u64.min ≤ y2 ∧ y2 ≤ IntKind.u64.max) ∧ y1.Words.length ≤ maxLen) ∧ True) ∧ y.Fields.length ≤ maxLen) ∧ True) ∧ l.length ≤ maxLen
theorem RecT.wf {l : List S_api_Encoded} (h : RecT l) {x : S_api_Encoded} (hx : x ∈ l) : WF x.Fields := fun b hb w hw => by
  have h1 := ((h.1 x hx).2.2.1.1 b hb).2.1.1 w hw
  have e1 : IntKind.u64.min = 0 := by decide
  have e2 : IntKind.u64.max = 18446744073709551615 := by decide
  rw [e1, e2] at h1
  omega
theorem exact_law (p0 p1 p2 : List Int) (p3 : List S_api_Couple) (p4 p5 : List S_api_Encoded) (p6 : List Int) (p7 p8 : Int) (h4 : RecT p4) (h5 : RecT p5) : rl_law23_PatternExact p0 p1 p2 p3 p4 p5 p6 p7 p8 = some true := by
  have k1 : rl_law23_PatternExact_k1 p0 p1 p2 p3 p4 p5 p6 p7 p8 true = some true := by unfold rl_law23_PatternExact_k1; rw [if_pos rfl, awake23]; rfl
  unfold rl_law23_PatternExact
  rw [awake23, bind1_pure, if_neg (by decide)]
  unfold rl_make_Few
  by_cases c0 : p0.length ≤ 400
  rotate_left
  · rw [decide_eq_false (by omega : ¬ ((p0.length : Nat) : Int) ≤ 400), bind1_pure, if_pos (by decide), k1]
  rw [decide_eq_true (by omega : ((p0.length : Nat) : Int) ≤ 400), bind1_pure, if_neg (by decide)]
  by_cases c1 : p1.length ≤ 300
  rotate_left
  · rw [if_pos (by simp only [decide_eq_true_eq]; omega), k1]
  rw [if_neg (by simp only [decide_eq_true_eq]; omega)]
  by_cases c2 : p2.length ≤ 300
  rotate_left
  · rw [if_pos (by simp only [decide_eq_true_eq]; omega), k1]
  rw [if_neg (by simp only [decide_eq_true_eq]; omega)]
  by_cases c3 : p3.length ≤ 60
  rotate_left
  · rw [if_pos (by simp only [decide_eq_true_eq]; omega), k1]
  rw [if_neg (by simp only [decide_eq_true_eq]; omega)]
  by_cases c4 : p4.length ≤ 12
  rotate_left
  · rw [if_pos (by simp only [decide_eq_true_eq]; omega), k1]
  rw [if_neg (by simp only [decide_eq_true_eq]; omega)]
  by_cases c5 : p5.length ≤ 12
  rotate_left
  · rw [if_pos (by simp only [decide_eq_true_eq]; omega), k1]
  rw [if_neg (by simp only [decide_eq_true_eq]; omega)]
  by_cases c6 : p6.length ≤ 20
  rotate_left
  · rw [decide_eq_true (by omega : ((p6.length : Nat) : Int) > 20), k1]
  rw [decide_eq_false (by omega : ¬ ((p6.length : Nat) : Int) > 20)]
  clear k1
  unfold rl_law23_PatternExact_k1
  rw [if_neg (by decide), if_pos (by omega), if_pos (by simp; omega)]
  rw [scan_loop dS_api_Encoded (fun x => decide (x.Fields.length > 12)) (p4 ++ p5) (fun i => (i : Int)) (fun _ => ()) () (step := fun v : Int => rl_law23_PatternExact_l2 p4 p5 v) (fun i hi => by
      simp only [rl_law23_PatternExact_l2, List.nil_append, Int.toNat_natCast, Nat.zero_add]
      have hi2 := hi
      rw [List.length_append] at hi2
      rw [if_pos (by simp only [decide_eq_true_eq]; omega), if_pos (by omega), if_pos (by omega), wi64 (n := (i : Int) + 1) (by omega) (by omega)]
      by_cases b : ((p4 ++ p5).getD i dS_api_Encoded).Fields.length > 12
      · rw [if_pos (by simp only [decide_eq_true_eq]; omega), if_pos (by simp only [decide_eq_true_eq]; omega)]
      · rw [if_neg (by simp only [decide_eq_true_eq]; omega), if_neg (by simp only [decide_eq_true_eq]; omega)]
        rfl) (by
      simp only [rl_law23_PatternExact_l2, List.nil_append]
      rw [if_neg (by simp)])]
  cases hx : (p4 ++ p5).findIdx? (fun x => decide (x.Fields.length > 12)) with
  | some i => rfl
  | none =>
  simp only [bindE_l]
  have hf : ∀ x ∈ p4 ++ p5, x.Fields.length < 1000000 := fun x h => by
    have := List.findIdx?_eq_none_iff.1 hx x h
    rw [decide_eq_false_iff_not] at this
    omega
  have hw : ∀ x ∈ p4 ++ p5, WF x.Fields := fun x h => (List.mem_append.1 h).elim (fun k => h4.wf k) (fun k => h5.wf k)
  clear hx
  unfold rl_law23_PatternExact_a25
  obtain ⟨d, he, hd⟩ := new_yes c0
  rw [he, bind1_pure]
  clear he
  obtain ⟨x0, d1, he, x0a, x0b, hd1⟩ := next_yes hd (n := 3) (by decide) (by decide)
  rw [he]; clear he; first | rw [bind2_pure] | rw [bind3_pure] | rw [bind4_pure] | rw [bind1_pure]
  obtain ⟨n, hn⟩ : ∃ n : Nat, 1 + x0 = n := ⟨(1 + x0).toNat, by omega⟩
  have hwn : IntKind.i64.wrap (1 + x0) = (n : Int) := by rw [wi64 (n := 1 + x0) (by omega) (by omega), hn]
  rw [hwn]
  obtain ⟨a, d2, e2, la, ha, hd2⟩ := records_yes hd1 (n := n) (m := 5) (by omega) (by decide)
  rw [show (5 : Int) = ((5 : Nat) : Int) from rfl, e2, bind2_pure]
  obtain ⟨b, d3, e3, lb, hb, hd3⟩ := records_yes hd2 (n := n) (m := 5) (by omega) (by decide)
  rw [e3, bind2_pure]
  obtain ⟨z, d4, he, z0, z1, hd4⟩ := next_yes hd3 (n := 1001) (by decide) (by decide)
  rw [he]; clear he; first | rw [bind2_pure] | rw [bind3_pure] | rw [bind4_pure] | rw [bind1_pure]
  rw [if_pos (by omega), Int.toNat_natCast, if_pos (by simp; omega)]
  obtain ⟨cs, d5, e5, lc, hc, hd5⟩ := couples_yes hd4 (a := a) (b := b) (by omega) (by omega) (m := 12) (by decide)
  have e5' : rl_law23_couples d4 a b 12 = some (cs, d5) := e5
  rw [e5', bind2_pure]
  have hf2 : ∀ x ∈ a ++ b, x.Fields.length < 1000000 := fun x h => by
    rcases List.mem_append.1 h with k | k
    · have := (ha x k).1; omega
    · have := (hb x k).1; omega
  have hw2 : ∀ x ∈ a ++ b, WF x.Fields := fun x h => (List.mem_append.1 h).elim (fun k => (ha x k).wf) (fun k => (hb x k).wf)
  have l4 : ∀ y : Int, loop (fun v : Int => rl_law23_PatternExact_l4 p3 p4 p5 p6 x0 a b z cs y v) 0 = some (.inl ()) := fun y => by
    refine loop_for (fun i => (i : Int)) 2 _ (fun i hi => ?_) ?_ rfl
    · simp only [rl_law23_PatternExact_l4, hwn, Int.toNat_natCast]
      obtain ⟨ts, hts⟩ : ∃ ts, ([p6, ([500, 800, z] : List Int).take n] : List (List Int)).getD (0 + i) [] = ts := ⟨_, rfl⟩
      have htl : ts.length < 1000000 := by
        rw [← hts]
        have : i = 0 ∨ i = 1 := by omega
        rcases this with rfl | rfl
        · show p6.length < _; omega
        · show (([500, 800, z] : List Int).take n).length < _; simp; omega
      rw [hts]
      generalize ([p3, cs] : List (List S_api_Couple)).getD (0 + y.toNat) [] = ks
      obtain ⟨u1, f1, t1, t2, t3⟩ := tally_both (cs := ks) (a := p4) (b := p5) (ts := ts) (by omega) (by omega) htl hf hw
      obtain ⟨u2, f2, s1, s2, s3⟩ := tally_both (cs := ks) (a := a) (b := b) (ts := ts) (by omega) (by omega) htl hf2 hw2
      rw [if_pos (by simp; omega), if_pos (by omega), if_pos (by simp; omega), t1, bind2_pure, t2, bind2_pure, s1, bind2_pure, s2, bind2_pure, if_neg (by simp), if_neg (by simp), ints_eq t3, decide_eq_true rfl, bind1_pure, if_neg (by decide), ints_eq s3, decide_eq_true rfl, bind1_pure]
      unfold rl_law23_PatternExact_k5
      rw [if_neg (by decide), wi64 (n := (i : Int) + 1) (by omega) (by omega)]
      rfl
    · simp only [rl_law23_PatternExact_l4]
      rw [if_neg (by simp)]
  have l3 : loop (fun v : Int => rl_law23_PatternExact_l3 p3 p4 p5 p6 x0 a b z cs v) 0 = some (.inl ()) := by
    refine loop_for (fun i => (i : Int)) 2 _ (fun i hi => ?_) ?_ rfl
    · simp only [rl_law23_PatternExact_l3]
      rw [if_pos (by simp; omega), if_pos (by omega), if_pos (by simp; omega), l4, bindE_l]
      unfold rl_law23_PatternExact_a6
      rw [wi64 (n := (i : Int) + 1) (by omega) (by omega)]
      rfl
    · simp only [rl_law23_PatternExact_l3]
      rw [if_neg (by simp)]
  rw [l3, bindE_l]
  unfold rl_law23_PatternExact_a23
  obtain ⟨s, e, s1, s2⟩ : ∃ s e, pattern_Size p7 = some (s, e) ∧ rl_ref23_Size p7 = some (s, e) := ⟨_, _, psize_any p7, rsize_any p7⟩
  rw [s1, bind2_pure, s2, bind2_pure, if_neg (by simp), show (e != e) = false by simp]
  unfold rl_law23_PatternExact_k8
  rw [if_neg (by decide), hwn]
  obtain ⟨v, d6, e6, cv, hd6⟩ := counts_yes hd5 (n := n) (by omega)
  rw [e6, bind2_pure]
  obtain ⟨v', d7, e7, cv', hd7⟩ := counts_yes hd6 (n := n) (by omega)
  rw [e7, bind2_pure]
  have h3 := pow3_le (show n ≤ 5 by omega)
  have hv := cv.1
  have hP : ∀ i : Nat, i < 2 → (([p1, v] : List (List Int)).getD (0 + i) []).length ≤ 300 := fun i hi => by
    have : i = 0 ∨ i = 1 := by omega
    rcases this with rfl | rfl
    · show p1.length ≤ _; omega
    · show v.length ≤ _; omega
  have l11 : ∀ (i : Nat) (y : Int), i < 2 → loop (fun w : Int => rl_law23_PatternExact_l11 p1 p2 p7 x0 v v' (i : Int) y w) 0 = some (.inl ()) := fun i y hi => by
    refine loop_for (fun j => (j : Int)) 2 _ (fun j hj => ?_) ?_ rfl
    · simp only [rl_law23_PatternExact_l11, Int.toNat_natCast]
      obtain ⟨u, f, t1, t2, t3⟩ := add_both (x := ([p1, v] : List (List Int)).getD (0 + i) []) (y := ([p2, v'] : List (List Int)).getD (0 + j) []) (([p7, i64.wrap (1 + x0)] : List Int).getD (0 + y.toNat) 0) (hP i hi)
      rw [if_pos (by simp; omega), if_pos (by omega), if_pos (by simp; omega), t1, bind2_pure, t2, bind2_pure, if_neg (by simp), ints_eq t3, decide_eq_true rfl, bind1_pure]
      unfold rl_law23_PatternExact_k12
      rw [if_neg (by decide), wi64 (n := (j : Int) + 1) (by omega) (by omega)]
      rfl
    · simp only [rl_law23_PatternExact_l11]
      rw [if_neg (by simp)]
  have l13 : ∀ (i y q : Int), loop (fun w : Int => rl_law23_PatternExact_l13 p1 p7 p8 x0 v i y q w) 0 = some (.inl ()) := fun i y q => by
    refine loop_for (fun j => (j : Int)) 2 _ (fun j hj => ?_) ?_ rfl
    · simp only [rl_law23_PatternExact_l13, Int.toNat_natCast]
      obtain ⟨u, f, t1, t2⟩ := marg_both (([p1, v] : List (List Int)).getD (0 + i.toNat) []) (([p7, i64.wrap (1 + x0)] : List Int).getD (0 + y.toNat) 0) (([p8, q] : List Int).getD (0 + j) 0)
      rw [if_pos (by simp; omega), if_pos (by omega), if_pos (by simp; omega), t1, bind2_pure, t2, bind2_pure, if_neg (by simp), show (f != f) = false by simp]
      unfold rl_law23_PatternExact_k14
      rw [if_neg (by decide), wi64 (n := (j : Int) + 1) (by omega) (by omega)]
      rfl
    · simp only [rl_law23_PatternExact_l13]
      rw [if_neg (by simp)]
  have l10 : ∀ (i : Nat) (d : S_recordlinkmake_Deck), i < 2 → DeckOk d → ∃ t, loop (fun w : Int × (List Int) × Int × Int => rl_law23_PatternExact_l10 p1 p2 p7 p8 x0 v v' (i : Int) w.1 w.2.1 w.2.2.1 w.2.2.2) (0, d.list, d.at_, d.state) = some t ∧ ∃ q, t = .inl q ∧ DeckOk ⟨q.1, q.2.1, q.2.2⟩ := fun i d hi hd => by
    refine loop_inv 2 (fun j (w : Int × (List Int) × Int × Int) => w.1 = (j : Int) ∧ DeckOk ⟨w.2.1, w.2.2.1, w.2.2.2⟩) _ ?_ ?_ ⟨rfl, hd⟩
    · rintro j hj ⟨g, q1, q2, q3⟩ ⟨w1, w2⟩
      left
      simp only at w1 w2
      subst w1
      simp only [rl_law23_PatternExact_l10]
      rw [if_pos (by simp; omega), if_pos (by omega), if_pos (by simp; omega), l11 i _ hi, bindE_l]
      unfold rl_law23_PatternExact_a17
      obtain ⟨y, d8, he, y0, y1, hd8⟩ := next_yes w2 (n := 3) (by decide) (by decide)
      rw [he]; clear he; first | rw [bind2_pure] | rw [bind3_pure] | rw [bind4_pure] | rw [bind1_pure]
      rw [l13, bindE_l]
      unfold rl_law23_PatternExact_a15
      rw [pck, bind1_pure, rck, bind1_pure, if_neg (by simp), wi64 (n := (j : Int) + 1) (by omega) (by omega)]
      exact ⟨_, rfl, rfl, hd8⟩
    · rintro ⟨g, q1, q2, q3⟩ ⟨w1, w2⟩
      simp only at w1 w2
      subst w1
      simp only [rl_law23_PatternExact_l10]
      rw [if_neg (by simp)]
      exact ⟨_, rfl, _, rfl, w2⟩
  obtain ⟨t, t1, t2⟩ : ∃ t, loop (fun w : Int × (List Int) × Int × Int => rl_law23_PatternExact_l9 p1 p2 p7 p8 x0 v v' w.1 w.2.1 w.2.2.1 w.2.2.2) (0, d7.list, d7.at_, d7.state) = some t ∧ t = .inl () := by
    refine loop_inv 2 (fun j (w : Int × (List Int) × Int × Int) => w.1 = (j : Int) ∧ DeckOk ⟨w.2.1, w.2.2.1, w.2.2.2⟩) _ ?_ ?_ ⟨rfl, hd7⟩
    · rintro j hj ⟨g, q1, q2, q3⟩ ⟨w1, w2⟩
      left
      simp only at w1 w2
      subst w1
      simp only [rl_law23_PatternExact_l9]
      obtain ⟨t, t1, q, rfl, t2⟩ := l10 j ⟨q1, q2, q3⟩ hj w2
      simp only at t1
      rw [if_pos (by simp; omega), if_pos (by omega), if_pos (by simp; omega), t1, bindE_l]
      unfold rl_law23_PatternExact_a19
      simp only [Int.toNat_natCast]
      obtain ⟨o, o1, o2⟩ := total_both (hP j hj)
      rw [o1, bind1_pure, o2, bind1_pure, if_neg (by simp), wi64 (n := (j : Int) + 1) (by omega) (by omega)]
      exact ⟨_, rfl, rfl, t2⟩
    · rintro ⟨g, q1, q2, q3⟩ ⟨w1, w2⟩
      simp only at w1 w2
      subst w1
      simp only [rl_law23_PatternExact_l9]
      rw [if_neg (by simp)]
      exact ⟨_, rfl, rfl⟩
  rw [t1, t2, bindE_l]
  rfl
end Go.Proofs.Ytknlckjpgmjenaa
