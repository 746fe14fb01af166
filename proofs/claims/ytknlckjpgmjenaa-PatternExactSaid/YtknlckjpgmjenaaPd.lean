/- Plain: dealt records and couples; their counts. -/
import Derived.Test.YtknlckjpgmjenaaPt
import Derived.Test.YtknlckjpgmjenaaPm
namespace Go.Proofs.Ytknlckjpgmjenaa
open Vm
open IntKind (i64 u64 u32 u8)
set_option linter.unusedVariables false
set_option linter.unusedSimpArgs false
theorem enc_w64 {b : S_api_Bits} (h : EncF b) : W64 b.Words := by
  rcases h with rfl | ⟨x, hx, rfl⟩
  · intro w hw; exact absurd hw List.not_mem_nil
  · intro w hw; simp only [List.mem_singleton] at hw; omega
theorem enc_nb {b : S_api_Bits} (h : EncF b) : NB b := by
  rcases h with rfl | ⟨x, hx, rfl⟩
  · exact .inl ⟨rfl, rfl⟩
  · exact .inr ⟨right64, rfl⟩
def RD (n : Nat) (x : S_api_Encoded) : Prop := x.Fields.length = n ∧ (∀ b ∈ x.Fields, EncF b) ∧ (1 ≤ x.ID ∧ x.ID ≤ 9) ∧ x.Version = 1
theorem RD.recN {n : Nat} {x : S_api_Encoded} (h : RD n x) (h1 : 1 ≤ n) (h5 : n ≤ 5) : RecN n x := by
  obtain ⟨a, b, c, d⟩ := h
  exact ⟨⟨by omega, by omega, by omega, fun q hq => enc_nb (b q hq)⟩, a⟩
theorem RD.wf {n : Nat} {x : S_api_Encoded} (h : RD n x) : WF x.Fields := fun b hb => enc_w64 (h.2.1 b hb)
theorem and_w {x y : Int} (hx : 0 ≤ x ∧ x < 18446744073709551616) (hy : 0 ≤ y ∧ y < 18446744073709551616) : 0 ≤ iand .u64 x y ∧ iand .u64 x y < 18446744073709551616 := by
  unfold iand
  exact ⟨wu64_lo _, wu64_hi _⟩
theorem bits64_yes {d : S_recordlinkmake_Deck} (hd : DeckOk d) : ∃ b d', rl_make_Deck_Bits d 64 = some (b, d') ∧ EncF b ∧ DeckOk d' := by
  unfold rl_make_Deck_Bits
  have hs : ∃ x d', rl_make_Deck_Bits_l1 64 0 d.list d.at_ d.state [] = some (.inl (1, d'.list, d'.at_, d'.state, [x])) ∧ (0 ≤ x ∧ x < 18446744073709551616) ∧ DeckOk d' := by
    unfold rl_make_Deck_Bits_l1 rl_make_Deck_Bits_k2
    rw [if_pos (by decide), show (⟨d.list, d.at_, d.state⟩ : S_recordlinkmake_Deck) = d from rfl]
    obtain ⟨w, d1, e1, w0, w1, hd1⟩ := word_yes hd
    rw [e1, bind2_pure]
    obtain ⟨v, d2, he, v0, v1, hd2⟩ := next_yes hd1 (n := 4) (by decide) (by decide)
    rw [he]; clear he; first | rw [bind2_pure] | rw [bind3_pure] | rw [bind4_pure] | rw [bind1_pure]
    by_cases h0 : v = 0
    · obtain ⟨u, d3, e3, u0, u1, hd3⟩ := word_yes hd2
      obtain ⟨z, d4, e4, z0, z1, hd4⟩ := word_yes hd3
      rw [if_pos (by simpa using h0), e3, bind2_pure, e4, bind2_pure, if_pos (by simp)]
      exact ⟨_, d4, rfl, and_w ⟨w0, w1⟩ (and_w ⟨u0, u1⟩ ⟨z0, z1⟩), hd4⟩
    · rw [if_neg (by simpa using h0)]
      by_cases h1 : v = 1
      · rw [if_pos (by simpa using h1), if_pos (by simp)]
        exact ⟨_, d2, rfl, ⟨by decide, by decide⟩, hd2⟩
      · rw [if_neg (by simpa using h1), if_pos (by simp)]
        exact ⟨_, d2, rfl, ⟨w0, w1⟩, hd2⟩
  obtain ⟨x, d', hs, hx, hd'⟩ := hs
  rw [loop_next (s' := (1, d'.list, d'.at_, d'.state, [x])) hs, loop_end (t := (d'.list, d'.at_, d'.state, [x])) (by
    show rl_make_Deck_Bits_l1 64 1 _ _ _ _ = _
    unfold rl_make_Deck_Bits_l1
    rw [if_neg (by decide)]), bind4_pure]
  obtain ⟨n, rfl⟩ := Int.eq_ofNat_of_zero_le hx.1
  exact ⟨_, _, rfl, .inr ⟨n, by omega, rfl⟩, hd'⟩
theorem rfields_yes {d : S_recordlinkmake_Deck} (hd : DeckOk d) {n : Nat} (hn : n ≤ 5) {b1 b2 : S_api_Bits} (h1 : EncF b1) (h2 : EncF b2) : ∃ t, loop (fun v : Int × (List Int) × Int × Int × (List S_api_Bits) => rl_law23_records_l2 (n : Int) b1 b2 v.1 v.2.1 v.2.2.1 v.2.2.2.1 v.2.2.2.2) (0, d.list, d.at_, d.state, ([] : List S_api_Bits)) = some t ∧ DeckOk ⟨t.1, t.2.1, t.2.2.1⟩ ∧ t.2.2.2.length = n ∧ ∀ b ∈ t.2.2.2, EncF b := by
  refine loop_inv n (fun (i : Nat) (s : Int × (List Int) × Int × Int × (List S_api_Bits)) => s.1 = (i : Int) ∧ DeckOk ⟨s.2.1, s.2.2.1, s.2.2.2.1⟩ ∧ s.2.2.2.2.length = i ∧ ∀ b ∈ s.2.2.2.2, EncF b) (fun (t : (List Int) × Int × Int × (List S_api_Bits)) => DeckOk ⟨t.1, t.2.1, t.2.2.1⟩ ∧ t.2.2.2.length = n ∧ ∀ b ∈ t.2.2.2, EncF b) ?_ ?_ ⟨rfl, hd, rfl, fun b hb => absurd hb List.not_mem_nil⟩
  · rintro i hi ⟨j, a, b, c, l⟩ ⟨s1, s2, s3, s4⟩
    left
    simp only [rl_law23_records_l2] at s1 s2 s3 s4 ⊢
    subst s1
    rw [if_pos (by simp only [decide_eq_true_eq]; omega)]
    obtain ⟨v, d2, he, v0, v1, hd2⟩ := next_yes s2 (n := 3) (by decide) (by decide)
    rw [he]; clear he; first | rw [bind2_pure] | rw [bind3_pure] | rw [bind4_pure] | rw [bind1_pure]
    obtain ⟨u, rfl⟩ := Int.eq_ofNat_of_zero_le v0
    rw [if_pos (by omega), if_pos (by simp only [List.length_cons, List.length_nil]; omega), if_pos (by simp only [List.length_cons, List.length_nil]; omega), wi64 (n := (i : Int) + 1) (by omega) (by omega), Int.toNat_natCast, Nat.zero_add]
    refine ⟨_, rfl, rfl, hd2, by simp only [List.length_append, List.length_cons, List.length_nil]; omega, fun q hq => ?_⟩
    rcases List.mem_append.1 hq with h | h
    · exact s4 q h
    · rw [List.mem_singleton.1 h]
      have : u = 0 ∨ u = 1 ∨ u = 2 := by omega
      rcases this with rfl | rfl | rfl
      · exact h1
      · exact h2
      · exact .inl rfl
  · rintro ⟨j, a, b, c, l⟩ ⟨s1, s2, s3, s4⟩
    simp only [rl_law23_records_l2] at s1 s2 s3 s4 ⊢
    subst s1
    rw [if_neg (by simp only [decide_eq_true_eq]; omega)]
    exact ⟨_, rfl, s2, s3, s4⟩
theorem records_yes {d : S_recordlinkmake_Deck} (hd : DeckOk d) {n m : Nat} (hn : n ≤ 5) (hm : m ≤ 100) : ∃ l d', rl_law23_records d (n : Int) (m : Int) = some (l, d') ∧ l.length ≤ m ∧ (∀ x ∈ l, RD n x) ∧ DeckOk d' := by
  unfold rl_law23_records
  obtain ⟨b1, d1, e1, hb1, hd1⟩ := bits64_yes hd
  obtain ⟨b2, d2, e2, hb2, hd2⟩ := bits64_yes hd1
  rw [e1, bind2_pure, e2, bind2_pure, wi64 (n := (m : Int) + 1) (by omega) (by omega)]
  obtain ⟨v, d3, he, v0, v1, hd3⟩ := next_yes hd2 (n := (m : Int) + 1) (by omega) (by omega)
  rw [he]; clear he; first | rw [bind2_pure] | rw [bind3_pure] | rw [bind4_pure] | rw [bind1_pure]
  obtain ⟨N, rfl⟩ := Int.eq_ofNat_of_zero_le v0
  obtain ⟨t, e4, t1, t2, t3⟩ := loop_inv (step := fun v : (List S_api_Encoded) × Int × (List Int) × Int × Int => rl_law23_records_l1 (n : Int) b1 b2 v.1 v.2.1 v.2.2.1 v.2.2.2.1 v.2.2.2.2) N
    (fun j s => s.2.1 = (N : Int) - (j : Int) ∧ s.1.length = j ∧ (∀ x ∈ s.1, RD n x) ∧ DeckOk ⟨s.2.2.1, s.2.2.2.1, s.2.2.2.2⟩)
    (fun t => t.1.length = N ∧ (∀ x ∈ t.1, RD n x) ∧ DeckOk ⟨t.2.1, t.2.2.1, t.2.2.2⟩) (by
      rintro j hj ⟨l, c, a, b, e⟩ ⟨s1, s2, s3, s4⟩
      left
      simp only [rl_law23_records_l1] at s1 s2 s3 s4 ⊢
      subst s1
      rw [if_pos (by simp only [decide_eq_true_eq]; omega)]
      obtain ⟨u, d5, he, u0, u1, hd5⟩ := next_yes s4 (n := 9) (by decide) (by decide)
      rw [he]; clear he; first | rw [bind2_pure] | rw [bind3_pure] | rw [bind4_pure] | rw [bind1_pure]
      obtain ⟨⟨f1, f2, f3, f4⟩, ef, hf1, hf2, hf3⟩ := rfields_yes hd5 hn hb1 hb2
      simp only at hf1 hf2 hf3
      rw [ef, bind4_pure, if_pos (by simp only [List.length_cons, List.length_nil]; omega), wi64 (n := 1 + u) (by omega) (by omega), wi64 (n := (N : Int) - (j : Int) - 1) (by omega) (by omega)]
      refine ⟨_, rfl, by simp only; omega, by simp only [List.length_append, List.length_cons, List.length_nil]; omega, fun x hx => ?_, hf1⟩
      rcases List.mem_append.1 hx with h | h
      · exact s3 x h
      · rw [List.mem_singleton.1 h]
        exact ⟨hf2, hf3, ⟨by simp only; omega, by simp only; omega⟩, rfl⟩) (by
      rintro ⟨l, c, a, b, e⟩ ⟨s1, s2, s3, s4⟩
      simp only [rl_law23_records_l1] at s1 s2 s3 s4 ⊢
      subst s1
      rw [if_neg (by simp only [decide_eq_true_eq]; omega)]
      exact ⟨_, rfl, s2, s3, s4⟩) (s := (([] : List S_api_Encoded), (N : Int), d3.list, d3.at_, d3.state)) ⟨by simp, rfl, fun x hx => absurd hx List.not_mem_nil, hd3⟩
  rw [e4]
  exact ⟨t.1, ⟨t.2.1, t.2.2.1, t.2.2.2⟩, rfl, by omega, t2, t3⟩
def CD (a b : List S_api_Encoded) (c : S_api_Couple) : Prop := (∃ x ∈ a, x.ID = c.A) ∧ ∃ y ∈ b, y.ID = c.B
theorem couples_yes {d : S_recordlinkmake_Deck} (hd : DeckOk d) {a b : List S_api_Encoded} (ha : a.length ≤ 100) (hb : b.length ≤ 100) {m : Nat} (hm : m ≤ 100) : ∃ l d', rl_law23_couples d a b (m : Int) = some (l, d') ∧ l.length ≤ m ∧ (∀ c ∈ l, CD a b c) ∧ DeckOk d' := by
  unfold rl_law23_couples
  rw [wi64 (n := (m : Int) + 1) (by omega) (by omega)]
  obtain ⟨v, d3, he, v0, v1, hd3⟩ := next_yes hd (n := (m : Int) + 1) (by omega) (by omega)
  rw [he]; clear he; first | rw [bind2_pure] | rw [bind3_pure] | rw [bind4_pure] | rw [bind1_pure]
  obtain ⟨N, rfl⟩ := Int.eq_ofNat_of_zero_le v0
  obtain ⟨t, e4, t1, t2, t3⟩ := loop_inv (step := fun v : (List S_api_Couple) × Int × (List Int) × Int × Int => rl_law23_couples_l1 a b v.1 v.2.1 v.2.2.1 v.2.2.2.1 v.2.2.2.2) N
    (fun j s => s.2.1 = (N : Int) - (j : Int) ∧ s.1.length = j ∧ (∀ c ∈ s.1, CD a b c) ∧ DeckOk ⟨s.2.2.1, s.2.2.2.1, s.2.2.2.2⟩)
    (fun t => t.1.length ≤ N ∧ (∀ c ∈ t.1, CD a b c) ∧ DeckOk ⟨t.2.1, t.2.2.1, t.2.2.2⟩) (by
      rintro j hj ⟨l, c, p, q, e⟩ ⟨s1, s2, s3, s4⟩
      simp only [rl_law23_couples_l1, rl_law23_couples_k2] at s1 s2 s3 s4 ⊢
      subst s1
      rw [if_pos (by simp only [decide_eq_true_eq]; omega)]
      by_cases h1 : a.length = 0
      · right
        rw [if_neg (by simp only [decide_eq_true_eq]; omega), if_neg (by decide)]
        exact ⟨_, rfl, by simp only; omega, s3, s4⟩
      · rw [if_pos (by simp only [decide_eq_true_eq]; omega)]
        by_cases h2 : b.length = 0
        · right
          rw [if_neg (by simp only [decide_eq_true_eq]; omega)]
          exact ⟨_, rfl, by simp only; omega, s3, s4⟩
        · left
          rw [if_pos (by simp only [decide_eq_true_eq]; omega)]
          obtain ⟨x, d5, he, x0, x1, hd5⟩ := next_yes s4 (n := (a.length : Int)) (by omega) (by omega)
          rw [he]; clear he; first | rw [bind2_pure] | rw [bind3_pure] | rw [bind4_pure] | rw [bind1_pure]
          rw [if_pos (by omega), if_pos (by omega)]
          obtain ⟨y, d6, he, y0, y1, hd6⟩ := next_yes hd5 (n := (b.length : Int)) (by omega) (by omega)
          rw [he]; clear he; first | rw [bind2_pure] | rw [bind3_pure] | rw [bind4_pure] | rw [bind1_pure]
          rw [if_pos (by omega), if_pos (by omega), if_pos (by simp only [List.length_cons, List.length_nil]; omega), wi64 (n := (N : Int) - (j : Int) - 1) (by omega) (by omega)]
          refine ⟨_, rfl, by simp only; omega, by simp only [List.length_append, List.length_cons, List.length_nil]; omega, fun z hz => ?_, hd6⟩
          rcases List.mem_append.1 hz with h | h
          · exact s3 z h
          · rw [List.mem_singleton.1 h]
            exact ⟨⟨_, enc_get (show x.toNat < a.length by omega), rfl⟩, ⟨_, enc_get (show y.toNat < b.length by omega), rfl⟩⟩) (by
      rintro ⟨l, c, p, q, e⟩ ⟨s1, s2, s3, s4⟩
      simp only [rl_law23_couples_l1, rl_law23_couples_k2] at s1 s2 s3 s4 ⊢
      subst s1
      rw [if_neg (by simp only [decide_eq_true_eq]; omega), if_neg (by decide)]
      exact ⟨_, rfl, by simp only; omega, s3, s4⟩) (s := (([] : List S_api_Couple), (N : Int), d3.list, d3.at_, d3.state)) ⟨by simp, rfl, fun x hx => absurd hx List.not_mem_nil, hd3⟩
  rw [e4]
  exact ⟨t.1, ⟨t.2.1, t.2.2.1, t.2.2.2⟩, rfl, by omega, t2, t3⟩
def patC (ts : List Int) (a b : List S_api_Encoded) (c : S_api_Couple) : Nat := patN ts (recOf a c.A) (recOf b c.B)
theorem recOf_eq {l : List S_api_Encoded} {id : Int} {i : Nat} (h : fndI l id = some i) : recOf l id = l.getD i dS_api_Encoded := by unfold recOf; rw [h]; rfl
theorem cpl_eq {a b : List S_api_Encoded} {ts : List Int} {c : S_api_Couple} (h : CD a b c) : cpl a b ts c = some (patC ts a b c) := by
  obtain ⟨i, hi⟩ := fndI_some h.1
  obtain ⟨j, hj⟩ := fndI_some h.2
  unfold cpl patC
  rw [hi, hj, recOf_eq hi, recOf_eq hj]
theorem recOf_mem {l : List S_api_Encoded} {id : Int} (h : ∃ x ∈ l, x.ID = id) : recOf l id ∈ l := by
  obtain ⟨i, hi⟩ := fndI_some h
  rw [recOf_eq hi]
  exact enc_get (fndI_lt hi)
theorem tally_dealt {cs : List S_api_Couple} {a b : List S_api_Encoded} {ts : List Int} {n : Nat} (h1 : 1 ≤ n) (h5 : n ≤ 5) (hn : ts.length = n) (ht : ∀ t ∈ ts, 0 ≤ t ∧ t ≤ 1000) (ha : ∀ x ∈ a, RD n x) (hb : ∀ x ∈ b, RD n x) (la : a.length ≤ 100) (lb : b.length ≤ 100) (hc : ∀ c ∈ cs, CD a b c) (lc : cs.length ≤ 4096) :
    pattern_Tally cs a b ts = some (cntL (3 ^ n) (cs.map (patC ts a b)), 0) := by
  have hab : ∀ x ∈ a ++ b, RD n x := fun x hx => by
    rcases List.mem_append.1 hx with h | h
    · exact ha x h
    · exact hb x h
  rw [tally_eq (by omega) (by omega) (by omega) (fun x hx => by have := (hab x hx).1; omega) (fun x hx => (hab x hx).wf)]
  have hk : chkS cs.length a b ts = 0 := by
    unfold chkS
    rw [if_neg (by omega), if_neg (by omega), if_neg (show ¬ ¬ _ from fun k => k ht), if_neg (show ¬ ¬ _ from fun k => k fun x hx => by rw [hn]; exact (hab x hx).recN h1 h5)]
  unfold TallyS
  rw [if_neg (by rw [hk]; decide), pats_all fun c hcc => cpl_eq (hc c hcc), hn]
theorem rep_sum : ∀ k : Nat, (List.replicate k (0 : Int)).sum = 0
  | 0 => rfl
  | k + 1 => by rw [List.replicate_succ, List.sum_cons, rep_sum k]; rfl
theorem sum_cnt {m : Nat} : ∀ (ps : List Nat), (∀ p ∈ ps, p < m) → (cntL m ps).sum = (ps.length : Int)
  | [], _ => by rw [cntL_nil]; exact rep_sum m
  | p :: ps, h => by
    have hp : p < m := h p List.mem_cons_self
    have ih := sum_cnt ps fun q hq => h q (List.mem_cons_of_mem _ hq)
    have e : cntL m (p :: ps) = (cntL m ps).set p ((cntL m ps).getD p 0 + 1) := by
      rw [cntL_bump hp]
      unfold cntL
      refine List.map_congr_left fun i _ => ?_
      rw [List.count_append, List.count_cons, List.count_singleton]
    rw [e, set_sum (by rw [cntL_length]; exact hp), ih]
    simp
theorem cv_cnt {n : Nat} {ps : List Nat} (h : ∀ p ∈ ps, p < 3 ^ n) (hl : ps.length ≤ 4096) : CV n (cntL (3 ^ n) ps) := by
  refine ⟨cntL_length _ _, fun x hx => ?_, by rw [sum_cnt ps h]; omega⟩
  unfold cntL at hx
  obtain ⟨i, _, rfl⟩ := List.mem_map.1 hx
  omega
theorem patC_lt {ts : List Int} {a b : List S_api_Encoded} {c : S_api_Couple} : patC ts a b c < 3 ^ ts.length := patN_lt
theorem ints_eq {p q : List Int} (h : p.length < 1000000) : rl_ref01_Ints p q = some (decide (p = q)) := by
  unfold rl_ref01_Ints
  by_cases hl : p.length = q.length
  · rw [if_neg (by simp; omega)]
    obtain ⟨t, h1, h2⟩ := loop_inv (step := fun v : Int => rl_ref01_Ints_l1 p q v) p.length (fun i s => s = (i : Int) ∧ ∀ j, j < i → p[j]? = q[j]?) (fun t => (t = .inl () ∧ p = q) ∨ (t = .inr () ∧ p ≠ q)) (by
      rintro i hi s ⟨rfl, hs⟩
      by_cases he : p[i]? = q[i]?
      · exact .inl ⟨((i + 1 : Nat) : Int), by grind [rl_ref01_Ints_l1, wi64], rfl, fun j hj => by grind⟩
      · exact .inr ⟨.inr (), by grind [rl_ref01_Ints_l1], .inr ⟨rfl, fun e => he (by rw [e])⟩⟩) (by
      rintro s ⟨rfl, hs⟩
      exact ⟨.inl (), by grind [rl_ref01_Ints_l1], .inl ⟨rfl, List.ext_getElem? fun j => by
        by_cases hj : j < p.length
        · exact hs j hj
        · rw [List.getElem?_eq_none (by omega), List.getElem?_eq_none (by omega)]⟩⟩) (s := 0) ⟨rfl, fun j hj => absurd hj (by omega)⟩
    rw [h1]
    rcases h2 with ⟨rfl, rfl⟩ | ⟨rfl, hn⟩
    · simp [bindE, rl_ref01_Ints_a2]
    · simp [bindE, rl_ref01_Ints_a3, hn]
  · rw [if_pos (by simp; omega)]
    rw [decide_eq_false (fun e => hl (by rw [e]))]
end Go.Proofs.Ytknlckjpgmjenaa
