/- Plain: the law CandidateExact. -/
import Derived.Test.YtknlckjpgmjenaaCu
import Derived.Test.YtknlckjpgmjenaaGE0
import Derived.Test.YtknlckjpgmjenaaGL6
namespace Go.Proofs.Ytknlckjpgmjenaa
open Vm
open IntKind (i64 u64 u32 u8)
set_option linter.unusedVariables false
set_option linter.unusedSimpArgs false
theorem awake26 : rl_law26_awake = some true := rl_law26_awake_le 200 _ (by kernel_rfl)
theorem same_self {L : List S_api_Candidate} (h : L.length ≤ 4096) : rl_ref26_Same L L = some true := by
  unfold rl_ref26_Same
  rw [if_neg (by simp)]
  have hloop := loop_for (step := fun v : Int => rl_ref26_Same_l1 L L v) (fun i => (i : Int)) L.length (.inl ()) (fun i hi => by
      simp only [rl_ref26_Same_l1]
      rw [if_pos (by simp only [decide_eq_true_eq]; omega), if_pos (by omega), if_pos (by omega), if_pos (by omega), if_neg (by simp), wi64 (n := (i : Int) + 1) (by omega) (by omega)]
      rfl) (by
      simp only [rl_ref26_Same_l1]
      rw [if_neg (by simp)]) (s := 0) rfl
  rw [hloop, bindE_l]
  rfl
/-- a small sheet: sizes, and words of 64 bits -/
def QX (x : S_api_Sent) : Prop := x.Record.Fields.length ≤ 20 ∧ x.Hashes.length ≤ 20 ∧ x.Has.length ≤ 20 ∧ WF x.Record.Fields
def QB (l : List S_api_Sent) : Prop := l.length ≤ 80 ∧ ∀ x ∈ l, QX x
theorem qb_of {n k : Nat} {l : List S_api_Sent} (hn : n ≤ 5) (hk : k ≤ 8) (h : SH n k l) : QB l := ⟨by have := h.1; omega, fun x hx => by
  obtain ⟨h1, h2, _, _, h3, h4⟩ := h.2.1 x hx
  exact ⟨by omega, by omega, by omega, fun b hb => enc_w64 (h2 b hb)⟩⟩
theorem qb_set {l : List S_api_Sent} {i : Nat} {x : S_api_Sent} (h : QB l) (hx : QX x) : QB (l.set i x) := ⟨by rw [List.length_set]; exact h.1, fun y hy => by
  rcases List.mem_or_eq_of_mem_set hy with k | rfl
  · exact h.2 y k
  · exact hx⟩
theorem bent_some {d : S_recordlinkmake_Deck} {a b c : Int} {r : (List S_api_Sent) × S_recordlinkmake_Deck} (h : rl_play_Bent0 d a b c = some r) : rl_play_BentSheet d a b c = some r := by
  unfold rl_play_BentSheet
  rw [h]
theorem bent_none {d : S_recordlinkmake_Deck} {a b c : Int} {r : (List S_api_Sent) × S_recordlinkmake_Deck} (h : rl_play_Bent0 d a b c = none) (h2 : rl_play_Bent23 d a b c = some r) : rl_play_BentSheet d a b c = some r := by
  unfold rl_play_BentSheet
  rw [h]
  exact h2
theorem bent_yes {d : S_recordlinkmake_Deck} (hd : DeckOk d) {n k : Nat} (hn1 : 1 ≤ n) (hn : n ≤ 5) (hk : k ≤ 8) : ∃ l d', rl_play_BentSheet d (n : Int) (k : Int) 4 = some (l, d') ∧ QB l ∧ DeckOk d' := by
  obtain ⟨l, d1, e1, hl, hd1⟩ := sheet_yes hd hn hk (show 4 ≤ 5 by decide)
  rw [show ((4 : Nat) : Int) = 4 from rfl] at e1
  have hq := qb_of hn hk hl
  have h5 := hl.1
  by_cases l0 : l.length = 0
  · refine ⟨l, d1, bent_some ?_, hq, hd1⟩
    unfold rl_play_Bent0
    rw [e1, bind2_pure, if_pos (by rw [beq_iff_eq]; omega)]
  obtain ⟨v, d2, e2, v0, v1, hd2⟩ := next_yes hd1 (n := (l.length : Int)) (by omega) (by omega)
  obtain ⟨c, d3, e3, c0, c1, hd3⟩ := next_yes hd2 (n := 9) (by decide) (by decide)
  have hx : ∀ i, i < l.length → QX (l.getD i dS_api_Sent) := fun i hi => hq.2 _ (sent_get hi)
  have hv : 0 + v.toNat < l.length := by omega
  have hX := hx _ hv
  by_cases b2 : c = 2
  · subst b2
    have h0 : rl_play_Bent0 d (n : Int) (k : Int) 4 = none := by
      unfold rl_play_Bent0
      rw [e1, bind2_pure, if_neg (by rw [beq_iff_eq]; omega), e2, bind2_pure, e3, bind2_pure, if_neg (by decide), if_neg (by decide), if_pos (by decide)]
    refine ⟨_, d3, bent_none h0 (r := (l.set (0 + v.toNat) (bentF (l.getD (0 + v.toNat) dS_api_Sent)), d3)) ?_, qb_set hq ⟨?_, hX.2.1, hX.2.2.1, ?_⟩, hd3⟩
    · unfold rl_play_Bent23
      rw [e1, bind2_pure, e2, bind2_pure, e3, bind2_pure, if_pos ⟨v0, v1⟩, if_pos rfl, if_pos (by have := hX.1; omega)]
    · show (_ ++ [_]).length ≤ 20
      obtain ⟨q1, _⟩ := hl.2.1 _ (sent_get hv)
      rw [List.length_append, List.length_singleton]
      omega
    · intro b hb
      rcases List.mem_append.1 hb with h | h
      · exact hX.2.2.2 b h
      · rw [List.mem_singleton.1 h]
        exact fun w hw => absurd hw List.not_mem_nil
  by_cases b3 : c = 3
  · subst b3
    have h0 : rl_play_Bent0 d (n : Int) (k : Int) 4 = none := by
      unfold rl_play_Bent0
      rw [e1, bind2_pure, if_neg (by rw [beq_iff_eq]; omega), e2, bind2_pure, e3, bind2_pure, if_neg (by decide), if_neg (by decide), if_neg (by decide), if_pos (by decide)]
    refine ⟨_, d3, bent_none h0 (r := (l.set (0 + v.toNat) (bentH (l.getD (0 + v.toNat) dS_api_Sent)), d3)) ?_, qb_set hq ⟨hX.1, ?_, hX.2.2.1, hX.2.2.2⟩, hd3⟩
    · unfold rl_play_Bent23
      rw [e1, bind2_pure, e2, bind2_pure, e3, bind2_pure, if_pos ⟨v0, v1⟩, if_neg (by decide), if_pos rfl, if_pos (by have := hX.2.1; omega)]
    · show (_ ++ [_]).length ≤ 20
      obtain ⟨_, _, _, _, q1, _⟩ := hl.2.1 _ (sent_get hv)
      rw [List.length_append, List.length_singleton]
      omega
  have fin : ∃ r d', rl_play_Bent0 d (n : Int) (k : Int) 4 = some (r, d') ∧ QB r ∧ DeckOk d' := by
    unfold rl_play_Bent0
    rw [e1, bind2_pure, if_neg (by rw [beq_iff_eq]; omega), e2, bind2_pure, e3, bind2_pure]
    unfold rl_play_Bent0_k1
    by_cases b0 : c = 0
    · rw [if_pos (by rw [beq_iff_eq]; exact b0)]
      obtain ⟨q, d4, e4, q0, q1, hd4⟩ := next_yes hd3 (n := 4) (by decide) (by decide)
      rw [e4, bind2_pure, if_pos q0, if_pos (by simp; omega), if_pos v0, if_pos v1]
      exact ⟨_, _, rfl, qb_set hq ⟨hX.1, hX.2.1, hX.2.2.1, hX.2.2.2⟩, hd4⟩
    rw [if_neg (by rw [beq_iff_eq]; exact b0)]
    by_cases b1 : c = 1
    · rw [if_pos (by rw [beq_iff_eq]; exact b1)]
      obtain ⟨q, d4, e4, q0, q1, hd4⟩ := next_yes hd3 (n := 3) (by decide) (by decide)
      rw [e4, bind2_pure, if_pos q0, if_pos (by simp; omega), if_pos v0, if_pos v1]
      exact ⟨_, _, rfl, qb_set hq ⟨hX.1, hX.2.1, hX.2.2.1, hX.2.2.2⟩, hd4⟩
    rw [if_neg (by rw [beq_iff_eq]; exact b1), if_neg (by rw [beq_iff_eq]; exact b2), if_neg (by rw [beq_iff_eq]; exact b3)]
    by_cases b4 : c = 4
    · rw [if_pos (by rw [beq_iff_eq]; exact b4), if_pos v0, if_pos v1, if_pos (Nat.zero_le _)]
      exact ⟨_, _, rfl, qb_set hq ⟨hX.1, hX.2.1, by simp, hX.2.2.2⟩, hd3⟩
    rw [if_neg (by rw [beq_iff_eq]; exact b4)]
    by_cases b5 : c = 5
    · have hF : (l.getD (0 + v.toNat) dS_api_Sent).Record.Fields.length = n := (hl.2.1 _ (sent_get hv)).1
      rw [if_pos (by rw [beq_iff_eq]; exact b5), if_pos v0, if_pos v1, if_pos (by omega), if_pos (by simp only [List.length_cons, List.length_nil]; omega)]
      refine ⟨_, _, rfl, qb_set hq ⟨?_, hX.2.1, hX.2.2.1, fun b hb => ?_⟩, hd3⟩
      · simp only [List.length_append, List.length_cons, List.length_nil, List.length_take, List.length_drop]
        omega
      · rcases List.mem_append.1 hb with h | h
        · rw [List.mem_singleton.1 h]
          exact fun w hw => absurd hw List.not_mem_nil
        · exact hX.2.2.2 b (List.mem_of_mem_drop (List.mem_of_mem_take h))
    rw [if_neg (by rw [beq_iff_eq]; exact b5)]
    exact ⟨_, _, rfl, hq, hd3⟩
  obtain ⟨r, d', e, h1, h2⟩ := fin
  exact ⟨r, d', bent_some e, h1, h2⟩
def SentT (l : List S_api_Sent) : Prop := (∀ y ∈ l, ((IntKind.i64.min ≤ y.Record.ID ∧ y.Record.ID ≤ IntKind.i64.max) ∧ (IntKind.i64.min ≤ y.Record.Version ∧ y.Record.Version ≤ IntKind.i64.max) ∧ ((∀ y1 ∈ y.Record.Fields, (IntKind.i64.min ≤ y1.Length ∧ y1.Length ≤ IntKind.i64.max) ∧ ((∀ y2 ∈ y1.Words, IntKind.u64.min ≤ y2 ∧ y2 ≤ IntKind.u64.max) ∧ y1.Words.length ≤ maxLen) ∧ True) ∧ y.Record.Fields.length ≤ maxLen) ∧ True) ∧ ((∀ y3 ∈ y.Hashes, IntKind.u64.min ≤ y3 ∧ y3 ≤ IntKind.u64.max) ∧ y.Hashes.length ≤ maxLen) ∧ ((∀ y4 ∈ y.Has, True) ∧ y.Has.length ≤ maxLen) ∧ True) ∧ l.length ≤ maxLen
theorem SentT.wf {l : List S_api_Sent} (h : SentT l) {x : S_api_Sent} (hx : x ∈ l) : WF x.Record.Fields := fun b hb w hw => by
  have h1 := ((h.1 x hx).1.2.2.1.1 b hb).2.1.1 w hw
  have e1 : IntKind.u64.min = 0 := by decide
  have e2 : IntKind.u64.max = 18446744073709551615 := by decide
  rw [e1, e2] at h1
  omega
theorem qb_sz {S : List (List S_api_Sent)} (h : ∀ l ∈ S, QB l) : SZ S := fun l hl => ⟨by have := (h l hl).1; omega, fun x hx => by have := ((h l hl).2 x hx).1; omega, fun x hx => ((h l hl).2 x hx).2.2.2⟩
theorem cexact_law (p0 : List Int) (p1 : List S_api_Sent) (p2 p3 p4 : Int) (p5 : List Int) (h1 : SentT p1) : rl_law26_CandidateExact p0 p1 p2 p3 p4 p5 = some true := by
  have k1 : rl_law26_CandidateExact_k1 p0 p1 p2 p3 p4 p5 true = some true := by unfold rl_law26_CandidateExact_k1; rw [if_pos rfl, awake26]; rfl
  unfold rl_law26_CandidateExact
  rw [awake26, bind1_pure, if_neg (by decide)]
  unfold rl_make_Few
  by_cases c0 : p0.length ≤ 400
  rotate_left
  · rw [decide_eq_false (by omega : ¬ ((p0.length : Nat) : Int) ≤ 400), bind1_pure, if_pos (by decide), k1]
  rw [decide_eq_true (by omega : ((p0.length : Nat) : Int) ≤ 400), bind1_pure, if_neg (by decide)]
  obtain ⟨sm, es, hs⟩ := small_yes p1
  rw [es, bind1_pure]
  by_cases c1 : sm = true
  rotate_left
  · rw [if_pos (by simpa using c1), k1]
  rw [if_neg (by rw [c1]; decide)]
  obtain ⟨hs1, hs2⟩ := hs c1
  by_cases c2 : p5.length ≤ 12
  rotate_left
  · rw [decide_eq_true (by omega : ((p5.length : Nat) : Int) > 12), k1]
  rw [decide_eq_false (by omega : ¬ ((p5.length : Nat) : Int) > 12)]
  clear k1 es hs
  have hq1 : QB p1 := ⟨hs1, fun x hx => by
    obtain ⟨i, hi, rfl⟩ := List.getElem_of_mem hx
    have e : p1.getD i dS_api_Sent = p1[i] := by rw [List.getD_eq_getElem?_getD, List.getElem?_eq_getElem hi]; rfl
    have := hs2 i hi
    rw [e] at this
    exact ⟨by omega, by omega, by omega, h1.wf hx⟩⟩
  unfold rl_law26_CandidateExact_k1
  rw [if_neg (by decide)]
  obtain ⟨d, he, hd⟩ := new_yes c0
  rw [he, bind1_pure]
  clear he
  obtain ⟨x, d1, he, x0, x1, hd1⟩ := next_yes hd (n := 3) (by decide) (by decide)
  rw [he]; clear he; first | rw [bind2_pure] | rw [bind3_pure] | rw [bind4_pure] | rw [bind1_pure]
  obtain ⟨n, hn⟩ : ∃ n : Nat, 1 + x = n := ⟨(1 + x).toNat, by omega⟩
  have hw : IntKind.i64.wrap (1 + x) = (n : Int) := by rw [wi64 (n := 1 + x) (by omega) (by omega), hn]
  obtain ⟨z, d2, he, z0, z1, hd2⟩ := next_yes hd1 (n := 2) (by decide) (by decide)
  rw [he]; clear he; first | rw [bind2_pure] | rw [bind3_pure] | rw [bind4_pure] | rw [bind1_pure]
  obtain ⟨k, hk⟩ : ∃ k : Nat, 1 + z = k := ⟨(1 + z).toNat, by omega⟩
  have hz : IntKind.i64.wrap (1 + z) = (k : Int) := by rw [wi64 (n := 1 + z) (by omega) (by omega), hk]
  rw [hw, hz]
  obtain ⟨w, d3, e3, hd3⟩ := bentweights_yes hd2 (n := n) (by omega) (by omega)
  rw [e3, bind2_pure]
  obtain ⟨q, d4, he, q0, q1, hd4⟩ := next_yes hd3 (n := 2) (by decide) (by decide)
  rw [he]; clear he; first | rw [bind2_pure] | rw [bind3_pure] | rw [bind4_pure] | rw [bind1_pure]
  obtain ⟨m, hm⟩ : ∃ m : Nat, 2 + q = m := ⟨(2 + q).toNat, by omega⟩
  rw [wi64 (n := 2 + q) (by omega) (by omega), hm]
  obtain ⟨S, d5, e5, hS, hsh, hd5⟩ := sheets_yes hd4 (n := n) (k := k) (r := m) (m := 4) (by omega) (by omega) (by omega) (by decide)
  rw [show ((4 : Nat) : Int) = 4 from rfl] at e5
  rw [e5, bind2_pure]
  obtain ⟨B, d6, e6, hB, hd6⟩ := bent_yes hd5 (n := n) (k := k) (by omega) (by omega) (by omega)
  rw [e6, bind2_pure]
  clear e3 e5 e6
  have hqS : ∀ l ∈ S, QB l := fun l hl => qb_of (by omega) (by omega) (hsh l hl)
  rw [if_pos (by simp; omega), if_pos (by omega), Int.toNat_natCast, if_pos (by simp; omega), if_pos (by omega), if_pos (by simp)]
  have l2 : loop (fun v : Int => rl_law26_CandidateExact_l2 p1 p2 p3 p4 x z S B v) 0 = some (.inl ()) := by
    refine loop_for (fun i => (i : Int)) 3 _ (fun i hi => ?_) ?_ rfl
    · simp only [rl_law26_CandidateExact_l2, hw, hz, Int.toNat_natCast]
      obtain ⟨X, hX⟩ : ∃ X, ([p1, S.getD (0 + 0) [], (([B] : List (List S_api_Sent)) ++ S).getD (0 + 0) []] : List (List S_api_Sent)).getD (0 + i) [] = X := ⟨_, rfl⟩
      have hqX : QB X := by
        rw [← hX]
        have : i = 0 ∨ i = 1 ∨ i = 2 := by omega
        rcases this with rfl | rfl | rfl
        · exact hq1
        · exact hqS _ (sheet_mem (by omega))
        · exact hB
      obtain ⟨Xl, Xx⟩ := hqX
      have fs : FSz X := fun y hy => by have := (Xx y hy).1; omega
      rw [if_pos (by simp; omega), if_pos (by omega), if_pos (by simp; omega), hX]
      obtain ⟨v1, a1, b1, _⟩ := check_both (f := (n : Int)) (k := (k : Int)) (l := X) (by omega) fs
      obtain ⟨v2, a2, b2, _⟩ := check_both (f := p2) (k := p3) (l := X) (by omega) fs
      obtain ⟨v3, a3, b3⟩ := find_both (l := X) (by omega) p4
      obtain ⟨v4, a4, b4⟩ := find_both (l := X) (by omega) 2
      rw [a1, bind1_pure, b1, bind1_pure, if_neg (by simp), a2, bind1_pure, b2, bind1_pure, if_neg (by simp), a3, bind1_pure, b3, bind1_pure, if_neg (by simp), a4, bind1_pure, b4, bind1_pure, show (v4 != v4) = false by simp]
      unfold rl_law26_CandidateExact_k3
      rw [if_neg (by decide)]
      have l4 : loop (fun v : Int => rl_law26_CandidateExact_l4 p1 S B (i : Int) v) 0 = some (.inl ()) := by
        refine loop_for (fun j => (j : Int)) X.length _ (fun j hj => ?_) ?_ rfl
        · simp only [rl_law26_CandidateExact_l4, Int.toNat_natCast]
          simp only [hX]
          rw [if_pos (by simp only [decide_eq_true_eq]; omega)]
          unfold rl_law26_CandidateExact_k5
          by_cases j6 : (j : Int) < 6
          · rw [if_pos (by rw [decide_eq_true_eq]; exact j6), if_pos (by omega), if_pos (by omega), if_pos (by omega)]
            obtain ⟨g1, g2⟩ := agree_any (x := X.getD j dS_api_Sent) (y := X.getD 0 dS_api_Sent) (by
              have := (Xx _ (sent_get hj)).2.1
              unfold mk4
              omega)
            rw [g1, bind1_pure, g2, bind1_pure]
            rw [if_neg (by simp), wi64 (n := (j : Int) + 1) (by omega) (by omega)]
            rfl
          · rw [if_neg (by rw [decide_eq_true_eq]; exact j6), if_neg (by decide), wi64 (n := (j : Int) + 1) (by omega) (by omega)]
            rfl
        · simp only [rl_law26_CandidateExact_l4, Int.toNat_natCast]
          simp only [hX]
          rw [if_neg (by simp)]
      rw [l4, bindE_l]
      unfold rl_law26_CandidateExact_a6
      rw [wi64 (n := (i : Int) + 1) (by omega) (by omega)]
      rfl
    · simp only [rl_law26_CandidateExact_l2]
      rw [if_neg (by simp)]
  rw [l2, bindE_l]
  unfold rl_law26_CandidateExact_a15
  rw [if_pos (by simp; omega)]
  have hqBS : ∀ l ∈ ([B] : List (List S_api_Sent)) ++ S, QB l := fun l hl => by
    rcases List.mem_append.1 hl with h | h
    · rw [List.mem_singleton.1 h]; exact hB
    · exact hqS l h
  have l8 : loop (fun v : Int => rl_law26_CandidateExact_l8 p1 p5 x z w S B v) 0 = some (.inl ()) := by
    refine loop_for (fun i => (i : Int)) 5 _ (fun i hi => ?_) ?_ rfl
    · simp only [rl_law26_CandidateExact_l8]
      rw [if_pos (by simp; omega), if_pos (by omega), if_pos (by simp; omega)]
      have l9 : loop (fun v : Int => rl_law26_CandidateExact_l9 p1 p5 x z w S B (i : Int) v) 0 = some (.inl ()) := by
        refine loop_for (fun j => (j : Int)) 3 _ (fun j hj => ?_) ?_ rfl
        · simp only [rl_law26_CandidateExact_l9, hw, hz, Int.toNat_natCast]
          obtain ⟨X, hX⟩ : ∃ X, ([S, ([B] : List (List S_api_Sent)) ++ S, [p1, p1], (([B] : List (List S_api_Sent)) ++ S) ++ (([B] : List (List S_api_Sent)) ++ S), []] : List (List (List S_api_Sent))).getD (0 + i) [] = X := ⟨_, rfl⟩
          obtain ⟨ts, hts⟩ : ∃ ts, ([([800, 500, 300] : List Int).take n, p5, [800, 1001]] : List (List Int)).getD (0 + j) [] = ts := ⟨_, rfl⟩
          have htl : ts.length < 1000000 := by
            rw [← hts]
            have : j = 0 ∨ j = 1 ∨ j = 2 := by omega
            rcases this with rfl | rfl | rfl
            · show (([800, 500, 300] : List Int).take n).length < _; simp; omega
            · show p5.length < _; omega
            · show ([800, 1001] : List Int).length < _; decide
          have hXq : X.length < 1000000 ∧ ∀ l ∈ X, QB l := by
            rw [← hX]
            have : i = 0 ∨ i = 1 ∨ i = 2 ∨ i = 3 ∨ i = 4 := by omega
            rcases this with rfl | rfl | rfl | rfl | rfl
            · exact ⟨by show S.length < _; omega, hqS⟩
            · exact ⟨by show (([B] : List (List S_api_Sent)) ++ S).length < _; simp; omega, hqBS⟩
            · exact ⟨by show ([p1, p1] : List (List S_api_Sent)).length < _; simp, fun l hl => by
                have : l = p1 := by
                  have hl : l ∈ [p1, p1] := hl
                  simpa using hl
                rw [this]; exact hq1⟩
            · exact ⟨by show ((([B] : List (List S_api_Sent)) ++ S) ++ (([B] : List (List S_api_Sent)) ++ S)).length < _; simp; omega, fun l hl => by
                have hl : l ∈ (([B] : List (List S_api_Sent)) ++ S) ++ (([B] : List (List S_api_Sent)) ++ S) := hl
                rcases List.mem_append.1 hl with h | h
                · exact hqBS l h
                · exact hqBS l h⟩
            · exact ⟨by show ([] : List (List S_api_Sent)).length < _; decide, fun l hl => absurd hl List.not_mem_nil⟩
          rw [if_pos (by simp; omega), if_pos (by omega), if_pos (by simp; omega), hX, hts]
          obtain ⟨u, e, m1, m2, m3⟩ := make_both w ts (k : Int) X htl hXq.1 (qb_sz hXq.2)
          rw [m1, bind2_pure, m2, bind2_pure, if_neg (by simp), same_self m3, bind1_pure]
          unfold rl_law26_CandidateExact_k10
          rw [if_neg (by decide), wi64 (n := (j : Int) + 1) (by omega) (by omega)]
          rfl
        · simp only [rl_law26_CandidateExact_l9]
          rw [if_neg (by simp)]
      rw [l9, bindE_l]
      unfold rl_law26_CandidateExact_a11
      rw [wi64 (n := (i : Int) + 1) (by omega) (by omega)]
      rfl
    · simp only [rl_law26_CandidateExact_l8]
      rw [if_neg (by simp)]
  rw [l8, bindE_l]
  rfl
end Go.Proofs.Ytknlckjpgmjenaa
