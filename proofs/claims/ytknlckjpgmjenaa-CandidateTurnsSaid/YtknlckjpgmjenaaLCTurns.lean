/- The plain law of CandidateTurns. -/
import Derived.Test.YtknlckjpgmjenaaCf
import Derived.Test.YtknlckjpgmjenaaGE0
import Derived.Test.YtknlckjpgmjenaaGL5
namespace Go.Proofs.Ytknlckjpgmjenaa
open Vm
set_option linter.unusedVariables false
set_option linter.unusedSimpArgs false
theorem awake26 : rl_law26_awake = some true := rl_law26_awake_le 200 _ (by kernel_rfl)
theorem dc_in {α β : Type} {p : α → β → Bool} {q : β → α → Bool} (h : ∀ x y, p x y = q y x) (x : α) (a : List α) : ∀ b : List β, (b.filter (p x)).length + (b.map fun y => (a.filter (q y)).length).sum = (b.map fun y => ((x :: a).filter (q y)).length).sum
  | [] => rfl
  | y :: b => by
    have ih := dc_in h x a b
    simp only [List.map_cons, List.sum_cons, List.filter_cons] at ih ⊢
    rw [← h x y]
    cases p x y
    · simp only [Bool.false_eq_true, if_false]; omega
    · simp only [if_true, List.length_cons]; omega
theorem dc {α β : Type} {p : α → β → Bool} {q : β → α → Bool} (h : ∀ x y, p x y = q y x) : ∀ (a : List α) (b : List β), (a.map fun x => (b.filter (p x)).length).sum = (b.map fun y => (a.filter (q y)).length).sum
  | [], b => by
    induction b with
    | nil => rfl
    | cons y b ih => simp only [List.map_cons, List.sum_cons, List.filter_nil, List.length_nil, List.map_nil, List.sum_nil] at ih ⊢; omega
  | x :: a, b => by
    rw [List.map_cons, List.sum_cons, dc h a b]
    exact dc_in h x a b
section
variable {w : S_api_Weights} {t : List Int} {k : Nat} {s0 s1 : List S_api_Sent}
theorem two_list : L1 w t k [s0, s1] 2 = s0.flatMap fun x => L4 w t k 0 x 1 s1 := by
  have h1 : ∀ i, L2 w t k [s0, s1] 1 i = [] := fun i => by
    induction i with
    | zero => rfl
    | succ i ih => rw [L2, ih]; rfl
  have h0 : ∀ i, i ≤ s0.length → L2 w t k [s0, s1] 0 i = (s0.take i).flatMap fun x => L4 w t k 0 x 1 s1 := fun i => by
    induction i with
    | zero => intro _; rfl
    | succ i ih =>
      intro hi
      rw [L2, ih (by omega), sent_take (by omega), List.flatMap_append]
      show _ ++ ([] ++ L4 w t k ((0 : Nat) : Int) (s0.getD i dS_api_Sent) ((0 + 1 + 0 : Nat) : Int) s1) = _
      simp
  rw [L1, L1, L1]
  show [] ++ L2 w t k [s0, s1] 0 s0.length ++ L2 w t k [s0, s1] 1 s1.length = _
  rw [h1, h0 _ (Nat.le_refl _), List.take_of_length_le (Nat.le_refl _), List.append_nil, List.nil_append]
theorem two_mem {c : S_api_Candidate} : c ∈ L1 w t k [s0, s1] 2 ↔ ∃ x, x ∈ s0 ∧ ∃ y, y ∈ s1 ∧ agS k x y = true ∧ c = candS w t 0 x 1 y := by
  rw [two_list, List.mem_flatMap]
  unfold L4
  constructor
  · rintro ⟨x, hx, hc⟩
    obtain ⟨y, hy, rfl⟩ := List.mem_map.1 hc
    rw [List.mem_filter] at hy
    exact ⟨x, hx, y, hy.1, hy.2, rfl⟩
  · rintro ⟨x, hx, y, hy, ha, rfl⟩
    exact ⟨x, hx, List.mem_map.2 ⟨y, List.mem_filter.2 ⟨hy, ha⟩, rfl⟩⟩
theorem two_len : (L1 w t k [s0, s1] 2).length = (s0.map fun x => (s1.filter fun y => agS k x y).length).sum := by
  rw [two_list, List.length_flatMap]
  unfold L4
  simp only [List.length_map]
theorem two_swap : (L1 w t k [s0, s1] 2).length = (L1 w t k [s1, s0] 2).length := by
  rw [two_len, two_len]
  exact dc (p := fun x y => agS k x y) (q := fun y x => agS k y x) (fun x y => agS_comm k x y) s0 s1
theorem cand_get {l : List S_api_Candidate} {i : Nat} (h : i < l.length) : l.getD i dS_api_Candidate ∈ l := by
  rw [List.getD_eq_getElem?_getD, List.getElem?_eq_getElem h]
  exact List.getElem_mem h
theorem turned {i : Nat} (hi : i < (L1 w t k [s0, s1] 2).length) : ∃ j, j < (L1 w t k [s1, s0] 2).length ∧ ((L1 w t k [s1, s0] 2).getD j dS_api_Candidate).A.ID = ((L1 w t k [s0, s1] 2).getD i dS_api_Candidate).B.ID ∧ ((L1 w t k [s1, s0] 2).getD j dS_api_Candidate).B.ID = ((L1 w t k [s0, s1] 2).getD i dS_api_Candidate).A.ID ∧ ((L1 w t k [s1, s0] 2).getD j dS_api_Candidate).Pattern = ((L1 w t k [s0, s1] 2).getD i dS_api_Candidate).Pattern ∧ ((L1 w t k [s1, s0] 2).getD j dS_api_Candidate).Weight = ((L1 w t k [s0, s1] 2).getD i dS_api_Candidate).Weight := by
  obtain ⟨x, hx, y, hy, ha, e⟩ := two_mem.1 (cand_get hi)
  have hm : candS w t 0 y 1 x ∈ L1 w t k [s1, s0] 2 := two_mem.2 ⟨y, hy, x, hx, by rw [agS_comm]; exact ha, rfl⟩
  obtain ⟨j, hj, ej⟩ := List.getElem_of_mem hm
  refine ⟨j, hj, ?_⟩
  have e2 : (L1 w t k [s1, s0] 2).getD j dS_api_Candidate = candS w t 0 y 1 x := by
    rw [List.getD_eq_getElem?_getD, List.getElem?_eq_getElem hj, ej]; rfl
  rw [e, e2]
  unfold candS
  rw [patS_comm t y x]
  exact ⟨rfl, rfl, rfl, rfl⟩
end
theorem search {a b : List S_api_Candidate} {i : Nat} (hb : b.length ≤ 4096) (hi : i < a.length) (h : ∃ j, j < b.length ∧ (b.getD j dS_api_Candidate).A.ID = (a.getD i dS_api_Candidate).B.ID ∧ (b.getD j dS_api_Candidate).B.ID = (a.getD i dS_api_Candidate).A.ID ∧ (b.getD j dS_api_Candidate).Pattern = (a.getD i dS_api_Candidate).Pattern ∧ (b.getD j dS_api_Candidate).Weight = (a.getD i dS_api_Candidate).Weight) :
    loop (fun v : Bool × Int => rl_law26_CandidateTurns_l4 a b (i : Int) v.1 v.2) (false, 0) = some true := by
  obtain ⟨t, e1, t1⟩ := loop_inv (step := fun v : Bool × Int => rl_law26_CandidateTurns_l4 a b (i : Int) v.1 v.2) b.length (fun j s => s.2 = (j : Int) ∧ ((∃ j', j' < j ∧ (b.getD j' dS_api_Candidate).A.ID = (a.getD i dS_api_Candidate).B.ID ∧ (b.getD j' dS_api_Candidate).B.ID = (a.getD i dS_api_Candidate).A.ID ∧ (b.getD j' dS_api_Candidate).Pattern = (a.getD i dS_api_Candidate).Pattern ∧ (b.getD j' dS_api_Candidate).Weight = (a.getD i dS_api_Candidate).Weight) → s.1 = true)) (fun t => t = true) (by
    rintro j hj ⟨f, z⟩ ⟨s1, s2⟩
    left
    simp only at s1 s2
    subst s1
    simp only [rl_law26_CandidateTurns_l4, rl_law26_CandidateTurns_k5, Int.toNat_natCast, Nat.zero_add]
    rw [if_pos (by simp only [decide_eq_true_eq]; omega), if_pos (by omega), if_pos (by omega), wi64 (n := (j : Int) + 1) (by omega) (by omega)]
    have split_ : ∀ {P : Nat → Prop}, (∃ j', j' < j + 1 ∧ P j') → (∃ j', j' < j ∧ P j') ∨ P j := fun ⟨j', h1, h2⟩ => by
      rcases Nat.lt_or_eq_of_le (Nat.le_of_lt_succ h1) with h3 | h3
      · exact .inl ⟨j', h3, h2⟩
      · exact .inr (h3 ▸ h2)
    by_cases hf : f = true
    · rw [if_pos hf]
      exact ⟨_, rfl, rfl, fun _ => rfl⟩
    rw [if_neg hf]
    by_cases c1 : (b.getD j dS_api_Candidate).A.ID = (a.getD i dS_api_Candidate).B.ID
    · rw [if_pos (by rw [beq_iff_eq]; exact c1)]
      by_cases c2 : (b.getD j dS_api_Candidate).B.ID = (a.getD i dS_api_Candidate).A.ID
      · rw [if_pos (by rw [beq_iff_eq]; exact c2)]
        by_cases c3 : (b.getD j dS_api_Candidate).Pattern = (a.getD i dS_api_Candidate).Pattern
        · rw [if_pos (by rw [beq_iff_eq]; exact c3)]
          refine ⟨_, rfl, rfl, fun q => ?_⟩
          rcases split_ q with q | q
          · exact absurd (s2 q) hf
          · simp only [beq_iff_eq]; exact q.2.2.2
        · rw [if_neg (by rw [beq_iff_eq]; exact c3)]
          refine ⟨_, rfl, rfl, fun q => ?_⟩
          rcases split_ q with q | q
          · exact absurd (s2 q) hf
          · exact absurd q.2.2.1 c3
      · rw [if_neg (by rw [beq_iff_eq]; exact c2)]
        refine ⟨_, rfl, rfl, fun q => ?_⟩
        rcases split_ q with q | q
        · exact absurd (s2 q) hf
        · exact absurd q.2.1 c2
    · rw [if_neg (by rw [beq_iff_eq]; exact c1)]
      refine ⟨_, rfl, rfl, fun q => ?_⟩
      rcases split_ q with q | q
      · exact absurd (s2 q) hf
      · exact absurd q.1 c1) (by
    rintro ⟨f, z⟩ ⟨s1, s2⟩
    simp only at s1 s2
    subst s1
    simp only [rl_law26_CandidateTurns_l4]
    rw [if_neg (by simp)]
    exact ⟨_, rfl, s2 h⟩) (s := (false, 0)) ⟨rfl, fun ⟨j', h1, _⟩ => absurd h1 (by omega)⟩
  rw [e1, t1]
theorem turns_law (p : List Int) : rl_law26_CandidateTurns p = some true := by
  unfold rl_law26_CandidateTurns
  rw [awake26]
  simp only [Option.bind_some, Bool.not_true, Bool.false_eq_true, if_false, rl_make_Few]
  by_cases hp : p.length ≤ 400
  rotate_left
  · rw [decide_eq_false (by omega : ¬ ((p.length : Nat) : Int) ≤ 400)]
    simp only [Bool.not_false, rl_law26_CandidateTurns_k1, if_true, awake26, Option.bind_some]
  rw [decide_eq_true (by omega : ((p.length : Nat) : Int) ≤ 400)]
  simp only [Bool.not_true, rl_law26_CandidateTurns_k1, Bool.false_eq_true, if_false]
  obtain ⟨d, he, hd⟩ := new_yes hp
  rw [he]; clear he; simp only [Option.bind_some]
  obtain ⟨x, d1, he, x0, x1, hd1⟩ := next_yes hd (n := 3) (by decide) (by decide)
  rw [he]; clear he; first | rw [bind2_pure] | rw [bind3_pure] | rw [bind4_pure] | rw [bind1_pure]
  obtain ⟨n, hn⟩ : ∃ n : Nat, 1 + x = n := ⟨(1 + x).toNat, by omega⟩
  have hw : IntKind.i64.wrap (1 + x) = (n : Int) := by rw [wi64 (n := 1 + x) (by omega) (by omega), hn]
  obtain ⟨z, d2, he, z0, z1, hd2⟩ := next_yes hd1 (n := 2) (by decide) (by decide)
  rw [he]; clear he; first | rw [bind2_pure] | rw [bind3_pure] | rw [bind4_pure] | rw [bind1_pure]
  obtain ⟨k, hk⟩ : ∃ k : Nat, 1 + z = k := ⟨(1 + z).toNat, by omega⟩
  have hz : IntKind.i64.wrap (1 + z) = (k : Int) := by rw [wi64 (n := 1 + z) (by omega) (by omega), hk]
  rw [hw, hz]
  obtain ⟨w, d3, he, w1, wv, hd3⟩ := weights_yes hd2 (n := n) (by omega) (by omega)
  rw [he]; clear he; first | rw [bind2_pure] | rw [bind3_pure] | rw [bind4_pure] | rw [bind1_pure]
  rw [if_pos (by omega), Int.toNat_natCast, if_pos (by simp only [List.length_cons, List.length_nil]; omega)]
  obtain ⟨S, d4, he, hS, hsh, hd4⟩ := sheets_yes hd3 (n := n) (k := k) (r := 2) (m := 5) (by omega) (by omega) (by decide) (by decide)
  rw [show ((2 : Nat) : Int) = 2 from rfl, show ((5 : Nat) : Int) = 5 from rfl] at he
  rw [he, bind2_pure]
  clear he
  have ht : (([700, 500, 900] : List Int).take n).length = n := by rw [List.length_take]; simp only [List.length_cons, List.length_nil]; omega
  have hr : ∀ v ∈ ([700, 500, 900] : List Int).take n, 0 ≤ v ∧ v ≤ 1000 := fun v hv => by
    have := List.mem_of_mem_take hv
    simp only [List.mem_cons, List.not_mem_nil, or_false] at this
    omega
  generalize ([700, 500, 900] : List Int).take n = t at ht hr
  rcases S with _ | ⟨s0, _ | ⟨s1, _ | ⟨s2, S⟩⟩⟩
  · exact absurd hS (by simp)
  · exact absurd hS (by simp)
  rotate_left
  · exact absurd hS (by simp)
  have g : Given w t n k [s0, s1] := ⟨by omega, by omega, by omega, by omega, wv, w1, ht, hr, by simp, hsh⟩
  have g' : Given w t n k [s1, s0] := ⟨by omega, by omega, by omega, by omega, wv, w1, ht, hr, by simp, fun l hl => hsh l (by simp only [List.mem_cons, List.not_mem_nil, or_false] at hl ⊢; exact hl.symm)⟩
  have l1 := L1_len g 2 (by simp)
  have l2 := L1_len g' 2 (by simp)
  rw [make_eq g, bind2_pure, if_pos (by simp only [List.length_cons, List.length_nil]; omega), if_pos (by simp), if_pos (by simp)]
  show bind2 (candidate_Make w t (k : Int) [s1, s0]) _ = _
  rw [make_eq g', bind2_pure, if_neg (by decide), if_neg (by decide)]
  show rl_law26_CandidateTurns_k2 (L1 w t k [s0, s1] 2) (L1 w t k [s1, s0] 2) (((L1 w t k [s0, s1] 2).length : Int) != ((L1 w t k [s1, s0] 2).length : Int)) = _
  have hturn : ∀ i, i < (L1 w t k [s0, s1] 2).length → _ := fun i hi => turned hi
  rw [two_swap, show (((L1 w t k [s1, s0] 2).length : Int) != ((L1 w t k [s1, s0] 2).length : Int)) = false by simp]
  generalize L1 w t k [s0, s1] 2 = A at *
  generalize L1 w t k [s1, s0] 2 = B at *
  unfold rl_law26_CandidateTurns_k2
  rw [if_neg (by decide)]
  have hloop := loop_for (step := fun v : Int => rl_law26_CandidateTurns_l3 A B v) (fun i => (i : Int)) A.length (.inl ()) (fun i hi => by
      simp only [rl_law26_CandidateTurns_l3]
      rw [if_pos (by simp only [decide_eq_true_eq]; omega), if_pos (by omega), if_pos (by omega), search (by omega) hi (hturn i hi), bind1_pure, if_neg (by decide), wi64 (n := (i : Int) + 1) (by omega) (by omega)]
      rfl) (by
      simp only [rl_law26_CandidateTurns_l3]
      rw [if_neg (by simp)]) (s := 0) rfl
  rw [hloop, bindE_l]
  rfl
end Go.Proofs.Ytknlckjpgmjenaa
