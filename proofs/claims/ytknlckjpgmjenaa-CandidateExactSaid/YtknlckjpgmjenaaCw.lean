/- Plain: candidates of any sheets, on both sides. -/
import Derived.Test.YtknlckjpgmjenaaCz
namespace Go.Proofs.Ytknlckjpgmjenaa
open Vm
open IntKind (i64 u64 u32 u8)
set_option linter.unusedVariables false
set_option linter.unusedSimpArgs false
abbrev Cand := S_api_Candidate
/-- what the elements j, j + 1, .. (k of them) add -/
def catF (X : Nat → List Cand) : Nat → Nat → List Cand
  | _, 0 => []
  | j, k + 1 => X j ++ catF X (j + 1) k
theorem catF_len {X : Nat → List Cand} {c : Nat} : ∀ (k j : Nat), (∀ i, j ≤ i → i < j + k → (X i).length ≤ c) → (catF X j k).length ≤ c * k
  | 0, _, _ => by simp [catF]
  | k + 1, j, h => by
    have h1 := h j (Nat.le_refl _) (by omega)
    have h2 := catF_len k (j + 1) fun i a b => h i (by omega) (by omega)
    simp only [catF, List.length_append, Nat.mul_succ]
    omega
/-- what the program's loops come to: they stop when there are too many -/
def cap (L : List Cand) : List Cand ⊕ Unit := if L.length ≤ 4096 then .inl L else .inr ()
theorem cap_over {A B : List Cand} (h : ¬ A.length ≤ 4096) : cap (A ++ B) = .inr () := by
  unfold cap
  rw [if_neg (by rw [List.length_append]; omega)]
theorem lvl_prog {step : List Cand × Int → Option ((List Cand × Int) ⊕ (List Cand ⊕ Unit))} {X : Nat → List Cand} {e : Nat} (hend : ∀ A : List Cand, step (A, (e : Int)) = some (.inr (.inl A))) :
    ∀ (k j : Nat), j + k = e → (∀ i, j ≤ i → i < e → ∀ A : List Cand, A.length ≤ 4096 → step (A, (i : Int)) = some (match cap (A ++ X i) with | .inl L => .inl (L, ((i + 1 : Nat) : Int)) | .inr _ => .inr (.inr ()))) → ∀ A : List Cand, A.length ≤ 4096 → loop step (A, (j : Int)) = some (cap (A ++ catF X j k))
  | 0, j, hj, _, A, hA => by
    obtain rfl : j = e := by omega
    rw [loop_end (hend A), catF, List.append_nil]
    unfold cap
    rw [if_pos hA]
  | k + 1, j, hj, hs, A, hA => by
    have h := hs j (Nat.le_refl _) (by omega) A hA
    rw [catF, ← List.append_assoc]
    by_cases hc : (A ++ X j).length ≤ 4096
    · rw [show cap (A ++ X j) = .inl (A ++ X j) from if_pos hc] at h
      rw [loop_next h]
      exact lvl_prog hend k (j + 1) (by omega) (fun i a b => hs i (by omega) b) _ hc
    · rw [show cap (A ++ X j) = .inr () from if_neg hc] at h
      rw [loop_end h, cap_over hc]
theorem lvl_ref {step : List Cand × Int → Option ((List Cand × Int) ⊕ List Cand)} {X : Nat → List Cand} {e c : Nat} (hend : ∀ A : List Cand, step (A, (e : Int)) = some (.inr A)) :
    ∀ (k j : Nat), j + k = e → (∀ i, j ≤ i → i < e → (X i).length ≤ c) → (∀ i, j ≤ i → i < e → ∀ A : List Cand, A.length ≤ 1000000000 → step (A, (i : Int)) = some (.inl (A ++ X i, ((i + 1 : Nat) : Int)))) → ∀ A : List Cand, A.length + c * k ≤ 1000000000 → loop step (A, (j : Int)) = some (A ++ catF X j k)
  | 0, j, hj, _, _, A, hA => by
    obtain rfl : j = e := by omega
    rw [loop_end (hend A), catF, List.append_nil]
  | k + 1, j, hj, hX, hs, A, hA => by
    rw [Nat.mul_succ] at hA
    have hx := hX j (Nat.le_refl _) (by omega)
    rw [loop_next (hs j (Nat.le_refl _) (by omega) A (by omega)), catF, ← List.append_assoc]
    exact lvl_ref hend k (j + 1) (by omega) (fun i a b => hX i (by omega) b) (fun i a b => hs i (by omega) b) _ (by rw [List.length_append]; omega)
/-- records that may be compared -/
structure GV (w : S_api_Weights) (t : List Int) (k : Int) (S : List (List S_api_Sent)) : Prop where
  wv : WV w
  tl : t.length = w.Agree.length
  tr : ∀ x ∈ t, 0 ≤ x ∧ x ≤ 1000
  sl : S.length ≤ 4
  sh : ∀ r, r < S.length → (S.getD r []).length ≤ 64 ∧ ∀ i, i < (S.getD r []).length → GR (w.Agree.length : Int) k ((S.getD r []).getD i dS_api_Sent) ∧ WF ((S.getD r []).getD i dS_api_Sent).Record.Fields
  k8 : k ≤ 8
section
variable {w : S_api_Weights} {t : List Int} {k : Int} {S : List (List S_api_Sent)}
theorem cmp_any (g : GV w t k S) {x y : S_api_Sent} (hx : GR (w.Agree.length : Int) k x) (hy : GR (w.Agree.length : Int) k y) (wx : WF x.Record.Fields) (wy : WF y.Record.Fields) :
    similarity_Compare x.Record y.Record = some (List.zipWith simB x.Record.Fields y.Record.Fields, 0) ∧ rl_ref17_Compare x.Record y.Record = some (List.zipWith simB x.Record.Fields y.Record.Fields, 0) ∧ similarity_Pattern t (List.zipWith simB x.Record.Fields y.Record.Fields) = some (patS t x y, 0) ∧ rl_ref17_Pattern t (List.zipWith simB x.Record.Fields y.Record.Fields) = some (patS t x y, 0) ∧
    weight_Score w (patS t x y) = some (scoreS w (digs w.Agree.length (patS t x y)) w.Agree.length, 0) ∧ rl_ref25_Score w (patS t x y) = some (scoreS w (digs w.Agree.length (patS t x y)) w.Agree.length, 0) := by
  obtain ⟨wv, tl, tr, _, _, _⟩ := g
  have n1 := wv.2.1
  have n5 := wv.2.2.1
  have a1 := hx.2.1
  have b1 := hy.2.1
  have hz : (List.zipWith simB x.Record.Fields y.Record.Fields).length = w.Agree.length := by rw [List.length_zipWith]; omega
  have hm : ∀ v ∈ List.zipWith outc t (List.zipWith simB x.Record.Fields y.Record.Fields), 0 ≤ v ∧ v ≤ 2 := zip_all fun a b => outc_range a b
  have hr := num3_range _ hm
  rw [List.length_zipWith, hz, tl, Nat.min_self] at hr
  have hr' : 0 ≤ patS t x y ∧ patS t x y < ((3 ^ w.Agree.length : Nat) : Int) := hr
  refine ⟨by rw [compare_eq wx wy (by omega), if_pos (by omega)], by rw [refcompare_eq wx wy (by omega), if_pos (by omega)], ?_, ?_, ?_, ?_⟩
  · rw [pattern_eq (by omega), if_pos ⟨by omega, by omega, by omega⟩, if_pos ⟨tr, zip_sims wx wy⟩]; rfl
  · rw [refpattern_eq (by omega), if_pos ⟨by omega, by omega, by omega⟩, if_pos ⟨tr, zip_sims wx wy⟩]; rfl
  · rw [weight_score_eq, if_pos wv, if_pos hr']
  · rw [score_same, weight_score_eq, if_pos wv, if_pos hr']
theorem mk4_small {x y : S_api_Sent} {k : Int} {n : Int} (hx : GR n k x) (h8 : k ≤ 8) : mk4 x y < 1000000 := by
  have := hx.2.2.1
  unfold mk4
  omega
/-- the rows of candidates, from within -/
noncomputable def X4 (w : S_api_Weights) (t : List Int) (S : List (List S_api_Sent)) (r i s j : Nat) : List Cand := if agS (mk4 ((S.getD r []).getD i dS_api_Sent) ((S.getD s []).getD j dS_api_Sent)) ((S.getD r []).getD i dS_api_Sent) ((S.getD s []).getD j dS_api_Sent) = true then [candS w t (r : Int) ((S.getD r []).getD i dS_api_Sent) (s : Int) ((S.getD s []).getD j dS_api_Sent)] else []
noncomputable def X3 (w : S_api_Weights) (t : List Int) (S : List (List S_api_Sent)) (r i s : Nat) : List Cand := catF (X4 w t S r i s) 0 (S.getD s []).length
noncomputable def X2 (w : S_api_Weights) (t : List Int) (S : List (List S_api_Sent)) (r i : Nat) : List Cand := catF (X3 w t S r i) (r + 1) (S.length - (r + 1))
noncomputable def X1 (w : S_api_Weights) (t : List Int) (S : List (List S_api_Sent)) (r : Nat) : List Cand := catF (X2 w t S r) 0 (S.getD r []).length
theorem X4_len (r i s j : Nat) : (X4 w t S r i s j).length ≤ 1 := by unfold X4; split <;> simp
theorem X3_len (g : GV w t k S) {r i s : Nat} (hs : s < S.length) : (X3 w t S r i s).length ≤ 64 := by
  have h := catF_len (X := X4 w t S r i s) (c := 1) (S.getD s []).length 0 fun j _ _ => X4_len r i s j
  have := (g.sh s hs).1
  unfold X3
  omega
theorem X2_len (g : GV w t k S) {r i : Nat} : (X2 w t S r i).length ≤ 256 := by
  have h := catF_len (X := X3 w t S r i) (c := 64) (S.length - (r + 1)) (r + 1) fun s a b => X3_len g (by omega)
  have := g.sl
  unfold X2
  omega
theorem X1_len (g : GV w t k S) {r : Nat} (hr : r < S.length) : (X1 w t S r).length ≤ 16384 := by
  have h := catF_len (X := X2 w t S r) (c := 256) (S.getD r []).length 0 fun i a b => X2_len g
  have := (g.sh r hr).1
  unfold X1
  omega
theorem p4 (g : GV w t k S) {r i s : Nat} (hr : r < S.length) (hi : i < (S.getD r []).length) (hs : s < S.length) {A : List Cand} (hA : A.length ≤ 4096) : loop (fun v : (List Cand) × Int => candidate_Make_l4 w t S (r : Int) (i : Int) (s : Int) v.1 v.2) (A, 0) = some (cap (A ++ X3 w t S r i s)) := by
  have hl := (g.sh s hs).1
  refine lvl_prog (X := X4 w t S r i s) (e := (S.getD s []).length) (fun A => ?_) _ 0 (Nat.zero_add _) (fun j _ hj A hA => ?_) A hA
  · simp only [candidate_Make_l4, Int.toNat_natCast]
    rw [if_neg (by simp)]
  · obtain ⟨gx, wx⟩ := (g.sh r hr).2 i hi
    obtain ⟨gy, wy⟩ := (g.sh s hs).2 j hj
    simp only [candidate_Make_l4, candidate_Make_k5, Int.toNat_natCast]
    rw [if_pos (by simp only [decide_eq_true_eq]; omega), if_pos (by omega), if_pos (by omega), (agree_any (mk4_small gx g.k8)).1, bind1_pure, wi64 (n := (j : Int) + 1) (by omega) (by omega)]
    unfold X4
    by_cases ha : agS (mk4 ((S.getD r []).getD i dS_api_Sent) ((S.getD s []).getD j dS_api_Sent)) ((S.getD r []).getD i dS_api_Sent) ((S.getD s []).getD j dS_api_Sent) = true
    · rw [if_pos ha, ha, if_neg (by decide)]
      by_cases hA2 : A.length = 4096
      · rw [if_pos (by rw [beq_iff_eq]; omega), show cap (A ++ [candS w t (r : Int) ((S.getD r []).getD i dS_api_Sent) (s : Int) ((S.getD s []).getD j dS_api_Sent)]) = .inr () from if_neg (by simp; omega)]
      · obtain ⟨e1, _, e2, _, e3, _⟩ := cmp_any g gx gy wx wy
        rw [if_neg (by rw [beq_iff_eq]; omega)]
        unfold candidate_compared
        simp only
        rw [e1, bind2_pure, e2, bind2_pure, e3, bind2_pure, bind1_pure, if_pos (by simp; omega), show cap (A ++ [candS w t (r : Int) ((S.getD r []).getD i dS_api_Sent) (s : Int) ((S.getD s []).getD j dS_api_Sent)]) = .inl (A ++ [candS w t (r : Int) ((S.getD r []).getD i dS_api_Sent) (s : Int) ((S.getD s []).getD j dS_api_Sent)]) from if_pos (by simp; omega)]
        rfl
    · rw [if_neg ha, if_pos (by simpa using ha), List.append_nil, show cap A = .inl A from if_pos hA]
      rfl
theorem p3 (g : GV w t k S) {r i : Nat} (hr : r < S.length) (hi : i < (S.getD r []).length) {A : List Cand} (hA : A.length ≤ 4096) : loop (fun v : (List Cand) × Int => candidate_Make_l3 w t S (r : Int) (i : Int) v.1 v.2) (A, ((r + 1 : Nat) : Int)) = some (cap (A ++ X2 w t S r i)) := by
  have hl := g.sl
  refine lvl_prog (X := X3 w t S r i) (e := S.length) (fun A => ?_) _ (r + 1) (by omega) (fun s _ hs A hA => ?_) A hA
  · simp only [candidate_Make_l3]
    rw [if_neg (by simp)]
  · simp only [candidate_Make_l3]
    rw [if_pos (by simp only [decide_eq_true_eq]; omega), if_pos (by omega), if_pos (by omega), p4 g hr hi hs hA]
    cases cap (A ++ X3 w t S r i s) with
    | inl L => rw [bindE_l]; unfold candidate_Make_a6; rw [wi64 (n := (s : Int) + 1) (by omega) (by omega)]; rfl
    | inr u => rfl
theorem p2 (g : GV w t k S) {r : Nat} (hr : r < S.length) {A : List Cand} (hA : A.length ≤ 4096) : loop (fun v : (List Cand) × Int => candidate_Make_l2 w t S (r : Int) v.1 v.2) (A, 0) = some (cap (A ++ X1 w t S r)) := by
  have hl := (g.sh r hr).1
  have hsl := g.sl
  refine lvl_prog (X := X2 w t S r) (e := (S.getD r []).length) (fun A => ?_) _ 0 (Nat.zero_add _) (fun i _ hi A hA => ?_) A hA
  · simp only [candidate_Make_l2, Int.toNat_natCast]
    rw [if_neg (by simp)]
  · simp only [candidate_Make_l2, Int.toNat_natCast]
    rw [if_pos (by simp only [decide_eq_true_eq]; omega), if_pos (by omega), if_pos (by omega), wi64 (n := (r : Int) + 1) (by omega) (by omega), show (r : Int) + 1 = ((r + 1 : Nat) : Int) from rfl, p3 g hr hi hA]
    cases cap (A ++ X2 w t S r i) with
    | inl L => rw [bindE_l]; unfold candidate_Make_a8; rw [wi64 (n := (i : Int) + 1) (by omega) (by omega)]; rfl
    | inr u => rfl
theorem p1 (g : GV w t k S) : loop (fun v : (List Cand) × Int => candidate_Make_l1 w t S v.1 v.2) (([] : List Cand), 0) = some (cap (catF (X1 w t S) 0 S.length)) := by
  have hsl := g.sl
  have h := lvl_prog (step := fun v : (List Cand) × Int => candidate_Make_l1 w t S v.1 v.2) (X := X1 w t S) (e := S.length) (fun A => by
    simp only [candidate_Make_l1]
    rw [if_neg (by simp)]) S.length 0 (Nat.zero_add _) (fun r _ hr A hA => by
    simp only [candidate_Make_l1]
    rw [if_pos (by simp only [decide_eq_true_eq]; omega), if_pos (by omega), if_pos (by omega), p2 g hr hA]
    cases cap (A ++ X1 w t S r) with
    | inl L => rw [bindE_l]; unfold candidate_Make_a10; rw [wi64 (n := (r : Int) + 1) (by omega) (by omega)]; rfl
    | inr u => rfl) [] (by simp)
  rw [List.nil_append] at h
  exact h
theorem r4 (g : GV w t k S) {r i s : Nat} (hr : r < S.length) (hi : i < (S.getD r []).length) (hs : s < S.length) {A : List Cand} (hA : A.length ≤ 100000000) : loop (fun v : (List Cand) × Int => rl_ref26_Make_l7 w t S (r : Int) (i : Int) (s : Int) v.1 v.2) (A, 0) = some (A ++ X3 w t S r i s) := by
  have hl := (g.sh s hs).1
  refine lvl_ref (X := X4 w t S r i s) (e := (S.getD s []).length) (c := 1) (fun A => ?_) _ 0 (Nat.zero_add _) (fun j _ _ => X4_len r i s j) (fun j _ hj A hA => ?_) A (by omega)
  · simp only [rl_ref26_Make_l7, Int.toNat_natCast]
    rw [if_pos (by omega), if_pos (by omega), if_neg (by simp)]
  · obtain ⟨gx, wx⟩ := (g.sh r hr).2 i hi
    obtain ⟨gy, wy⟩ := (g.sh s hs).2 j hj
    simp only [rl_ref26_Make_l7, rl_ref26_Make_k8, Int.toNat_natCast]
    rw [if_pos (by omega), if_pos (by omega), if_pos (by simp only [decide_eq_true_eq]; omega), if_pos (by omega), if_pos (by omega), if_pos (by omega), if_pos (by omega), (agree_any (mk4_small gx g.k8)).2, bind1_pure, wi64 (n := (j : Int) + 1) (by omega) (by omega)]
    unfold X4
    by_cases ha : agS (mk4 ((S.getD r []).getD i dS_api_Sent) ((S.getD s []).getD j dS_api_Sent)) ((S.getD r []).getD i dS_api_Sent) ((S.getD s []).getD j dS_api_Sent) = true
    · obtain ⟨_, e1, _, e2, _, e3⟩ := cmp_any g gx gy wx wy
      rw [if_pos ha, ha, if_neg (by decide), e1, bind2_pure, e2, bind2_pure, e3, bind2_pure, if_pos (by simp; omega)]
      rfl
    · rw [if_neg ha, if_pos (by simpa using ha), List.append_nil]
      rfl
theorem r3 (g : GV w t k S) {r i : Nat} (hr : r < S.length) (hi : i < (S.getD r []).length) {A : List Cand} (hA : A.length ≤ 10000000) : loop (fun v : (List Cand) × Int => rl_ref26_Make_l6 w t S (r : Int) (i : Int) v.1 v.2) (A, ((r + 1 : Nat) : Int)) = some (A ++ X2 w t S r i) := by
  have hl := g.sl
  have key : ∀ (m s : Nat), s + m = S.length → ∀ A : List Cand, A.length + 64 * m ≤ 100000000 → loop (fun v : (List Cand) × Int => rl_ref26_Make_l6 w t S (r : Int) (i : Int) v.1 v.2) (A, (s : Int)) = some (A ++ catF (X3 w t S r i) s m) := by
    intro m
    induction m with
    | zero =>
      intro s hs A hA
      rw [loop_end (t := A) (by simp only [rl_ref26_Make_l6]; rw [if_neg (by simp only [decide_eq_true_eq]; omega)]), catF, List.append_nil]
    | succ m ih =>
      intro s hs A hA
      have hx := X3_len g (r := r) (i := i) (s := s) (by omega)
      rw [loop_next (s' := (A ++ X3 w t S r i s, ((s + 1 : Nat) : Int))) (by
        simp only [rl_ref26_Make_l6]
        rw [if_pos (by simp only [decide_eq_true_eq]; omega), r4 g hr hi (by omega) (by omega), bind1_pure, wi64 (n := (s : Int) + 1) (by omega) (by omega)]
        rfl), ih (s + 1) (by omega) _ (by rw [List.length_append]; omega), catF, List.append_assoc]
  exact key _ (r + 1) (by omega) A (by omega)
theorem r2 (g : GV w t k S) {r : Nat} (hr : r < S.length) {A : List Cand} (hA : A.length ≤ 1000000) : loop (fun v : (List Cand) × Int => rl_ref26_Make_l5 w t S (r : Int) v.1 v.2) (A, 0) = some (A ++ X1 w t S r) := by
  have hl := (g.sh r hr).1
  have hsl := g.sl
  have key : ∀ (m i : Nat), i + m = (S.getD r []).length → ∀ A : List Cand, A.length + 256 * m ≤ 10000000 → loop (fun v : (List Cand) × Int => rl_ref26_Make_l5 w t S (r : Int) v.1 v.2) (A, (i : Int)) = some (A ++ catF (X2 w t S r) i m) := by
    intro m
    induction m with
    | zero =>
      intro i hi A hA
      rw [loop_end (t := A) (by simp only [rl_ref26_Make_l5, Int.toNat_natCast]; rw [if_pos (by omega), if_pos (by omega), if_neg (by simp only [decide_eq_true_eq]; omega)]), catF, List.append_nil]
    | succ m ih =>
      intro i hi A hA
      have hx := X2_len g (r := r) (i := i)
      rw [loop_next (s' := (A ++ X2 w t S r i, ((i + 1 : Nat) : Int))) (by
        simp only [rl_ref26_Make_l5, Int.toNat_natCast]
        rw [if_pos (by omega), if_pos (by omega), if_pos (by simp only [decide_eq_true_eq]; omega), wi64 (n := (r : Int) + 1) (by omega) (by omega), show (r : Int) + 1 = ((r + 1 : Nat) : Int) from rfl, r3 g hr (by omega) (by omega), bind1_pure, wi64 (n := (i : Int) + 1) (by omega) (by omega)]
        rfl), ih (i + 1) (by omega) _ (by rw [List.length_append]; omega), catF, List.append_assoc]
  exact key _ 0 (Nat.zero_add _) A (by omega)
theorem r1 (g : GV w t k S) : loop (fun v : (List Cand) × Int => rl_ref26_Make_l4 w t S v.1 v.2) (([] : List Cand), 0) = some (catF (X1 w t S) 0 S.length) := by
  have hsl := g.sl
  have key : ∀ (m r : Nat), r + m = S.length → ∀ A : List Cand, A.length + 16384 * m ≤ 1000000 → loop (fun v : (List Cand) × Int => rl_ref26_Make_l4 w t S v.1 v.2) (A, (r : Int)) = some (A ++ catF (X1 w t S) r m) := by
    intro m
    induction m with
    | zero =>
      intro r hr A hA
      rw [loop_end (t := A) (by simp only [rl_ref26_Make_l4]; rw [if_neg (by simp only [decide_eq_true_eq]; omega)]), catF, List.append_nil]
    | succ m ih =>
      intro r hr A hA
      have hx := X1_len g (r := r) (by omega)
      rw [loop_next (s' := (A ++ X1 w t S r, ((r + 1 : Nat) : Int))) (by
        simp only [rl_ref26_Make_l4]
        rw [if_pos (by simp only [decide_eq_true_eq]; omega), r2 g (by omega) (by omega), bind1_pure, wi64 (n := (r : Int) + 1) (by omega) (by omega)]
        rfl), ih (r + 1) (by omega) _ (by rw [List.length_append]; omega), catF, List.append_assoc]
  have := key S.length 0 (Nat.zero_add _) [] (by simp; omega)
  rw [List.nil_append] at this
  exact this
end
end Go.Proofs.Ytknlckjpgmjenaa
