/- The plain law of CandidateGrows. -/
import Derived.Test.YtknlckjpgmjenaaCf
import Derived.Test.YtknlckjpgmjenaaGE0
import Derived.Test.YtknlckjpgmjenaaGL4
namespace Go.Proofs.Ytknlckjpgmjenaa
open Vm
set_option linter.unusedVariables false
set_option linter.unusedSimpArgs false
theorem awake26 : rl_law26_awake = some true := rl_law26_awake_le 200 _ (by kernel_rfl)
theorem cand_take {l : List S_api_Candidate} {i : Nat} (hi : i < l.length) : l.take (i + 1) = l.take i ++ [l.getD i dS_api_Candidate] := by
  rw [List.take_add_one, List.getD_eq_getElem?_getD, List.getElem?_eq_getElem hi]; rfl
theorem same_self {L : List S_api_Candidate} (h : L.length ≤ 4096) : rl_ref26_Same L L = some true := by
  unfold rl_ref26_Same
  rw [if_neg (by simp)]
  have hloop := loop_for (step := fun v : Int => rl_ref26_Same_l1 L L v) (fun i => (i : Int)) L.length (.inl ()) (fun i hi => by
      simp only [rl_ref26_Same_l1]
      rw [if_pos (by simp only [decide_eq_true_eq]; omega), if_pos (by omega), if_pos (by omega), if_pos (by omega), if_neg (by simp), wi64 (n := (i : Int) + 1) (by omega) (by omega)]
      rfl) (by
      simp only [rl_ref26_Same_l1]
      rw [if_neg (by simp)]) (s := 0) rfl
  rw [hloop, bindE_l]
  rfl
/-- a candidate without the record that is gone -/
def kept (r a : Int) (c : S_api_Candidate) : Bool := (!((c.A.Registry == r) && ((c.A.ID == a) && true))) && (!((c.B.Registry == r) && ((c.B.ID == a) && true)))
theorem kept_cand {w : S_api_Weights} {t : List Int} {r a r' s' : Int} {x y : S_api_Sent} : kept r a (candS w t r' x s' y) = true ↔ ¬ (r' = r ∧ x.Record.ID = a) ∧ ¬ (s' = r ∧ y.Record.ID = a) := by
  unfold kept candS
  simp only [Bool.and_true, Bool.and_eq_true, Bool.not_eq_true', Bool.and_eq_false_iff, beq_eq_false_iff_ne, Bool.eq_false_iff]
  constructor
  · rintro ⟨h1, h2⟩
    exact ⟨fun ⟨q1, q2⟩ => by simp_all, fun ⟨q1, q2⟩ => by simp_all⟩
  · rintro ⟨h1, h2⟩
    constructor <;> simp <;> grind
theorem want_eq {S : List (List S_api_Sent)} {L : List S_api_Candidate} (hL : L.length ≤ 4096) {r i : Nat} : loop (fun v : (List S_api_Candidate) × Int => rl_law26_CandidateGrows_l3 S L (r : Int) (i : Int) v.1 v.2) ([], 0) = some (L.filter (kept (r : Int) ((S.getD r []).getD i dS_api_Sent).Record.ID)) := by
  refine loop_for (fun m => ((L.take m).filter (kept (r : Int) ((S.getD r []).getD i dS_api_Sent).Record.ID), (m : Int))) L.length _ (fun m hm => ?_) ?_ rfl
  · have hle := List.length_filter_le (kept (r : Int) ((S.getD r []).getD i dS_api_Sent).Record.ID) (L.take m)
    rw [List.length_take] at hle
    rw [cand_take hm, List.filter_append, List.filter_cons, List.filter_nil]
    generalize (L.take m).filter (kept (r : Int) ((S.getD r []).getD i dS_api_Sent).Record.ID) = q at *
    simp only [rl_law26_CandidateGrows_l3, rl_law26_CandidateGrows_k5, rl_law26_CandidateGrows_k4, Int.toNat_natCast, Nat.zero_add]
    rw [if_pos (by simp only [decide_eq_true_eq]; omega), if_pos (by omega), if_pos (by omega), wi64 (n := (m : Int) + 1) (by omega) (by omega)]
    have hg : q.length + ([(⟨(L.getD m dS_api_Candidate).A, (L.getD m dS_api_Candidate).B, (L.getD m dS_api_Candidate).Pattern, (L.getD m dS_api_Candidate).Weight⟩ : S_api_Candidate)] : List S_api_Candidate).length ≤ 1099511627776 := by simp only [List.length_cons, List.length_nil]; omega
    simp only [if_pos hg]
    generalize L.getD m dS_api_Candidate = c
    unfold kept
    generalize (c.A.Registry == (r : Int) && (c.A.ID == ((S.getD r []).getD i dS_api_Sent).Record.ID && true)) = u
    generalize (c.B.Registry == (r : Int) && (c.B.ID == ((S.getD r []).getD i dS_api_Sent).Record.ID && true)) = v
    cases u <;> cases v <;> simp
  · simp only [rl_law26_CandidateGrows_l3]
    rw [if_neg (by simp), List.take_of_length_le (Nat.le_refl _)]
section
variable {w : S_api_Weights} {t : List Int} {n k : Nat} {S : List (List S_api_Sent)}
theorem L4_append {r : Int} {x : S_api_Sent} {s : Int} (a b : List S_api_Sent) : L4 w t k r x s (a ++ b) = L4 w t k r x s a ++ L4 w t k r x s b := by
  unfold L4
  rw [List.filter_append, List.map_append]
theorem f4_keep {r a r' s' : Int} {x : S_api_Sent} {l : List S_api_Sent} (h1 : ¬ (r' = r ∧ x.Record.ID = a)) (h2 : ∀ y ∈ l, ¬ (s' = r ∧ y.Record.ID = a)) : (L4 w t k r' x s' l).filter (kept r a) = L4 w t k r' x s' l := by
  refine List.filter_eq_self.2 fun c hc => ?_
  obtain ⟨y, hy, rfl⟩ := List.mem_map.1 hc
  rw [List.mem_filter] at hy
  exact kept_cand.2 ⟨h1, h2 y hy.1⟩
theorem f4_none {r a r' s' : Int} {x : S_api_Sent} {l : List S_api_Sent} (h : (r' = r ∧ x.Record.ID = a) ∨ ∀ y ∈ l, s' = r ∧ y.Record.ID = a) : (L4 w t k r' x s' l).filter (kept r a) = [] := by
  refine List.filter_eq_nil_iff.2 fun c hc => ?_
  obtain ⟨y, hy, rfl⟩ := List.mem_map.1 hc
  rw [List.mem_filter] at hy
  intro q
  have := kept_cand.1 q
  rcases h with h | h
  · exact this.1 h
  · exact this.2 (h y hy.1)
def cutS (S : List (List S_api_Sent)) (r i : Nat) : List S_api_Sent := (S.getD r []).take i ++ (S.getD r []).drop (i + 1)
def lessS (S : List (List S_api_Sent)) (r i : Nat) : List (List S_api_Sent) := S.set r (cutS S r i)
theorem less_get {r i : Nat} (hr : r < S.length) (q : Nat) : (lessS S r i).getD q [] = if r = q then cutS S r i else S.getD q [] := by
  unfold lessS
  simp only [List.getD_eq_getElem?_getD, List.getElem?_set]
  split
  · rename_i e
    rfl
  · rfl
theorem split_at {l : List S_api_Sent} {i : Nat} (hi : i < l.length) : l = l.take i ++ ([l.getD i dS_api_Sent] ++ l.drop (i + 1)) := by
  conv => lhs; rw [← List.take_append_drop i l, List.drop_eq_getElem_cons hi]
  rw [List.getD_eq_getElem?_getD, List.getElem?_eq_getElem hi]
  rfl
theorem cut_get {l : List S_api_Sent} {i : Nat} (hi : i < l.length) (j : Nat) : (l.take i ++ l.drop (i + 1)).getD j dS_api_Sent = l.getD (if j < i then j else j + 1) dS_api_Sent := by
  simp only [List.getD_eq_getElem?_getD, List.getElem?_append, List.length_take, List.getElem?_take, List.getElem?_drop]
  by_cases h : j < i
  · rw [if_pos (by omega), if_pos h, if_pos h]
  · rw [if_neg (by omega), if_neg h, show i + 1 + (j - min i l.length) = j + 1 by omega]
theorem ids {l : List S_api_Sent} (h : SH n k l) {i j : Nat} (hi : i < l.length) (hj : j < l.length) : (l.getD i dS_api_Sent).Record.ID = (l.getD j dS_api_Sent).Record.ID ↔ i = j := by
  constructor
  · intro e
    rcases Nat.lt_trichotomy i j with q | q | q
    · have := h.2.2 i j q hj; omega
    · exact q
    · have := h.2.2 j i q hi; omega
  · rintro rfl; rfl
theorem cut_ne {l : List S_api_Sent} (h : SH n k l) {i : Nat} (hi : i < l.length) : (∀ x ∈ l.take i, x.Record.ID ≠ (l.getD i dS_api_Sent).Record.ID) ∧ ∀ x ∈ l.drop (i + 1), x.Record.ID ≠ (l.getD i dS_api_Sent).Record.ID := by
  constructor
  · intro x hx e
    obtain ⟨j, hj, rfl⟩ := List.getElem_of_mem hx
    rw [List.length_take] at hj
    rw [List.getElem_take] at e
    have : l.getD j dS_api_Sent = l[j]'(by omega) := by rw [List.getD_eq_getElem?_getD, List.getElem?_eq_getElem (by omega)]; rfl
    rw [← this] at e
    have := (ids h (by omega) hi).1 e
    omega
  · intro x hx e
    obtain ⟨j, hj, rfl⟩ := List.getElem_of_mem hx
    rw [List.length_drop] at hj
    rw [List.getElem_drop] at e
    have : l.getD (i + 1 + j) dS_api_Sent = l[i + 1 + j]'(by omega) := by rw [List.getD_eq_getElem?_getD, List.getElem?_eq_getElem (by omega)]; rfl
    rw [← this] at e
    have := (ids h (by omega) hi).1 e
    omega
theorem cut_sh {l : List S_api_Sent} (h : SH n k l) {i : Nat} (hi : i < l.length) : SH n k (l.take i ++ l.drop (i + 1)) := by
  refine ⟨by rw [List.length_append, List.length_take, List.length_drop]; have := h.1; omega, fun x hx => ?_, fun a b hab hb => ?_⟩
  · rcases List.mem_append.1 hx with q | q
    · exact h.2.1 x (List.mem_of_mem_take q)
    · exact h.2.1 x (List.mem_of_mem_drop q)
  · rw [List.length_append, List.length_take, List.length_drop] at hb
    rw [cut_get hi, cut_get hi]
    exact h.2.2 _ _ (by split <;> split <;> omega) (by split <;> omega)
theorem less_given (g : Given w t n k S) {r i : Nat} (hr : r < S.length) (hi : i < (S.getD r []).length) : Given w t n k (lessS S r i) := by
  obtain ⟨n1, n5, k1, k8, wv, wl, tl, tr, sl, sh⟩ := g
  refine ⟨n1, n5, k1, k8, wv, wl, tl, tr, by unfold lessS; rw [List.length_set]; exact sl, fun l hl => ?_⟩
  rcases List.mem_or_eq_of_mem_set hl with q | q
  · exact sh l q
  · rw [q]; exact cut_sh (sh _ (sheets_get hr)) hi
theorem f3_none {r : Nat} {x : S_api_Sent} {a : Int} (h : x.Record.ID = a) : ∀ J, (L3 w t k S r x J).filter (kept (r : Int) a) = []
  | 0 => rfl
  | J + 1 => by rw [L3, List.filter_append, f3_none h J, f4_none (.inl ⟨rfl, h⟩)]; rfl
theorem f3_keep (g : Given w t n k S) {r i : Nat} (hr : r < S.length) (hi : i < (S.getD r []).length) {r' : Nat} {x : S_api_Sent} (h : ¬ ((r' : Int) = (r : Int) ∧ x.Record.ID = ((S.getD r []).getD i dS_api_Sent).Record.ID)) : ∀ J, (L3 w t k S r' x J).filter (kept (r : Int) ((S.getD r []).getD i dS_api_Sent).Record.ID) = L3 w t k (lessS S r i) r' x J
  | 0 => rfl
  | J + 1 => by
    rw [L3, L3, List.filter_append, f3_keep g hr hi h J, less_get hr]
    congr 1
    by_cases e : r = r' + 1 + J
    · rw [if_pos e]
      have hne := cut_ne (g.sh _ (sheets_get hr)) hi
      rw [← e]
      have e1 : L4 w t k (r' : Int) x (r : Int) (S.getD r []) = L4 w t k (r' : Int) x (r : Int) ((S.getD r []).take i) ++ (L4 w t k (r' : Int) x (r : Int) [(S.getD r []).getD i dS_api_Sent] ++ L4 w t k (r' : Int) x (r : Int) ((S.getD r []).drop (i + 1))) := by rw [← L4_append, ← L4_append, ← split_at hi]
      rw [e1, List.filter_append, List.filter_append, f4_keep h (fun y hy q => hne.1 y hy q.2), f4_none (.inr fun y hy => ⟨rfl, by rw [List.mem_singleton.1 hy]⟩), f4_keep h (fun y hy q => hne.2 y hy q.2), List.nil_append, ← L4_append]
      rfl
    · rw [if_neg e]
      exact f4_keep h fun y hy q => by have := q.1; omega
theorem flat_filter {α β : Type} {F F' : α → List β} {p : β → Bool} : ∀ m : List α, (∀ x ∈ m, (F x).filter p = F' x) → (m.flatMap F).filter p = m.flatMap F'
  | [], _ => rfl
  | x :: m, h => by
    rw [List.flatMap_cons, List.flatMap_cons, List.filter_append, h x List.mem_cons_self, flat_filter m fun y hy => h y (List.mem_cons_of_mem _ hy)]
theorem L2_flat {r : Nat} : ∀ I, I ≤ (S.getD r []).length → L2 w t k S r I = ((S.getD r []).take I).flatMap fun x => L3 w t k S r x (S.length - (r + 1))
  | 0, _ => rfl
  | I + 1, h => by
    rw [L2, L2_flat I (by omega), sent_take (by omega), List.flatMap_append]
    simp
theorem L2_all {r : Nat} : L2 w t k S r (S.getD r []).length = (S.getD r []).flatMap fun x => L3 w t k S r x (S.length - (r + 1)) := by
  rw [L2_flat _ (Nat.le_refl _), List.take_of_length_le (Nat.le_refl _)]
theorem f2 (g : Given w t n k S) {r i : Nat} (hr : r < S.length) (hi : i < (S.getD r []).length) (r' : Nat) : (L2 w t k S r' (S.getD r' []).length).filter (kept (r : Int) ((S.getD r []).getD i dS_api_Sent).Record.ID) = L2 w t k (lessS S r i) r' ((lessS S r i).getD r' []).length := by
  have hlen : (lessS S r i).length = S.length := by unfold lessS; rw [List.length_set]
  rw [L2_all, L2_all, hlen, less_get hr]
  by_cases e : r = r'
  · subst e
    rw [if_pos rfl]
    have hne := cut_ne (g.sh _ (sheets_get hr)) hi
    have e1 : ((S.getD r []).flatMap fun x => L3 w t k S r x (S.length - (r + 1))) = (((S.getD r []).take i).flatMap fun x => L3 w t k S r x (S.length - (r + 1))) ++ (([(S.getD r []).getD i dS_api_Sent].flatMap fun x => L3 w t k S r x (S.length - (r + 1))) ++ (((S.getD r []).drop (i + 1)).flatMap fun x => L3 w t k S r x (S.length - (r + 1)))) := by rw [← List.flatMap_append, ← List.flatMap_append, ← split_at hi]
    rw [e1, List.filter_append, List.filter_append, flat_filter (F' := fun x => L3 w t k (lessS S r i) r x (S.length - (r + 1))) ((S.getD r []).take i) (fun x hx => f3_keep g hr hi (fun q => hne.1 x hx q.2) _),
      flat_filter (F' := fun x => L3 w t k (lessS S r i) r x (S.length - (r + 1))) ((S.getD r []).drop (i + 1)) (fun x hx => f3_keep g hr hi (fun q => hne.2 x hx q.2) _),
      flat_filter (F' := fun x => []) [(S.getD r []).getD i dS_api_Sent] (fun x hx => f3_none (by rw [List.mem_singleton.1 hx]) _)]
    unfold cutS
    rw [List.flatMap_append]
    rfl
  · rw [if_neg e]
    exact flat_filter _ fun x hx => f3_keep g hr hi (fun q => by have := q.1; omega) _
theorem f1 (g : Given w t n k S) {r i : Nat} (hr : r < S.length) (hi : i < (S.getD r []).length) : ∀ R, (L1 w t k S R).filter (kept (r : Int) ((S.getD r []).getD i dS_api_Sent).Record.ID) = L1 w t k (lessS S r i) R
  | 0 => rfl
  | R + 1 => by rw [L1, L1, List.filter_append, f1 g hr hi R, f2 g hr hi R]
end
theorem grows_law (p : List Int) : rl_law26_CandidateGrows p = some true := by
  unfold rl_law26_CandidateGrows
  rw [awake26]
  simp only [Option.bind_some, Bool.not_true, Bool.false_eq_true, if_false, rl_make_Few]
  by_cases hp : p.length ≤ 400
  rotate_left
  · rw [decide_eq_false (by omega : ¬ ((p.length : Nat) : Int) ≤ 400)]
    simp only [Bool.not_false, rl_law26_CandidateGrows_k1, if_true, awake26, Option.bind_some]
  rw [decide_eq_true (by omega : ((p.length : Nat) : Int) ≤ 400)]
  simp only [Bool.not_true, rl_law26_CandidateGrows_k1, Bool.false_eq_true, if_false]
  obtain ⟨d, he, hd⟩ := new_yes hp
  rw [he]; clear he; simp only [Option.bind_some]
  obtain ⟨x, d1, he, x0, x1, hd1⟩ := next_yes hd (n := 3) (by decide) (by decide)
  rw [he]; clear he; first | rw [bind2_pure] | rw [bind3_pure] | rw [bind4_pure] | rw [bind1_pure]
  obtain ⟨n, hn⟩ : ∃ n : Nat, 1 + x = n := ⟨(1 + x).toNat, by omega⟩
  have hw : IntKind.i64.wrap (1 + x) = (n : Int) := by rw [wi64 (n := 1 + x) (by omega) (by omega), hn]
  obtain ⟨z, d2, he, z0, z1, hd2⟩ := next_yes hd1 (n := 2) (by decide) (by decide)
  rw [he]; clear he; first | rw [bind2_pure] | rw [bind3_pure] | rw [bind4_pure] | rw [bind1_pure]
  obtain ⟨k, hk⟩ : ∃ k : Nat, 1 + z = k := ⟨(1 + z).toNat, by omega⟩
  have hz : IntKind.i64.wrap (1 + z) = (k : Int) := by rw [wi64 (n := 1 + z) (by omega) (by omega), hk]
  rw [hw, hz]
  obtain ⟨w, d3, he, w1, wv, hd3⟩ := weights_yes hd2 (n := n) (by omega) (by omega)
  rw [he]; clear he; first | rw [bind2_pure] | rw [bind3_pure] | rw [bind4_pure] | rw [bind1_pure]
  rw [if_pos (by omega), Int.toNat_natCast, if_pos (by simp only [List.length_cons, List.length_nil]; omega)]
  obtain ⟨S, d4, he, hS, hsh, hd4⟩ := sheets_yes hd3 (n := n) (k := k) (r := 3) (m := 4) (by omega) (by omega) (by decide) (by decide)
  rw [show ((3 : Nat) : Int) = 3 from rfl, show ((4 : Nat) : Int) = 4 from rfl] at he
  rw [he, bind2_pure]
  clear he
  have ht : (([700, 500, 900] : List Int).take n).length = n := by rw [List.length_take]; simp only [List.length_cons, List.length_nil]; omega
  have hr : ∀ v ∈ ([700, 500, 900] : List Int).take n, 0 ≤ v ∧ v ≤ 1000 := fun v hv => by
    have := List.mem_of_mem_take hv
    simp only [List.mem_cons, List.not_mem_nil, or_false] at this
    omega
  have g : Given w (([700, 500, 900] : List Int).take n) n k S := ⟨by omega, by omega, by omega, by omega, wv, w1, ht, hr, by omega, hsh⟩
  rw [make_eq g, bind2_pure, if_pos (by simp only [List.length_cons, List.length_nil]; omega)]
  obtain ⟨u, d5, he, u0, u1, hd5⟩ := next_yes hd4 (n := 3) (by decide) (by decide)
  rw [he]; clear he; first | rw [bind2_pure] | rw [bind3_pure] | rw [bind4_pure] | rw [bind1_pure]
  obtain ⟨r, rfl⟩ := Int.eq_ofNat_of_zero_le u0
  rw [if_neg (by decide), if_pos (by omega), if_pos (by omega)]
  simp only [Int.toNat_natCast, Nat.zero_add]
  have hrS : r < S.length := by omega
  by_cases h0 : (S.getD r []).length = 0
  · unfold rl_law26_CandidateGrows_k2
    rw [if_pos (by rw [beq_iff_eq]; omega)]
    rfl
  unfold rl_law26_CandidateGrows_k2
  rw [if_neg (by rw [beq_iff_eq]; omega), if_pos (by omega), if_pos (by omega)]
  simp only [Int.toNat_natCast, Nat.zero_add, hw, hz]
  have hl5 := (hsh _ (sheets_get hrS)).1
  obtain ⟨v, d6, he, v0, v1, hd6⟩ := next_yes hd5 (n := ((S.getD r []).length : Int)) (by omega) (by omega)
  rw [he]; clear he; first | rw [bind2_pure] | rw [bind3_pure] | rw [bind4_pure] | rw [bind1_pure]
  obtain ⟨i, rfl⟩ := Int.eq_ofNat_of_zero_le v0
  have hi : i < (S.getD r []).length := by omega
  have wi : IntKind.i64.wrap ((i : Int) + 1) = ((i + 1 : Nat) : Int) := by rw [wi64 (by omega) (by omega)]; rfl
  simp only [wi, Int.toNat_natCast, List.nil_append, List.length_append, List.length_take]
  have hcut : (S.getD r []).take i ++ ((S.getD r []).drop (i + 1)).take ((S.getD r []).length - (i + 1)) = cutS S r i := by
    have e1 : ((S.getD r []).drop (i + 1)).take ((S.getD r []).length - (i + 1)) = (S.getD r []).drop (i + 1) := List.take_of_length_le (by rw [List.length_drop]; omega)
    rw [e1]
    rfl
  have hg' := less_given g hrS hi
  rw [if_pos (by omega), if_pos (by omega), if_pos (by omega), if_pos (by omega), if_pos (by omega), if_pos (by omega), if_pos (by omega), if_pos (by omega), if_pos (by omega), hcut]
  show bind2 (candidate_Make w (([700, 500, 900] : List Int).take n) (k : Int) (lessS S r i)) _ = _
  rw [make_eq hg', bind2_pure]
  have l1 := L1_len g S.length (Nat.le_refl _)
  have l2 := L1_len hg' (lessS S r i).length (Nat.le_refl _)
  have hlen : (lessS S r i).length = S.length := by unfold lessS; rw [List.length_set]
  rw [hlen] at l2
  rw [want_eq (by omega), bind1_pure, if_pos (by decide), f1 g hrS hi, hlen, same_self (by omega), bind1_pure]
  rfl
end Go.Proofs.Ytknlckjpgmjenaa
