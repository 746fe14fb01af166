/- The plain law of CandidateKeys. -/
import Derived.Test.YtknlckjpgmjenaaCf
import Derived.Test.YtknlckjpgmjenaaGE0
import Derived.Test.YtknlckjpgmjenaaGL3
namespace Go.Proofs.Ytknlckjpgmjenaa
open Vm
set_option linter.unusedVariables false
set_option linter.unusedSimpArgs false
theorem awake26 : rl_law26_awake = some true := rl_law26_awake_le 200 _ (by kernel_rfl)
def mt (r a s b : Int) (c : S_api_Candidate) : Bool := ((c.A.Registry == r) && ((c.A.ID == a) && true)) && ((c.B.Registry == s) && ((c.B.ID == b) && true))
theorem cand_take {l : List S_api_Candidate} {i : Nat} (hi : i < l.length) : l.take (i + 1) = l.take i ++ [l.getD i dS_api_Candidate] := by
  rw [List.take_add_one, List.getD_eq_getElem?_getD, List.getElem?_eq_getElem hi]; rfl
theorem mt_cand {w : S_api_Weights} {t : List Int} {r a s b r' s' : Int} {x y : S_api_Sent} : mt r a s b (candS w t r' x s' y) = true ↔ r' = r ∧ x.Record.ID = a ∧ s' = s ∧ y.Record.ID = b := by
  unfold mt candS
  simp only [Bool.and_true, Bool.and_eq_true, beq_iff_eq]
  constructor
  · rintro ⟨⟨a, b⟩, c, d⟩; exact ⟨a, b, c, d⟩
  · rintro ⟨a, b, c, d⟩; exact ⟨⟨a, b⟩, c, d⟩
def nsum (f : Nat → Nat) : Nat → Nat
  | 0 => 0
  | n + 1 => nsum f n + f n
theorem nsum_add (f g : Nat → Nat) : ∀ n, nsum (fun i => f i + g i) n = nsum f n + nsum g n
  | 0 => rfl
  | n + 1 => by simp only [nsum, nsum_add f g n]; omega
theorem nsum_zero : ∀ n, nsum (fun _ => 0) n = 0
  | 0 => rfl
  | n + 1 => by simp only [nsum, nsum_zero n]
section
variable {w : S_api_Weights} {t : List Int} {n k : Nat} {S : List (List S_api_Sent)}
/-- the i-th record of the r-th sheet -/
def at_ (S : List (List S_api_Sent)) (r i : Nat) : S_api_Sent := (S.getD r []).getD i dS_api_Sent
theorem ids {l : List S_api_Sent} (h : SH n k l) {i j : Nat} (hi : i < l.length) (hj : j < l.length) : (l.getD i dS_api_Sent).Record.ID = (l.getD j dS_api_Sent).Record.ID ↔ i = j := by
  constructor
  · intro e
    rcases Nat.lt_trichotomy i j with q | q | q
    · have := h.2.2 i j q hj; omega
    · exact q
    · have := h.2.2 j i q hi; omega
  · rintro rfl; rfl
theorem c4_hit {l : List S_api_Sent} (h : SH n k l) {r s : Int} {x : S_api_Sent} {j : Nat} (hj : j < l.length) : ∀ m, m ≤ l.length → (L4 w t k r x s (l.take m)).countP (mt r x.Record.ID s (l.getD j dS_api_Sent).Record.ID) = if j < m ∧ agS k x (l.getD j dS_api_Sent) = true then 1 else 0
  | 0, _ => by rw [if_neg (by omega)]; rfl
  | m + 1, hm => by
    have ih := c4_hit h (r := r) (s := s) (x := x) hj m (by omega)
    rw [L4_take (show m < l.length by omega)]
    by_cases ha : agS k x (l.getD m dS_api_Sent) = true
    · rw [if_pos ha, List.countP_append, ih, List.countP_cons, List.countP_nil]
      by_cases e : m = j
      · subst e
        rw [if_neg (by omega), if_pos (mt_cand.2 ⟨rfl, rfl, rfl, rfl⟩), if_pos ⟨by omega, ha⟩]
      · rw [if_neg (fun q => e ((ids h (by omega) hj).1 (mt_cand.1 q).2.2.2))]
        by_cases q : j < m ∧ agS k x (l.getD j dS_api_Sent) = true
        · rw [if_pos q, if_pos ⟨by omega, q.2⟩]
        · rw [if_neg q, if_neg (fun z => q ⟨by omega, z.2⟩)]
    · rw [if_neg ha, ih]
      by_cases e : m = j
      · subst e
        rw [if_neg (by omega), if_neg (fun q => ha q.2)]
      · by_cases q : j < m ∧ agS k x (l.getD j dS_api_Sent) = true
        · rw [if_pos q, if_pos ⟨by omega, q.2⟩]
        · rw [if_neg q, if_neg (fun z => q ⟨by omega, z.2⟩)]
theorem c4_miss {l : List S_api_Sent} {r a s b r' s' : Int} {x : S_api_Sent} (h : r' ≠ r ∨ x.Record.ID ≠ a ∨ s' ≠ s) : (L4 w t k r' x s' l).countP (mt r a s b) = 0 := by
  refine List.countP_eq_zero.2 fun c hc => ?_
  obtain ⟨y, hy, rfl⟩ := List.mem_map.1 hc
  intro q
  have := mt_cand.1 q
  omega
theorem c3_miss {r' : Nat} {r a s b : Int} {x : S_api_Sent} (h : (r' : Int) ≠ r ∨ x.Record.ID ≠ a) : ∀ J, (L3 w t k S r' x J).countP (mt r a s b) = 0
  | 0 => rfl
  | J + 1 => by rw [L3, List.countP_append, c3_miss h J, c4_miss (by omega)]
theorem c3_hit (g : Given w t n k S) {r s i j : Nat} (hrs : r < s) (hs : s < S.length) (hj : j < (S.getD s []).length) : ∀ J, r + 1 + J ≤ S.length → (L3 w t k S r (at_ S r i) J).countP (mt (r : Int) (at_ S r i).Record.ID (s : Int) (at_ S s j).Record.ID) = if s < r + 1 + J ∧ agS k (at_ S r i) (at_ S s j) = true then 1 else 0
  | 0, _ => by rw [if_neg (by omega)]; rfl
  | J + 1, h => by
    rw [L3, List.countP_append, c3_hit g hrs hs hj J (by omega)]
    by_cases e : r + 1 + J = s
    · have h4 := c4_hit (w := w) (t := t) (g.sh _ (sheets_get hs)) (r := (r : Int)) (s := (s : Int)) (x := at_ S r i) hj _ (Nat.le_refl _)
      rw [List.take_of_length_le (Nat.le_refl _)] at h4
      rw [e]
      show _ + (L4 w t k (r : Int) (at_ S r i) (s : Int) (S.getD s [])).countP (mt (r : Int) (at_ S r i).Record.ID (s : Int) ((S.getD s []).getD j dS_api_Sent).Record.ID) = _
      rw [h4, if_neg (by omega)]
      by_cases q : agS k (at_ S r i) (at_ S s j) = true
      · rw [if_pos ⟨hj, q⟩, if_pos ⟨by omega, q⟩]
      · rw [if_neg (fun z => q z.2), if_neg (fun z => q z.2)]
    · rw [c4_miss (.inr (.inr (by omega)))]
      by_cases q : s < r + 1 + J ∧ agS k (at_ S r i) (at_ S s j) = true
      · rw [if_pos q, if_pos ⟨by omega, q.2⟩]
      · rw [if_neg q, if_neg (fun z => q ⟨by omega, z.2⟩)]
theorem c2_miss {r' : Nat} {r a s b : Int} (h : (r' : Int) ≠ r) : ∀ I, (L2 w t k S r' I).countP (mt r a s b) = 0
  | 0 => rfl
  | I + 1 => by rw [L2, List.countP_append, c2_miss h I, c3_miss (.inl h)]
theorem c2_hit (g : Given w t n k S) {r s i j : Nat} (hrs : r < s) (hs : s < S.length) (hi : i < (S.getD r []).length) (hj : j < (S.getD s []).length) : ∀ I, I ≤ (S.getD r []).length → (L2 w t k S r I).countP (mt (r : Int) (at_ S r i).Record.ID (s : Int) (at_ S s j).Record.ID) = if i < I ∧ agS k (at_ S r i) (at_ S s j) = true then 1 else 0
  | 0, _ => by rw [if_neg (by omega)]; rfl
  | I + 1, h => by
    rw [L2, List.countP_append, c2_hit g hrs hs hi hj I (by omega)]
    by_cases e : I = i
    · subst e
      show _ + (L3 w t k S r (at_ S r I) (S.length - (r + 1))).countP _ = _
      rw [c3_hit g hrs hs hj _ (by omega), if_neg (by omega)]
      by_cases q : agS k (at_ S r I) (at_ S s j) = true
      · rw [if_pos ⟨by omega, q⟩, if_pos ⟨by omega, q⟩]
      · rw [if_neg (fun z => q z.2), if_neg (fun z => q z.2)]
    · show _ + (L3 w t k S r (at_ S r I) (S.length - (r + 1))).countP _ = _
      rw [c3_miss (x := at_ S r I) (a := (at_ S r i).Record.ID) (.inr (fun q => e ((ids (g.sh _ (sheets_get (show r < S.length by omega))) (by omega) hi).1 q)))]
      by_cases q : i < I ∧ agS k (at_ S r i) (at_ S s j) = true
      · rw [if_pos q, if_pos ⟨by omega, q.2⟩]
      · rw [if_neg q, if_neg (fun z => q ⟨by omega, z.2⟩)]
theorem c1_hit (g : Given w t n k S) {r s i j : Nat} (hrs : r < s) (hs : s < S.length) (hi : i < (S.getD r []).length) (hj : j < (S.getD s []).length) : ∀ R, R ≤ S.length → (L1 w t k S R).countP (mt (r : Int) (at_ S r i).Record.ID (s : Int) (at_ S s j).Record.ID) = if r < R ∧ agS k (at_ S r i) (at_ S s j) = true then 1 else 0
  | 0, _ => by rw [if_neg (by omega)]; rfl
  | R + 1, h => by
    rw [L1, List.countP_append, c1_hit g hrs hs hi hj R (by omega)]
    by_cases e : R = r
    · subst e
      rw [c2_hit g hrs hs hi hj _ (Nat.le_refl _), if_neg (by omega)]
      by_cases q : agS k (at_ S R i) (at_ S s j) = true
      · rw [if_pos ⟨hi, q⟩, if_pos ⟨by omega, q⟩]
      · rw [if_neg (fun z => q z.2), if_neg (fun z => q z.2)]
    · rw [c2_miss (by omega)]
      by_cases q : r < R ∧ agS k (at_ S r i) (at_ S s j) = true
      · rw [if_pos q, if_pos ⟨by omega, q.2⟩]
      · rw [if_neg q, if_neg (fun z => q ⟨by omega, z.2⟩)]
/-! How many. -/
noncomputable def N4 (w : S_api_Weights) (t : List Int) (k : Nat) (S : List (List S_api_Sent)) (r s : Nat) (I : Nat) : Nat := nsum (fun i => (L4 w t k (r : Int) (at_ S r i) (s : Int) (S.getD s [])).length) I
noncomputable def N3 (w : S_api_Weights) (t : List Int) (k : Nat) (S : List (List S_api_Sent)) (r : Nat) (J : Nat) : Nat := nsum (fun d => N4 w t k S r (r + 1 + d) (S.getD r []).length) J
noncomputable def N2 (w : S_api_Weights) (t : List Int) (k : Nat) (S : List (List S_api_Sent)) (R : Nat) : Nat := nsum (fun r => N3 w t k S r (S.length - (r + 1))) R
theorem l3_sum {r : Nat} {x : S_api_Sent} : ∀ J, (L3 w t k S r x J).length = nsum (fun d => (L4 w t k (r : Int) x ((r + 1 + d : Nat) : Int) (S.getD (r + 1 + d) [])).length) J
  | 0 => rfl
  | J + 1 => by rw [L3, List.length_append, l3_sum J]; rfl
theorem l2_sum {r : Nat} : ∀ I, (L2 w t k S r I).length = nsum (fun d => N4 w t k S r (r + 1 + d) I) (S.length - (r + 1))
  | 0 => by show 0 = nsum (fun _ => 0) _; rw [nsum_zero]
  | I + 1 => by
    rw [L2, List.length_append, l2_sum I, l3_sum, ← nsum_add]
    rfl
theorem l1_sum : ∀ R, (L1 w t k S R).length = N2 w t k S R
  | 0 => rfl
  | R + 1 => by
    rw [L1, List.length_append, l1_sum R, l2_sum]
    rfl
end
/-! The loops of the law. -/
section
variable {w : S_api_Weights} {t : List Int} {n k : Nat} {S : List (List S_api_Sent)} {y10 : Int}
theorem common_eq (g : Given w t n k S) (hw : IntKind.i64.wrap (1 + y10) = (k : Int)) {r s i j : Nat} (hr : r < S.length) (hs : s < S.length) (hi : i < (S.getD r []).length) (hj : j < (S.getD s []).length) : loop (fun v : Bool × Int => rl_law26_CandidateKeys_l6 y10 S (r : Int) (s : Int) (i : Int) (j : Int) v.1 v.2) (false, 0) = some (agS k (at_ S r i) (at_ S s j)) := by
  have hx := (g.sh _ (sheets_get hr)).2.1 _ (sent_get hi)
  have hy := (g.sh _ (sheets_get hs)).2.1 _ (sent_get hj)
  have k8 := g.k8
  obtain ⟨t, e1, t1⟩ := loop_inv (step := fun v : Bool × Int => rl_law26_CandidateKeys_l6 y10 S (r : Int) (s : Int) (i : Int) (j : Int) v.1 v.2) k (fun m q => q.2 = (m : Int) ∧ (q.1 = true ↔ ∃ m', m' < m ∧ both (at_ S r i) (at_ S s j) m')) (fun t => t = agS k (at_ S r i) (at_ S s j)) (by
    rintro m hm ⟨f, z⟩ ⟨s1, s2⟩
    left
    simp only at s1 s2
    subst s1
    simp only [rl_law26_CandidateKeys_l6, rl_law26_CandidateKeys_k7, Int.toNat_natCast, Nat.zero_add]
    have ex : (S.getD r []).getD i dS_api_Sent = at_ S r i := rfl
    have ey : (S.getD s []).getD j dS_api_Sent = at_ S s j := rfl
    simp only [ex] at hx ⊢
    simp only [ey] at hy ⊢
    clear ex ey
    generalize at_ S r i = x at *
    generalize at_ S s j = y at *
    obtain ⟨a1, a2, a3, a4, a5, a6⟩ := hx
    obtain ⟨b1, b2, b3, b4, b5, b6⟩ := hy
    have w1 : IntKind.i64.wrap ((m : Int) + 1) = ((m + 1 : Nat) : Int) := by rw [wi64 (by omega) (by omega)]; rfl
    have split_ : (∃ m', m' < m + 1 ∧ both x y m') ↔ (∃ m', m' < m ∧ both x y m') ∨ both x y m := by
      constructor
      · rintro ⟨m', h1, h2⟩
        rcases Nat.lt_or_eq_of_le (Nat.le_of_lt_succ h1) with h3 | h3
        · exact .inl ⟨m', h3, h2⟩
        · exact .inr (h3 ▸ h2)
      · rintro (⟨m', h1, h2⟩ | h2)
        · exact ⟨m', by omega, h2⟩
        · exact ⟨m, by omega, h2⟩
    rw [hw, w1, if_pos (by simp only [decide_eq_true_eq]; omega)]
    by_cases hf : f = true
    · rw [if_pos hf]
      exact ⟨_, rfl, rfl, fun _ => split_.2 (.inl (s2.1 hf)), fun _ => rfl⟩
    have hf2 : ¬ ∃ m', m' < m ∧ both x y m' := fun q => hf (s2.2 q)
    rw [if_neg hf, if_pos (by omega), if_pos (by omega)]
    by_cases c1 : x.Has.getD m false = true
    · rw [if_pos c1, if_pos (by omega)]
      by_cases c2 : y.Has.getD m false = true
      · rw [if_pos c2, if_pos (by omega), if_pos (by omega)]
        refine ⟨_, rfl, rfl, ?_⟩
        simp only [beq_iff_eq]
        rw [split_]
        exact ⟨fun q => .inr ⟨c1, c2, q⟩, fun q => by rcases q with q | q; exact absurd q hf2; exact q.2.2⟩
      · rw [if_neg c2]
        refine ⟨_, rfl, rfl, ?_⟩
        rw [split_]
        exact ⟨fun q => by simp at q, fun q => by rcases q with q | q; exact absurd q hf2; exact absurd q.2.1 c2⟩
    · rw [if_neg c1]
      refine ⟨_, rfl, rfl, ?_⟩
      rw [split_]
      exact ⟨fun q => by simp at q, fun q => by rcases q with q | q; exact absurd q hf2; exact absurd q.1 c1⟩) (by
    rintro ⟨f, z⟩ ⟨s1, s2⟩
    simp only at s1 s2
    subst s1
    simp only [rl_law26_CandidateKeys_l6]
    rw [hw, if_neg (by simp)]
    refine ⟨_, rfl, ?_⟩
    unfold agS
    by_cases q : ∃ m', m' < k ∧ both (at_ S r i) (at_ S s j) m'
    · rw [decide_eq_true q]; exact s2.2 q
    · rw [decide_eq_false q]; exact Bool.eq_false_iff.2 fun z => q (s2.1 z)) (s := (false, 0)) ⟨rfl, by simp⟩
  rw [e1, t1]
theorem there_eq {L : List S_api_Candidate} (hL : L.length ≤ 4096) {r s i j : Nat} : loop (fun v : Int × Int => rl_law26_CandidateKeys_l8 S L (r : Int) (s : Int) (i : Int) (j : Int) v.1 v.2) (0, 0) = some ((L.countP (mt (r : Int) (at_ S r i).Record.ID (s : Int) (at_ S s j).Record.ID) : Nat) : Int) := by
  refine loop_for (fun m => ((((L.take m).countP (mt (r : Int) (at_ S r i).Record.ID (s : Int) (at_ S s j).Record.ID) : Nat) : Int), (m : Int))) L.length _ (fun m hm => ?_) ?_ rfl
  · have hle := List.countP_le_length (p := mt (r : Int) (at_ S r i).Record.ID (s : Int) (at_ S s j).Record.ID) (l := L.take m)
    rw [List.length_take] at hle
    rw [cand_take hm, List.countP_append, List.countP_cons, List.countP_nil]
    generalize (L.take m).countP (mt (r : Int) (at_ S r i).Record.ID (s : Int) (at_ S s j).Record.ID) = q at *
    simp only [rl_law26_CandidateKeys_l8, rl_law26_CandidateKeys_k10, rl_law26_CandidateKeys_k9, Int.toNat_natCast, Nat.zero_add]
    rw [if_pos (by simp only [decide_eq_true_eq]; omega), if_pos (by omega), if_pos (by omega), wi64 (n := (m : Int) + 1) (by omega) (by omega), wi64 (n := (q : Int) + 1) (by omega) (by omega)]
    generalize L.getD m dS_api_Candidate = c
    unfold mt at_
    generalize (c.A.Registry == (r : Int) && (c.A.ID == ((S.getD r []).getD i dS_api_Sent).Record.ID && true)) = u
    generalize (c.B.Registry == (s : Int) && (c.B.ID == ((S.getD s []).getD j dS_api_Sent).Record.ID && true)) = v
    cases u <;> cases v <;> rfl
  · simp only [rl_law26_CandidateKeys_l8]
    rw [if_neg (by simp), List.take_of_length_le (Nat.le_refl _)]
theorem nsum_le {f : Nat → Nat} {b : Nat} : ∀ m, (∀ i, i < m → f i ≤ b) → nsum f m ≤ b * m
  | 0, _ => Nat.le_refl _
  | m + 1, h => by
    have ih := nsum_le m fun i hi => h i (Nat.lt_succ_of_lt hi)
    have h1 := h m (Nat.lt_succ_self m)
    rw [nsum, Nat.mul_succ]
    omega
theorem l4len (g : Given w t n k S) {r s : Nat} {x : S_api_Sent} (hs : s < S.length) : (L4 w t k (r : Int) x (s : Int) (S.getD s [])).length ≤ 5 := Nat.le_trans L4_len (g.sh _ (sheets_get hs)).1
theorem N4_le (g : Given w t n k S) {r s I : Nat} (hs : s < S.length) : N4 w t k S r s I ≤ 5 * I := nsum_le I fun i hi => l4len g hs
theorem N3_le (g : Given w t n k S) {r J : Nat} (hJ : r + 1 + J ≤ S.length) : N3 w t k S r J ≤ 25 * J := nsum_le J fun d hd => by
  have h1 := N4_le g (r := r) (s := r + 1 + d) (I := (S.getD r []).length) (by omega)
  have h2 := (g.sh _ (sheets_get (show r < S.length by omega))).1
  omega
theorem N2_le (g : Given w t n k S) {R : Nat} (hR : R ≤ S.length) : N2 w t k S R ≤ 75 * R := nsum_le R fun r hr => by
  have h1 := N3_le g (r := r) (J := S.length - (r + 1)) (by omega)
  have h2 := g.sl
  omega
theorem k5_eq (g : Given w t n k S) (hw : IntKind.i64.wrap (1 + y10) = (k : Int)) {r s i : Nat} (hrs : r < s) (hs : s < S.length) (hi : i < (S.getD r []).length) {A : Nat} (hA : A ≤ 3000) : loop (fun v : Int × Int => rl_law26_CandidateKeys_l5 y10 S (L1 w t k S S.length) (r : Int) (s : Int) (i : Int) v.1 v.2) ((A : Int), 0) = some (.inl ((A + (L4 w t k (r : Int) (at_ S r i) (s : Int) (S.getD s [])).length : Nat) : Int)) := by
  have hl := (g.sh _ (sheets_get hs)).1
  have hL := L1_len g S.length (Nat.le_refl _)
  have sl := g.sl
  refine loop_for (fun j => (((A + (L4 w t k (r : Int) (at_ S r i) (s : Int) ((S.getD s []).take j)).length : Nat) : Int), (j : Int))) (S.getD s []).length _ (fun j hj => ?_) ?_ (by simp [L4])
  · have hlen := L4_len (w := w) (t := t) (k := k) (r := (r : Int)) (x := at_ S r i) (s := (s : Int)) (l := (S.getD s []).take j)
    rw [List.length_take] at hlen
    have hc := c1_hit (w := w) (t := t) g hrs hs hi hj S.length (Nat.le_refl _)
    simp only [rl_law26_CandidateKeys_l5, rl_law26_CandidateKeys_k11, Int.toNat_natCast, Nat.zero_add]
    rw [if_pos (by simp only [decide_eq_true_eq]; omega), if_pos (by omega), if_pos (by omega), common_eq g hw (show r < S.length by omega) hs hi hj, bind1_pure, there_eq (by omega), bind1_pure, L4_take hj]
    show _ = some (Sum.inl (((A + (if agS k (at_ S r i) (at_ S s j) = true then L4 w t k (r : Int) (at_ S r i) (s : Int) ((S.getD s []).take j) ++ [candS w t (r : Int) (at_ S r i) (s : Int) (at_ S s j)] else L4 w t k (r : Int) (at_ S r i) (s : Int) ((S.getD s []).take j)).length : Nat) : Int), ((j + 1 : Nat) : Int)))
    generalize L4 w t k (r : Int) (at_ S r i) (s : Int) ((S.getD s []).take j) = B at *
    by_cases ha : agS k (at_ S r i) (at_ S s j) = true
    · rw [if_pos ⟨by omega, ha⟩] at hc
      rw [hc, if_pos ha, ha, if_neg (by decide), decide_eq_false (by decide), if_neg (by decide), wi64 (by omega) (by omega), wi64 (by omega) (by omega), List.length_append, List.length_cons, List.length_nil]
      congr 3
    · rw [if_neg (fun q => ha q.2)] at hc
      rw [hc, if_neg ha, Bool.eq_false_iff.2 ha, if_neg (by decide), decide_eq_false (by decide), if_neg (by decide), wi64 (by omega) (by omega), wi64 (by omega) (by omega)]
      congr 3
  · simp only [rl_law26_CandidateKeys_l5, Int.toNat_natCast, Nat.zero_add]
    rw [if_neg (by simp), List.take_of_length_le (Nat.le_refl _)]
theorem k4_eq (g : Given w t n k S) (hw : IntKind.i64.wrap (1 + y10) = (k : Int)) {r s : Nat} (hrs : r < s) (hs : s < S.length) {A : Nat} (hA : A ≤ 2500) : loop (fun v : Int × Int => rl_law26_CandidateKeys_l4 y10 S (L1 w t k S S.length) (r : Int) (s : Int) v.1 v.2) ((A : Int), 0) = some (.inl ((A + N4 w t k S r s (S.getD r []).length : Nat) : Int)) := by
  have hl := (g.sh _ (sheets_get (show r < S.length by omega))).1
  refine loop_for (fun i => (((A + N4 w t k S r s i : Nat) : Int), (i : Int))) (S.getD r []).length _ (fun i hi => ?_) ?_ (by simp [N4, nsum])
  · have h1 := N4_le g (r := r) (s := s) (I := i) hs
    simp only [rl_law26_CandidateKeys_l4, Int.toNat_natCast, Nat.zero_add]
    rw [if_pos (by simp only [decide_eq_true_eq]; omega), if_pos (by omega), if_pos (by omega), if_pos (by omega), if_pos (by omega), k5_eq g hw hrs hs hi (by omega), bindE_l]
    unfold rl_law26_CandidateKeys_a12
    rw [wi64 (n := (i : Int) + 1) (by omega) (by omega), Nat.add_assoc]
    rfl
  · simp only [rl_law26_CandidateKeys_l4, Int.toNat_natCast, Nat.zero_add]
    rw [if_neg (by simp)]
theorem k3_eq (g : Given w t n k S) (hw : IntKind.i64.wrap (1 + y10) = (k : Int)) {r : Nat} (hr : r < S.length) {A : Nat} (hA : A ≤ 2000) : loop (fun v : Int × Int => rl_law26_CandidateKeys_l3 y10 S (L1 w t k S S.length) (r : Int) v.1 v.2) ((A : Int), ((r + 1 : Nat) : Int)) = some (.inl ((A + N3 w t k S r (S.length - (r + 1)) : Nat) : Int)) := by
  have sl := g.sl
  refine loop_for (fun d => (((A + N3 w t k S r d : Nat) : Int), ((r + 1 + d : Nat) : Int))) (S.length - (r + 1)) _ (fun d hd => ?_) ?_ (by simp [N3, nsum])
  · have h1 := N3_le g (r := r) (J := d) (by omega)
    simp only [rl_law26_CandidateKeys_l3]
    rw [if_pos (by simp only [decide_eq_true_eq]; omega), if_pos (by omega), if_pos (by omega), k4_eq g hw (show r < r + 1 + d by omega) (by omega) (by omega), bindE_l]
    unfold rl_law26_CandidateKeys_a14
    rw [wi64 (n := ((r + 1 + d : Nat) : Int) + 1) (by omega) (by omega), Nat.add_assoc A]
    rfl
  · simp only [rl_law26_CandidateKeys_l3]
    rw [if_neg (by simp only [decide_eq_true_eq]; omega)]
theorem k2_eq (g : Given w t n k S) (hw : IntKind.i64.wrap (1 + y10) = (k : Int)) : loop (fun v : Int × Int => rl_law26_CandidateKeys_l2 y10 S (L1 w t k S S.length) v.1 v.2) (0, 0) = some (.inl ((N2 w t k S S.length : Nat) : Int)) := by
  have sl := g.sl
  refine loop_for (fun r => (((N2 w t k S r : Nat) : Int), (r : Int))) S.length _ (fun r hr => ?_) ?_ rfl
  · have h1 := N2_le g (R := r) (by omega)
    have w1 : IntKind.i64.wrap ((r : Int) + 1) = ((r + 1 : Nat) : Int) := by rw [wi64 (by omega) (by omega)]; omega
    simp only [rl_law26_CandidateKeys_l2]
    rw [if_pos (by simp only [decide_eq_true_eq]; omega), w1, k3_eq g hw hr (by omega), bindE_l]
    unfold rl_law26_CandidateKeys_a16
    rw [w1]
    rfl
  · simp only [rl_law26_CandidateKeys_l2]
    rw [if_neg (by simp)]
end
theorem ckeys_law (p : List Int) : rl_law26_CandidateKeys p = some true := by
  unfold rl_law26_CandidateKeys
  rw [awake26]
  simp only [Option.bind_some, Bool.not_true, Bool.false_eq_true, if_false, rl_make_Few]
  by_cases hp : p.length ≤ 400
  rotate_left
  · rw [decide_eq_false (by omega : ¬ ((p.length : Nat) : Int) ≤ 400)]
    simp only [Bool.not_false, rl_law26_CandidateKeys_k1, if_true, awake26, Option.bind_some]
  rw [decide_eq_true (by omega : ((p.length : Nat) : Int) ≤ 400)]
  simp only [Bool.not_true, rl_law26_CandidateKeys_k1, Bool.false_eq_true, if_false]
  obtain ⟨d, he, hd⟩ := new_yes hp
  rw [he]; clear he; simp only [Option.bind_some]
  obtain ⟨x, d1, he, x0, x1, hd1⟩ := next_yes hd (n := 3) (by decide) (by decide)
  rw [he]; clear he; first | rw [bind2_pure] | rw [bind3_pure] | rw [bind4_pure] | rw [bind1_pure]
  obtain ⟨n, hn⟩ : ∃ n : Nat, 1 + x = n := ⟨(1 + x).toNat, by omega⟩
  have hw : IntKind.i64.wrap (1 + x) = (n : Int) := by rw [wi64 (n := 1 + x) (by omega) (by omega), hn]
  obtain ⟨z, d2, he, z0, z1, hd2⟩ := next_yes hd1 (n := 3) (by decide) (by decide)
  rw [he]; clear he; first | rw [bind2_pure] | rw [bind3_pure] | rw [bind4_pure] | rw [bind1_pure]
  obtain ⟨k, hk⟩ : ∃ k : Nat, 1 + z = k := ⟨(1 + z).toNat, by omega⟩
  have hz : IntKind.i64.wrap (1 + z) = (k : Int) := by rw [wi64 (n := 1 + z) (by omega) (by omega), hk]
  rw [hw, hz]
  obtain ⟨S, d4, he, hS, hsh, hd4⟩ := sheets_yes hd2 (n := n) (k := k) (r := 3) (m := 4) (by omega) (by omega) (by decide) (by decide)
  rw [show ((3 : Nat) : Int) = 3 from rfl, show ((4 : Nat) : Int) = 4 from rfl] at he
  rw [he, bind2_pure]
  clear he
  obtain ⟨w, d3, he, w1, wv, hd3⟩ := weights_yes hd4 (n := n) (by omega) (by omega)
  rw [he]; clear he; first | rw [bind2_pure] | rw [bind3_pure] | rw [bind4_pure] | rw [bind1_pure]
  rw [if_pos (by omega), Int.toNat_natCast, if_pos (by simp only [List.length_cons, List.length_nil]; omega)]
  have ht : (([700, 700, 700] : List Int).take n).length = n := by rw [List.length_take]; simp only [List.length_cons, List.length_nil]; omega
  have hr : ∀ v ∈ ([700, 700, 700] : List Int).take n, 0 ≤ v ∧ v ≤ 1000 := fun v hv => by
    have := List.mem_of_mem_take hv
    simp only [List.mem_cons, List.not_mem_nil, or_false] at this
    omega
  generalize ([700, 700, 700] : List Int).take n = t at ht hr ⊢
  have g : Given w t n k S := ⟨by omega, by omega, by omega, by omega, wv, w1, ht, hr, by omega, hsh⟩
  rw [make_eq g, bind2_pure, if_pos (by simp only [List.length_cons, List.length_nil]; omega), if_neg (by decide), k2_eq g hz, bindE_l]
  unfold rl_law26_CandidateKeys_a18
  rw [l1_sum]
  simp
end Go.Proofs.Ytknlckjpgmjenaa
