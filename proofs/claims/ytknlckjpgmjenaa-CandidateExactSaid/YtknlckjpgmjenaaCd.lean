/- Plain: dealt sheets; candidates. -/
import Derived.Test.YtknlckjpgmjenaaCc
import Derived.Test.YtknlckjpgmjenaaCe
namespace Go.Proofs.Ytknlckjpgmjenaa
open Vm
set_option linter.unusedVariables false
set_option linter.unusedSimpArgs false
theorem enc_w64 {b : S_api_Bits} (h : EncF b) : W64 b.Words := by
  rcases h with rfl | ⟨x, hx, rfl⟩
  · intro w hw; exact absurd hw List.not_mem_nil
  · intro w hw; simp only [List.mem_singleton] at hw; omega
def SR (n k : Nat) (x : S_api_Sent) : Prop := x.Record.Fields.length = n ∧ (∀ b ∈ x.Record.Fields, EncF b) ∧ (1 ≤ x.Record.ID ∧ x.Record.ID ≤ 1048576) ∧ (1 ≤ x.Record.Version ∧ x.Record.Version ≤ 1048576) ∧ x.Hashes.length = k ∧ x.Has.length = k
def SH (n k : Nat) (l : List S_api_Sent) : Prop := l.length ≤ 5 ∧ (∀ x ∈ l, SR n k x) ∧ ∀ i j, i < j → j < l.length → (l.getD i dS_api_Sent).Record.ID < (l.getD j dS_api_Sent).Record.ID
theorem bits_get {l : List S_api_Bits} {i : Nat} (h : i < l.length) : l.getD i dS_api_Bits ∈ l := by
  rw [List.getD_eq_getElem?_getD, List.getElem?_eq_getElem h]
  exact List.getElem_mem h
theorem sent_get {l : List S_api_Sent} {i : Nat} (h : i < l.length) : l.getD i dS_api_Sent ∈ l := by
  rw [List.getD_eq_getElem?_getD, List.getElem?_eq_getElem h]
  exact List.getElem_mem h
theorem not_bad {b : S_api_Bits} (h : EncF b) : encode_Valid_f1 b = some false := by
  unfold encode_Valid_f1 encode_none
  rcases h with rfl | ⟨x, hx, rfl⟩
  · rfl
  · simp only
    rw [if_neg (by decide)]
    have hv : VB ⟨64, [(x : Int)]⟩ := ⟨right64, rfl⟩
    simp only [encode_none_k1, encode_Valid_f1_k1, bind1_pure, valid_eq]
    rw [decide_eq_true hv]
    rfl
theorem enc_contains {l : List S_api_Bits} (h : ∀ b ∈ l, EncF b) (hl : l.length ≤ 5) : slices_ContainsFunc_api_Bits_encode_Valid_f1 l = some false := by
  unfold slices_ContainsFunc_api_Bits_encode_Valid_f1 slices_IndexFunc_api_Bits_encode_Valid_f1
  have hloop := loop_for (step := fun v : Int => slices_IndexFunc_api_Bits_encode_Valid_f1_l1 l v) (fun i => (i : Int)) l.length (.inl ()) (fun i hi => by
      simp only [slices_IndexFunc_api_Bits_encode_Valid_f1_l1, Int.toNat_natCast]
      rw [if_pos (by simp only [decide_eq_true_eq]; omega), if_pos (by omega), if_pos (by omega), not_bad (h _ (bits_get hi)), bind1_pure, if_neg (by decide), wi64 (n := (i : Int) + 1) (by omega) (by omega)]
      rfl) (by
      simp only [slices_IndexFunc_api_Bits_encode_Valid_f1_l1]
      rw [if_neg (by simp)]) (s := 0) rfl
  rw [hloop, bindE_l]
  rfl
theorem enc_valid {n k : Nat} {x : S_api_Sent} (h : SR n k x) (h1 : 1 ≤ n) (h5 : n ≤ 5) : encode_Valid x.Record = some true := by
  obtain ⟨a1, a2, a3, a4, a5, a6⟩ := h
  unfold encode_Valid
  rw [if_pos (by simp only [decide_eq_true_eq]; omega), if_pos (by simp only [decide_eq_true_eq]; omega), if_pos (by simp only [decide_eq_true_eq]; omega), if_pos (by simp only [decide_eq_true_eq]; omega), if_pos (by simp only [decide_eq_true_eq]; omega), if_pos (by simp only [decide_eq_true_eq]; omega), enc_contains a2 (by omega), bind1_pure]
  rfl
theorem check_yes {n k : Nat} {l : List S_api_Sent} (h : SH n k l) (n1 : 1 ≤ n) (n5 : n ≤ 5) (k1 : 1 ≤ k) (k8 : k ≤ 8) : candidate_Check (n : Int) (k : Int) l = some 0 := by
  obtain ⟨hl, hr, ho⟩ := h
  unfold candidate_Check
  rw [if_neg (by simp only [decide_eq_true_eq]; omega), if_neg (by simp only [decide_eq_true_eq]; omega), if_neg (by simp only [decide_eq_true_eq]; omega), decide_eq_false (by omega)]
  unfold candidate_Check_k1
  rw [if_neg (by decide), if_neg (by simp only [decide_eq_true_eq]; omega)]
  have hloop := loop_for (step := fun v : Int => candidate_Check_l2 (n : Int) (k : Int) l v) (fun i => (i : Int)) l.length (.inl ()) (fun i hi => by
      have hx := hr _ (sent_get hi)
      obtain ⟨a1, a2, a3, a4, a5, a6⟩ := id hx
      simp only [candidate_Check_l2, candidate_Check_k3, candidate_Check_k4, candidate_Check_k5, Int.toNat_natCast]
      rw [if_pos (by simp only [decide_eq_true_eq]; omega), if_pos (by omega), if_pos (by omega), enc_valid hx n1 n5, bind1_pure, if_neg (by decide)]
      simp only [a1, a5, a6, bne_self_eq_false, Bool.false_eq_true, if_false]
      by_cases h0 : i = 0
      · subst h0
        rw [if_neg (by decide)]
        rfl
      · obtain ⟨j, rfl⟩ : ∃ j, i = j + 1 := ⟨i - 1, by omega⟩
        have w1 : IntKind.i64.wrap (((j + 1 : Nat) : Int) - 1) = (j : Int) := by rw [wi64 (by omega) (by omega)]; omega
        have w2 : IntKind.i64.wrap (((j + 1 : Nat) : Int) + 1) = ((j + 1 + 1 : Nat) : Int) := by rw [wi64 (by omega) (by omega)]; omega
        have := ho j (j + 1) (by omega) hi
        rw [w1, w2, Int.toNat_natCast, if_pos (by simp only [decide_eq_true_eq]; omega), if_pos (by omega), if_pos (by omega), if_neg (by simp only [Int.toNat_natCast, decide_eq_true_eq]; omega)]) (by
      simp only [candidate_Check_l2]
      rw [if_neg (by simp)]) (s := 0) rfl
  rw [hloop, bindE_l]
  rfl
theorem thr_contains {t : List Int} (h : ∀ x ∈ t, 0 ≤ x ∧ x ≤ 1000) (hl : t.length ≤ 5) : slices_ContainsFunc_int_candidate_check_f1 t = some false := by
  unfold slices_ContainsFunc_int_candidate_check_f1 slices_IndexFunc_int_candidate_check_f1
  have hloop := loop_for (step := fun v : Int => slices_IndexFunc_int_candidate_check_f1_l1 t v) (fun i => (i : Int)) t.length (.inl ()) (fun i hi => by
      have hx := all_getD h hi
      simp only [slices_IndexFunc_int_candidate_check_f1_l1, candidate_check_f1, candidate_check_f1_k1, Int.toNat_natCast]
      rw [if_pos (by simp only [decide_eq_true_eq]; omega), if_pos (by omega), if_pos (by omega), if_neg (by simp only [decide_eq_true_eq]; omega), bind1_pure, if_neg (by simp only [decide_eq_true_eq]; omega), wi64 (n := (i : Int) + 1) (by omega) (by omega)]
      rfl) (by
      simp only [slices_IndexFunc_int_candidate_check_f1_l1]
      rw [if_neg (by simp)]) (s := 0) rfl
  rw [hloop, bindE_l]
  rfl
theorem sheets_get {S : List (List S_api_Sent)} {i : Nat} (h : i < S.length) : S.getD i [] ∈ S := by
  rw [List.getD_eq_getElem?_getD, List.getElem?_eq_getElem h]
  exact List.getElem_mem h
/-- what Make is given -/
structure Given (w : S_api_Weights) (t : List Int) (n k : Nat) (S : List (List S_api_Sent)) : Prop where
  n1 : 1 ≤ n
  n5 : n ≤ 5
  k1 : 1 ≤ k
  k8 : k ≤ 8
  wv : WV w
  wl : w.Agree.length = n
  tl : t.length = n
  tr : ∀ x ∈ t, 0 ≤ x ∧ x ≤ 1000
  sl : S.length ≤ 3
  sh : ∀ l ∈ S, SH n k l
section
variable {w : S_api_Weights} {t : List Int} {n k : Nat} {S : List (List S_api_Sent)}
theorem ccheck_yes (g : Given w t n k S) : candidate_check w t (k : Int) S = some 0 := by
  obtain ⟨n1, n5, k1, k8, wv, wl, tl, tr, sl, sh⟩ := g
  unfold candidate_check
  rw [weight_check_eq, if_pos wv, bind1_pure, if_neg (by decide), wl, tl, if_neg (by simp), thr_contains tr (by omega), bind1_pure, if_neg (by decide), if_neg (by simp only [decide_eq_true_eq]; omega)]
  have hloop := loop_for (step := fun v : Int => candidate_check_l1 w (k : Int) S v) (fun i => (i : Int)) S.length (.inl ()) (fun i hi => by
      simp only [candidate_check_l1, Int.toNat_natCast]
      rw [if_pos (by simp only [decide_eq_true_eq]; omega), if_pos (by omega), if_pos (by omega), wl, check_yes (sh _ (sheets_get hi)) n1 n5 k1 k8, bind1_pure, if_neg (by decide), wi64 (n := (i : Int) + 1) (by omega) (by omega)]
      rfl) (by
      simp only [candidate_check_l1]
      rw [if_neg (by simp)]) (s := 0) rfl
  rw [hloop, bindE_l]
  rfl
def both (x y : S_api_Sent) (i : Nat) : Prop := x.Has.getD i false = true ∧ y.Has.getD i false = true ∧ x.Hashes.getD i 0 = y.Hashes.getD i 0
noncomputable instance (k : Nat) (x y : S_api_Sent) : Decidable (∃ i, i < k ∧ both x y i) := Classical.propDecidable _
noncomputable def agS (k : Nat) (x y : S_api_Sent) : Bool := decide (∃ i, i < k ∧ both x y i)
theorem agS_comm (k : Nat) (x y : S_api_Sent) : agS k x y = agS k y x := by
  unfold agS
  have : (∃ i, i < k ∧ both x y i) ↔ ∃ i, i < k ∧ both y x i := ⟨fun ⟨i, h, a, b, c⟩ => ⟨i, h, b, a, c.symm⟩, fun ⟨i, h, a, b, c⟩ => ⟨i, h, b, a, c.symm⟩⟩
  by_cases h : ∃ i, i < k ∧ both x y i
  · rw [decide_eq_true h, decide_eq_true (this.1 h)]
  · rw [decide_eq_false h, decide_eq_false (fun q => h (this.2 q))]
theorem agree_eq {x y : S_api_Sent} (hx : SR n k x) (hy : SR n k y) (k8 : k ≤ 8) : candidate_Agree x y = some (agS k x y) := by
  obtain ⟨a1, a2, a3, a4, a5, a6⟩ := hx
  obtain ⟨b1, b2, b3, b4, b5, b6⟩ := hy
  unfold candidate_Agree
  simp only [a5, a6, b5, b6, Int.lt_irrefl, if_false, bind1_pure]
  rcases scan (step := fun v : Int => candidate_Agree_l1 x y (k : Int) v) k (fun i => both x y i) (fun i => ()) (fun i hi => by
      simp only [candidate_Agree_l1, candidate_Agree_k2, Int.toNat_natCast]
      rw [if_pos (by simp only [decide_eq_true_eq]; omega), if_pos (by omega), if_pos (by omega)]
      have w1 : IntKind.i64.wrap ((i : Int) + 1) = ((i + 1 : Nat) : Int) := by rw [wi64 (by omega) (by omega)]; rfl
      by_cases c1 : x.Has.getD i false = true
      · rw [if_pos c1, if_pos (by omega)]
        by_cases c2 : y.Has.getD i false = true
        · rw [if_pos c2, if_pos (by omega), if_pos (by omega)]
          by_cases c3 : x.Hashes.getD i 0 = y.Hashes.getD i 0
          · left
            exact ⟨⟨c1, c2, c3⟩, by rw [if_pos (by rw [beq_iff_eq]; exact c3)]⟩
          · right
            exact ⟨fun q => c3 q.2.2, by rw [if_neg (by rw [beq_iff_eq]; exact c3), w1]⟩
        · right
          exact ⟨fun q => c2 q.2.1, by rw [if_neg c2, if_neg (by decide), w1]⟩
      · right
        exact ⟨fun q => c1 q.1, by rw [if_neg c1, if_neg (by decide), w1]⟩) (by simp only [candidate_Agree_l1]; rw [if_neg (by simp)]) with ⟨h1, h2⟩ | ⟨i, hi, hb, h1⟩
  · rw [h1, bindE_l]
    unfold agS candidate_Agree_a3
    rw [decide_eq_false (fun ⟨i, q1, q2⟩ => h2 i q1 q2)]
  · rw [h1, bindE_r]
    unfold agS candidate_Agree_a4
    rw [decide_eq_true ⟨i, hi, hb⟩]
def patS (t : List Int) (x y : S_api_Sent) : Int := num3 (List.zipWith outc t (List.zipWith simB x.Record.Fields y.Record.Fields))
def candS (w : S_api_Weights) (t : List Int) (a : Int) (x : S_api_Sent) (b : Int) (y : S_api_Sent) : S_api_Candidate := ⟨⟨a, x.Record.ID⟩, ⟨b, y.Record.ID⟩, patS t x y, scoreS w (digs w.Agree.length (patS t x y)) w.Agree.length⟩
theorem patS_comm (t : List Int) (x y : S_api_Sent) : patS t x y = patS t y x := by
  unfold patS
  have hz : List.zipWith simB x.Record.Fields y.Record.Fields = List.zipWith simB y.Record.Fields x.Record.Fields := by
    rw [List.zipWith_comm]
    have : (fun b a => simB a b) = simB := by funext b a; exact simB_comm a b
    rw [this]
  rw [hz]
theorem zip_sim {p q : List S_api_Bits} (hp : ∀ b ∈ p, EncF b) (hq : ∀ b ∈ q, EncF b) : ∀ s ∈ List.zipWith simB p q, -1 ≤ s ∧ s ≤ 1000 := by
  intro s hs
  obtain ⟨i, hi, rfl⟩ := List.mem_iff_getElem.1 hs
  rw [List.getElem_zipWith]
  have := simB_enc (hp _ (List.getElem_mem (by rw [List.length_zipWith] at hi; omega : i < p.length))) (hq _ (List.getElem_mem (by rw [List.length_zipWith] at hi; omega : i < q.length)))
  exact ⟨this.1, this.2.1⟩
theorem compared_eq (g : Given w t n k S) {x y : S_api_Sent} (hx : SR n k x) (hy : SR n k y) (a b : Int) : candidate_compared w t ⟨a, x.Record.ID⟩ ⟨b, y.Record.ID⟩ x y = some (candS w t a x b y) := by
  obtain ⟨n1, n5, k1, k8, wv, wl, tl, tr, sl, sh⟩ := g
  have a1 := hx.1
  have b1 := hy.1
  have hz : (List.zipWith simB x.Record.Fields y.Record.Fields).length = n := by rw [List.length_zipWith]; omega
  have hm : ∀ v ∈ List.zipWith outc t (List.zipWith simB x.Record.Fields y.Record.Fields), 0 ≤ v ∧ v ≤ 2 := zip_all fun a b => outc_range a b
  have hr := num3_range _ hm
  rw [List.length_zipWith, hz, tl, Nat.min_self] at hr
  unfold candidate_compared
  rw [compare_eq (fun b hb => enc_w64 (hx.2.1 b hb)) (fun b hb => enc_w64 (hy.2.1 b hb)) (by omega), if_pos ⟨by omega, by omega, by omega⟩, bind2_pure, pattern_eq (by omega), if_pos ⟨by omega, by omega, by omega⟩, if_pos ⟨tr, zip_sim hx.2.1 hy.2.1⟩, bind2_pure, weight_score_eq, if_pos wv, wl, if_pos hr, bind2_pure]
  unfold candS patS
  rw [wl]
end
end Go.Proofs.Ytknlckjpgmjenaa
