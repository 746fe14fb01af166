/- Similarities of encoded records; lists of numbers that are compared. -/
import Derived.Test.YteholdifeilkkaaPb
import Derived.Test.YteholdifeilkkaaNh
namespace Go.Proofs.Yteholdifeilkkaa
open Vm
theorem ints_eq {p q : List Int} (h : p.length < 1000000) : rl_ref01_Ints p q = some (decide (p = q)) := by
  unfold rl_ref01_Ints
  by_cases hl : p.length = q.length
  · rw [if_neg (by simp; omega)]
    obtain ⟨t, h1, h2⟩ := loop_inv (step := fun v : Int => rl_ref01_Ints_l4 p q v) p.length (fun i s => s = (i : Int) ∧ ∀ j, j < i → p[j]? = q[j]?) (fun t => (t = .inl () ∧ p = q) ∨ (t = .inr () ∧ p ≠ q)) (by
      rintro i hi s ⟨rfl, hs⟩
      by_cases he : p[i]? = q[i]?
      · exact .inl ⟨((i + 1 : Nat) : Int), by grind [rl_ref01_Ints_l4, wi64], rfl, fun j hj => by grind⟩
      · exact .inr ⟨.inr (), by grind [rl_ref01_Ints_l4], .inr ⟨rfl, fun e => he (by rw [e])⟩⟩) (by
      rintro s ⟨rfl, hs⟩
      exact ⟨.inl (), by grind [rl_ref01_Ints_l4], .inl ⟨rfl, List.ext_getElem? fun j => by
        by_cases hj : j < p.length
        · exact hs j hj
        · rw [List.getElem?_eq_none (by omega), List.getElem?_eq_none (by omega)]⟩⟩) (s := 0) ⟨rfl, fun j hj => absurd hj (by omega)⟩
    rw [h1]
    rcases h2 with ⟨rfl, rfl⟩ | ⟨rfl, hn⟩
    · simp [bindE, rl_ref01_Ints_a5]
    · simp [bindE, rl_ref01_Ints_a6, hn]
  · rw [if_pos (by simp; omega)]
    rw [decide_eq_false (fun e => hl (by rw [e]))]
theorem fields_eq (n : Int) : similarity_fields n = some (decide (1 ≤ n ∧ n ≤ 5)) := by
  grind [similarity_fields, similarity_fields_k2]
def WF (l : List S_api_Bits) : Prop := ∀ b ∈ l, W64 b.Words
theorem WF.get {l : List S_api_Bits} (h : WF l) {i : Nat} (hi : i < l.length) : W64 (l.getD i dS_api_Bits).Words := by
  rw [List.getD_eq_getElem?_getD, List.getElem?_eq_getElem hi]
  exact h _ (List.getElem_mem hi)
theorem zip_takeD {α β γ : Type} (d : α) (e : β) {f : α → β → γ} {a : List α} {b : List β} {i : Nat} (h : i < a.length) (h' : i < b.length) : List.zipWith f (a.take (i + 1)) (b.take (i + 1)) = List.zipWith f (a.take i) (b.take i) ++ [f (a.getD i d) (b.getD i e)] := by
  induction a generalizing b i with
  | nil => simp at h
  | cons x a ih =>
    cases b with
    | nil => simp at h'
    | cons z b =>
      cases i with
      | zero => simp
      | succ i => simpa using ih (i := i) (by simpa using h) (by simpa using h')
theorem compare_eq {p q : S_api_Encoded} (hp : WF p.Fields) (hq : WF q.Fields) (hl : p.Fields.length < 1000000) :
    similarity_Compare p q = some (if p.Fields.length = q.Fields.length ∧ 1 ≤ p.Fields.length ∧ p.Fields.length ≤ 5 then (List.zipWith simB p.Fields q.Fields, 0) else ([], 8)) := by
  by_cases h : p.Fields.length = q.Fields.length ∧ 1 ≤ p.Fields.length ∧ p.Fields.length ≤ 5
  · obtain ⟨h1, h2, h3⟩ := h
    have hL : loop (fun v : List Int × Int => similarity_Compare_l6 p q v.1 v.2) ([], 0) = some (List.zipWith simB p.Fields q.Fields) := by
      refine loop_for (fun i => (List.zipWith simB (p.Fields.take i) (q.Fields.take i), (i : Int))) p.Fields.length _ (fun i hi => ?_) ?_ (by simp)
      · unfold similarity_Compare_l6
        simp only [Int.toNat_natCast]
        rw [dice_eq (hp.get hi) (hq.get (by omega)), Option.bind_some, if_pos (by simpa using hi), if_pos (by omega), if_pos (by omega), if_pos (by omega), if_pos (by simp; omega), wi64 (by omega) (by omega), zip_takeD dS_api_Bits dS_api_Bits hi (by omega)]
        rfl
      · unfold similarity_Compare_l6
        simp only
        rw [if_neg (by simp), List.take_length, h1, List.take_length]
    rw [if_pos ⟨h1, h2, h3⟩]
    simp only [similarity_Compare, similarity_Compare_k4, fields_eq, Option.bind_some, hL]
    grind
  · rw [if_neg h]
    simp only [similarity_Compare, similarity_Compare_k4, fields_eq, Option.bind_some]
    grind
theorem simB_comm (p q : S_api_Bits) : simB p q = simB q p := by
  have hz : List.zipWith (iand .u64) p.Words q.Words = List.zipWith (iand .u64) q.Words p.Words := by
    rw [List.zipWith_comm]
    congr 1
    funext a b
    unfold iand
    rw [BitVec.and_comm]
  unfold simB
  rw [hz]
  grind
/-- a field of an encoded record that is dealt -/
def EncF (b : S_api_Bits) : Prop := b = EB ∨ ∃ x : Nat, x < 18446744073709551616 ∧ b = ⟨64, [(x : Int)]⟩
theorem one_word {b : S_api_Bits} (h : b.Length = 64) (hl : (b.Words.length : Int) = 64 / 64) (hw : W64 b.Words) : ∃ x : Nat, x < 18446744073709551616 ∧ b = ⟨64, [(x : Int)]⟩ := by
  obtain ⟨L, ws⟩ := b
  simp only at h hl hw
  match ws, hl with
  | [w], _ =>
    have := hw w (by simp)
    exact ⟨w.toNat, by omega, by rw [h, Int.toNat_of_nonneg this.1]⟩
theorem encoded_yes {d : S_recordlinkmake_Deck} (hd : DeckOk d) {n : Nat} (hn : n < 1000) : ∃ e d', rl_law17_encoded d n = some (e, d') ∧ e.Fields.length = n ∧ (∀ b ∈ e.Fields, EncF b) ∧ DeckOk d' := by
  obtain ⟨⟨y1, y2, y3, y4⟩, h1, h2⟩ := loop_inv (step := fun v : Int × (List Int) × Int × Int × (List S_api_Bits) => rl_law17_encoded_l9 n v.1 v.2.1 v.2.2.1 v.2.2.2.1 v.2.2.2.2) n
      (fun i v => v.1 = (i : Int) ∧ DeckOk ⟨v.2.1, v.2.2.1, v.2.2.2.1⟩ ∧ v.2.2.2.2.length = i ∧ ∀ b ∈ v.2.2.2.2, EncF b) (fun t => DeckOk ⟨t.1, t.2.1, t.2.2.1⟩ ∧ t.2.2.2.length = n ∧ ∀ b ∈ t.2.2.2, EncF b) (by
    rintro i hi ⟨x6, x7, x8, x9, x10⟩ ⟨h0, h1, h2, h3⟩
    simp only at h0 h1 h2 h3
    subst h0
    left
    simp only [rl_law17_encoded_l9]
    rw [if_pos (by simpa using hi)]
    obtain ⟨v, d1, he, v0, v1, hd1⟩ := next_yes h1 (n := 6) (by decide) (by decide)
    rw [he]; clear he; first | rw [bind2_pure] | rw [bind3_pure] | rw [bind4_pure] | rw [bind1_pure]
    by_cases c : v = 0
    · rw [if_pos (by simp [c]), if_pos (by simp; omega)]
      refine ⟨_, rfl, by simp only; rw [wi64 (by omega) (by omega)]; rfl, hd1, by simp [h2], fun b hb => ?_⟩
      rcases List.mem_append.1 hb with hb | hb
      · exact h3 b hb
      · simp at hb; exact .inl hb
    · rw [if_neg (by simp [c])]
      obtain ⟨b, d2, he, b1, b2, b3, hd2⟩ := bits_yes hd1 (n := 64) (by decide) (by decide)
      rw [he]; clear he; first | rw [bind2_pure] | rw [bind3_pure] | rw [bind4_pure] | rw [bind1_pure]
      rw [if_pos (by simp; omega)]
      refine ⟨_, rfl, by simp only; rw [wi64 (by omega) (by omega)]; rfl, hd2, by simp [h2], fun b' hb => ?_⟩
      rcases List.mem_append.1 hb with hb | hb
      · exact h3 b' hb
      · simp at hb; subst hb; exact .inr (one_word b1 b2 b3)) (by
    rintro ⟨x6, x7, x8, x9, x10⟩ ⟨h0, h1, h2, h3⟩
    simp only at h0 h1 h2 h3
    subst h0
    simp only [rl_law17_encoded_l9]
    rw [if_neg (by simp)]
    exact ⟨_, rfl, h1, h2, h3⟩) (s := (0, d.list, d.at_, d.state, [])) ⟨rfl, hd, rfl, fun b hb => by cases hb⟩
  refine ⟨⟨1, 1, y4⟩, ⟨y1, y2, y3⟩, ?_, h2.2.1, h2.2.2, h2.1⟩
  unfold rl_law17_encoded
  rw [h1]
  rfl
theorem EncF.w64 {b : S_api_Bits} (h : EncF b) : W64 b.Words := by
  rcases h with rfl | ⟨x, hx, rfl⟩
  · intro w hw; cases hw
  · intro w hw; simp at hw; omega
end Go.Proofs.Yteholdifeilkkaa
