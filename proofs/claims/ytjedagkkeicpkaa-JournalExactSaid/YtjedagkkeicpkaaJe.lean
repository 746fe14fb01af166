/- Plain: journals that are cut off. -/
import Derived.Test.YtjedagkkeicpkaaJd
namespace Go.Proofs.Ytjedagkkeicpkaa
open Vm
set_option linter.unusedVariables false
theorem mod_yes (x : Int) {n : Int} (h1 : 1 ≤ n) (h2 : n < 4611686018427387904) : ∃ v, rl_make_Mod x n = some v ∧ 0 ≤ v ∧ v < n := by
  unfold rl_make_Mod
  rw [if_neg (by simp; omega), if_pos (by omega)]
  have h3 := Int.tmod_lt_of_pos x (show 0 < n by omega)
  have h4 : -n < x.tmod n := by
    rcases Int.lt_or_le x 0 with h | h
    · have := Int.neg_tmod (-x) n
      rw [Int.neg_neg] at this
      have h5 := Int.tmod_lt_of_pos (-x) (show 0 < n by omega)
      omega
    · have := Int.tmod_nonneg n h; omega
  rw [wi64 (by omega) (by omega), tmod_nn (by omega)]
  exact ⟨_, rfl, Int.emod_nonneg _ (by omega), Int.emod_lt_of_pos _ (by omega)⟩
/-- how many whole records the first k bytes have -/
def wholeN : List ByteArray → Nat → Nat
  | [], _ => 0
  | p :: ps, k => if 12 + p.size ≤ k then wholeN ps (k - (12 + p.size)) + 1 else 0
theorem wholeN_le : ∀ (ps : List ByteArray) (k : Nat), wholeN ps k ≤ ps.length
  | [], _ => Nat.le_refl _
  | p :: ps, k => by
    have := wholeN_le ps (k - (12 + p.size))
    simp only [wholeN, List.length_cons]
    split <;> omega
theorem jlen_cons (p : ByteArray) (ps : List ByteArray) : jlen (p :: ps) = 12 + p.size + jlen ps := by rw [jlen, List.map_cons, lens, bl_len, jlen]
theorem wholeN_spec : ∀ (ps : List ByteArray) (k : Nat), jlen (ps.take (wholeN ps k)) ≤ k
  | [], k => by simp [wholeN, jlen_nil]
  | p :: ps, k => by
    have := wholeN_spec ps (k - (12 + p.size))
    simp only [wholeN]
    split
    · rw [List.take_succ_cons, jlen_cons]; omega
    · simp [jlen_nil]
theorem wholeN_next : ∀ (ps : List ByteArray) (k : Nat), wholeN ps k < ps.length → k < jlen (ps.take (wholeN ps k + 1))
  | [], k, h => by simp at h
  | p :: ps, k, h => by
    simp only [wholeN] at h ⊢
    split
    · rename_i h1
      rw [if_pos h1] at h
      have := wholeN_next ps (k - (12 + p.size)) (by simpa using h)
      rw [List.take_succ_cons, jlen_cons]; omega
    · rename_i h1
      rw [List.take_succ_cons, jlen_cons]; omega
theorem wholeN_iff (ps : List ByteArray) (k : Nat) : ∀ i, i ≤ ps.length → (jlen (ps.take i) ≤ k ↔ i ≤ wholeN ps k) := by
  intro i hi
  constructor
  · intro h
    rcases Nat.lt_or_ge (wholeN ps k) i with h1 | h1
    · have h2 := wholeN_next ps k (by omega)
      have h3 := jlen_take (ps.take i) (wholeN ps k + 1)
      rw [List.take_take, Nat.min_eq_left (by omega)] at h3
      omega
    · exact h1
  · intro h
    have h2 := jlen_take (ps.take (wholeN ps k)) i
    rw [List.take_take, Nat.min_eq_left h] at h2
    have := wholeN_spec ps k
    omega
/-- What is read of a journal that is cut off. -/
theorem rdJ_cut {ps : List ByteArray} (h : Small ps) (hn : ps.length ≤ 512) {k : Nat} (hk : k ≤ jlen ps) : rdJ ((jn ps).extract 0 k) = (ps.take (wholeN ps k), ((jlen (ps.take (wholeN ps k)) : Nat) : Int), lastS HS 0 ((ps.take (wholeN ps k)).map bytesL), if jlen (ps.take (wholeN ps k)) = k then 0 else 15) := by
  have hle := wholeN_le ps k
  have hspec := wholeN_spec ps k
  have htl : ((ps.take (wholeN ps k)).map bytesL).length = wholeN ps k := by rw [List.length_map, List.length_take]; omega
  have e0 : bytesL ((jn ps).extract 0 k) = recs HS 0 ((ps.take (wholeN ps k)).map bytesL) ++ (recs HS (lastS HS 0 ((ps.take (wholeN ps k)).map bytesL)) ((ps.drop (wholeN ps k)).map bytesL)).take (k - jlen (ps.take (wholeN ps k))) := by
    have e3 : recs HS 0 (ps.map bytesL) = recs HS 0 ((ps.take (wholeN ps k)).map bytesL) ++ recs HS (lastS HS 0 ((ps.take (wholeN ps k)).map bytesL)) ((ps.drop (wholeN ps k)).map bytesL) := by
      rw [← recs_append, ← List.map_append, List.take_append_drop]
    rw [bytesL_extract, List.drop_zero, Nat.sub_zero, jn_bytes h, e3, List.take_append, recs_len, List.take_of_length_le (by rw [recs_len]; exact hspec)]
    rfl
  rw [rdJ, e0, rd_recs HS _ _ _ _ (h.take _).len (by rw [htl]; omega), htl]
  generalize hb : lastS HS 0 ((ps.take (wholeN ps k)).map bytesL) = b
  by_cases h1 : jlen (ps.take (wholeN ps k)) = k
  · rw [if_pos h1, show k - jlen (ps.take (wholeN ps k)) = 0 by omega, List.take_zero, rd_nil]
    simp only [List.append_nil, map_back, Nat.add_zero]
    rfl
  · rw [if_neg h1]
    have hlt : wholeN ps k < ps.length := by
      rcases Nat.lt_or_ge (wholeN ps k) ps.length with h2 | h2
      · exact h2
      · rw [List.take_of_length_le h2] at hspec h1; omega
    have hnx := wholeN_next ps k hlt
    have hst := jlen_step hlt
    have hd : ps.drop (wholeN ps k) = ps.getD (wholeN ps k) ByteArray.empty :: ps.drop (wholeN ps k + 1) := by
      rw [List.drop_eq_getElem_cons hlt, List.getD_eq_getElem?_getD, List.getElem?_eq_getElem hlt]; rfl
    have hp : (bytesL (ps.getD (wholeN ps k) ByteArray.empty)).length ≤ 60000 := by
      rw [bl_len]; exact getD_le h hlt
    have e4 : (recs HS b ((ps.drop (wholeN ps k)).map bytesL)).take (k - jlen (ps.take (wholeN ps k))) = (rcd HS b (bytesL (ps.getD (wholeN ps k) ByteArray.empty))).take (k - jlen (ps.take (wholeN ps k))) := by
      rw [hd, List.map_cons, recs, List.take_append_of_le_length (by rw [rcd_len, bl_len]; omega)]
    rw [e4]
    have hnxt := nxt_cut HS (b := b) hp (k := k - jlen (ps.take (wholeN ps k))) (by rw [bl_len]; omega)
    have hne : (rcd HS b (bytesL (ps.getD (wholeN ps k) ByteArray.empty))).take (k - jlen (ps.take (wholeN ps k))) ≠ [] := by
      intro hh
      have := congrArg List.length hh
      rw [List.length_take, rcd_len] at this
      simp only [List.length_nil] at this
      omega
    rw [show 512 - wholeN ps k = (511 - wholeN ps k) + 1 by omega, rd_err HS hne hnxt]
    simp only [List.append_nil, map_back, Nat.add_zero]
    rfl
end Go.Proofs.Ytjedagkkeicpkaa
