/- The plain law of JournalExact. -/
import Derived.Test.YtjedagkkeicpkaaJf
import Derived.Test.YtjedagkkeicpkaaGL3
namespace Go.Proofs.Ytjedagkkeicpkaa
open Vm
set_option linter.unusedVariables false
theorem exact_k2 (raw pay y : ByteArray) (b at_ : Int) (x : List Int) (h1 : raw.size ≤ 500) (h2 : pay.size ≤ 500) (h3 : y.size ≤ 500) (h4 : x.length ≤ 500) : rl_law38_JournalExact_k2 raw pay b at_ y x = some true := by
  unfold rl_law38_JournalExact_k2
  obtain ⟨m, e1, a0, a1⟩ := mod_yes at_ (n := ((y.size : Nat) : Int) + 1) (by omega) (by omega)
  have hs1 : (ByteArray.mk #[255, 255, 0, 0]).size = 4 := rfl
  have hs2 : (ByteArray.mk #[234, 97, 21, 158]).size = 4 := rfl
  rw [sum_eq b (by omega), bind1_pure, ref_sum_eq b (by omega), bind1_pure, if_neg (by simp), wi64 (n := ((y.size : Nat) : Int) + 1) (by omega) (by omega), e1, bind1_pure, if_pos a0, if_pos (by omega), if_pos (by rw [maxStr]; omega), if_pos (by rw [maxStr]; omega), if_pos (by rw [hs1, maxStr]; omega), if_pos (by rw [hs2, maxStr]; omega)]
  rcases scanN (step := fun v : Int => rl_law38_JournalExact_l3 raw pay y x m v) 8 (fun _ => False) (fun _ => ()) (fun i hi => by
      right
      refine ⟨fun h => h, ?_⟩
      unfold rl_law38_JournalExact_l3
      have hall : ∀ s ∈ ([y, (strOf x), (y.extract 0 m.toNat), (y ++ raw), raw, (y ++ y), ((ByteArray.mk #[255, 255, 0, 0]) ++ raw), ((ByteArray.mk #[234, 97, 21, 158]) ++ raw)] : List ByteArray), s.size ≤ 10000 := by
        intro s hs
        simp only [List.mem_cons, List.not_mem_nil, or_false] at hs
        rcases hs with rfl | rfl | rfl | rfl | rfl | rfl | rfl | rfl
        · omega
        · rw [strOf_size]; omega
        · rw [ByteArray.size_extract]; omega
        · rw [ByteArray.size_append]; omega
        · omega
        · rw [ByteArray.size_append]; omega
        · rw [ByteArray.size_append, hs1]; omega
        · rw [ByteArray.size_append, hs2]; omega
      have hlen : ([y, (strOf x), (y.extract 0 m.toNat), (y ++ raw), raw, (y ++ y), ((ByteArray.mk #[255, 255, 0, 0]) ++ raw), ((ByteArray.mk #[234, 97, 21, 158]) ++ raw)] : List ByteArray).length = 8 := rfl
      generalize ([y, (strOf x), (y.extract 0 m.toNat), (y ++ raw), raw, (y ++ y), ((ByteArray.mk #[255, 255, 0, 0]) ++ raw), ((ByteArray.mk #[234, 97, 21, 158]) ++ raw)] : List ByteArray) = L at hall hlen ⊢
      have hz := getD_le hall (i := i) (by omega)
      rw [hlen, Int.toNat_natCast, Nat.zero_add, if_pos (by simp only [decide_eq_true_eq]; omega), if_pos (by omega), if_pos (by omega)]
      generalize L.getD i ByteArray.empty = s at hz ⊢
      have hc := rdJ_count s
      rw [Read_eq (by omega), bind3_pure, ref_Read_eq (by omega), bind3_pure, append_eq (by omega), ref_append_eq (by omega)]
      rcases appJ s pay with ⟨r1, r2⟩
      rw [bind2_pure, bind2_pure, if_neg (by simp), if_neg (by simp), if_neg (by simp), str_self, if_neg (by decide), same38 (by omega), bind1_pure, decide_eq_true rfl, if_neg (by decide), whole_eq (by omega), bind1_pure, ref_whole_eq (by omega), bind1_pure, str_self]
      unfold rl_law38_JournalExact_k4
      rw [if_neg (by decide), wi64 (by omega) (by omega)]
      rfl) (by
      unfold rl_law38_JournalExact_l3
      rw [if_neg (by simp)]) with ⟨h5, _⟩ | ⟨i, _, hb, _⟩
  · rw [h5, bindE_l]
    rfl
  · exact hb.elim
theorem exact_law (p : List Int) (raw pay : ByteArray) (b at_ by_ : Int) : rl_law38_JournalExact p raw pay b at_ by_ = some true := by
  unfold rl_law38_JournalExact
  have kt : rl_law38_JournalExact_k1 p raw pay b at_ by_ true = some true := by unfold rl_law38_JournalExact_k1; rw [if_pos rfl, awake38]; rfl
  rw [awake38, bind1_pure, if_neg (by decide)]
  unfold rl_make_Few
  rw [bind1_pure]
  by_cases hp : ¬ p.length ≤ 400
  · rw [decide_eq_false (by omega), if_pos (by decide), kt]
  have hp := Decidable.not_not.1 hp
  rw [decide_eq_true (by omega), if_neg (by decide)]
  by_cases hr : 500 < raw.size
  · rw [if_pos (by simp only [decide_eq_true_eq]; omega), kt]
  rw [if_neg (by simp only [decide_eq_true_eq]; omega)]
  by_cases hq : 500 < pay.size
  · rw [decide_eq_true (by omega), kt]
  rw [decide_eq_false (by omega)]
  unfold rl_law38_JournalExact_k1
  rw [if_neg (by decide)]
  obtain ⟨d, he, hd⟩ := new_yes hp
  rw [he, bind1_pure]
  clear he
  obtain ⟨j, ps, d1, he, j1, j2, j3, hd1⟩ := made_yes hd (most := 5) (by decide)
  rw [show (5 : Int) = ((5 : Nat) : Int) from rfl, he, bind3_pure]
  clear he
  subst j1
  have hsz := jlen_le j3
  have hjs := jn_size ps
  have hbl : (bytesL (jn ps)).length = (jn ps).size := bl_len _
  rw [if_pos (by unfold maxLen; omega)]
  by_cases h0 : (bytesL (jn ps)).length = 0
  · rw [if_neg (by simp [h0]), exact_k2 _ _ _ _ _ _ (by omega) (by omega) (by omega) (by omega)]
  · rw [if_pos (by simp only [decide_eq_true_eq]; omega)]
    obtain ⟨m, e1, a0, a1⟩ := mod_yes at_ (n := (((bytesL (jn ps)).length : Nat) : Int)) (by omega) (by omega)
    rw [e1, bind1_pure, if_pos a0, if_pos a1, exact_k2 _ _ _ _ _ _ (by omega) (by omega) (by omega) (by rw [List.length_set]; omega)]
end Go.Proofs.Ytjedagkkeicpkaa
