/- The plain law of JournalPrefix. -/
import Derived.Test.YtjedagkkeicpkaaJd
import Derived.Test.YtjedagkkeicpkaaGL9
namespace Go.Proofs.Ytjedagkkeicpkaa
open Vm
set_option linter.unusedVariables false
theorem prefix_law (p : List Int) : rl_law38_JournalPrefix p = some true := by
  unfold rl_law38_JournalPrefix
  rw [awake38]
  simp only [Option.bind_some, Bool.not_true, Bool.false_eq_true, if_false, rl_make_Few]
  by_cases hp : p.length ≤ 400
  rotate_left
  · rw [decide_eq_false (by omega : ¬ ((p.length : Nat) : Int) ≤ 400)]
    simp only [Bool.not_false, rl_law38_JournalPrefix_k1, if_true, awake38, Option.bind_some]
  rw [decide_eq_true (by omega : ((p.length : Nat) : Int) ≤ 400)]
  simp only [Bool.not_true, rl_law38_JournalPrefix_k1, Bool.false_eq_true, if_false]
  obtain ⟨d, he, hd⟩ := new_yes hp
  rw [he]; clear he; simp only [Option.bind_some]
  obtain ⟨j, ps, d1, he, j1, j2, j3, hd1⟩ := made_yes hd (most := 5) (by decide)
  rw [show (5 : Int) = ((5 : Nat) : Int) from rfl, he, bind3_pure]
  clear he
  subst j1
  have hsm : Small ps := fun q hq => by have := j3 q hq; omega
  have hsz := jlen_le j3
  rw [wi64 (n := (ps.length : Int) + 1) (by omega) (by omega)]
  obtain ⟨y, d2, he, y0, y1, hd2⟩ := next_yes hd1 (n := (ps.length : Int) + 1) (by omega) (by omega)
  rw [he]; clear he; first | rw [bind2_pure] | rw [bind3_pure] | rw [bind4_pure] | rw [bind1_pure]
  obtain ⟨k, rfl⟩ := Int.eq_ofNat_of_zero_le y0
  rw [if_pos y0, Int.toNat_natCast, if_pos (by omega)]
  have hkl : (ps.take k).length = k := by rw [List.length_take]; omega
  have hloop := loop_for (step := fun v : ByteArray × Int × Int => rl_law38_JournalPrefix_l2 ps (k : Int) v.1 v.2.1 v.2.2) (fun i => (jn (ps.take i), ((jlen (ps.take i) : Nat) : Int), (i : Int))) k (.inl (jn (ps.take k), ((jlen (ps.take k) : Nat) : Int))) (fun i hi => by
      have hi' : i < ps.length := by omega
      simp only [rl_law38_JournalPrefix_l2, Int.toNat_natCast]
      have htl : (ps.take i).length = i := by rw [List.length_take]; omega
      have hts := jlen_take ps i
      have hp := getD_le j3 hi'
      have hst := jlen_step hi'
      rw [if_pos (by simpa using hi), if_pos (by omega), if_pos (by omega), if_pos (by omega), Nat.zero_add, Append_jn (hsm.take i) (by omega) (by omega) (by omega), bind2_pure, if_neg (by decide), take_snoc hi',
        wi64 (n := 12 + (((ps.getD i ByteArray.empty).size : Nat) : Int)) (by omega) (by omega), wi64 (n := ((jlen (ps.take i) : Nat) : Int) + (12 + (((ps.getD i ByteArray.empty).size : Nat) : Int))) (by omega) (by omega), bind1_pure, wi64 (n := (i : Int) + 1) (by omega) (by omega),
        show ((jlen (ps.take i) : Nat) : Int) + (12 + (((ps.getD i ByteArray.empty).size : Nat) : Int)) = ((jlen (ps.take (i + 1)) : Nat) : Int) by omega]
      rfl) (by
      simp only [rl_law38_JournalPrefix_l2, Int.toNat_natCast]
      rw [if_neg (by simp)]) (s := ((ByteArray.mk #[]), 0, 0)) (by rw [List.take_zero]; rfl)
  rw [hloop, bindE_l]
  unfold rl_law38_JournalPrefix_a4
  have hkt := jlen_take ps k
  have hjs := jn_size ps
  rw [if_pos (by omega), Int.toNat_natCast, if_pos (by omega), jn_take hsm k, str_self, if_neg (by decide)]
  obtain ⟨x, d3, he, x0, x1, hd3⟩ := next_yes hd2 (n := 256) (by decide) (by decide)
  rw [he]; clear he; first | rw [bind2_pure] | rw [bind3_pure] | rw [bind4_pure] | rw [bind1_pure]
  have h1 : (strOf ([IntKind.u8.wrap x] : List Int)).size = 1 := by rw [strOf_size]; rfl
  have h5 : (ByteArray.mk #[111, 116, 104, 101, 114]).size = 5 := rfl
  have h6 : ((ByteArray.mk #[111, 116, 104, 101, 114]) ++ (strOf ([IntKind.u8.wrap x] : List Int))).size = 6 := by rw [ByteArray.size_append, h1, h5]
  generalize hq : (ByteArray.mk #[111, 116, 104, 101, 114]) ++ (strOf ([IntKind.u8.wrap x] : List Int)) = q at h6 ⊢
  have hs2 : Small (ps.take k ++ [q]) := (hsm.take k).snoc (by omega)
  have hl2 : (ps.take k ++ [q]).length = k + 1 := by simp [hkl]
  have hj2 : jlen (ps.take k ++ [q]) ≤ 1000 := by rw [jlen_snoc]; omega
  rw [if_pos (by rw [h1, h5, maxStr]; omega), Append_jn (hsm.take k) (by omega) (by omega) (by omega), bind2_pure, Read_jn hs2 (by omega) (by omega), bind3_pure, if_pos (by decide), if_pos (by decide), if_pos (by rw [jn_size]; simp), hl2, wi64 (by omega) (by omega), if_pos (by simp), if_pos (by omega)]
  have ht : (ps.take k ++ [q]).take k = ps.take k := by
    rw [List.take_append_of_le_length (by omega), List.take_of_length_le (by omega)]
  simp only [Int.toNat_natCast]
  rw [ht, same38 (by omega), bind1_pure, if_pos (by omega), if_pos (by omega), decide_eq_true rfl]
  rfl
end Go.Proofs.Ytjedagkkeicpkaa
