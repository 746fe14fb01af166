/- The plain law of JournalChain. -/
import Derived.Test.YtjedagkkeicpkaaJf
import Derived.Test.YtjedagkkeicpkaaGL7
namespace Go.Proofs.Ytjedagkkeicpkaa
open Vm
set_option linter.unusedVariables false
theorem chain_law (p : List Int) (q : Int) (hq : IntKind.u8.min ≤ q ∧ q ≤ IntKind.u8.max) : rl_law38_JournalChain p q = some true := by
  have hq0 : 0 ≤ q ∧ q ≤ 255 := hq
  unfold rl_law38_JournalChain
  rw [awake38]
  simp only [Option.bind_some, Bool.not_true, Bool.false_eq_true, if_false, rl_make_Few]
  by_cases hp : p.length ≤ 400
  rotate_left
  · rw [decide_eq_false (by omega : ¬ ((p.length : Nat) : Int) ≤ 400)]
    simp only [Bool.not_false, rl_law38_JournalChain_k1, if_true, awake38, Option.bind_some]
  rw [decide_eq_true (by omega : ((p.length : Nat) : Int) ≤ 400)]
  simp only [Bool.not_true, rl_law38_JournalChain_k1, Bool.false_eq_true, if_false]
  obtain ⟨d, he, hd⟩ := new_yes hp
  rw [he]; clear he; simp only [Option.bind_some]
  obtain ⟨j, ps, d1, he, j1, j2, j3, hd1⟩ := made_yes hd (most := 6) (by decide)
  rw [show (6 : Int) = ((6 : Nat) : Int) from rfl, he, bind3_pure]
  clear he
  subst j1
  have hsm : Small ps := fun q hq => by have := j3 q hq; omega
  have hsz := jlen_le j3
  have hjs := jn_size ps
  by_cases h2 : ps.length < 2
  · rw [if_pos (by simp only [decide_eq_true_eq]; omega)]
  rw [if_neg (by simp only [decide_eq_true_eq]; omega)]
  have w1 : IntKind.i64.wrap ((ps.length : Int) - 1) = (ps.length : Int) - 1 := wi64 (by omega) (by omega)
  have w2 : IntKind.i64.wrap q = q := wi64 (by omega) (by omega)
  have hk : (IntKind.i64.wrap q).tmod (IntKind.i64.wrap ((ps.length : Int) - 1)) = q % ((ps.length : Int) - 1) := by rw [w1, w2, tmod_nn hq0.1]
  have k0 := Int.emod_nonneg q (show ((ps.length : Int) - 1) ≠ 0 by omega)
  have k1 := Int.emod_lt_of_pos q (show 0 < ((ps.length : Int) - 1) by omega)
  obtain ⟨k, hkk⟩ := Int.eq_ofNat_of_zero_le k0
  rw [hkk] at hk k1
  rw [w1] at hk
  have hkl : k < ps.length := by omega
  have hk2 : k + 1 < ps.length := by omega
  simp only [w1, hk]
  rw [if_pos (by omega), if_pos (by omega), Int.toNat_natCast, if_pos (by omega)]
  have hloop := loop_for (step := fun v : Int × Int × Int => rl_law38_JournalChain_l2 q ps v.1 v.2.1 v.2.2) (fun i => (((jlen (ps.take i) : Nat) : Int), lastS HS 0 ((ps.take i).map bytesL), (i : Int))) k (((jlen (ps.take k) : Nat) : Int), lastS HS 0 ((ps.take k).map bytesL)) (fun i hi => by
      have hi' : i < ps.length := by omega
      simp only [rl_law38_JournalChain_l2, w1, hk, Int.toNat_natCast]
      have hts := jlen_take ps i
      have hp := getD_le j3 hi'
      have hst := jlen_step hi'
      rw [if_pos (by simpa using hi), if_pos (by omega), if_pos (by omega), if_pos (by omega), Nat.zero_add,
        wi64 (n := 12 + (((ps.getD i ByteArray.empty).size : Nat) : Int)) (by omega) (by omega), wi64 (n := ((jlen (ps.take i) : Nat) : Int) + (12 + (((ps.getD i ByteArray.empty).size : Nat) : Int))) (by omega) (by omega), bind1_pure, sum_any _ (by omega), bind1_pure, wi64 (n := (i : Int) + 1) (by omega) (by omega),
        show ((jlen (ps.take i) : Nat) : Int) + (12 + (((ps.getD i ByteArray.empty).size : Nat) : Int)) = ((jlen (ps.take (i + 1)) : Nat) : Int) by omega, ← lastS_take hi']
      rfl) (by
      simp only [rl_law38_JournalChain_l2, w1, hk, Int.toNat_natCast]
      rw [if_neg (by simp)]) (s := (0, 0, 0)) (by rw [List.take_zero]; rfl)
  rw [hloop, bind2_pure, if_pos (by omega)]
  have hts := jlen_take ps k
  have hp := getD_le j3 hkl
  have hst := jlen_step hkl
  have hte := jlen_take ps (k + 1)
  have hp2 := getD_le j3 hk2
  rw [Nat.zero_add, wi64 (n := ((jlen (ps.take k) : Nat) : Int) + 12) (by omega) (by omega), wi64 (n := ((jlen (ps.take k) : Nat) : Int) + 12 + (((ps.getD k ByteArray.empty).size : Nat) : Int)) (by omega) (by omega), sum_any _ (by omega), bind1_pure, if_pos (by omega), Int.toNat_natCast, if_pos (by omega),
    show ((jlen (ps.take k) : Nat) : Int) + 12 + (((ps.getD k ByteArray.empty).size : Nat) : Int) = ((jlen (ps.take (k + 1)) : Nat) : Int) by omega, if_pos (by omega), Int.toNat_natCast, if_pos (by omega)]
  have x1 : ((jn ps).extract 0 (jlen (ps.take k))).size ≤ 300 := by rw [ByteArray.size_extract]; omega
  have x2 : ((jn ps).extract (jlen (ps.take (k + 1))) (jn ps).size).size ≤ 300 := by rw [ByteArray.size_extract]; omega
  rw [if_pos (by rw [maxStr]; omega), wi64 (n := (k : Int) + 1) (by omega) (by omega), show (k : Int) + 1 = ((k + 1 : Nat) : Int) by omega, Int.toNat_natCast, Nat.zero_add]
  have hb8 : B8 (recs HS (lastS HS 0 ((ps.take (k + 1)).map bytesL)) ((ps.drop (k + 1)).map bytesL)) := recs_b8 HS _ _ (Small.map fun q hq => hsm q (List.mem_of_mem_drop hq))
  have hcat : (jn ps).extract 0 (jlen (ps.take k)) ++ (jn ps).extract (jlen (ps.take (k + 1))) (jn ps).size = strOf (recs HS 0 ((ps.take k).map bytesL) ++ recs HS (lastS HS 0 ((ps.take (k + 1)).map bytesL)) ((ps.drop (k + 1)).map bytesL)) := by
    rw [← strOf_append (recs_b8 HS _ 0 (hsm.take k).map) hb8, jn_take hsm k]
    congr 1
    apply bytesL_inj.1
    rw [bytesL_extract, bytesL_strOf hb8, jn_bytes hsm]
    have e3 : recs HS 0 (ps.map bytesL) = recs HS 0 ((ps.take (k + 1)).map bytesL) ++ recs HS (lastS HS 0 ((ps.take (k + 1)).map bytesL)) ((ps.drop (k + 1)).map bytesL) := by
      rw [← recs_append, ← List.map_append, List.take_append_drop]
    rw [e3, show jlen (ps.take (k + 1)) = (recs HS 0 ((ps.take (k + 1)).map bytesL)).length by rw [recs_len]; rfl, List.drop_left, List.take_of_length_le]
    rw [hjs, recs_len, recs_len]
    have := lens_append ((ps.take (k + 1)).map bytesL) ((ps.drop (k + 1)).map bytesL)
    rw [← List.map_append, List.take_append_drop] at this
    show _ ≤ lens (ps.map bytesL) - _
    omega
  have hsz2 : ((jn ps).extract 0 (jlen (ps.take k)) ++ (jn ps).extract (jlen (ps.take (k + 1))) (jn ps).size).size ≤ 1000000 := by rw [ByteArray.size_append]; omega
  rw [Read_eq hsz2, bind3_pure, if_pos (by omega), if_pos (by omega), sum_any _ (by omega), bind1_pure, sum_any _ (by omega), bind1_pure]
  by_cases hs : HS (lastS HS 0 ((ps.take k).map bytesL)) (bytesL (ps.getD (k + 1) ByteArray.empty)) = HS (HS (lastS HS 0 ((ps.take k).map bytesL)) (bytesL (ps.getD k ByteArray.empty))) (bytesL (ps.getD (k + 1) ByteArray.empty))
  · rw [if_pos (by simpa using hs)]
  rw [if_neg (by simpa using hs)]
  have hd : ps.drop (k + 1) = ps.getD (k + 1) ByteArray.empty :: ps.drop (k + 2) := by
    rw [List.drop_eq_getElem_cons hk2, List.getD_eq_getElem?_getD, List.getElem?_eq_getElem hk2]; rfl
  have hnx : nxt HS (lastS HS 0 ((ps.take k).map bytesL)) (recs HS (lastS HS 0 ((ps.take (k + 1)).map bytesL)) ((ps.drop (k + 1)).map bytesL)) = .inl 16 := by
    rw [hd, List.map_cons, recs, nxt_rcd HS _ (by rw [bl_len]; omega), lastS_take hkl, if_pos]
    intro h
    exact hs (be8_inj (HS_in _ _) (HS_in _ _) h).symm
  have hne : recs HS (lastS HS 0 ((ps.take (k + 1)).map bytesL)) ((ps.drop (k + 1)).map bytesL) ≠ [] := by
    rw [hd, List.map_cons, recs]; exact rcd_ne HS _ _ _
  have hkl2 : (ps.take k).length = k := by rw [List.length_take]; omega
  rw [hcat, rdJ_bad (hsm.take k) (by omega) hb8 hne hnx]
  simp only [hkl2]
  rw [if_pos (by decide), if_pos (by simp)]
  unfold rl_law38_JournalChain_k3
  simp
end Go.Proofs.Ytjedagkkeicpkaa
