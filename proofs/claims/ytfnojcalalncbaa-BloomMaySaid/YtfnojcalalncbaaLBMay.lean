/- The plain law of BloomMay. -/
import Derived.Test.YtfnojcalalncbaaBc
import Derived.Test.YtfnojcalalncbaaGL9
namespace Go.Proofs.Ytfnojcalalncbaa
open Vm
set_option linter.unusedVariables false
theorem getD_mem {l : List Int} {i : Nat} (h : i < l.length) : l.getD i 0 ∈ l := by
  rw [List.getD_eq_getElem?_getD, List.getElem?_eq_getElem h]
  exact List.getElem_mem h
theorem may_law (p : List Int) : rl_law14_BloomMay p = some true := by
  unfold rl_law14_BloomMay
  rw [awake14]
  simp only [Option.bind_some, Bool.not_true, Bool.false_eq_true, if_false, rl_make_Few]
  by_cases hp : p.length ≤ 400
  rotate_left
  · rw [decide_eq_false (by omega : ¬ ((p.length : Nat) : Int) ≤ 400)]
    simp only [Bool.not_false, rl_law14_BloomMay_k1, if_true, awake14, Option.bind_some]
  rw [decide_eq_true (by omega : ((p.length : Nat) : Int) ≤ 400)]
  simp only [Bool.not_true, rl_law14_BloomMay_k1, Bool.false_eq_true, if_false]
  obtain ⟨d, he, hd⟩ := new_yes hp
  rw [he]; clear he; simp only [Option.bind_some]
  obtain ⟨l, d1, he, l1, ⟨a, b, ha, hb, hl⟩, hd1⟩ := params_yes hd
  rw [he, bind2_pure, if_pos (by rw [l1]; decide)]
  clear he
  obtain ⟨k, d2, he, hd2⟩ := key_yes hd1
  rw [he]; clear he; first | rw [bind2_pure] | rw [bind3_pure] | rw [bind4_pure] | rw [bind1_pure]
  obtain ⟨xs, d3, he, x1, x2, hd3⟩ := grams_yes hd2
  rw [he]; clear he; first | rw [bind2_pure] | rw [bind3_pure] | rw [bind4_pure] | rw [bind1_pure]
  have hp := pv0 ha hb
  have sx := short_of x2
  have vx := encode_vb hp k xs
  have wx := encode_w64 (P0 a b) k xs
  obtain ⟨z1, z2⟩ := zeros_len hp.1
  have vz : VB ⟨(P0 a b).Length, zeros (P0 a b).Length⟩ := by
    refine ⟨hp.1, ?_⟩
    simp only
    omega
  rw [hl, encode_eq hp k sx (by omega), bind2_pure, refnew_bits hp.1, bind2_pure, if_neg (by decide), show ((0 : Int) != 0) = false from rfl]
  unfold rl_law14_BloomMay_k2
  rw [if_neg (by decide)]
  rcases scanN (step := fun v : Int => rl_law14_BloomMay_l3 l k xs ⟨(P0 a b).Length, encG (P0 a b) k (zeros (P0 a b).Length) xs⟩ ⟨(P0 a b).Length, List.replicate ((P0 a b).Length / 64).toNat 0⟩ v) xs.length (fun _ => False) (fun _ => ()) (fun i hi => by
      right
      refine ⟨fun h => h, ?_⟩
      have hg : xs.getD i ByteArray.empty ∈ xs := by
        rw [List.getD_eq_getElem?_getD, List.getElem?_eq_getElem hi]
        exact List.getElem_mem hi
      have hgs := sx _ hg
      obtain ⟨g1, g2, g3⟩ := pp_spec hp k hgs
      have hh := hp.2.1
      have hh2 := hp.2.2.1
      have hbit : ∀ j, j < (PP (P0 a b) k (xs.getD i ByteArray.empty)).length → bitAt (encG (P0 a b) k (zeros (P0 a b).Length) xs) ((PP (P0 a b) k (xs.getD i ByteArray.empty)).getD j 0).toNat = true := fun j hj => by
        have hm : (PP (P0 a b) k (xs.getD i ByteArray.empty)).getD j 0 ∈ PP (P0 a b) k (xs.getD i ByteArray.empty) := getD_mem hj
        have := (g3 _ hm).1
        rw [encode_bit hp k sx]
        exact ⟨_, hg, by rw [Int.toNat_of_nonneg this]; exact hm⟩
      have m1 : bloom_May (P0 a b) k (xs.getD i ByteArray.empty) ⟨(P0 a b).Length, encG (P0 a b) k (zeros (P0 a b).Length) xs⟩ = some true := by
        rcases may_eq hp k hgs vx wx rfl with ⟨h1, _⟩ | ⟨_, j, h2, h3⟩
        · exact h1
        · have := hbit j h2
          simp only at h3
          rw [h3] at this; cases this
      have m2 : bloom_May (P0 a b) k (xs.getD i ByteArray.empty) ⟨(P0 a b).Length, List.replicate ((P0 a b).Length / 64).toNat 0⟩ = some false := by
        rcases may_eq hp k hgs vz (zeros_w64 _) rfl with ⟨_, h1⟩ | ⟨h1, _⟩
        · have := h1 0 (by omega)
          simp only [zeros_bit] at this
          cases this
        · exact h1
      simp only [rl_law14_BloomMay_l3, Int.toNat_natCast, hl]
      simp only [Nat.zero_add]
      rw [if_pos (by simpa using hi), if_pos (by omega), if_pos (by omega), m1, bind1_pure, if_neg (by decide), m2, bind1_pure]
      unfold rl_law14_BloomMay_k4
      rw [if_neg (by decide), hl, Int.toNat_natCast, Nat.zero_add, g1, bind2_pure]
      rcases scanN (step := fun v : Int => rl_law14_BloomMay_l5 ⟨(P0 a b).Length, encG (P0 a b) k (zeros (P0 a b).Length) xs⟩ (PP (P0 a b) k (xs.getD i ByteArray.empty)) v) (PP (P0 a b) k (xs.getD i ByteArray.empty)).length (fun _ => False) (fun _ => ()) (fun j hj => by
          right
          refine ⟨fun h => h, ?_⟩
          have hm : (PP (P0 a b) k (xs.getD i ByteArray.empty)).getD j 0 ∈ PP (P0 a b) k (xs.getD i ByteArray.empty) := getD_mem hj
          have hr := g3 _ hm
          simp only [rl_law14_BloomMay_l5, Int.toNat_natCast, Nat.zero_add]
          rw [if_pos (by simpa using hj), if_pos (by omega), if_pos (by omega), refhas_eq wx, decide_eq_true ⟨vx, hr.1, hr.2⟩, Bool.true_and, hbit j hj, bind1_pure, if_neg (by decide), wi64 (by omega) (by omega)]
          rfl) (by simp only [rl_law14_BloomMay_l5]; rw [if_neg (by simp)]) with ⟨h5, _⟩ | ⟨_, _, hb2, _⟩
      · rw [h5, bindE_l]
        unfold rl_law14_BloomMay_a6
        rw [if_neg (by decide), wi64 (by omega) (by omega)]
        rfl
      · exact hb2.elim) (by simp only [rl_law14_BloomMay_l3]; rw [if_neg (by simp)]) with ⟨h5, _⟩ | ⟨_, _, hb2, _⟩
  · rw [h5, bindE_l]
    rfl
  · exact hb2.elim
end Go.Proofs.Ytfnojcalalncbaa
