/- The plain law of BloomMore. -/
import Derived.Test.YtfnojcalalncbaaBc
import Derived.Test.YtfnojcalalncbaaGL10
namespace Go.Proofs.Ytfnojcalalncbaa
open Vm
set_option linter.unusedVariables false
theorem refcount_eq {b : S_api_Bits} (hb : VB b) (hw : W64 b.Words) : rl_ref09_Count b = some ((cnt b.Words b.Length.toNat : Nat) : Int) := by
  obtain ⟨r1, r2, r3⟩ := hb.1
  unfold rl_ref09_Count
  have hloop := loop_for (step := fun v : Int × Int => rl_ref09_Count_l1 b v.1 v.2) (fun i => (((cnt b.Words i : Nat) : Int), (i : Int))) b.Length.toNat ((cnt b.Words b.Length.toNat : Nat) : Int) (fun i hi => by
      have hc := cnt_le b.Words i
      simp only [rl_ref09_Count_l1]
      rw [refvalid_eq, decide_eq_true hb, bind1_pure, if_pos rfl, decide_eq_true (by omega)]
      unfold rl_ref09_Count_k2
      rw [if_pos rfl, refhas_eq hw, decide_eq_true ⟨hb, by omega, by omega⟩, Bool.true_and, bind1_pure, Int.toNat_natCast]
      unfold rl_ref09_Count_k3
      rw [wi64 (n := (i : Int) + 1) (by omega) (by omega)]
      by_cases hx : bitAt b.Words i = true
      · rw [if_pos hx, wi64 (by omega) (by omega)]
        have : cnt b.Words (i + 1) = cnt b.Words i + 1 := by rw [cnt, if_pos hx]
        rw [this]; rfl
      · rw [if_neg hx]
        have : cnt b.Words (i + 1) = cnt b.Words i := by rw [cnt, if_neg hx]; rfl
        rw [this]; rfl) (by
      simp only [rl_ref09_Count_l1]
      rw [refvalid_eq, decide_eq_true hb, bind1_pure, if_pos rfl, decide_eq_false (by omega)]
      rfl) (s := (0, 0)) rfl
  rw [hloop]
  rfl
theorem more_law (p : List Int) : rl_law14_BloomMore p = some true := by
  unfold rl_law14_BloomMore
  rw [awake14]
  simp only [Option.bind_some, Bool.not_true, Bool.false_eq_true, if_false, rl_make_Few]
  by_cases hp : p.length ≤ 400
  rotate_left
  · rw [decide_eq_false (by omega : ¬ ((p.length : Nat) : Int) ≤ 400)]
    simp only [Bool.not_false, rl_law14_BloomMore_k1, if_true, awake14, Option.bind_some]
  rw [decide_eq_true (by omega : ((p.length : Nat) : Int) ≤ 400)]
  simp only [Bool.not_true, rl_law14_BloomMore_k1, Bool.false_eq_true, if_false]
  obtain ⟨d, he, hd⟩ := new_yes hp
  rw [he]; clear he; simp only [Option.bind_some]
  obtain ⟨l, d1, he, l1, ⟨a, b, ha, hb, hl⟩, hd1⟩ := params_yes hd
  rw [he, bind2_pure, if_pos (by rw [l1]; decide)]
  clear he
  obtain ⟨k, d2, he, hd2⟩ := key_yes hd1
  rw [he]; clear he; first | rw [bind2_pure] | rw [bind3_pure] | rw [bind4_pure] | rw [bind1_pure]
  obtain ⟨m, d3, he, m0, m1, hd3⟩ := next_yes hd2 (n := 4) (by decide) (by decide)
  rw [he]; clear he; first | rw [bind2_pure] | rw [bind3_pure] | rw [bind4_pure] | rw [bind1_pure]
  have hp := pv0 ha hb
  have h1 := hp.2.1
  have h2 := hp.2.2.1
  rw [hl, wi64 (n := (P0 a b).Hashes + 1) (by omega) (by omega), wi64 (n := (P0 a b).Hashes + 1 + m) (by omega) (by omega)]
  obtain ⟨h, hh, hh1, hh2⟩ : ∃ h, (if (P0 a b).Hashes + 1 + m < 16 then (P0 a b).Hashes + 1 + m else 16) = h ∧ (P0 a b).Hashes ≤ h ∧ h ≤ 16 := by
    refine ⟨_, rfl, ?_, ?_⟩ <;> split <;> omega
  rw [hh]
  obtain ⟨xs, d4, he, x1, x2, hd4⟩ := grams_yes hd3
  rw [he]; clear he; first | rw [bind2_pure] | rw [bind3_pure] | rw [bind4_pure] | rw [bind1_pure]
  have sx := short_of x2
  have hq : PV ⟨(P0 a b).Length, h, (P0 a b).Salt⟩ := ⟨hp.1, by simp only; omega, by simp only; omega, hp.2.2.2⟩
  have vx := encode_vb hp k xs
  have vy := encode_vb hq k xs
  have wx := encode_w64 (P0 a b) k xs
  have wy := encode_w64 ⟨(P0 a b).Length, h, (P0 a b).Salt⟩ k xs
  obtain ⟨z1, z2⟩ := zeros_len hp.1
  have hpp : ∀ g, g.size ≤ 1000 → PP (P0 a b) k g = (PP ⟨(P0 a b).Length, h, (P0 a b).Salt⟩ k g).take (P0 a b).Hashes.toNat := fun g hg => by
    obtain ⟨x, y, hxy⟩ := xy_yes hp.1 k hg
    have e1 := positions_eq hp k hxy
    have e2 := positions_eq hq k hxy
    have f1 : PP (P0 a b) k g = posL x y (P0 a b).Length (P0 a b).Hashes.toNat := by unfold PP; rw [e1]
    have f2 : PP ⟨(P0 a b).Length, h, (P0 a b).Salt⟩ k g = posL x y (P0 a b).Length h.toNat := by unfold PP; rw [e2]
    rw [f1, f2, posL_take (by omega)]
  have lx_ : (encG (P0 a b) k (zeros (P0 a b).Length) xs).length = (zeros (P0 a b).Length).length := encG_len _ _ _ _
  have ly_ : (encG ⟨(P0 a b).Length, h, (P0 a b).Salt⟩ k (zeros (P0 a b).Length) xs).length = (zeros (P0 a b).Length).length := encG_len _ _ _ _
  have han : (ByteArray.mk #[97, 110]).size ≤ 1000 := by decide
  obtain ⟨g1, g2, g3⟩ := pp_spec hp k han
  obtain ⟨q1, q2, q3⟩ := pp_spec hq k han
  have hand : List.zipWith (iand .u64) (encG (P0 a b) k (zeros (P0 a b).Length) xs) (encG ⟨(P0 a b).Length, h, (P0 a b).Salt⟩ k (zeros (P0 a b).Length) xs) = encG (P0 a b) k (zeros (P0 a b).Length) xs := by
    refine bits_ext and_w64 wx (by rw [zip_len (by rw [lx_, ly_])]) (fun j hj => ?_)
    rw [zip_len (by rw [lx_, ly_]), lx_] at hj
    rw [and_bit wx wy (by rw [lx_, ly_]) (by rw [lx_]; omega)]
    cases hc : bitAt (encG (P0 a b) k (zeros (P0 a b).Length) xs) j with
    | false => rfl
    | true =>
      rw [Bool.true_and]
      obtain ⟨g, e1, e2⟩ := (encode_bit hp k sx j).1 hc
      rw [hpp g (sx g e1)] at e2
      exact (encode_bit hq k sx j).2 ⟨g, e1, List.mem_of_mem_take e2⟩
  have hcnt : cnt (encG ⟨(P0 a b).Length, h, (P0 a b).Salt⟩ k (zeros (P0 a b).Length) xs) (P0 a b).Length.toNat ≤ 8 * h.toNat := by
    have hle := cnt_list (ws := encG ⟨(P0 a b).Length, h, (P0 a b).Salt⟩ k (zeros (P0 a b).Length) xs) (l := G8.flatMap (PP ⟨(P0 a b).Length, h, (P0 a b).Salt⟩ k)) (n := (P0 a b).Length.toNat) (fun j _ hj => by
      obtain ⟨g, e1, e2⟩ := (encode_bit hq k sx j).1 hj
      exact List.mem_flatMap.2 ⟨g, x2 g e1, e2⟩)
    have hlen : (G8.flatMap (PP ⟨(P0 a b).Length, h, (P0 a b).Salt⟩ k)).length = 8 * h.toNat := by
      have hc : ∀ gs : List ByteArray, Short gs → (gs.flatMap (PP ⟨(P0 a b).Length, h, (P0 a b).Salt⟩ k)).length = gs.length * h.toNat := by
        intro gs
        induction gs with
        | nil => intro _; simp
        | cons g gs ih =>
          intro hs
          rw [List.flatMap_cons, List.length_append, ih (fun x hx => hs x (List.mem_cons_of_mem _ hx)), (pp_spec hq k (hs g List.mem_cons_self)).2.1, List.length_cons, Nat.succ_mul]
          simp only
          omega
      exact hc G8 g8_short
    omega
  have cc := refcount_eq vy wy
  simp only at cc
  have hk2 : ∀ x, rl_law14_BloomMore_k2 x = some x := fun _ => rfl
  simp only at q1 q2
  rw [encode_eq hp k sx (by omega), bind2_pure, encode_eq hq k sx (by omega), bind2_pure, and_eq vx vy rfl, bind2_pure, g1, bind2_pure, q1, bind2_pure, if_pos (by decide), if_pos (by decide), if_pos (by decide), if_pos (by decide), if_pos (by decide), hand, refcompare_eq (by simp only [lx_]; omega), cmpB_zero.2 rfl, bind1_pure, if_pos (by decide), cc, bind1_pure, wi64 (n := h * 8) (by omega) (by omega), if_pos (by simp only [decide_eq_true_eq]; omega), g2, q2, if_pos (by simp; omega), if_pos (by simp; omega), if_pos (by omega), if_pos (by omega), ints_eq (by omega), bind1_pure, if_pos (by omega), hk2]
  rw [hpp _ han, Int.toNat_natCast, decide_eq_true rfl]
end Go.Proofs.Ytfnojcalalncbaa
