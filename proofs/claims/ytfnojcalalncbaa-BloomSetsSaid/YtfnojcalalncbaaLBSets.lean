/- The plain law of BloomSets. -/
import Derived.Test.YtfnojcalalncbaaBc
import Derived.Test.YtfnojcalalncbaaGL8
namespace Go.Proofs.Ytfnojcalalncbaa
open Vm
set_option linter.unusedVariables false
theorem turn_loop {gs : List ByteArray} (hn : gs.length ≤ 11) : ∃ t, loop (fun v : (List ByteArray) × Int => rl_law14_BloomSets_l2 gs v.1 v.2) (([] : List ByteArray), (gs.length : Int) - 1) = some t ∧ t.length ≤ 22 ∧ ∀ g, g ∈ t ↔ g ∈ gs := by
  obtain ⟨t, e1, t1, t2⟩ := loop_inv (step := fun v : (List ByteArray) × Int => rl_law14_BloomSets_l2 gs v.1 v.2) gs.length
    (fun i s => s.2 = (gs.length : Int) - 1 - (i : Int) ∧ s.1.length = 2 * i ∧ ∀ g, g ∈ s.1 ↔ g ∈ gs.drop (gs.length - i)) (fun t => t.length ≤ 22 ∧ ∀ g, g ∈ t ↔ g ∈ gs) (by
      rintro i hi ⟨l, j⟩ ⟨s1, s2, s3⟩
      left
      simp only at s1 s2 s3
      subst s1
      simp only [rl_law14_BloomSets_l2]
      rw [if_pos (by simp only [decide_eq_true_eq]; omega), if_pos (by omega), if_pos (by omega), if_pos (by simp; omega), wi64 (by omega) (by omega)]
      refine ⟨_, rfl, by simp only; omega, by simp [s2]; omega, fun g => ?_⟩
      have hk : gs.length - (i + 1) < gs.length := by omega
      have hd : gs.drop (gs.length - (i + 1)) = gs.getD (gs.length - (i + 1)) ByteArray.empty :: gs.drop (gs.length - i) := by
        rw [List.drop_eq_getElem_cons hk, List.getD_eq_getElem?_getD, List.getElem?_eq_getElem hk, show gs.length - (i + 1) + 1 = gs.length - i by omega]; rfl
      rw [show 0 + ((gs.length : Int) - 1 - (i : Int)).toNat = gs.length - (i + 1) by omega, hd]
      simp only [List.mem_append, List.mem_cons, s3, List.not_mem_nil, or_false, or_self]
      exact Or.comm) (by
      rintro ⟨l, j⟩ ⟨s1, s2, s3⟩
      simp only at s1 s2 s3
      subst s1
      refine ⟨l, ?_, by omega, fun g => ?_⟩
      · simp only [rl_law14_BloomSets_l2]
        rw [if_neg (by simp only [decide_eq_true_eq]; omega)]
      · rw [s3, Nat.sub_self, List.drop_zero]) (s := (([] : List ByteArray), (gs.length : Int) - 1)) ⟨by simp, rfl, by simp⟩
  exact ⟨t, e1, t1, t2⟩
theorem sets_law (p : List Int) : rl_law14_BloomSets p = some true := by
  unfold rl_law14_BloomSets
  rw [awake14]
  simp only [Option.bind_some, Bool.not_true, Bool.false_eq_true, if_false, rl_make_Few]
  by_cases hp : p.length ≤ 400
  rotate_left
  · rw [decide_eq_false (by omega : ¬ ((p.length : Nat) : Int) ≤ 400)]
    simp only [Bool.not_false, rl_law14_BloomSets_k1, if_true, awake14, Option.bind_some]
  rw [decide_eq_true (by omega : ((p.length : Nat) : Int) ≤ 400)]
  simp only [Bool.not_true, rl_law14_BloomSets_k1, Bool.false_eq_true, if_false]
  obtain ⟨d, he, hd⟩ := new_yes hp
  rw [he]; clear he; simp only [Option.bind_some]
  obtain ⟨l, d1, he, l1, ⟨a, b, ha, hb, hl⟩, hd1⟩ := params_yes hd
  rw [he, bind2_pure, if_pos (by rw [l1]; decide)]
  clear he
  obtain ⟨k, d2, he, hd2⟩ := key_yes hd1
  rw [he]; clear he; first | rw [bind2_pure] | rw [bind3_pure] | rw [bind4_pure] | rw [bind1_pure]
  obtain ⟨xs, d3, he, x1, x2, hd3⟩ := grams_yes hd2
  rw [he]; clear he; first | rw [bind2_pure] | rw [bind3_pure] | rw [bind4_pure] | rw [bind1_pure]
  obtain ⟨ys, d4, he, y1, y2, hd4⟩ := grams_yes hd3
  rw [he]; clear he; first | rw [bind2_pure] | rw [bind3_pure] | rw [bind4_pure] | rw [bind1_pure]
  rw [wi64 (by omega) (by omega)]
  obtain ⟨ts, e1, t1, t2⟩ := turn_loop x1
  have hp := pv0 ha hb
  rw [e1, bind1_pure, hl]
  have sx := short_of x2
  have sy := short_of y2
  have st : Short ts := fun g hg => sx g ((t2 g).1 hg)
  have sb : Short ((([] : List ByteArray) ++ xs) ++ ys) := by
    intro g hg
    simp only [List.nil_append, List.mem_append] at hg
    rcases hg with h | h
    · exact sx g h
    · exact sy g h
  have vx := encode_vb hp k xs
  have vy := encode_vb hp k ys
  have wx := encode_w64 (P0 a b) k xs
  have wy := encode_w64 (P0 a b) k ys
  obtain ⟨z1, z2⟩ := zeros_len hp.1
  have len : ∀ gs, (encG (P0 a b) k (zeros (P0 a b).Length) gs).length = (zeros (P0 a b).Length).length := fun gs => encG_len _ _ _ _
  rw [encode_eq hp k sx (by omega), bind2_pure, encode_eq hp k st (by omega), bind2_pure, encode_eq hp k sy (by omega), bind2_pure, if_pos (by omega), if_pos (by simp; omega), encode_eq hp k sb (by simp; omega), bind2_pure, or_eq vx vy rfl, bind2_pure]
  rw [if_pos (by decide), if_pos (by decide), if_pos (by decide), if_pos (by decide), if_pos (by decide)]
  have c1 : encG (P0 a b) k (zeros (P0 a b).Length) xs = encG (P0 a b) k (zeros (P0 a b).Length) ts := by
    refine bits_ext wx (encode_w64 _ _ _) (by rw [len, len]) (fun j _ => ?_)
    rw [Bool.eq_iff_iff, encode_bit hp k sx, encode_bit hp k st]
    constructor
    · rintro ⟨g, h1, h2⟩; exact ⟨g, (t2 g).2 h1, h2⟩
    · rintro ⟨g, h1, h2⟩; exact ⟨g, (t2 g).1 h1, h2⟩
  have c2 : encG (P0 a b) k (zeros (P0 a b).Length) ((([] : List ByteArray) ++ xs) ++ ys) = List.zipWith (ior .u64) (encG (P0 a b) k (zeros (P0 a b).Length) xs) (encG (P0 a b) k (zeros (P0 a b).Length) ys) := by
    refine bits_ext (encode_w64 _ _ _) or_w64 (by rw [len, zip_len (by rw [len, len]), len]) (fun j hj => ?_)
    rw [len] at hj
    rw [or_bit wx wy (by rw [len, len]) (by rw [len]; omega), Bool.eq_iff_iff, encode_bit hp k sb, Bool.or_eq_true, encode_bit hp k sx, encode_bit hp k sy]
    simp only [List.nil_append, List.mem_append]
    constructor
    · rintro ⟨g, h1 | h1, h2⟩
      · exact .inl ⟨g, h1, h2⟩
      · exact .inr ⟨g, h1, h2⟩
    · rintro (⟨g, h1, h2⟩ | ⟨g, h1, h2⟩)
      · exact ⟨g, .inl h1, h2⟩
      · exact ⟨g, .inr h1, h2⟩
  rw [← c1, ← c2, refcompare_eq (by simp only [len]; omega), cmpB_zero.2 rfl, bind1_pure, if_pos (by decide), refcompare_eq (by simp only [len]; omega), cmpB_zero.2 rfl, bind1_pure]
  rfl
end Go.Proofs.Ytfnojcalalncbaa
