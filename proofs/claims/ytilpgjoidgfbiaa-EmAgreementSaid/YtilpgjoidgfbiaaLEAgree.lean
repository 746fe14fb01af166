/- The plain law of EmAgreement. -/
import Derived.Test.YtilpgjoidgfbiaaEq
import Derived.Test.YtilpgjoidgfbiaaRg
import Derived.Test.YtilpgjoidgfbiaaGE0
import Derived.Test.YtilpgjoidgfbiaaGL9
namespace Go.Proofs.Ytilpgjoidgfbiaa
open Vm
set_option linter.unusedVariables false
set_option linter.unusedSimpArgs false
theorem awake24 : rl_law24_awake = some true := rl_law24_awake_le 200 _ (by kernel_rfl)
theorem num3_drop {l : List Int} {j : Nat} (h : j < l.length) : num3 (l.drop j) = l.getD j 0 + 3 * num3 (l.drop (j + 1)) := by
  rw [List.drop_eq_getElem_cons h, num3, List.getD_eq_getElem?_getD, List.getElem?_eq_getElem h]
  rfl
theorem num3_small {l : List Int} (hm : ∀ x ∈ l, 0 ≤ x ∧ x ≤ 2) (h : l.length ≤ 5) : 0 ≤ num3 l ∧ num3 l < 243 := by
  have h1 := num3_range l hm
  have h2 := (pow3_le h).2
  omega
theorem number_eq {l : List Int} (h1 : 1 ≤ l.length) (h5 : l.length ≤ 5) (hm : ∀ x ∈ l, 0 ≤ x ∧ x ≤ 2) : rl_ref17_Number l = some (num3 l, 0) := by
  unfold rl_ref17_Number
  rw [if_neg (by simp only [decide_eq_true_eq]; omega), decide_eq_false (by omega)]
  unfold rl_ref17_Number_k1
  rw [if_neg (by decide), wi64 (n := (l.length : Int) - 1) (by omega) (by omega)]
  have hloop := loop_for (step := fun v : Int × Int => rl_ref17_Number_l2 l v.1 v.2) (fun i => (num3 (l.drop (l.length - i)), (l.length : Int) - 1 - (i : Int))) l.length (.inl (num3 l)) (fun i hi => by
      obtain ⟨j, hj⟩ : ∃ j, l.length = j + 1 + i := ⟨l.length - 1 - i, by omega⟩
      simp only [rl_ref17_Number_l2, rl_ref17_Number_k3]
      rw [show (l.length : Int) - 1 - (i : Int) = (j : Int) by omega, show l.length - i = j + 1 by omega, show l.length - (i + 1) = j by omega, num3_drop (l := l) (j := j) (by omega)]
      have h2 := num3_small (l := l.drop (j + 1)) (fun x hx => hm x (List.mem_of_mem_drop hx)) (by rw [List.length_drop]; omega)
      have h3 := all_getD hm (i := j) (by omega)
      simp only [Int.toNat_natCast]
      rw [if_pos (by simp only [decide_eq_true_eq]; omega), if_pos (by omega), if_pos (by omega), if_neg (by simp only [decide_eq_true_eq]; omega), if_neg (by simp only [decide_eq_true_eq]; omega), if_pos (by omega), if_pos (by omega), bind1_pure, wi64 (n := 3 * num3 (l.drop (j + 1))) (by omega) (by omega), wi64 (by omega) (by omega), wi64 (by omega) (by omega)]
      rw [show 3 * num3 (l.drop (j + 1)) + l.getD j 0 = l.getD j 0 + 3 * num3 (l.drop (j + 1)) by omega, show (l.length : Int) - 1 - ((i + 1 : Nat) : Int) = (j : Int) - 1 by omega]) (by
      simp only [rl_ref17_Number_l2]
      rw [if_neg (by simp only [decide_eq_true_eq]; omega), Nat.sub_self, List.drop_zero]) (s := (0, (l.length : Int) - 1)) (by simp [num3])
  rw [hloop, bindE_l]
  rfl
theorem getD_set_if {l : List Int} {f n : Nat} {k : Int} (hf : f < l.length) : (l.set f k).getD n 0 = if f = n then k else l.getD n 0 := by
  simp only [List.getD_eq_getElem?_getD, List.getElem?_set]
  split
  · rename_i h
    subst h
    rfl
  · rfl
theorem wprod_set {s : Int} {l xs : List Int} {f : Nat} {k : Int} (hf : f < xs.length) : ∀ n, wprod s l (xs.set f k) n = if f < n then wprod s l (xs.set f 0) n * fac k (l.getD f 0) else wprod s l (xs.set f 0) n
  | 0 => by rw [if_neg (by omega)]; rfl
  | n + 1 => by
    simp only [wprod]
    rw [wprod_set hf n, getD_set_if hf, getD_set_if hf]
    by_cases h1 : f = n
    · subst h1
      rw [if_neg (by omega), if_pos rfl, if_pos (by omega), if_pos rfl, show fac 0 (l.getD f 0) = 1 from rfl, Int.mul_one]
    · rw [if_neg h1, if_neg h1]
      by_cases h2 : f < n
      · rw [if_pos h2, if_pos (by omega), Int.mul_right_comm]
      · rw [if_neg h2, if_neg (by omega)]
theorem digits_any {d : S_recordlinkmake_Deck} (hd : DeckOk d) {n : Nat} {y7 : Int} (hn : n ≤ 5) (hw : IntKind.i64.wrap (1 + y7) = (n : Int)) : ∃ xs : List Int, loop (fun v : (List Int) × Int × (List Int) × Int × Int => rl_law24_EmAgreement_l2 y7 v.1 v.2.1 v.2.2.1 v.2.2.2.1 v.2.2.2.2) ((List.replicate n (0 : Int)), 0, d.list, d.at_, d.state) = some xs ∧ xs.length = n ∧ ∀ x ∈ xs, 0 ≤ x ∧ x ≤ 2 := by
  refine loop_inv n (fun (k : Nat) (v : (List Int) × Int × (List Int) × Int × Int) => v.2.1 = (k : Int) ∧ v.1.length = n ∧ (∀ x ∈ v.1, 0 ≤ x ∧ x ≤ 2) ∧ DeckOk ⟨v.2.2.1, v.2.2.2.1, v.2.2.2.2⟩) (fun (t : List Int) => t.length = n ∧ ∀ x ∈ t, 0 ≤ x ∧ x ≤ 2) ?_ ?_ ⟨rfl, by simp only [List.length_replicate], fun x hx => by rw [List.eq_of_mem_replicate hx]; decide, hd⟩
  · rintro k hk ⟨l, j, a, b, c⟩ ⟨s1, s2, s3, s4⟩
    left
    simp only [rl_law24_EmAgreement_l2] at s1 s2 s3 s4 ⊢
    subst s1
    rw [hw]
    simp only [List.length_replicate, Int.toNat_natCast]
    rw [if_pos (by simp only [decide_eq_true_eq]; omega)]
    obtain ⟨x, d2, he, x0, x1, hd2⟩ := next_yes s4 (n := 3) (by decide) (by decide)
    rw [he]; clear he; first | rw [bind2_pure] | rw [bind3_pure] | rw [bind4_pure] | rw [bind1_pure]
    rw [if_pos (by omega), if_pos (by omega), wi64 (n := (k : Int) + 1) (by omega) (by omega)]
    exact ⟨_, rfl, rfl, by simp only [List.length_set]; exact s2, set_all s3 (P := fun x => 0 ≤ x ∧ x ≤ 2) (by omega) _, hd2⟩
  · rintro ⟨l, j, a, b, c⟩ ⟨s1, s2, s3, s4⟩
    simp only [rl_law24_EmAgreement_l2] at s1 s2 s3 s4 ⊢
    subst s1
    rw [hw]
    simp only [List.length_replicate, Int.toNat_natCast]
    rw [if_neg (by simp only [decide_eq_true_eq]; omega)]
    exact ⟨_, rfl, s2, s3⟩
def pA (m : S_api_Model) (xs : List Int) (f : Nat) : Int := wprod m.Prior m.Match (xs.set f 0) xs.length
def pB (m : S_api_Model) (xs : List Int) (f : Nat) : Int := wprod (65536 - m.Prior) m.Random (xs.set f 0) xs.length
def post (m : S_api_Model) (xs : List Int) (f : Nat) (k : Int) : S_api_Rational := fr (pA m xs f * fac k (m.Match.getD f 0)) (pA m xs f * fac k (m.Match.getD f 0) + pB m xs f * fac k (m.Random.getD f 0))
theorem em_post {m : S_api_Model} (hm : MV m) {xs : List Int} {f : Nat} {k : Int} (hl : xs.length = m.Match.length) (hx : ∀ x ∈ xs, 0 ≤ x ∧ x ≤ 2) (hf : f < xs.length) (hk : 0 ≤ k ∧ k ≤ 2) :
    rl_ref17_Number (xs.set f k) = some (num3 (xs.set f k), 0) ∧ em_Posterior m (num3 (xs.set f k)) = some (post m xs f k, 0) := by
  have h5 := hm.2.2.1
  have ha : ∀ x ∈ xs.set f k, 0 ≤ x ∧ x ≤ 2 := set_all (P := fun x => 0 ≤ x ∧ x ≤ 2) hx hk f
  have hr := num3_range _ ha
  have hd := digs_num3 _ ha
  rw [List.length_set] at hr hd
  refine ⟨number_eq (by rw [List.length_set]; omega) (by rw [List.length_set]; omega) ha, ?_⟩
  rw [posterior_eq hm (by unfold PN; rw [← hl]; exact hr)]
  unfold post pA pB wA wB
  rw [← hl, hd, wprod_set hf (k := k), if_pos hf, wprod_set hf (k := k), if_pos hf]
theorem post_step {m : S_api_Model} (hm : MV m) {xs ys : List Int} {f : Nat} {y7 p1 : Int} (hl : xs.length = m.Match.length) (hx : ∀ x ∈ xs, 0 ≤ x ∧ x ≤ 2) (hf : f < xs.length) (hw : (IntKind.i64.wrap p1).tmod (IntKind.i64.wrap (1 + y7)) = (f : Int)) {k : Nat} (hk : k < 3) {row : List S_api_Rational} (hr : row.length = 3) (hy : ys.set f (k : Int) = xs.set f (k : Int)) (hyl : ys.length = xs.length) :
    rl_law24_EmAgreement_l3 p1 y7 m ys (k : Int) row = some (.inl (xs.set f (k : Int), ((k + 1 : Nat) : Int), row.set k (post m xs f (k : Int)))) := by
  obtain ⟨e1, e2⟩ := em_post hm hl hx hf (k := (k : Int)) (by omega)
  unfold rl_law24_EmAgreement_l3
  rw [hw]
  simp only [Int.toNat_natCast, Nat.zero_add]
  rw [hy]
  rw [if_pos (by simp only [decide_eq_true_eq]; omega), if_pos (by omega), if_pos (by omega), e1, bind2_pure, e2, bind2_pure, if_neg (by decide), if_pos (by omega), if_pos (by omega), if_pos hr.symm, wi64 (n := (k : Int) + 1) (by omega) (by omega)]
  rfl
theorem posts {m : S_api_Model} (hm : MV m) {xs : List Int} {f : Nat} {y7 p1 : Int} (hl : xs.length = m.Match.length) (hx : ∀ x ∈ xs, 0 ≤ x ∧ x ≤ 2) (hf : f < xs.length) (hw : (IntKind.i64.wrap p1).tmod (IntKind.i64.wrap (1 + y7)) = (f : Int)) {row : List S_api_Rational} (hr : row.length = 3) :
    loop (fun v : (List Int) × Int × (List S_api_Rational) => rl_law24_EmAgreement_l3 p1 y7 m v.1 v.2.1 v.2.2) (xs, 0, row) = some (.inl (((row.set 0 (post m xs f 0)).set 1 (post m xs f 1)).set 2 (post m xs f 2))) := by
  have s0 := post_step hm hl hx hf hw (k := 0) (by decide) hr (ys := xs) rfl rfl
  have s1 := post_step hm hl hx hf hw (k := 1) (by decide) (row := row.set 0 (post m xs f 0)) (by rw [List.length_set]; exact hr) (ys := xs.set f ((0 : Nat) : Int)) (List.set_set ..) List.length_set
  have s2 := post_step hm hl hx hf hw (k := 2) (by decide) (row := (row.set 0 (post m xs f 0)).set 1 (post m xs f 1)) (by rw [List.length_set, List.length_set]; exact hr) (ys := xs.set f ((1 : Nat) : Int)) (List.set_set ..) List.length_set
  refine (loop_next (step := fun v : (List Int) × Int × (List S_api_Rational) => rl_law24_EmAgreement_l3 p1 y7 m v.1 v.2.1 v.2.2) s0).trans ?_
  refine (loop_next (step := fun v : (List Int) × Int × (List S_api_Rational) => rl_law24_EmAgreement_l3 p1 y7 m v.1 v.2.1 v.2.2) s1).trans ?_
  refine (loop_next (step := fun v : (List Int) × Int × (List S_api_Rational) => rl_law24_EmAgreement_l3 p1 y7 m v.1 v.2.1 v.2.2) s2).trans ?_
  refine loop_end ?_
  simp only [rl_law24_EmAgreement_l3]
  rw [if_neg (by simp)]
  rfl
theorem ordI_add {t a b : Int} : ordI (t + a) (t + b) = ordI a b := by
  unfold ordI
  by_cases h : a < b
  · rw [if_pos h, if_pos (by omega)]
  · by_cases k : a > b
    · rw [if_neg h, if_pos k, if_neg (by omega), if_pos (by omega)]
    · rw [if_neg h, if_neg k, if_neg (by omega), if_neg (by omega)]
theorem cmp_posts {A B M R M' R' : Int} (a0 : 1 ≤ A) (a1 : A < bp 6) (b0 : 1 ≤ B) (b1 : B < bp 6) (hM : 1 ≤ M ∧ M ≤ 65536) (hR : 1 ≤ R ∧ R ≤ 65536) (hM' : 1 ≤ M' ∧ M' ≤ 65536) (hR' : 1 ≤ R' ∧ R' ≤ 65536) :
    rl_ref11_Compare (fr (A * M) (A * M + B * R)) (fr (A * M') (A * M' + B * R')) = some (ordI (M * R') (M' * R), 0) := by
  have e1 : bp 1 = 4294967296 := by decide
  have e8 : bp 8 = 4294967296 * bp 7 := rfl
  have p7 := bp_pos 7
  have L8 := bp_le (show 8 ≤ 64 by decide)
  have L15 := bp_le (show 15 ≤ 64 by decide)
  have m1 : A * M < bp 7 := bp_mul (m := 6) (n := 1) (v := A) (w := M) (by omega) a1 (by omega) (by omega)
  have m2 : A * M' < bp 7 := bp_mul (m := 6) (n := 1) (v := A) (w := M') (by omega) a1 (by omega) (by omega)
  have m3 : B * R < bp 7 := bp_mul (m := 6) (n := 1) (v := B) (w := R) (by omega) b1 (by omega) (by omega)
  have m4 : B * R' < bp 7 := bp_mul (m := 6) (n := 1) (v := B) (w := R') (by omega) b1 (by omega) (by omega)
  have n1 := Int.mul_pos (show 0 < A by omega) (show 0 < M by omega)
  have n2 := Int.mul_pos (show 0 < A by omega) (show 0 < M' by omega)
  have n3 := Int.mul_pos (show 0 < B by omega) (show 0 < R by omega)
  have n4 := Int.mul_pos (show 0 < B by omega) (show 0 < R' by omega)
  have q1 : A * M * (A * M' + B * R') < bp 15 := bp_mul (m := 7) (n := 8) (v := A * M) (w := A * M' + B * R') (by omega) (by omega) (by omega) (by omega)
  have q2 : A * M' * (A * M + B * R) < bp 15 := bp_mul (m := 7) (n := 8) (v := A * M') (w := A * M + B * R) (by omega) (by omega) (by omega) (by omega)
  rw [fcmpR (by omega) (by omega) (by omega) (by omega) (by omega) (by omega) (by omega) (by omega) (by omega) (by omega)]
  rw [show A * M * (A * M' + B * R') = A * A * M * M' + A * B * (M * R') by grind, show A * M' * (A * M + B * R) = A * A * M * M' + A * B * (M' * R) by grind, ordI_add, ordI_scale (Int.mul_pos (by omega) (by omega))]
theorem eagree_law (p : List Int) (q : Int) (hq : IntKind.u8.min ≤ q ∧ q ≤ IntKind.u8.max) : rl_law24_EmAgreement p q = some true := by
  have hq0 : 0 ≤ q ∧ q ≤ 255 := hq
  unfold rl_law24_EmAgreement
  rw [awake24]
  simp only [Option.bind_some, Bool.not_true, Bool.false_eq_true, if_false, rl_make_Few]
  by_cases hp : p.length ≤ 400
  rotate_left
  · rw [decide_eq_false (by omega : ¬ ((p.length : Nat) : Int) ≤ 400)]
    simp only [Bool.not_false, rl_law24_EmAgreement_k1, if_true, awake24, Option.bind_some]
  rw [decide_eq_true (by omega : ((p.length : Nat) : Int) ≤ 400)]
  simp only [Bool.not_true, rl_law24_EmAgreement_k1, Bool.false_eq_true, if_false]
  obtain ⟨d, he, hd⟩ := new_yes hp
  rw [he]; clear he; simp only [Option.bind_some]
  obtain ⟨x, d1, he, x0, x1, hd1⟩ := next_yes hd (n := 3) (by decide) (by decide)
  rw [he]; clear he; first | rw [bind2_pure] | rw [bind3_pure] | rw [bind4_pure] | rw [bind1_pure]
  obtain ⟨n, hn⟩ : ∃ n : Nat, 1 + x = n := ⟨(1 + x).toNat, by omega⟩
  have hw : IntKind.i64.wrap (1 + x) = (n : Int) := by rw [wi64 (n := 1 + x) (by omega) (by omega), hn]
  rw [hw]
  obtain ⟨m, d2, he, m1, hm, hd2⟩ := model_yes hd1 (n := n) (by omega) (by omega)
  rw [he]; clear he; first | rw [bind2_pure] | rw [bind3_pure] | rw [bind4_pure] | rw [bind1_pure]
  rw [if_pos (by omega), if_pos (by omega), if_pos (by omega), Int.toNat_natCast]
  obtain ⟨xs, e1, l1, hx⟩ := digits_any hd2 (n := n) (by omega) hw
  rw [e1, bind1_pure]
  have hq1 : IntKind.i64.wrap q = q := wi64 (by omega) (by omega)
  obtain ⟨f, hf⟩ : ∃ f : Nat, q % (n : Int) = f := ⟨(q % (n : Int)).toNat, by have := Int.emod_nonneg q (show (n : Int) ≠ 0 by omega); omega⟩
  have hfn : f < n := by have := Int.emod_lt_of_pos q (show (0 : Int) < n by omega); omega
  have hfw : (IntKind.i64.wrap q).tmod (IntKind.i64.wrap (1 + x)) = (f : Int) := by rw [hw, hq1, tmod_nn hq0.1, hf]
  rw [posts hm (by omega) hx (by omega) hfw rfl, bindE_l]
  unfold rl_law24_EmAgreement_a6
  rw [hfw]
  obtain ⟨h1, h2, h3, h4, h5, h6⟩ := id hm
  have hM := h5 f (by omega)
  have hR := h6 f (by omega)
  have hA := wprod_in (s := m.Prior) (by unfold prob at h4; omega) (by unfold prob at h4; omega) (l := m.Match) (ds := xs.set f 0) (n := xs.length) (fun i hi => h5 i (by omega))
  have hB := wprod_in (s := 65536 - m.Prior) (by unfold prob at h4; omega) (by unfold prob at h4; omega) (l := m.Random) (ds := xs.set f 0) (n := xs.length) (fun i hi => h6 i (by omega))
  have hle := bp_le (show xs.length + 1 ≤ 6 by omega)
  have k0 : post m xs f 0 = fr (pA m xs f * 1) (pA m xs f * 1 + pB m xs f * 1) := rfl
  have k1 : post m xs f 1 = fr (pA m xs f * (65536 - m.Match.getD f 0)) (pA m xs f * (65536 - m.Match.getD f 0) + pB m xs f * (65536 - m.Random.getD f 0)) := rfl
  have k2 : post m xs f 2 = fr (pA m xs f * m.Match.getD f 0) (pA m xs f * m.Match.getD f 0 + pB m xs f * m.Random.getD f 0) := rfl
  change 1 ≤ pA m xs f ∧ pA m xs f < _ at hA
  change 1 ≤ pB m xs f ∧ pB m xs f < _ at hB
  show bind2 (rl_ref11_Compare (post m xs f 2) (post m xs f 0)) (fun y55 y56 => bind2 (rl_ref11_Compare (post m xs f 0) (post m xs f 1)) (fun y58 y59 => _)) = _
  simp only [k0, k1, k2]
  simp only [Int.toNat_natCast]
  generalize pA m xs f = A at *
  generalize pB m xs f = B at *
  unfold prob at hM hR
  have t1 : (0 : Int) ≤ f := by omega
  have t2 : (f : Int) < (m.Match.length : Int) := by omega
  have t3 : (f : Int) < (m.Random.length : Int) := by omega
  simp only [if_pos t1, if_pos t2, if_pos t3]
  clear k0 k1 k2
  obtain ⟨M, hMv⟩ : ∃ M, m.Match.getD f 0 = M := ⟨_, rfl⟩
  obtain ⟨R, hRv⟩ : ∃ R, m.Random.getD f 0 = R := ⟨_, rfl⟩
  simp only [hMv] at hM ⊢
  simp only [hRv] at hR ⊢
  rw [cmp_posts (by omega) (by omega) (by omega) (by omega) (by omega) (by omega) (by omega) (by omega), bind2_pure, cmp_posts (by omega) (by omega) (by omega) (by omega) (by omega) (by omega) (by omega) (by omega), bind2_pure, Int.mul_one, Int.one_mul, Int.one_mul, Int.mul_one]
  have yes : ∀ z, rl_law24_EmAgreement_k4 z 0 z 0 z = some true := fun z => by
    unfold rl_law24_EmAgreement_k4 rl_law24_EmAgreement_k5
    rw [if_pos (by decide), if_pos (by decide), if_pos (by simp)]
    simp
  by_cases c1 : M > R
  · rw [if_pos (by simpa using c1), show ordI M R = 1 by unfold ordI; rw [if_neg (by omega), if_pos c1], show ordI (65536 - R) (65536 - M) = 1 by unfold ordI; rw [if_neg (by omega), if_pos (by omega)]]
    exact yes 1
  by_cases c2 : M < R
  · rw [if_neg (by simpa using c1), if_pos (by simpa using c2), show ordI M R = -1 by unfold ordI; rw [if_pos c2], show ordI (65536 - R) (65536 - M) = -1 by unfold ordI; rw [if_pos (by omega)]]
    exact yes (-1)
  · rw [if_neg (by simpa using c1), if_neg (by simpa using c2), show ordI M R = 0 by unfold ordI; rw [if_neg (by omega), if_neg (by omega)], show ordI (65536 - R) (65536 - M) = 0 by unfold ordI; rw [if_neg (by omega), if_neg (by omega)]]
    exact yes 0
end Go.Proofs.Ytilpgjoidgfbiaa
