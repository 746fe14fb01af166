/- Plain: the law PatternAdds. -/
import Derived.Test.YtknlckjpgmjenaaPd
import Derived.Test.YtknlckjpgmjenaaGL11
namespace Go.Proofs.Ytknlckjpgmjenaa
open Vm
open IntKind (i64 u64 u32 u8)
set_option linter.unusedVariables false
set_option linter.unusedSimpArgs false
theorem mod_eq {x n : Int} (h1 : 1 ≤ n) (h2 : n < 4611686018427387904) : rl_make_Mod x n = some (x % n) := by
  unfold rl_make_Mod
  rw [if_neg (by simp; omega), if_pos (by omega)]
  have h3 := Int.tmod_lt_of_pos x (show 0 < n by omega)
  have h4 : -n < x.tmod n := by
    rcases Int.lt_or_le x 0 with h | h
    · have := Int.neg_tmod (-x) n
      rw [Int.neg_neg] at this
      have h5 := Int.tmod_lt_of_pos (-x) (show 0 < n by omega)
      omega
    · have := Int.tmod_nonneg n h; omega
  rw [wi64 (by omega) (by omega), tmod_nn (by omega), Int.add_emod_right]
  congr 1
  rw [Int.tmod_def, Int.sub_mul_emod_self_left]
theorem add_cnt {n : Nat} {A B : List Nat} (h1 : 1 ≤ n) (h5 : n ≤ 5) (hA : ∀ q ∈ A, q < 3 ^ n) (hB : ∀ q ∈ B, q < 3 ^ n) (hl : A.length + B.length ≤ 4096) : pattern_Add (cntL (3 ^ n) A) (cntL (3 ^ n) B) (n : Int) = some (cntL (3 ^ n) (A ++ B), 0) := by
  have h3 := pow3_le h5
  have lA := cntL_length (3 ^ n) A
  have lB := cntL_length (3 ^ n) B
  have hab : adL (cntL (3 ^ n) A) (cntL (3 ^ n) B) = cntL (3 ^ n) (A ++ B) := by
    refine getD_ext (by unfold adL; rw [List.length_zipWith, lA, lB, cntL_length, Nat.min_self]) fun i hi => ?_
    unfold adL at hi ⊢
    rw [List.length_zipWith, lA, lB, Nat.min_self] at hi
    have c1 := List.count_le_length (a := i) (l := A)
    have c2 := List.count_le_length (a := i) (l := B)
    rw [List.getD_eq_getElem?_getD, List.getElem?_eq_getElem (by rw [List.length_zipWith]; omega), List.getElem_zipWith, cntL_get hi, List.count_append]
    have e1 := cntL_get (ps := A) hi
    have e2 := cntL_get (ps := B) hi
    rw [List.getD_eq_getElem?_getD, List.getElem?_eq_getElem (by omega)] at e1 e2
    simp only [Option.getD_some] at e1 e2 ⊢
    rw [e1, e2]
    unfold Go.RowKit.wrap64
    omega
  unfold pattern_Add
  rw [if_pos (by omega), pcheck_yes h1 h5 (cv_cnt hA (by omega)), bind1_pure, if_neg (by decide), pcheck_yes h1 h5 (cv_cnt hB (by omega)), bind1_pure, if_neg (by decide), if_pos (by omega), hab, pcheck_yes h1 h5 (cv_cnt (ps := A ++ B) (fun q hq => (List.mem_append.1 hq).elim (hA q) (hB q)) (by rw [List.length_append]; omega)), bind1_pure, if_neg (by decide)]
theorem adds_law (p : List Int) (q : Int) : rl_law23_PatternAdds p q = some true := by
  unfold rl_law23_PatternAdds
  rw [awake23]
  simp only [Option.bind_some, Bool.not_true, Bool.false_eq_true, if_false, rl_make_Few]
  by_cases hp : p.length ≤ 400
  rotate_left
  · rw [decide_eq_false (by omega : ¬ ((p.length : Nat) : Int) ≤ 400)]
    simp only [Bool.not_false, rl_law23_PatternAdds_k1, if_true, awake23, Option.bind_some]
  rw [decide_eq_true (by omega : ((p.length : Nat) : Int) ≤ 400)]
  simp only [Bool.not_true, rl_law23_PatternAdds_k1, Bool.false_eq_true, if_false]
  obtain ⟨d, he, hd⟩ := new_yes hp
  rw [he]; clear he; simp only [Option.bind_some]
  obtain ⟨x0, d1, he, x0a, x0b, hd1⟩ := next_yes hd (n := 3) (by decide) (by decide)
  rw [he]; clear he; first | rw [bind2_pure] | rw [bind3_pure] | rw [bind4_pure] | rw [bind1_pure]
  obtain ⟨n, hn⟩ : ∃ n : Nat, 1 + x0 = n := ⟨(1 + x0).toNat, by omega⟩
  have hw : IntKind.i64.wrap (1 + x0) = (n : Int) := by rw [wi64 (n := 1 + x0) (by omega) (by omega), hn]
  rw [hw]
  obtain ⟨a, d2, e2, la, ha, hd2⟩ := records_yes hd1 (n := n) (m := 5) (by omega) (by decide)
  rw [show (5 : Int) = ((5 : Nat) : Int) from rfl, e2, bind2_pure]
  obtain ⟨b, d3, e3, lb, hb, hd3⟩ := records_yes hd2 (n := n) (m := 5) (by omega) (by decide)
  rw [e3, bind2_pure]
  obtain ⟨ts, hts⟩ : ∃ ts, ([500, 800, 300] : List Int).take n = ts := ⟨_, rfl⟩
  have htl : ts.length = n := by rw [← hts]; simp; omega
  have htr : ∀ t ∈ ts, 0 ≤ t ∧ t ≤ 1000 := fun t ht => by
    rw [← hts] at ht
    have := List.mem_of_mem_take ht
    simp only [List.mem_cons, List.not_mem_nil, or_false] at this
    omega
  rw [if_pos (by omega), Int.toNat_natCast, if_pos (by simp; omega), hts]
  obtain ⟨cs, d4, e4, lc, hc, hd4⟩ := couples_yes hd3 (a := a) (b := b) (by omega) (by omega) (m := 12) (by decide)
  have e4' : rl_law23_couples d3 a b 12 = some (cs, d4) := e4
  rw [e4', bind2_pure, wi64 (n := (cs.length : Int) + 1) (by omega) (by omega), mod_eq (by omega) (by omega), bind1_pure]
  obtain ⟨k, hk⟩ : ∃ k : Nat, IntKind.i64.wrap q % ((cs.length : Int) + 1) = k := ⟨_, (Int.toNat_of_nonneg (Int.emod_nonneg _ (by omega))).symm⟩
  have hk2 := Int.emod_lt_of_pos (IntKind.i64.wrap q) (show 0 < (cs.length : Int) + 1 by omega)
  rw [hk] at hk2 ⊢
  have hr : loop (fun v : (List S_api_Couple) × Int => rl_law23_PatternAdds_l2 cs v.1 v.2) (([] : List S_api_Couple), i64.wrap ((cs.length : Int) - 1)) = some cs.reverse := by
    rw [wi64 (n := (cs.length : Int) - 1) (by omega) (by omega)]
    refine loop_for (fun i => (cs.reverse.take i, (cs.length : Int) - 1 - (i : Int))) cs.length _ (fun i hi => ?_) ?_ (by simp)
    · obtain ⟨j, hj⟩ : ∃ j, cs.length = j + 1 + i := ⟨cs.length - 1 - i, by omega⟩
      simp only [rl_law23_PatternAdds_l2]
      rw [show (cs.length : Int) - 1 - (i : Int) = (j : Int) by omega, Int.toNat_natCast, Nat.zero_add, if_pos (by simp only [decide_eq_true_eq]; omega), if_pos (by omega), if_pos (by omega), if_pos (by simp; omega), wi64 (by omega) (by omega)]
      have hg : cs.reverse.take (i + 1) = cs.reverse.take i ++ [cs.getD j dS_api_Couple] := by
        rw [List.take_add_one, List.getElem?_reverse hi, show cs.length - 1 - i = j by omega, List.getD_eq_getElem?_getD, List.getElem?_eq_getElem (by omega)]
        rfl
      rw [hg, show (cs.length : Int) - 1 - ((i + 1 : Nat) : Int) = (j : Int) - 1 by omega]
    · simp only [rl_law23_PatternAdds_l2]
      rw [if_neg (by simp only [decide_eq_true_eq]; omega), ← List.length_reverse, List.take_length]
  have T : ∀ ks : List S_api_Couple, (∀ c ∈ ks, c ∈ cs) → ks.length ≤ 4096 → pattern_Tally ks a b ts = some (cntL (3 ^ n) (ks.map (patC ts a b)), 0) := fun ks hks hl => tally_dealt (by omega) (by omega) htl htr ha hb (by omega) (by omega) (fun c h => hc c (hks c h)) hl
  have pl : ∀ ks : List S_api_Couple, ∀ q ∈ ks.map (patC ts a b), q < 3 ^ n := fun ks q hq => by
    obtain ⟨c, _, rfl⟩ := List.mem_map.1 hq
    rw [← htl]
    exact patC_lt
  have hd : (cs.drop (0 + k)).take (cs.length - k) = cs.drop k := by rw [Nat.zero_add, List.take_of_length_le (by simp)]
  have h3 := pow3_le (show n ≤ 5 by omega)
  rw [hr, bind1_pure, T cs (fun c h => h) (by omega), bind2_pure, if_pos (by simp; omega), if_pos (by omega), Int.toNat_natCast, if_pos (by omega), T _ (fun c h => List.mem_of_mem_take h) (by simp; omega), bind2_pure, if_pos (by omega), hd, T _ (fun c h => List.mem_of_mem_drop h) (by simp; omega), bind2_pure, if_pos (by omega),
    add_cnt (by omega) (by omega) (pl _) (pl _) (by simp; omega), bind2_pure, T _ (fun c h => List.mem_reverse.1 h) (by simp; omega), bind2_pure, if_pos (by decide), if_pos (by decide), if_pos (by decide), if_pos (by decide), if_pos (by decide), ← List.map_append, List.take_append_drop, ints_eq (by rw [cntL_length]; omega), decide_eq_true rfl, bind1_pure, if_pos rfl]
  have hrev : cntL (3 ^ n) (cs.reverse.map (patC ts a b)) = cntL (3 ^ n) (cs.map (patC ts a b)) := by
    unfold cntL
    refine List.map_congr_left fun i _ => ?_
    rw [List.map_reverse, List.count_reverse]
  rw [hrev, ints_eq (by rw [cntL_length]; omega), decide_eq_true rfl, bind1_pure, if_pos rfl, total_yes (by omega) (cv_cnt (pl cs) (by simp; omega)), sum_cnt _ (pl cs), bind1_pure]
  unfold rl_law23_PatternAdds_k3
  rw [List.length_map, beq_self_eq_true]
end Go.Proofs.Ytknlckjpgmjenaa
