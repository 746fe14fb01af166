/- Plain: fields in the other order; the plain law of EmOrder. -/
import Derived.Test.YtilpgjoidgfbiaaEt
import Derived.Test.YtilpgjoidgfbiaaGL8
namespace Go.Proofs.Ytilpgjoidgfbiaa
open Vm
set_option linter.unusedVariables false
set_option linter.unusedSimpArgs false
theorem num3_drop {l : List Int} {j : Nat} (h : j < l.length) : num3 (l.drop j) = l.getD j 0 + 3 * num3 (l.drop (j + 1)) := by
  rw [List.drop_eq_getElem_cons h, num3, List.getD_eq_getElem?_getD, List.getElem?_eq_getElem h]
  rfl
theorem num3_small {l : List Int} (hm : ∀ x ∈ l, 0 ≤ x ∧ x ≤ 2) (h : l.length ≤ 5) : 0 ≤ num3 l ∧ num3 l < 243 := by
  have h1 := num3_range l hm
  have h2 := (pow3_le h).2
  omega
theorem number_eq {l : List Int} (h1 : 1 ≤ l.length) (h5 : l.length ≤ 5) (hm : ∀ x ∈ l, 0 ≤ x ∧ x ≤ 2) : rl_ref17_Number l = some (num3 l, 0) := by
  unfold rl_ref17_Number
  rw [if_neg (by simp only [decide_eq_true_eq]; omega), decide_eq_false (by omega)]
  unfold rl_ref17_Number_k1
  rw [if_neg (by decide), wi64 (n := (l.length : Int) - 1) (by omega) (by omega)]
  have hloop := loop_for (step := fun v : Int × Int => rl_ref17_Number_l2 l v.1 v.2) (fun i => (num3 (l.drop (l.length - i)), (l.length : Int) - 1 - (i : Int))) l.length (.inl (num3 l)) (fun i hi => by
      obtain ⟨j, hj⟩ : ∃ j, l.length = j + 1 + i := ⟨l.length - 1 - i, by omega⟩
      simp only [rl_ref17_Number_l2, rl_ref17_Number_k3]
      rw [show (l.length : Int) - 1 - (i : Int) = (j : Int) by omega, show l.length - i = j + 1 by omega, show l.length - (i + 1) = j by omega, num3_drop (l := l) (j := j) (by omega)]
      have h2 := num3_small (l := l.drop (j + 1)) (fun x hx => hm x (List.mem_of_mem_drop hx)) (by rw [List.length_drop]; omega)
      have h3 := all_getD hm (i := j) (by omega)
      simp only [Int.toNat_natCast]
      rw [if_pos (by simp only [decide_eq_true_eq]; omega), if_pos (by omega), if_pos (by omega), if_neg (by simp only [decide_eq_true_eq]; omega), if_neg (by simp only [decide_eq_true_eq]; omega), if_pos (by omega), if_pos (by omega), bind1_pure, wi64 (n := 3 * num3 (l.drop (j + 1))) (by omega) (by omega), wi64 (by omega) (by omega), wi64 (by omega) (by omega)]
      rw [show 3 * num3 (l.drop (j + 1)) + l.getD j 0 = l.getD j 0 + 3 * num3 (l.drop (j + 1)) by omega, show (l.length : Int) - 1 - ((i + 1 : Nat) : Int) = (j : Int) - 1 by omega]) (by
      simp only [rl_ref17_Number_l2]
      rw [if_neg (by simp only [decide_eq_true_eq]; omega), Nat.sub_self, List.drop_zero]) (s := (0, (l.length : Int) - 1)) (by simp [num3])
  rw [hloop, bindE_l]
  rfl
/-! Sums. -/
def isum (g : Nat → Int) : Nat → Int
  | 0 => 0
  | p + 1 => isum g p + g p
theorem isum_range (g : Nat → Int) : ∀ n, isum g n = ((List.range n).map g).sum
  | 0 => rfl
  | n + 1 => by rw [isum, isum_range g n, List.range_succ, List.map_append, List.map_singleton, sum_snoc]
theorem isum_congr {g h : Nat → Int} : ∀ n, (∀ q, q < n → g q = h q) → isum g n = isum h n
  | 0, _ => rfl
  | n + 1, e => by rw [isum, isum, isum_congr n fun q hq => e q (Nat.lt_succ_of_lt hq), e n (Nat.lt_succ_self n)]
theorem perm_sum {l l' : List Int} (h : l.Perm l') : l.sum = l'.sum := by
  induction h with
  | nil => rfl
  | cons x _ ih => rw [List.sum_cons, List.sum_cons, ih]
  | swap x y l => simp only [List.sum_cons]; omega
  | trans _ _ a b => exact a.trans b
theorem list_isum (c : List Int) : c.sum = isum (fun q => c.getD q 0) c.length := by
  have : ∀ n, n ≤ c.length → (c.take n).sum = isum (fun q => c.getD q 0) n := by
    intro n
    induction n with
    | zero => intro _; rfl
    | succ n ih => intro h; rw [take_sum (by omega), ih (by omega), isum]
  rw [← this c.length (Nat.le_refl _), List.take_of_length_le (Nat.le_refl _)]
/-! The other order. -/
def rv (n : Nat) (l : List Int) : List Int := (List.range n).map fun j => l.getD (n - 1 - j) 0
theorem rv_length (n : Nat) (l : List Int) : (rv n l).length = n := by simp [rv]
theorem rv_getD {n : Nat} {l : List Int} {i : Nat} (h : i < n) : (rv n l).getD i 0 = l.getD (n - 1 - i) 0 := range_getD h
theorem rv_mem {P : Int → Prop} {n : Nat} {l : List Int} (hl : l.length = n) (h : ∀ x ∈ l, P x) : ∀ x ∈ rv n l, P x := by
  intro x hx
  obtain ⟨i, hi, rfl⟩ := List.mem_map.1 hx
  rw [List.mem_range] at hi
  exact all_getD h (by omega)
theorem getD_ext {l k : List Int} {n : Nat} (h1 : l.length = n) (h2 : k.length = n) (h : ∀ i, i < n → l.getD i 0 = k.getD i 0) : l = k := by
  rw [← map_self h1, ← map_self h2]
  exact List.map_congr_left fun i hi => h i (List.mem_range.1 hi)
theorem rv_rv {n : Nat} {l : List Int} (h : l.length = n) : rv n (rv n l) = l := by
  refine getD_ext (rv_length _ _) h fun i hi => ?_
  rw [rv_getD hi, rv_getD (by omega), show n - 1 - (n - 1 - i) = i by omega]
def rp (n q : Nat) : Nat := (num3 (rv n (digs n (q : Int)))).toNat
theorem rp_in {n : Nat} (q : Nat) : 0 ≤ num3 (rv n (digs n (q : Int))) ∧ (rp n q : Int) = num3 (rv n (digs n (q : Int))) ∧ rp n q < 3 ^ n ∧ digs n (rp n q : Int) = rv n (digs n (q : Int)) := by
  have hm := rv_mem (digs_length n (q : Int)) (digs_mem n (q : Int))
  have h1 := num3_range _ hm
  have h2 := digs_num3 _ hm
  rw [rv_length] at h1 h2
  have h3 : (rp n q : Int) = num3 (rv n (digs n (q : Int))) := by unfold rp; omega
  refine ⟨h1.1, h3, by omega, by rw [h3, h2]⟩
theorem rp_rp {n q : Nat} (h : q < 3 ^ n) : rp n (rp n q) = q := by
  obtain ⟨a1, a2, a3, a4⟩ := rp_in (n := n) q
  have : (rp n (rp n q) : Int) = q := by
    rw [(rp_in (n := n) (rp n q)).2.1, a4, rv_rv (digs_length _ _), num3_digs n (q : Int) (by omega) (by omega)]
  omega
theorem rp_perm {n : Nat} (h : n = 2 ∨ n = 3) : ((List.range (3 ^ n)).map (rp n)).Perm (List.range (3 ^ n)) := by
  rcases h with rfl | rfl
  · decide +kernel
  · decide +kernel
theorem isum_rp {n : Nat} (h : n = 2 ∨ n = 3) (g : Nat → Int) : isum g (3 ^ n) = isum (fun q => g (rp n q)) (3 ^ n) := by
  rw [isum_range, isum_range]
  have e : (List.range (3 ^ n)).map (fun q => g (rp n q)) = ((List.range (3 ^ n)).map (rp n)).map g := by rw [List.map_map]; rfl
  rw [e]
  exact (perm_sum ((rp_perm h).map g)).symm
/-- sums of a field and of all, written out -/
theorem fS_isum (m : S_api_Model) (c : List Int) (n f : Nat) : ∀ p, fS m c n f p = ⟨isum (fun q => if (digs n (q : Int)).getD f 0 > 0 then c.getD q 0 * sh m (q : Int) else 0) p, isum (fun q => if (digs n (q : Int)).getD f 0 > 0 then (if (digs n (q : Int)).getD f 0 == 2 then c.getD q 0 * sh m (q : Int) else 0) else 0) p,
    isum (fun q => if (digs n (q : Int)).getD f 0 > 0 then c.getD q 0 * (1073741824 - sh m (q : Int)) else 0) p, isum (fun q => if (digs n (q : Int)).getD f 0 > 0 then (if (digs n (q : Int)).getD f 0 == 2 then c.getD q 0 * (1073741824 - sh m (q : Int)) else 0) else 0) p⟩
  | 0 => rfl
  | p + 1 => by
    rw [fS, fS_isum m c n f p]
    simp only [isum, sw]
    by_cases h : (digs n (p : Int)).getD f 0 > 0
    · simp only [if_pos h]
      by_cases h2 : ((digs n (p : Int)).getD f 0 == 2) = true
      · simp only [if_pos h2]
      · simp only [if_neg h2, Int.add_zero]
    · simp only [if_neg h, Int.add_zero]
theorem tS_isum (m : S_api_Model) (c : List Int) : ∀ p, tS m c p = ⟨isum (fun q => c.getD q 0 * sh m (q : Int)) p, isum (fun q => c.getD q 0 * sh m (q : Int)) p, isum (fun q => c.getD q 0 * (1073741824 - sh m (q : Int))) p, isum (fun q => c.getD q 0 * (1073741824 - sh m (q : Int))) p⟩
  | 0 => rfl
  | p + 1 => by
    rw [tS, tS_isum m c p]
    simp only [isum, sw, if_true]
/-- the model with its fields in the other order -/
def rm (n : Nat) (m : S_api_Model) : S_api_Model := ⟨m.Prior, rv n m.Match, rv n m.Random⟩
theorem rm_ok {n : Nat} {m : S_api_Model} (hm : MV m) (h : m.Match.length = n) : MV (rm n m) ∧ (rm n m).Match.length = n := by
  obtain ⟨h1, h2, h3, h4, h5, h6⟩ := id hm
  have l1 := rv_length n m.Match
  have l2 := rv_length n m.Random
  refine ⟨⟨by unfold rm; simp only; omega, by unfold rm; simp only; omega, by unfold rm; simp only; omega, h4, fun i hi => ?_, fun i hi => ?_⟩, l1⟩
  · unfold rm at hi ⊢
    simp only at hi ⊢
    rw [rv_getD (by omega)]
    exact h5 _ (by omega)
  · unfold rm at hi ⊢
    simp only at hi ⊢
    rw [rv_getD (by omega)]
    exact h6 _ (by omega)
theorem wprod_rv {n : Nat} (h : n = 2 ∨ n = 3) (s : Int) (l ds : List Int) : wprod s (rv n l) (rv n ds) n = wprod s l ds n := by
  rcases h with rfl | rfl
  · simp only [wprod]
    rw [rv_getD (by decide), rv_getD (by decide), rv_getD (by decide), rv_getD (by decide)]
    generalize fac _ _ = a
    generalize fac _ _ = b
    exact Int.mul_right_comm _ _ _
  · simp only [wprod]
    rw [rv_getD (i := 0) (by decide), rv_getD (i := 0) (by decide), rv_getD (i := 1) (by decide), rv_getD (i := 1) (by decide), rv_getD (i := 2) (by decide), rv_getD (i := 2) (by decide)]
    show s * fac (ds.getD 2 0) (l.getD 2 0) * fac (ds.getD 1 0) (l.getD 1 0) * fac (ds.getD 0 0) (l.getD 0 0) = _
    generalize fac (ds.getD 0 0) (l.getD 0 0) = a
    generalize fac (ds.getD 1 0) (l.getD 1 0) = b
    generalize fac (ds.getD 2 0) (l.getD 2 0) = c
    grind
theorem sh_rp {n : Nat} (h : n = 2 ∨ n = 3) {m : S_api_Model} (hm : MV m) (hl : m.Match.length = n) (q : Nat) : sh (rm n m) (rp n q : Int) = sh m (q : Int) := by
  have hd := (rp_in (n := n) q).2.2.2
  have l1 := (rm_ok hm hl).2
  unfold sh wA wB
  rw [l1, hl, hd]
  unfold rm
  simp only
  rw [wprod_rv h, wprod_rv h]
/-- counts in the other order -/
def RC (n : Nat) (c c' : List Int) : Prop := c'.length = 3 ^ n ∧ ∀ q, q < 3 ^ n → c'.getD (rp n q) 0 = c.getD q 0
theorem RC.cv {n : Nat} (h : n = 2 ∨ n = 3) {c c' : List Int} (hc : CV n c) (hr : RC n c c') (h0 : ∀ x ∈ c', 0 ≤ x) : CV n c' := by
  refine ⟨hr.1, h0, ?_⟩
  rw [list_isum c', hr.1, isum_rp h, isum_congr (3 ^ n) (h := fun q => c.getD q 0) fun q hq => hr.2 q hq, ← hc.1, ← list_isum]
  exact hc.2.2
theorem tS_rm {n : Nat} (h : n = 2 ∨ n = 3) {m : S_api_Model} (hm : MV m) (hl : m.Match.length = n) {c c' : List Int} (hr : RC n c c') : tS (rm n m) c' (3 ^ n) = tS m c (3 ^ n) := by
  rw [tS_isum, tS_isum]
  have key : ∀ F : Int → Int → Int, isum (fun q => F (c'.getD q 0) (sh (rm n m) (q : Int))) (3 ^ n) = isum (fun q => F (c.getD q 0) (sh m (q : Int))) (3 ^ n) := fun F => by
    rw [isum_rp h]
    refine isum_congr _ fun q hq => ?_
    rw [hr.2 q hq, sh_rp h hm hl]
  have k1 := key fun a b => a * b
  have k2 := key fun a b => a * (1073741824 - b)
  rw [k1, k2]
theorem fS_rm {n : Nat} (h : n = 2 ∨ n = 3) {m : S_api_Model} (hm : MV m) (hl : m.Match.length = n) {c c' : List Int} (hr : RC n c c') {f : Nat} (hf : f < n) : fS (rm n m) c' n f (3 ^ n) = fS m c n (n - 1 - f) (3 ^ n) := by
  rw [fS_isum, fS_isum]
  have key : ∀ F : Int → Int → Int → Int, isum (fun q => F ((digs n (q : Int)).getD f 0) (c'.getD q 0) (sh (rm n m) (q : Int))) (3 ^ n) = isum (fun q => F ((digs n (q : Int)).getD (n - 1 - f) 0) (c.getD q 0) (sh m (q : Int))) (3 ^ n) := fun F => by
    rw [isum_rp h]
    refine isum_congr _ fun q hq => ?_
    rw [hr.2 q hq, sh_rp h hm hl, (rp_in (n := n) q).2.2.2, rv_getD hf]
  have k1 := key fun d a b => if d > 0 then a * b else 0
  have k2 := key fun d a b => if d > 0 then (if d == 2 then a * b else 0) else 0
  have k3 := key fun d a b => if d > 0 then a * (1073741824 - b) else 0
  have k4 := key fun d a b => if d > 0 then (if d == 2 then a * (1073741824 - b) else 0) else 0
  rw [k1, k2, k3, k4]
theorem stepS_rm {n : Nat} (h : n = 2 ∨ n = 3) {m : S_api_Model} (hm : MV m) (hl : m.Match.length = n) {c c' : List Int} (hc : CV n c) (hr : RC n c c') : stepS (rm n m) c' = rm n (stepS m c) := by
  have l1 := (rm_ok hm hl).2
  unfold stepS
  rw [l1, hl, hr.1, hc.1, tS_rm h hm hl hr]
  refine model_ext rfl ?_ ?_
  · refine getD_ext (n := n) (by simp) (rv_length _ _) fun i hi => ?_
    refine Eq.trans (range_getD hi) ?_
    refine Eq.trans ?_ (rv_getD hi).symm
    refine Eq.trans ?_ (range_getD (show n - 1 - i < n by omega)).symm
    rw [fS_rm h hm hl hr hi]
    simp only [rm]
    rw [rv_getD hi]
  · refine getD_ext (n := n) (by simp) (rv_length _ _) fun i hi => ?_
    refine Eq.trans (range_getD hi) ?_
    refine Eq.trans ?_ (rv_getD hi).symm
    refine Eq.trans ?_ (range_getD (show n - 1 - i < n by omega)).symm
    rw [fS_rm h hm hl hr hi]
    simp only [rm]
    rw [rv_getD hi]
theorem rv_take {n i : Nat} {l : List Int} : (List.range (i + 1)).map (fun j => l.getD (n - 1 - j) 0) = (List.range i).map (fun j => l.getD (n - 1 - j) 0) ++ [l.getD (n - 1 - i) 0] := by
  rw [List.range_succ, List.map_append, List.map_singleton]
theorem back_model {n : Nat} {m : S_api_Model} (hm : MV m) (hl : m.Match.length = n) : loop (fun v : Int × (List Int) × (List Int) => rl_law24_EmOrder_l2 m v.1 v.2.1 v.2.2) ((n : Int) - 1, ([] : List Int), ([] : List Int)) = some (rv n m.Match, rv n m.Random) := by
  have h1 := hm.1
  have h5 := hm.2.2.1
  refine loop_for (fun i => ((n : Int) - 1 - (i : Int), (List.range i).map (fun j => m.Match.getD (n - 1 - j) 0), (List.range i).map (fun j => m.Random.getD (n - 1 - j) 0))) n _ (fun i hi => ?_) ?_ (by simp)
  · obtain ⟨j, hj⟩ : ∃ j, n = j + 1 + i := ⟨n - 1 - i, by omega⟩
    simp only [rl_law24_EmOrder_l2]
    rw [show (n : Int) - 1 - (i : Int) = (j : Int) by omega]
    simp only [Int.toNat_natCast, Nat.zero_add]
    rw [if_pos (by simp only [decide_eq_true_eq]; omega), if_pos (by omega), if_pos (by omega), if_pos (by simp only [List.length_map, List.length_range, List.length_cons, List.length_nil]; omega), if_pos (by omega), if_pos (by simp only [List.length_map, List.length_range, List.length_cons, List.length_nil]; omega), wi64 (n := (j : Int) - 1) (by omega) (by omega), rv_take, rv_take, show n - 1 - i = j by omega, show (j : Int) - 1 = (n : Int) - 1 - ((i + 1 : Nat) : Int) by omega]
  · simp only [rl_law24_EmOrder_l2]
    rw [if_neg (by simp only [decide_eq_true_eq]; omega)]
    rfl
theorem back_digits {n : Nat} {l : List Int} (hn : n ≤ 5) (hl : l.length = n) : loop (fun v : (List Int) × Int => rl_law24_EmOrder_l4 l v.1 v.2) (([] : List Int), (n : Int) - 1) = some (rv n l) := by
  refine loop_for (fun i => ((List.range i).map (fun j => l.getD (n - 1 - j) 0), (n : Int) - 1 - (i : Int))) n _ (fun i hi => ?_) ?_ (by simp)
  · obtain ⟨j, hj⟩ : ∃ j, n = j + 1 + i := ⟨n - 1 - i, by omega⟩
    simp only [rl_law24_EmOrder_l4]
    rw [show (n : Int) - 1 - (i : Int) = (j : Int) by omega]
    simp only [Int.toNat_natCast, Nat.zero_add]
    rw [if_pos (by simp only [decide_eq_true_eq]; omega), if_pos (by omega), if_pos (by omega), if_pos (by simp only [List.length_map, List.length_range, List.length_cons, List.length_nil]; omega), wi64 (n := (j : Int) - 1) (by omega) (by omega), rv_take, show n - 1 - i = j by omega, show (j : Int) - 1 = (n : Int) - 1 - ((i + 1 : Nat) : Int) by omega]
  · simp only [rl_law24_EmOrder_l4]
    rw [if_neg (by simp only [decide_eq_true_eq]; omega)]
    rfl
theorem back_counts {n : Nat} {y7 : Int} {c : List Int} (hn : n = 2 ∨ n = 3) (hw : IntKind.i64.wrap (2 + y7) = (n : Int)) (hc : CV n c) : ∃ c', loop (fun v : (List Int) × Int => rl_law24_EmOrder_l3 y7 c v.1 v.2) (List.replicate c.length 0, 0) = some c' ∧ RC n c c' ∧ ∀ x ∈ c', 0 ≤ x := by
  have hl := hc.1
  have h3 := pow3_le (show n ≤ 5 by omega)
  obtain ⟨t, e1, t1, t2, t3⟩ := loop_inv (step := fun v : (List Int) × Int => rl_law24_EmOrder_l3 y7 c v.1 v.2) (3 ^ n) (fun p v => v.2 = (p : Int) ∧ v.1.length = 3 ^ n ∧ (∀ q, q < p → v.1.getD (rp n q) 0 = c.getD q 0) ∧ ∀ x ∈ v.1, 0 ≤ x)
    (fun c' => c'.length = 3 ^ n ∧ (∀ q, q < 3 ^ n → c'.getD (rp n q) 0 = c.getD q 0) ∧ ∀ x ∈ c', 0 ≤ x) (by
      rintro p hp ⟨l, j⟩ ⟨s1, s2, s3, s4⟩
      left
      simp only [rl_law24_EmOrder_l3] at s1 s2 s3 s4 ⊢
      subst s1
      rw [hw]
      have hdl := digs_length n (p : Int)
      obtain ⟨r0, r1, r2, r3⟩ := rp_in (n := n) p
      have hm := rv_mem hdl (digs_mem n (p : Int))
      rw [if_pos (by simp only [decide_eq_true_eq]; omega), ref17_digits_eq, if_pos (by omega), Int.toNat_natCast, if_pos (by omega), bind2_pure, wi64 (n := (n : Int) - 1) (by omega) (by omega), back_digits (by omega) hdl, bind1_pure, number_eq (by rw [rv_length]; omega) (by rw [rv_length]; omega) hm, bind2_pure, ← r1, if_pos (by omega), if_pos (by omega), if_pos (by omega), if_pos (by omega), wi64 (n := (p : Int) + 1) (by omega) (by omega)]
      simp only [Int.toNat_natCast, Nat.zero_add]
      refine ⟨_, rfl, by simp only; omega, by simp only [List.length_set]; exact s2, fun q hq => ?_, set_all s4 (P := fun x => 0 ≤ x) (hc.get (by omega)).1 _⟩
      simp only [List.getD_eq_getElem?_getD, List.getElem?_set]
      by_cases e : rp n p = rp n q
      · have : p = q := by rw [← rp_rp hp, ← rp_rp (show q < 3 ^ n by omega), e]
        subst this
        rw [if_pos rfl, if_pos (by omega)]
        rfl
      · rw [if_neg e]
        have : q < p := by
          rcases Nat.lt_or_eq_of_le (Nat.le_of_lt_succ hq) with h | h
          · exact h
          · subst h; exact absurd rfl e
        have := s3 q this
        simp only [List.getD_eq_getElem?_getD] at this
        exact this) (by
      rintro ⟨l, j⟩ ⟨s1, s2, s3, s4⟩
      simp only [rl_law24_EmOrder_l3] at s1 s2 s3 s4 ⊢
      subst s1
      rw [if_neg (by simp only [decide_eq_true_eq]; omega)]
      exact ⟨_, rfl, s2, s3, s4⟩) (s := (List.replicate c.length 0, 0)) ⟨rfl, by simp only [List.length_replicate]; exact hl, fun q hq => absurd hq (by omega), fun x hx => by rw [List.eq_of_mem_replicate hx]; decide⟩
  exact ⟨t, e1, ⟨t1, t2⟩, t3⟩
theorem eorder_law (p : List Int) : rl_law24_EmOrder p = some true := by
  unfold rl_law24_EmOrder
  rw [awake24]
  simp only [Option.bind_some, Bool.not_true, Bool.false_eq_true, if_false, rl_make_Few]
  by_cases hp : p.length ≤ 400
  rotate_left
  · rw [decide_eq_false (by omega : ¬ ((p.length : Nat) : Int) ≤ 400)]
    simp only [Bool.not_false, rl_law24_EmOrder_k1, if_true, awake24, Option.bind_some]
  rw [decide_eq_true (by omega : ((p.length : Nat) : Int) ≤ 400)]
  simp only [Bool.not_true, rl_law24_EmOrder_k1, Bool.false_eq_true, if_false]
  obtain ⟨d, he, hd⟩ := new_yes hp
  rw [he]; clear he; simp only [Option.bind_some]
  obtain ⟨x, d1, he, x0, x1, hd1⟩ := next_yes hd (n := 2) (by decide) (by decide)
  rw [he]; clear he; first | rw [bind2_pure] | rw [bind3_pure] | rw [bind4_pure] | rw [bind1_pure]
  obtain ⟨n, hn⟩ : ∃ n : Nat, 2 + x = n := ⟨(2 + x).toNat, by omega⟩
  have hw : IntKind.i64.wrap (2 + x) = (n : Int) := by rw [wi64 (n := 2 + x) (by omega) (by omega), hn]
  have hn2 : n = 2 ∨ n = 3 := by omega
  rw [hw]
  obtain ⟨m, d2, he, m1, hm, hd2⟩ := model_yes hd1 (n := n) (by omega) (by omega)
  rw [he]; clear he; first | rw [bind2_pure] | rw [bind3_pure] | rw [bind4_pure] | rw [bind1_pure]
  obtain ⟨c, d3, he, hc, hd3⟩ := counts_yes hd2 (n := n) (by omega)
  rw [he]; clear he; first | rw [bind2_pure] | rw [bind3_pure] | rw [bind4_pure] | rw [bind1_pure]
  have h3 := pow3_le (show n ≤ 5 by omega)
  have hl := hc.1
  have hw1 : IntKind.i64.wrap ((n : Int) - 1) = (n : Int) - 1 := wi64 (by omega) (by omega)
  rw [hw1, back_model hm m1, bind2_pure, if_pos (by omega), if_pos (by omega), Int.toNat_natCast]
  obtain ⟨c', e1, hr, h0⟩ := back_counts hn2 hw hc
  obtain ⟨k1, k2⟩ := rm_ok hm m1
  have hcv := hr.cv hn2 hc h0
  rw [e1, bind1_pure, Step_eq hm (by rw [m1]; exact hc), bind2_pure]
  show bind2 (em_Step (rm n m) c') _ = _
  rw [Step_eq k1 (by rw [k2]; exact hcv), bind2_pure, stepS_rm hn2 hm m1 hc hr]
  have l1 := stepS_length m c
  rw [m1] at l1
  have l2 := rv_length n (stepS m c).Match
  have l3 := rv_length n (stepS m c).Random
  generalize stepS m c = s at l1 l2 l3
  have g1 : (rm n s).Match = rv n s.Match := rfl
  have g2 : (rm n s).Random = rv n s.Random := rfl
  have g3 : (rm n s).Prior = s.Prior := rfl
  rw [g1, g2, g3, l1.1, l1.2, l2, l3, if_neg (by decide), if_neg (by decide), if_neg (by simp), if_neg (by simp), if_neg (by simp), if_neg (by simp), show (s.Prior != s.Prior) = false by simp]
  unfold rl_law24_EmOrder_k5
  rw [if_neg (by decide)]
  have hloop := loop_for (step := fun v : Int => rl_law24_EmOrder_l6 x s (rm n s) v) (fun i => (i : Int)) n (.inl ()) (fun i hi => by
      simp only [rl_law24_EmOrder_l6, rl_law24_EmOrder_k7]
      rw [hw, hw1, g1, g2, l1.1, l1.2, l2, l3, wi64 (n := (n : Int) - 1 - (i : Int)) (by omega) (by omega), show (n : Int) - 1 - (i : Int) = ((n - 1 - i : Nat) : Int) by omega]
      simp only [Int.toNat_natCast, Nat.zero_add]
      rw [rv_getD (by omega), rv_getD (by omega), show n - 1 - (n - 1 - i) = i by omega, if_pos (by simp only [decide_eq_true_eq]; omega), if_pos (by omega), if_pos (by omega), if_pos (by omega), if_pos (by omega), if_neg (by simp), if_pos (by omega), if_pos (by omega), if_neg (by simp), wi64 (n := (i : Int) + 1) (by omega) (by omega)]
      rfl) (by
      simp only [rl_law24_EmOrder_l6]
      rw [hw, if_neg (by simp only [decide_eq_true_eq]; omega)]) (s := 0) rfl
  rw [hloop, bindE_l]
  rfl
end Go.Proofs.Ytilpgjoidgfbiaa
