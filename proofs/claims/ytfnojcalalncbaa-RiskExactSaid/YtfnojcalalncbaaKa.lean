/- Plain: risks of parameters. -/
import Derived.Test.YtfnojcalalncbaaDk
namespace Go.Proofs.Ytfnojcalalncbaa
open Vm
open IntKind (i64 u64 u32 u8)
set_option linter.unusedVariables false
set_option linter.unusedSimpArgs false
def Right (L : Int) : Prop := 64 ≤ L ∧ L ≤ 512 ∧ L % 64 = 0
instance (L : Int) : Decidable (Right L) := by unfold Right; infer_instance
theorem right_eq (L : Int) : bitset_right L = some (decide (Right L)) := by
  grind [bitset_right, bitset_right_k1, Right, tmod_nn]
def PV (p : S_api_Parameters) : Prop := Right p.Length ∧ (1 ≤ p.Hashes ∧ p.Hashes ≤ 16) ∧ -1 ≤ p.Salt ∧ p.Salt < 5
instance (p : S_api_Parameters) : Decidable (PV p) := by unfold PV; infer_instance
theorem new_eq (L : Int) : ∃ b, bitset_New L = some (b, if Right L then 0 else 2) := by
  unfold bitset_New
  rw [right_eq, bind1_pure]
  by_cases h : Right L
  · rw [decide_eq_true h, if_neg (by decide), tdiv_nn (by have := h.1; omega), wi64 (by have := h.1; omega) (by have := h.2.1; omega), if_pos (by have := h.1; omega), if_pos (by have := h.2.1; omega), if_pos h]
    exact ⟨_, rfl⟩
  · rw [decide_eq_false h, if_pos (by decide), if_neg h]
    exact ⟨_, rfl⟩
theorem bcheck_eq (p : S_api_Parameters) : bloom_Check p = some (if PV p then 0 else 10) := by
  obtain ⟨b, hb⟩ := new_eq p.Length
  unfold bloom_Check bloom_Check_k1
  rw [hb, bind2_pure]
  by_cases h : Right p.Length
  · rw [if_pos h, if_neg (by decide)]
    by_cases h1 : p.Hashes < 1 <;> by_cases h2 : p.Hashes > 16 <;> by_cases h3 : p.Salt < -1 <;> by_cases h4 : p.Salt ≥ 5 <;> grind [PV]
  · rw [if_neg h, if_pos (by decide), if_neg (fun k : PV p => h k.1)]
def ckS (p : S_api_Parameters) (n : Int) : Int := if ¬ PV p then 10 else if n < 0 ∨ n > 80 then 2 else 0
theorem check_eq (p : S_api_Parameters) (n : Int) : risk_check p n = some (ckS p n) := by
  unfold risk_check risk_check_k1 ckS
  rw [bcheck_eq, bind1_pure]
  by_cases h : PV p
  · rw [if_pos h, if_neg (by decide), if_neg (show ¬ ¬ PV p from fun k => k h)]
    by_cases h1 : n < 0 <;> by_cases h2 : n > 80 <;> grind
  · rw [if_neg h, if_pos (by decide), if_pos h]
@[irreducible] def rnd (n d : Nat) : Nat := (2 * n + d) / (2 * d)
theorem rounded_eq {n d : Nat} (hd : 1 ≤ d) (hn : 2 * n + d < 9223372036854775808) (h2 : 2 * d < 9223372036854775808) : risk_rounded (n : Int) (d : Int) = some ((rnd n d : Nat) : Int) := by
  unfold risk_rounded rnd
  have h0 : (0 : Int) ≤ ((2 * n + d) / (2 * d) : Nat) := Int.natCast_nonneg _
  have h1 : (2 * n + d) / (2 * d) ≤ 2 * n + d := Nat.div_le_self _ _
  rw [wi64 (n := 2 * (d : Int)) (by omega) (by omega), wi64 (n := 2 * (n : Int)) (by omega) (by omega), wi64 (n := 2 * (n : Int) + d) (by omega) (by omega), if_pos (by omega), tdiv_nn (by omega), show (2 * (n : Int) + (d : Int)) / (2 * (d : Int)) = (((2 * n + d) / (2 * d) : Nat) : Int) by simp, wi64 (by omega) (by omega)]
  rfl
theorem rnd_mono {a b d : Nat} (h : a ≤ b) : rnd a d ≤ rnd b d := by unfold rnd; exact Nat.div_le_div_right (by omega)
theorem rnd_zero {d : Nat} (hd : 1 ≤ d) : rnd 0 d = 0 := by unfold rnd; exact Nat.div_eq_of_lt (by omega)
theorem rnd_mul {a d : Nat} (hd : 1 ≤ d) : rnd (a * d) d = a := by
  unfold rnd
  refine Nat.div_eq_of_lt_le ?_ ?_
  · have : a * (2 * d) = 2 * (a * d) := by rw [Nat.mul_left_comm]
    omega
  · have : (a + 1) * (2 * d) = 2 * (a * d) + 2 * d := by rw [Nat.add_mul, Nat.mul_left_comm, Nat.one_mul]
    omega
theorem rnd_le {a b d : Nat} (hd : 1 ≤ d) (h : a ≤ b * d) : rnd a d ≤ b := Nat.le_trans (rnd_mono h) (Nat.le_of_eq (rnd_mul hd))
def empU (L : Nat) : Nat → Nat
  | 0 => 1073741824
  | k + 1 => rnd (empU L k * (L - 1)) L
@[irreducible] def emp (L k : Nat) : Nat := empU L k
theorem emp_zero (L : Nat) : emp L 0 = 1073741824 := by unfold emp; rfl
theorem emp_succ (L k : Nat) : emp L (k + 1) = rnd (emp L k * (L - 1)) L := by unfold emp; rfl
theorem emp_step {L : Nat} (hL : 1 ≤ L) (k : Nat) : emp L (k + 1) ≤ emp L k := by
  rw [emp_succ]
  refine rnd_le hL ?_
  exact Nat.mul_le_mul_left _ (by omega)
theorem emp_le {L : Nat} (hL : 1 ≤ L) (k : Nat) : emp L k ≤ 1073741824 := by
  induction k with
  | zero => rw [emp_zero]; exact Nat.le_refl _
  | succ k ih => exact Nat.le_trans (emp_step hL k) ih
theorem emp_anti {L : Nat} (hL : 1 ≤ L) {k m : Nat} (h : k ≤ m) : emp L m ≤ emp L k := by
  induction m with
  | zero => have : k = 0 := by omega
            subst this; exact Nat.le_refl _
  | succ m ih =>
    rcases Nat.lt_or_eq_of_le h with h | rfl
    · exact Nat.le_trans (emp_step hL m) (ih (by omega))
    · exact Nat.le_refl _
theorem emp_longer {L M : Nat} (hL : 1 ≤ L) (h : L ≤ M) (k : Nat) : emp L k ≤ emp M k := by
  induction k with
  | zero => rw [emp_zero, emp_zero]; exact Nat.le_refl _
  | succ k ih =>
    rw [emp_succ, emp_succ]
    refine Nat.le_trans ?_ (rnd_mono (Nat.mul_le_mul_right (M - 1) ih))
    generalize emp L k = e
    obtain ⟨l, rfl⟩ : ∃ l, L = l + 1 := ⟨L - 1, by omega⟩
    obtain ⟨m, rfl⟩ : ∃ m, M = m + 1 := ⟨M - 1, by omega⟩
    simp only [Nat.add_sub_cancel]
    have hq : rnd (e * l) (l + 1) ≤ e := rnd_le hL (Nat.mul_le_mul_left _ (by omega))
    have h1 : rnd (e * l) (l + 1) * (2 * (l + 1)) ≤ 2 * (e * l) + (l + 1) := by unfold rnd; exact Nat.div_mul_le_self _ _
    rw [show rnd (e * m) (m + 1) = (2 * (e * m) + (m + 1)) / (2 * (m + 1)) by unfold rnd; rfl]
    rw [Nat.le_div_iff_mul_le (by omega)]
    generalize rnd (e * l) (l + 1) = q at hq h1
    obtain ⟨d, rfl⟩ : ∃ d, e = q + d := ⟨e - q, by omega⟩
    have h2 : d * l ≤ d * m := Nat.mul_le_mul_left _ (by omega)
    simp only [Nat.add_mul, Nat.mul_add, Nat.mul_one, Nat.mul_left_comm _ 2] at h1 ⊢
    omega
theorem empty_loop {p : S_api_Parameters} (h : PV p) {n : Nat} (hn : n ≤ 80) : risk_empty p (n : Int) = some ((emp p.Length.toNat (n * p.Hashes.toNat) : Nat) : Int) := by
  obtain ⟨⟨l1, l2, l3⟩, ⟨h1, h2⟩, _⟩ := h
  obtain ⟨L, hL⟩ := Int.eq_ofNat_of_zero_le (show 0 ≤ p.Length by omega)
  obtain ⟨H, hH⟩ := Int.eq_ofNat_of_zero_le (show 0 ≤ p.Hashes by omega)
  have hm : n * H ≤ 80 * 16 := Nat.mul_le_mul hn (by omega)
  have hw : IntKind.i64.wrap ((n : Int) * p.Hashes) = ((n * H : Nat) : Int) := by
    rw [hH, show (n : Int) * (H : Int) = ((n * H : Nat) : Int) by simp, wi64 (by omega) (by omega)]
  unfold risk_empty
  have hloop : loop (fun v : Int × Int => risk_empty_l1 p n v.1 v.2) (1073741824, 0) = some ((emp L (n * H) : Nat) : Int) := by
    refine loop_for (fun i => (((emp L i : Nat) : Int), (i : Int))) (n * H) _ (fun i hi => ?_) ?_ (by rw [emp_zero]; rfl)
    · have he := emp_le (L := L) (by omega) i
      have hp : emp L i * (L - 1) ≤ 1073741824 * 511 := Nat.mul_le_mul he (by omega)
      simp only [risk_empty_l1, hw]
      rw [if_pos (by simp only [decide_eq_true_eq]; omega), hL, wi64 (n := (L : Int) - 1) (by omega) (by omega), show (L : Int) - 1 = ((L - 1 : Nat) : Int) by omega, show ((emp L i : Nat) : Int) * ((L - 1 : Nat) : Int) = ((emp L i * (L - 1) : Nat) : Int) by simp, wi64 (n := ((emp L i * (L - 1) : Nat) : Int)) (by omega) (by omega), rounded_eq (by omega) (by omega) (by omega), bind1_pure, wi64 (n := (i : Int) + 1) (by omega) (by omega), emp_succ]
      rfl
    · simp only [risk_empty_l1, hw]
      rw [if_neg (by simp)]
  rw [hloop, hL, hH]
  rfl
@[irreducible] def empS (p : S_api_Parameters) (n : Int) : Nat := emp p.Length.toNat (n.toNat * p.Hashes.toNat)
theorem ck_zero {p : S_api_Parameters} {n : Int} (h : ckS p n = 0) : PV p ∧ 0 ≤ n ∧ n ≤ 80 := by
  unfold ckS at h
  by_cases h1 : PV p
  · rw [if_neg (show ¬ ¬ PV p from fun k => k h1)] at h
    by_cases h2 : n < 0 ∨ n > 80
    · rw [if_pos h2] at h; exact absurd h (by decide)
    · exact ⟨h1, by omega, by omega⟩
  · rw [if_pos h1] at h; exact absurd h (by decide)
theorem ck_ok {p : S_api_Parameters} {n : Int} (h : PV p) (h0 : 0 ≤ n) (h1 : n ≤ 80) : ckS p n = 0 := by
  unfold ckS
  rw [if_neg (show ¬ ¬ PV p from fun k => k h), if_neg (by omega)]
theorem Empty_eq (p : S_api_Parameters) (n : Int) : risk_Empty p n = some (if ckS p n = 0 then (((empS p n : Nat) : Int), 0) else (0, ckS p n)) := by
  unfold risk_Empty
  rw [check_eq, bind1_pure]
  by_cases h : ckS p n = 0
  · obtain ⟨h1, h2, h3⟩ := ck_zero h
    obtain ⟨m, rfl⟩ := Int.eq_ofNat_of_zero_le h2
    rw [if_neg (by simpa using h), if_pos h, empty_loop h1 (by omega), bind1_pure]
    unfold empS
    rfl
  · rw [if_pos (by simpa using h), if_neg h]
theorem empS_le {p : S_api_Parameters} (h : PV p) (n : Int) : empS p n ≤ 1073741824 := by
  unfold empS
  exact emp_le (by have := h.1.1; omega) _
@[irreducible] def filS (x : Nat) : Nat := rnd (1000 * (1073741824 - x)) 1073741824
def colU (x : Nat) : Nat → Nat
  | 0 => 1073741824
  | k + 1 => rnd (colU x k * (1073741824 - x)) 1073741824
@[irreducible] def colL (x k : Nat) : Nat := colU x k
theorem colL_zero (x : Nat) : colL x 0 = 1073741824 := by unfold colL; rfl
theorem colL_succ (x k : Nat) : colL x (k + 1) = rnd (colL x k * (1073741824 - x)) 1073741824 := by unfold colL; rfl
theorem colL_le (x k : Nat) : colL x k ≤ 1073741824 := by
  induction k with
  | zero => rw [colL_zero]; exact Nat.le_refl _
  | succ k ih => rw [colL_succ]; exact rnd_le (by decide) (Nat.mul_le_mul ih (by omega))
@[irreducible] def colS (x k : Nat) : Nat := rnd (1000000 * colL x k) 1073741824
theorem Fill_eq (p : S_api_Parameters) (n : Int) : risk_Fill p n = some (if ckS p n = 0 then (((filS (empS p n) : Nat) : Int), 0) else (0, ckS p n)) := by
  unfold risk_Fill
  rw [Empty_eq]
  by_cases h : ckS p n = 0
  · have hx := empS_le (ck_zero h).1 n
    rw [if_pos h, if_pos h, bind2_pure, if_neg (by decide)]
    generalize empS p n = x at hx
    rw [wi64 (n := 1073741824 - (x : Int)) (by omega) (by omega), show (1073741824 : Int) - (x : Int) = ((1073741824 - x : Nat) : Int) by omega, show (1000 : Int) * ((1073741824 - x : Nat) : Int) = ((1000 * (1073741824 - x) : Nat) : Int) by simp, wi64 (by omega) (by omega), show (1073741824 : Int) = ((1073741824 : Nat) : Int) from rfl, rounded_eq (by decide) (by omega) (by decide), bind1_pure]
    unfold filS
    rfl
  · rw [if_neg h, if_neg h, bind2_pure, if_pos (by simpa using h)]
theorem Collision_eq (p : S_api_Parameters) (n : Int) : risk_Collision p n = some (if ckS p n = 0 then (((colS (empS p n) p.Hashes.toNat : Nat) : Int), 0) else (0, ckS p n)) := by
  unfold risk_Collision
  rw [Empty_eq]
  by_cases h : ckS p n = 0
  · have hp := (ck_zero h).1
    have hx := empS_le hp n
    rw [if_pos h, if_pos h, bind2_pure, if_neg (by decide)]
    generalize empS p n = x at hx
    obtain ⟨H, hH⟩ := Int.eq_ofNat_of_zero_le (show 0 ≤ p.Hashes by have := hp.2.1.1; omega)
    have hH16 := hp.2.1.2
    rw [hH, Int.toNat_natCast, loop_for (step := fun v : Int × Int => risk_Collision_l1 p x v.1 v.2) (fun i => (((colL x i : Nat) : Int), (i : Int))) H (((colL x H : Nat) : Int)) (s := (1073741824, 0)) (fun i hi => by
        have hc := colL_le x i
        have hm : colL x i * (1073741824 - x) ≤ 1073741824 * 1073741824 := Nat.mul_le_mul hc (by omega)
        simp only [risk_Collision_l1]
        rw [if_pos (by simp only [decide_eq_true_eq]; omega), wi64 (n := 1073741824 - (x : Int)) (by omega) (by omega), show (1073741824 : Int) - (x : Int) = ((1073741824 - x : Nat) : Int) by omega, show ((colL x i : Nat) : Int) * ((1073741824 - x : Nat) : Int) = ((colL x i * (1073741824 - x) : Nat) : Int) by simp, wi64 (n := ((colL x i * (1073741824 - x) : Nat) : Int)) (by omega) (by omega), show (1073741824 : Int) = ((1073741824 : Nat) : Int) from rfl, rounded_eq (by decide) (by omega) (by decide), bind1_pure, wi64 (n := (i : Int) + 1) (by omega) (by omega), colL_succ]
        rfl) (by
        simp only [risk_Collision_l1]
        rw [if_neg (by simp only [decide_eq_true_eq]; omega)]) (by rw [colL_zero]; rfl), bind1_pure]
    have hc := colL_le x H
    rw [show (1000000 : Int) * ((colL x H : Nat) : Int) = ((1000000 * colL x H : Nat) : Int) by simp, wi64 (by omega) (by omega), show (1073741824 : Int) = ((1073741824 : Nat) : Int) from rfl, rounded_eq (by decide) (by omega) (by decide), bind1_pure]
    unfold colS
    rfl
  · rw [if_neg h, if_neg h, bind2_pure, if_pos (by simpa using h)]
/-! Chosen parameters. -/
theorem chP_ok {k : Nat} (h : k < 128) : PV (chP k) := by
  unfold chP chL chH
  refine ⟨⟨?_, ?_, ?_⟩, ⟨?_, ?_⟩, ?_, ?_⟩ <;> simp only <;> omega
theorem chG_ok {n : Int} (h0 : 0 ≤ n) (h1 : n ≤ 80) : ChG n := fun k hk => ⟨⟨_, Fill_eq _ _⟩, ⟨_, Collision_eq _ _⟩⟩
def meets (n low high most : Int) (k : Nat) : Bool := decide (low ≤ ((filS (empS (chP k) n) : Nat) : Int) ∧ ((filS (empS (chP k) n) : Nat) : Int) ≤ high ∧ ((colS (empS (chP k) n) (chP k).Hashes.toNat : Nat) : Int) ≤ most)
theorem chM_eq {n low high most : Int} (h0 : 0 ≤ n) (h1 : n ≤ 80) {k : Nat} (hk : k < 128) : chM n low high most k = meets n low high most k := by
  have hc := ck_ok (chP_ok hk) h0 h1
  unfold chM chF chC meets
  rw [Fill_eq, Collision_eq, if_pos hc, if_pos hc]
  rfl
theorem find_congr {p q : Nat → Bool} : ∀ {l : List Nat}, (∀ x ∈ l, p x = q x) → l.find? p = l.find? q
  | [], _ => rfl
  | x :: l, h => by
    rw [List.find?_cons, List.find?_cons, h x List.mem_cons_self, find_congr (l := l) fun y hy => h y (List.mem_cons_of_mem _ hy)]
def chooseS (n low high most : Int) : S_api_Parameters × Int := match (List.range 128).find? (meets n low high most) with
  | some k => (chP k, 0)
  | none => (⟨0, 0, 0⟩, 13)
theorem Choose_eq {n low high most : Int} (h : 0 ≤ n ∧ n ≤ 80 ∧ 0 ≤ low ∧ low ≤ high ∧ high ≤ 1000 ∧ 0 ≤ most ∧ most ≤ 1000000) : risk_Choose n low high most = some (chooseS n low high most) := by
  unfold risk_Choose chooseS
  rw [if_neg (by omega), if_pos (chG_ok h.1 h.2.1), find_congr (q := meets n low high most) fun x hx => chM_eq h.1 h.2.1 (List.mem_range.1 hx)]
  rfl
theorem awake15 : rl_law15_awake = some true := by
  unfold rl_law15_awake
  have hv : PV ⟨64, 1, -1⟩ := ⟨⟨by decide, by decide, by decide⟩, ⟨by decide, by decide⟩, by decide, by decide⟩
  have e0 : empS ⟨64, 1, -1⟩ 1 = 1056964608 := by decide +kernel
  have hm : meets 1 10 20 30000 0 = true := by decide +kernel
  have hf : (List.range 128).find? (meets 1 10 20 30000) = some 0 := by
    rw [List.find?_range_eq_some]
    exact ⟨hm, by simp, fun j hj => by omega⟩
  rw [Empty_eq, Fill_eq, Choose_eq (by omega), if_pos (ck_ok hv (by decide) (by decide)), if_pos (ck_ok hv (by decide) (by decide)), e0]
  unfold chooseS
  rw [hf, show filS 1056964608 = 16 by decide +kernel]
  rfl
/-! Dealt parameters. -/
theorem pv0 {a b : Int} (ha : 0 ≤ a ∧ a < 3) (hb : 0 ≤ b ∧ b < 6) : PV ⟨64 * (1 + a), 1 + b, -1⟩ := by
  refine ⟨⟨?_, ?_, ?_⟩, ⟨?_, ?_⟩, ?_, ?_⟩ <;> simp only <;> omega
theorem params_yes {d : S_recordlinkmake_Deck} (hd : DeckOk d) : ∃ l d', rl_make_Deck_Parameters d 1 = some (l, d') ∧ l.length = 1 ∧ (∃ a b : Int, (0 ≤ a ∧ a < 3) ∧ (0 ≤ b ∧ b < 6) ∧ l.getD (0 + 0) dS_api_Parameters = ⟨64 * (1 + a), 1 + b, -1⟩) ∧ DeckOk d' := by
  unfold rl_make_Deck_Parameters
  obtain ⟨a, d1, e1, a0, a1, hd1⟩ := next_yes hd (n := 3) (by decide) (by decide)
  obtain ⟨b, d2, e2, b0, b1, hd2⟩ := next_yes hd1 (n := 6) (by decide) (by decide)
  have hs : rl_make_Deck_Parameters_l1 1 [] 0 d.list d.at_ d.state = some (.inl ([⟨64 * (1 + a), 1 + b, -1⟩], 1, d2.list, d2.at_, d2.state)) := by
    unfold rl_make_Deck_Parameters_l1
    rw [if_pos (by decide), show (⟨d.list, d.at_, d.state⟩ : S_recordlinkmake_Deck) = d from rfl, e1, bind2_pure, e2, bind2_pure, if_neg (by decide)]
    unfold rl_make_Deck_Parameters_k3 rl_make_Deck_Parameters_k2
    rw [if_neg (by decide), wi64 (n := 1 + a) (by omega) (by omega), wi64 (n := 64 * (1 + a)) (by omega) (by omega), wi64 (n := 1 + b) (by omega) (by omega), if_pos (by simp)]
    rfl
  rw [loop_next hs, loop_end (t := ([⟨64 * (1 + a), 1 + b, -1⟩], d2.list, d2.at_, d2.state)) (by
    show rl_make_Deck_Parameters_l1 1 _ 1 _ _ _ = _
    unfold rl_make_Deck_Parameters_l1
    rw [if_neg (by decide)]), bind4_pure]
  exact ⟨_, _, rfl, rfl, ⟨a, b, ⟨a0, a1⟩, ⟨b0, b1⟩, rfl⟩, hd2⟩
end Go.Proofs.Ytfnojcalalncbaa
