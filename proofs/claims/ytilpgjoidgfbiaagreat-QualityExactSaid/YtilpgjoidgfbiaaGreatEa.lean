/- Plain: a pattern's posterior under a model, and its share. -/
import Derived.Test.YtilpgjoidgfbiaaGreatMd
import Derived.Test.YtilpgjoidgfbiaaGreatRd
import Derived.Test.YtilpgjoidgfbiaaGreatGE0
namespace Go.Proofs.YtilpgjoidgfbiaaGreat
open Vm
set_option linter.unusedVariables false
set_option linter.unusedSimpArgs false
theorem awake33 : rl_law33_awake = some true := rl_law33_awake_le 200 _ (by kernel_rfl)
def fac (d x : Int) : Int := if d = 0 then 1 else if d = 1 then 65536 - x else x
def wprod (s : Int) (l ds : List Int) : Nat → Int
  | 0 => s
  | n + 1 => wprod s l ds n * fac (ds.getD n 0) (l.getD n 0)
theorem fac_in {d x : Int} (h : prob x) : 1 ≤ fac d x ∧ fac d x ≤ 65536 := by
  unfold prob at h
  unfold fac
  split
  · omega
  · split <;> omega
theorem bp1 : bp 1 = 4294967296 := by decide
theorem wprod_in {s : Int} (s0 : 1 ≤ s) (s1 : s ≤ 65536) {l ds : List Int} {n : Nat} (h : ∀ i, i < n → prob (l.getD i 0)) : 1 ≤ wprod s l ds n ∧ wprod s l ds n < bp (n + 1) := by
  induction n with
  | zero => exact ⟨s0, by rw [bp1]; simp only [wprod]; omega⟩
  | succ n ih =>
    have h1 := fac_in (d := ds.getD n 0) (h n (by omega))
    have h2 := ih fun i hi => h i (by omega)
    simp only [wprod]
    refine ⟨?_, bp_mul (by omega) h2.2 (by omega) (by rw [bp1]; omega)⟩
    have := Int.mul_le_mul h2.1 h1.1 (by omega) (by omega)
    omega
theorem weight_step {s : Int} (s0 : 1 ≤ s) (s1 : s ≤ 65536) {l ds : List Int} (hl : ds.length ≤ l.length) (hn : ds.length ≤ 5) (h : ∀ i, i < ds.length → prob (l.getD i 0)) (hd : ∀ x ∈ ds, 0 ≤ x ∧ x ≤ 2) {i : Nat} (hi : i < ds.length) :
    em_weight_l1 l ds (nat32 (wprod s l ds i)) i = some (.inl (nat32 (wprod s l ds (i + 1)), ((i + 1 : Nat) : Int))) := by
  obtain ⟨w0, w1⟩ := wprod_in s0 s1 (ds := ds) (n := i) fun j hj => h j (by omega)
  have hp := h i hi
  have hdi := all_getD hd hi
  simp only [em_weight_l1, Int.toNat_natCast]
  rw [if_pos (by simpa using hi), if_pos (by omega), if_pos (by omega), if_pos (by omega)]
  have k3 : ∀ x : Int, prob x → em_weight_k3 (nat32 (wprod s l ds i)) i x = some (.inl (nat32 (wprod s l ds i * x), ((i + 1 : Nat) : Int))) := fun x hx => by
    unfold prob at hx
    unfold em_weight_k3
    rw [natural_fromInt_eq (by omega), if_neg (by omega), bind2_pure, nmul (m := i + 1) (n := 1) (by omega) (by omega) w1 (by rw [bp1]; omega) (by omega), bind2_pure]
    unfold em_weight_k2
    rw [wi64 (by omega) (by omega)]
    rfl
  simp only [wprod, fac]
  by_cases c0 : ds.getD i 0 = 0
  · rw [if_pos (by rw [c0]; rfl), if_pos c0, Int.mul_one]
    unfold em_weight_k2
    rw [wi64 (by omega) (by omega)]
    rfl
  rw [if_neg (by simpa using c0), if_neg c0]
  by_cases c1 : ds.getD i 0 = 1
  · unfold prob at hp
    rw [if_pos (by rw [c1]; rfl), if_pos c1, wi64 (n := 65536 - l.getD i 0) (by omega) (by omega), k3 _ (by unfold prob; omega)]
  · rw [if_neg (by simpa using c1), if_neg c1, k3 _ hp]
theorem weight_eq {s : Int} (s0 : 1 ≤ s) (s1 : s ≤ 65536) {l ds : List Int} (hl : ds.length ≤ l.length) (hn : ds.length ≤ 5) (h : ∀ i, i < ds.length → prob (l.getD i 0)) (hd : ∀ x ∈ ds, 0 ≤ x ∧ x ≤ 2) : em_weight s l ds = some (nat32 (wprod s l ds ds.length)) := by
  unfold em_weight
  rw [natural_fromInt_eq (by omega), if_neg (by omega), bind2_pure]
  have hloop := loop_for (step := fun v : (List Int) × Int => em_weight_l1 l ds v.1 v.2) (fun i => (nat32 (wprod s l ds i), (i : Int))) ds.length (nat32 (wprod s l ds ds.length)) (fun i hi => weight_step s0 s1 hl hn h hd hi) (by
    simp only [em_weight_l1]
    rw [if_neg (by simp)]) (s := (nat32 s, 0)) rfl
  rw [hloop]
  rfl
/-- a pattern's number -/
def PN (m : S_api_Model) (p : Int) : Prop := 0 ≤ p ∧ p < ((3 ^ m.Match.length : Nat) : Int)
def wA (m : S_api_Model) (p : Int) : Int := wprod m.Prior m.Match (digs m.Match.length p) m.Match.length
def wB (m : S_api_Model) (p : Int) : Int := wprod (65536 - m.Prior) m.Random (digs m.Match.length p) m.Match.length
theorem wAB_in {m : S_api_Model} (h : MV m) (p : Int) : 1 ≤ wA m p ∧ wA m p < bp 6 ∧ 1 ≤ wB m p ∧ wB m p < bp 6 ∧ wA m p + wB m p < bp 7 := by
  obtain ⟨h1, h2, h3, h4, h5, h6⟩ := h
  unfold prob at h4
  have a := wprod_in (s := m.Prior) (by omega) (by omega) (l := m.Match) (ds := digs m.Match.length p) (n := m.Match.length) h5
  have b := wprod_in (s := 65536 - m.Prior) (by omega) (by omega) (l := m.Random) (ds := digs m.Match.length p) (n := m.Match.length) h6
  have hle := bp_le (show m.Match.length + 1 ≤ 6 by omega)
  have h7 : bp 7 = 4294967296 * bp 6 := rfl
  unfold wA wB
  omega
theorem posterior_eq {m : S_api_Model} (h : MV m) {p : Int} (hp : PN m p) : em_Posterior m p = some (fr (wA m p) (wA m p + wB m p), 0) := by
  obtain ⟨h1, h2, h3, h4, h5, h6⟩ := id h
  obtain ⟨a0, a1, b0, b1, ab⟩ := wAB_in h p
  have hlen := digs_length m.Match.length p
  have hd := digs_mem m.Match.length p
  have hpr := h4
  unfold prob at hpr
  have L6 := bp_le (show 6 ≤ 64 by decide)
  have L7 := bp_le (show 7 ≤ 64 by decide)
  unfold em_Posterior
  rw [em_check_eq, if_pos h, bind1_pure, if_neg (by decide), digits_eq, if_pos (by omega), Int.toNat_natCast, if_pos (show 0 ≤ p ∧ p < ((3 ^ m.Match.length : Nat) : Int) from hp), bind2_pure, if_neg (by decide),
    weight_eq (s := m.Prior) (by omega) (by omega) (by omega) (by omega) (by rw [hlen]; exact h5) hd, bind1_pure, wi64 (n := 65536 - m.Prior) (by omega) (by omega),
    weight_eq (s := 65536 - m.Prior) (by omega) (by omega) (by omega) (by omega) (by rw [hlen]; exact h6) hd, bind1_pure, hlen]
  show bind2 (natural_Add (nat32 (wA m p)) (nat32 (wB m p))) _ = _
  rw [nadd (m := 6) (by omega) (by omega) a1 b1 (by decide), bind2_pure, if_neg (by decide)]
  show bind2 (rational_Make (nat32 (wA m p)) (nat32 (wA m p + wB m p))) _ = _
  rw [make_any (nat32_u32 (by omega)) (nat32_u32 (by omega)), makeS, if_pos ⟨(vn_iff (by omega)).2 (by omega), (vn_iff (by omega)).2 (by omega)⟩, if_neg (fun e => by have := (nat32_nil (by omega)).1 e; omega), nat32_val (by omega), nat32_val (by omega), bind2_pure]
/-- a share -/
def shr_ (a b : Int) : Int := (a * 2147483648 + (a + b)) / (2 * (a + b))
theorem shr_in {a b : Int} (ha : 1 ≤ a) (hb : 1 ≤ b) : 0 ≤ shr_ a b ∧ shr_ a b ≤ 1073741824 := by
  unfold shr_
  refine ⟨Int.ediv_nonneg (by omega) (by omega), ?_⟩
  have h : a * 2147483648 + (a + b) < (1073741824 + 1) * (2 * (a + b)) := by omega
  have := Int.ediv_lt_of_lt_mul (show 0 < 2 * (a + b) by omega) h
  omega
def sh (m : S_api_Model) (p : Int) : Int := shr_ (wA m p) (wB m p)
theorem sh_in {m : S_api_Model} (h : MV m) (p : Int) : 0 ≤ sh m p ∧ sh m p ≤ 1073741824 := by
  obtain ⟨a0, a1, b0, b1, ab⟩ := wAB_in h p
  exact shr_in a0 b0
theorem share_eq {m : S_api_Model} (h : MV m) {p : Int} (hp : PN m p) : em_Share m p = some (sh m p, 0) := by
  obtain ⟨a0, a1, b0, b1, ab⟩ := wAB_in h p
  have L7 := bp_le (show 7 ≤ 64 by decide)
  have hs := sh_in h p
  unfold em_Share
  rw [posterior_eq h hp, bind2_pure, if_neg (by decide)]
  obtain ⟨fx, fv⟩ := fr_ok (n := wA m p) (d := wA m p + wB m p) (by omega) (by omega) (by omega) (by omega)
  rw [rrnd_eq fx]
  obtain ⟨g, a, b, g0, x0, y0, e1, e2, e3, _, le1, le2⟩ := fr_parts (n := wA m p) (d := wA m p + wB m p) (by omega) (by omega)
  have h8 : bp 8 = 4294967296 * bp 7 := rfl
  have h64 : bp 8 ≤ bp 64 := bp_le (by decide)
  have b7 := bp_pos 7
  have hval : (a * (2 * 1073741824) + b) / (2 * b) = sh m p := by
    have e4 : wA m p * 2147483648 + (wA m p + wB m p) = g * (a * (2 * 1073741824) + b) := by rw [e2, Int.mul_add, ← Int.mul_assoc, ← e1]; omega
    have e5 : 2 * (wA m p + wB m p) = g * (2 * b) := by rw [e2, ← Int.mul_assoc, ← Int.mul_assoc, Int.mul_comm 2 g]
    unfold sh shr_
    rw [e4, e5, Int.mul_ediv_mul_of_pos _ _ g0]
  have hR : rrndS (fr (wA m p) (wA m p + wB m p)) 1073741824 = (sh m p, 0) := by
    unfold rrndS
    rw [if_pos fv, if_neg (by omega), e3]
    simp only
    rw [nat32_val x0, nat32_val (by omega), if_pos ⟨by omega, by omega⟩, hval, if_pos (by omega)]
  rw [hR, bind2_pure]
theorem pow_loop {step : Int × Int → Option ((Int × Int) ⊕ Int)} {n : Nat} (hn : n ≤ 5) (hs : ∀ v : Int × Int, step v = if (decide (v.2 < (n : Int))) = true then (some (.inl (IntKind.i64.wrap (v.1 * 3), IntKind.i64.wrap (v.2 + 1)))) else (some (.inr v.1))) : loop step (1, 0) = some ((3 ^ n : Nat) : Int) := by
  refine loop_for (fun i => (((3 ^ i : Nat) : Int), (i : Int))) n _ (fun i hi => ?_) ?_ rfl
  · rw [hs]
    have h3 := (pow3_le (i := i) (by omega)).2
    simp only
    rw [Nat.pow_succ]
    generalize 3 ^ i = q at h3 ⊢
    rw [if_pos (by simpa using hi), wi64 (n := (q : Int) * 3) (by omega) (by omega), wi64 (n := (i : Int) + 1) (by omega) (by omega)]
    rfl
  · rw [hs]
    simp only
    rw [if_neg (by simp)]
end Go.Proofs.YtilpgjoidgfbiaaGreat
