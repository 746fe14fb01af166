/- Natural numbers: division. -/
import Derived.Test.YtilpgjoidgfbiaaGreatQi
namespace Go.Proofs.YtilpgjoidgfbiaaGreat
set_option linter.unusedVariables false
set_option linter.unusedSimpArgs false
open Vm
theorem estimate {P D T t W P0 D0 g : Int} (hW : 0 < W) (hD : D = t * W + D0) (d0 : 0 ≤ D0) (d1 : D0 < W) (hP : P = T * W + P0) (p0 : 0 ≤ P0) (p1 : P0 < W) (ht : 2147483648 ≤ t) (hT : 0 ≤ T) (hlt : P < 4294967296 * D) (hg : g = if 4294967295 < T / t then 4294967295 else T / t) :
    P / D ≤ g ∧ g ≤ P / D + 2 ∧ 0 ≤ g ∧ g < 4294967296 := by
  have htW : 2147483648 * W ≤ t * W := Int.mul_le_mul_of_nonneg_right ht (Int.le_of_lt hW)
  have hDp : 0 < D := by omega
  have hT0 : 0 ≤ T / t := Int.ediv_nonneg hT (by omega)
  have g0 : 0 ≤ g ∧ g < 4294967296 ∧ g ≤ T / t := by rw [hg]; split <;> omega
  refine ⟨?_, ?_, g0.1, g0.2.1⟩
  · by_cases c : 4294967295 < T / t
    · rw [if_pos c] at hg
      have : P / D < 4294967296 := Int.ediv_lt_of_lt_mul hDp hlt
      omega
    · rw [if_neg c] at hg
      have h1 : T < (T / t + 1) * t := Int.lt_ediv_add_one_mul_self T (by omega)
      have h2 : (T + 1) * W ≤ ((T / t + 1) * t) * W := Int.mul_le_mul_of_nonneg_right (by omega) (Int.le_of_lt hW)
      have h3 : (T / t + 1) * (t * W) ≤ (T / t + 1) * D := Int.mul_le_mul_of_nonneg_left (by omega) (by omega)
      rw [Int.add_mul, Int.mul_assoc] at h2
      have : P < (T / t + 1) * D := by omega
      have : P / D < T / t + 1 := Int.ediv_lt_of_lt_mul hDp this
      omega
  · have h1 : g * t ≤ T := by
      have := Int.mul_le_mul_of_nonneg_right g0.2.2 (show 0 ≤ t by omega)
      have h2 := Int.ediv_mul_le T (show t ≠ 0 by omega)
      omega
    have h2 : (g * t) * W ≤ T * W := Int.mul_le_mul_of_nonneg_right h1 (Int.le_of_lt hW)
    have h3 : g * D0 ≤ g * W := Int.mul_le_mul_of_nonneg_left (by omega) g0.1
    have h4 : g * W ≤ 4294967295 * W := Int.mul_le_mul_of_nonneg_right (by omega) (Int.le_of_lt hW)
    have h5 : g * D = (g * t) * W + g * D0 := by rw [hD]; grind
    have h6 : (g - 2) * D = g * D - 2 * D := by grind
    have : (g - 2) * D ≤ P := by rw [h6]; omega
    have := Int.le_ediv_of_mul_le hDp this
    omega
theorem drop_same {a b : List Int} {j : Nat} (hl : a.length = b.length) (h : ∀ k, j ≤ k → a.getD k 0 = b.getD k 0) : a.drop j = b.drop j := by
  apply List.ext_getElem?
  intro k
  rw [List.getElem?_drop, List.getElem?_drop]
  have := h (j + k) (by omega)
  simp only [List.getD_eq_getElem?_getD] at this
  by_cases hk : j + k < a.length
  · rw [List.getElem?_eq_getElem hk, List.getElem?_eq_getElem (by omega)] at this ⊢
    simpa using this
  · rw [List.getElem?_eq_none (by omega), List.getElem?_eq_none (by omega)]
/-- an array of which a part was changed -/
def Part (N : List Int) (i s : Nat) (out : List Int) : Prop := U32 out ∧ out.length = N.length ∧ (∀ k, i + (s + 1) ≤ k → out.getD k 0 = N.getD k 0) ∧ out.take i = N.take i
theorem Part.vals {N out : List Int} {i s : Nat} (h : Part N i s out) (hN : U32 N) (hl : i + s + 1 ≤ N.length) (hz : val (N.drop (i + s + 1)) = 0) :
    val out = val (N.take i) + bp i * val (out.drop i) ∧ 0 ≤ val (out.drop i) ∧ val (out.drop i) < bp (s + 1) ∧ (out.getD (i + s) 0 = 0 ↔ val (out.drop i) < bp s) := by
  obtain ⟨h1, h2, h3, h4⟩ := h
  have e1 := val_split out (i := i) (by omega)
  rw [h4] at e1
  have e2 := val_split (out.drop i) (i := s) (by rw [List.length_drop]; omega)
  rw [List.drop_drop] at e2
  have e3 := val_drop (l := out) (i := i + s) (by omega)
  rw [drop_same h2 (j := i + s + 1) (fun k hk => h3 k (by omega)), hz] at e3
  have a := val_nonneg ((h1.drop i).take s)
  have b := val_lt ((h1.drop i).take s)
  rw [List.length_take, List.length_drop, Nat.min_eq_left (by omega)] at b
  have c := h1.get (i + s)
  have hb := bp_pos s
  refine ⟨e1, val_nonneg (h1.drop i), ?_, ?_⟩
  · rw [e2, e3, bp]
    have : bp s * (out.getD (i + s) 0 + 1) ≤ bp s * 4294967296 := Int.mul_le_mul_of_nonneg_left (by omega) (Int.le_of_lt hb)
    rw [Int.mul_add] at this
    rw [show out.getD (i + s) 0 + 4294967296 * 0 = out.getD (i + s) 0 by omega]
    omega
  · rw [e2, e3, show out.getD (i + s) 0 + 4294967296 * 0 = out.getD (i + s) 0 by omega]
    constructor
    · intro h; rw [h]; omega
    · intro h
      rcases (show out.getD (i + s) 0 = 0 ∨ 1 ≤ out.getD (i + s) 0 by omega) with h' | h'
      · exact h'
      · have : bp s * 1 ≤ bp s * out.getD (i + s) 0 := Int.mul_le_mul_of_nonneg_left h' (Int.le_of_lt hb)
        omega
theorem cancel_bp {i : Nat} {x y : Int} (h : bp i * x = bp i * y) : x = y := Int.eq_of_mul_eq_mul_left (by have := bp_pos i; omega) h
/-- one digit of the quotient -/
theorem div_fix {N d : List Int} {i : Nat} {g qt : Int} (hN : U32 N) (hd : U32 d) (hl : i + d.length + 1 ≤ N.length) (hn : N.length < 100000) (hz : val (N.drop (i + d.length + 1)) = 0)
    (hq0 : 0 ≤ qt) (hr0 : 0 ≤ val (N.drop i) - qt * val d) (hr1 : val (N.drop i) - qt * val d < val d) (hqg : qt ≤ g) (hqg2 : g ≤ qt + 2) (g1 : g < 4294967296) (hg0 : 1 ≤ g) :
    ∃ y47 y48 out, natural_less N i (d.length + 1) d g = some (y47, y48) ∧ loop (fun v : List Int × Int => natural_divide_l3 d i y47 v.1 v.2) (y48, g) = some (out, qt) ∧ Part N i d.length out ∧ val (out.drop i) = val (N.drop i) - qt * val d := by
  have hD := val_nonneg hd
  have hD1 := val_lt hd
  have hbs := bp_pos d.length
  have hP : Part N i d.length N := ⟨hN, rfl, fun k _ => rfl, rfl⟩
  obtain ⟨v1, v2, v3, v4⟩ := hP.vals hN hl hz
  obtain ⟨out, bw, h1, h2, h3, h4, h5, h6, h7, h8⟩ := less_eq (N := N) (d := d) (o := i) (len := d.length + 1) (q := g) hN hd (by omega) (Nat.le_refl _) (by omega) (by omega) g1
  have hP1 : Part N i d.length out := ⟨h2, h3, h7, h8⟩
  obtain ⟨w1, w2, w3, w4⟩ := hP1.vals hN hl hz
  have e1 : val (out.drop i) - bw * bp (d.length + 1) = val (N.drop i) - g * val d := by
    apply cancel_bp (i := i)
    rw [bp_add] at h6
    rw [w1, v1] at h6
    grind
  refine ⟨decide (bw > 0), out, ?_⟩
  rcases (show bw = 0 ∨ bw = 1 by omega) with hb | hb
  · subst hb
    have hgq : g = qt := by
      rcases (show g = qt ∨ qt + 1 ≤ g by omega) with h | h
      · exact h
      · have : (qt + 1) * val d ≤ g * val d := Int.mul_le_mul_of_nonneg_right h hD
        rw [Int.add_mul] at this
        omega
    subst hgq
    refine ⟨out, h1, loop_end (by simp [natural_divide_l3]), hP1, by omega⟩
  · subst hb
    have hgq : qt < g := by
      rcases (show qt < g ∨ g = qt by omega) with h | h
      · exact h
      · subst h; omega
    obtain ⟨⟨out2, g2⟩, k1, k2, k3, k4⟩ := loop_of (step := fun v : List Int × Int => natural_divide_l3 d i (decide ((1 : Int) > 0)) v.1 v.2)
      (fun v => Part N i d.length v.1 ∧ val (v.1.drop i) = val (N.drop i) - v.2 * val d + bp (d.length + 1) ∧ qt < v.2 ∧ v.2 < 4294967296 ∧ v.2 ≤ qt + 2) (fun v => (v.2 - qt).toNat)
      (fun t => Part N i d.length t.1 ∧ t.2 = qt ∧ val (t.1.drop i) = val (N.drop i) - qt * val d) (by
      rintro ⟨M, g'⟩ ⟨m1, m2, m3, m4, m5⟩
      simp only at m1 m2 m3 m4 m5
      obtain ⟨x1, x2, x3, x4⟩ := m1.vals hN hl hz
      obtain ⟨M2, c, r1, r2, r3, r4, r5, r6, r7, r8⟩ := more_eq (N := M) (d := d) (o := i) (len := d.length + 1) m1.1 hd (by rw [m1.2.1]; omega) (Nat.le_refl _) (by rw [m1.2.1]; omega)
      have hP2 : Part N i d.length M2 := ⟨r2, r3.trans m1.2.1, fun k hk => (r7 k hk).trans (m1.2.2.1 k hk), r8.trans m1.2.2.2⟩
      obtain ⟨y1, y2, y3, y4⟩ := hP2.vals hN hl hz
      have e2 : val (M2.drop i) + c * bp (d.length + 1) = val (M.drop i) + val d := by
        apply cancel_bp (i := i)
        rw [bp_add] at r6
        rw [y1, x1] at r6
        grind
      have hgD : (g' - 1) * val d = g' * val d - val d := by grind
      have hw : IntKind.u64.wrap (g' - 1) = g' - 1 := wu64 (by omega) (by omega)
      have hbs1 : bp (d.length + 1) = 4294967296 * bp d.length := rfl
      have hi1 : (IntKind.i64.wrap ((IntKind.i64.wrap ((i : Int) + ((d.length : Nat) : Int))) + 1)).toNat - (i : Int).toNat = d.length + 1 := by rw [wi64 (n := (i : Int) + ((d.length : Nat) : Int)) (by omega) (by omega), wi64 (by omega) (by omega)]; omega
      simp only [natural_divide_l3]
      rw [if_pos (by decide), hi1, Nat.zero_add, Int.toNat_natCast, r1, bind1_pure, Int.toNat_natCast, if_pos (by rw [r3, m1.2.1]; omega), hw]
      by_cases hc : g' - 1 = qt
      · right
        have hge : qt * val d = g' * val d - val d := by rw [← hc]; exact hgD
        have hc1 : c = 1 := by
          rcases (show c = 0 ∨ c = 1 by omega) with h | h
          · subst h; omega
          · exact h
        subst hc1
        have hv : val (M2.drop i) = val (N.drop i) - qt * val d := by omega
        refine ⟨(M2, g' - 1), ?_, hP2, hc, hv⟩
        rw [if_pos (by simp only [beq_iff_eq]; exact y4.2 (by omega))]
      · left
        have hle : (qt + 1) * val d ≤ (g' - 1) * val d := Int.mul_le_mul_of_nonneg_right (by omega) hD
        rw [Int.add_mul] at hle
        have hc0 : c = 0 := by
          rcases (show c = 0 ∨ c = 1 by omega) with h | h
          · exact h
          · subst h; omega
        subst hc0
        have hv : val (M2.drop i) = val (N.drop i) - (g' - 1) * val d + bp (d.length + 1) := by omega
        refine ⟨(M2, g' - 1), ?_, ⟨hP2, hv, by simp only; omega, by simp only; omega, by simp only; omega⟩, by simp only; omega⟩
        have hle2 : (g' - 1) * val d ≤ (qt + 1) * val d := Int.mul_le_mul_of_nonneg_right (by omega) hD
        rw [Int.add_mul] at hle2
        rw [if_neg (by simp only [beq_iff_eq]; intro h; have := y4.1 h; omega)]) (out, g) ⟨hP1, by simp only; omega, hgq, g1, hqg2⟩
    exact ⟨out2, h1, by rw [k1, show g2 = qt from k3], k2, k4⟩
theorem top_of {N : List Int} {i s : Nat} (hN : U32 N) (hs : 1 ≤ s) (hl : i + s + 1 ≤ N.length) (hz : val (N.drop (i + s + 1)) = 0) : ∃ P0, 0 ≤ P0 ∧ P0 < bp (s - 1) ∧ val (N.drop i) = (N.getD (i + s) 0 * 4294967296 + N.getD (i + (s - 1)) 0) * bp (s - 1) + P0 := by
  have e2 := val_split (N.drop i) (i := s - 1) (by rw [List.length_drop]; omega)
  rw [List.drop_drop] at e2
  have e3 := val_drop (l := N) (i := i + (s - 1)) (by omega)
  rw [show i + (s - 1) + 1 = i + s by omega] at e3
  have e4 := val_drop (l := N) (i := i + s) (by omega)
  rw [hz] at e4
  have a := val_nonneg ((hN.drop i).take (s - 1))
  have b := val_lt ((hN.drop i).take (s - 1))
  rw [List.length_take, List.length_drop, Nat.min_eq_left (by omega)] at b
  refine ⟨_, a, b, ?_⟩
  rw [e2, e3, e4]
  grind
theorem div_loop {d N0 : List Int} (hd : U32 d) (hs : 1 ≤ d.length) (ht : 2147483648 ≤ d.getD (d.length - 1) 0) {m : Nat} (hm : 1 ≤ m) (hN0 : U32 N0) (hl : N0.length = m + d.length) (hn : N0.length < 100000) (hlow : val (N0.drop m) < val d) (Y : List Int) (hY : Y.length = N0.length) :
    ∃ N q, loop (fun v : List Int × List Int × Int => natural_divide_l1 Y d (d.getD (d.length - 1) 0) v.1 v.2.1 v.2.2) (N0, List.replicate m 0, (m : Int) - 1) = some (N, q) ∧ U32 N ∧ N.length = N0.length ∧ U32 q ∧ q.length = m ∧ val N + val d * val q = val N0 ∧ val N < val d := by
  have hD := val_nonneg hd
  have hD1 := val_lt hd
  have hDp : 0 < val d := by have := val_nonneg (hN0.drop m); omega
  have hts := hd.get (d.length - 1)
  have hdt := val_split d (i := d.length - 1) (by omega)
  have hdd := val_drop (l := d) (i := d.length - 1) (by omega)
  rw [val_drop_zero (l := d) (i := d.length - 1 + 1) (by omega)] at hdd
  have hda := val_nonneg (hd.take (d.length - 1))
  have hdb := val_lt (hd.take (d.length - 1))
  rw [List.length_take, Nat.min_eq_left (by omega)] at hdb
  rw [hdd] at hdt
  generalize htt : d.getD (d.length - 1) 0 = t at *
  obtain ⟨⟨N, q⟩, h1, h2⟩ := loop_inv (step := fun v : List Int × List Int × Int => natural_divide_l1 Y d t v.1 v.2.1 v.2.2) m
    (fun j v => v.2.2 = (m : Int) - 1 - j ∧ U32 v.1 ∧ v.1.length = N0.length ∧ U32 v.2.1 ∧ v.2.1.length = m ∧ val v.1 + val d * val v.2.1 = val N0 ∧ val (v.1.drop (m - j)) < val d ∧ ∀ k, k < m - j → v.2.1.getD k 0 = 0)
    (fun t => U32 t.1 ∧ t.1.length = N0.length ∧ U32 t.2 ∧ t.2.length = m ∧ val t.1 + val d * val t.2 = val N0 ∧ val t.1 < val d) (by
    rintro j hj ⟨N, q, x⟩ ⟨g0, g1, g2, g3, g4, g5, g6, g7⟩
    simp only at g0 g1 g2 g3 g4 g5 g6 g7
    left
    obtain ⟨i, hi⟩ : ∃ i, i + 1 = m - j := ⟨m - j - 1, by omega⟩
    rw [← hi] at g6 g7
    have hx : x = (i : Int) := by omega
    subst hx
    have hNi := val_drop (l := N) (i := i) (by omega)
    have gi := g1.get i
    have gtop := g1.get (i + d.length)
    have gtop1 := g1.get (i + (d.length - 1))
    have hPlt : val (N.drop i) < 4294967296 * val d := by omega
    have hP0 := val_nonneg (g1.drop i)
    have hz : val (N.drop (i + d.length + 1)) = 0 := by
      have e2 := val_split (N.drop i) (i := d.length + 1) (by rw [List.length_drop]; omega)
      rw [List.drop_drop] at e2
      have a := val_nonneg ((g1.drop i).take (d.length + 1))
      have b := val_nonneg (g1.drop (i + (d.length + 1)))
      have hbs := bp_pos (d.length + 1)
      have hb1 : bp (d.length + 1) = 4294967296 * bp d.length := rfl
      rcases (show val (N.drop (i + (d.length + 1))) = 0 ∨ 1 ≤ val (N.drop (i + (d.length + 1))) by omega) with h | h
      · exact h
      · have : bp (d.length + 1) * 1 ≤ bp (d.length + 1) * val (N.drop (i + (d.length + 1))) := Int.mul_le_mul_of_nonneg_left h (Int.le_of_lt hbs)
        omega
    obtain ⟨P0, p0, p1, hP⟩ := top_of g1 hs (by omega) hz
    have hT0 : 0 ≤ N.getD (i + d.length) 0 * 4294967296 + N.getD (i + (d.length - 1)) 0 := by omega
    have hX0 : 0 ≤ (N.getD (i + d.length) 0 * 4294967296 + N.getD (i + (d.length - 1)) 0) / t := Int.ediv_nonneg hT0 (by omega)
    have hX1 := Int.ediv_le_self (b := t) hT0
    obtain ⟨gg, hg⟩ : ∃ gg, gg = if 4294967295 < (N.getD (i + d.length) 0 * 4294967296 + N.getD (i + (d.length - 1)) 0) / t then 4294967295 else (N.getD (i + d.length) 0 * 4294967296 + N.getD (i + (d.length - 1)) 0) / t := ⟨_, rfl⟩
    obtain ⟨q1, q2, q3, q4⟩ := estimate (W := bp (d.length - 1)) (D := val d) (D0 := val (d.take (d.length - 1))) (t := t) (bp_pos _) (by rw [hdt]; grind) hda hdb hP p0 p1 ht hT0 hPlt hg
    have hqt0 : 0 ≤ val (N.drop i) / val d := Int.ediv_nonneg hP0 hD
    have hmod := Int.mul_ediv_add_emod (val (N.drop i)) (val d)
    have hm0 := Int.emod_nonneg (val (N.drop i)) (show val d ≠ 0 by omega)
    have hm1 := Int.emod_lt_of_pos (val (N.drop i)) hDp
    have hcm : val (N.drop i) / val d * val d = val d * (val (N.drop i) / val d) := Int.mul_comm _ _
    have hw1 : IntKind.i64.wrap ((i : Int) + ((d.length : Nat) : Int)) = (i : Int) + ((d.length : Nat) : Int) := wi64 (by omega) (by omega)
    have hw2 : IntKind.i64.wrap ((i : Int) + ((d.length : Nat) : Int) + 1) = (i : Int) + ((d.length : Nat) : Int) + 1 := wi64 (by omega) (by omega)
    have hw3 : IntKind.i64.wrap (((d.length : Nat) : Int) - 1) = ((d.length : Nat) : Int) - 1 := wi64 (by omega) (by omega)
    have hlen : ((i : Int) + ((d.length : Nat) : Int) + 1).toNat - i = d.length + 1 := by omega
    have hk40 : ∀ (M q' : List Int), natural_divide_k2 (i : Int) M q' = some (.inl (M, q', (i : Int) - 1)) := by
      intro M q'
      unfold natural_divide_k2
      rw [wi64 (by omega) (by omega)]
    have s1 : ishl .u64 (IntKind.u64.wrap (N.getD (i + d.length) 0)) 32 = N.getD (i + d.length) 0 * 4294967296 := by
      have := shl_u64 (N.getD (i + d.length) 0) (s := 32) (by decide)
      rw [show ((32 : Nat) : Int) = 32 from rfl, show ((2 ^ 32 : Nat) : Int) = 4294967296 by decide, Int.emod_eq_of_lt (by omega) (by omega)] at this
      rw [wu64 (by omega) (by omega)]; exact this
    have s2 := (or_u64 (a := N.getD (i + d.length) 0) (b := N.getD (i + (d.length - 1)) 0) (i := 32) gtop.1 gtop1.1 (by rw [show ((2 ^ 32 : Nat) : Int) = 4294967296 by decide]; omega) (by rw [show ((2 ^ 32 : Nat) : Int) = 4294967296 by decide]; omega)).2
    rw [show ((2 ^ 32 : Nat) : Int) = 4294967296 by decide] at s2
    simp only [natural_divide_l1, Int.toNat_natCast, Nat.zero_add, hw1, hw2, hw3, hlen, show (((d.length : Nat) : Int) - 1).toNat = d.length - 1 by omega]
    rw [if_pos (by simp), if_pos (by omega), if_pos (by omega), if_pos (by omega), if_pos (by omega), if_pos (by omega), if_pos (by omega), if_pos (by omega), if_pos (by omega), if_pos (by omega)]
    rw [s1, wu64 (n := N.getD (i + (d.length - 1)) 0) (by omega) (by omega), s2, tdiv_nn hT0, wu64 (n := _ / t) hX0 (by omega), ← hg, bind1_pure]
    by_cases c0 : gg = 0
    · rw [if_pos (by rw [c0]; rfl), hk40]
      have hq0 : val (N.drop i) / val d = 0 := by omega
      rw [hq0] at hmod hcm
      refine ⟨_, rfl, by simp only; omega, g1, g2, g3, g4, g5, ?_, ?_⟩
      · simp only
        rw [show m - (j + 1) = i by omega]; omega
      · intro k hk
        exact g7 k (by omega)
    · rw [if_neg (by simp only [beq_iff_eq]; exact c0)]
      obtain ⟨y47, y48, out, f1, f2, f3, f4⟩ := div_fix (N := N) (d := d) (i := i) (g := gg) (qt := val (N.drop i) / val d) g1 hd (by omega) (by omega) hz hqt0 (by omega) (by omega) q1 q2 q4 (by omega)
      rw [f1, bind2_pure, f2, bind2_pure, if_pos (by omega), hk40, wu32 hqt0 (by omega)]
      obtain ⟨o1, o2, o3, o4⟩ := f3
      have hvN := (show Part N i d.length N from ⟨g1, rfl, fun k _ => rfl, rfl⟩).vals g1 (by omega) hz
      have hvo := (show Part N i d.length out from ⟨o1, o2, o3, o4⟩).vals g1 (by omega) hz
      refine ⟨_, rfl, by simp only; omega, o1, o2.trans g2, g3.set _ ⟨hqt0, by omega⟩, by simp only [List.length_set]; exact g4, ?_, ?_, ?_⟩
      · simp only
        rw [val_set (by omega), g7 i (by omega), hvo.1, f4]
        have e := hvN.1
        generalize val (N.drop i) / val d = qt at *
        rw [← g5, e]
        grind
      · simp only
        rw [show m - (j + 1) = i by omega, f4]; omega
      · intro k hk
        simp only
        rw [getD_set (by omega), if_neg (by omega)]
        exact g7 k (by omega)) (by
    rintro ⟨N, q, x⟩ ⟨g0, g1, g2, g3, g4, g5, g6, g7⟩
    simp only at g0 g1 g2 g3 g4 g5 g6 g7
    rw [Nat.sub_self, List.drop_zero] at g6
    refine ⟨(N, q), ?_, g1, g2, g3, g4, g5, g6⟩
    simp only [natural_divide_l1]
    rw [if_neg (by simp; omega)]) (s := (N0, List.replicate m 0, (m : Int) - 1)) ⟨by simp, hN0, rfl, U32.rep _, by simp, by simp [val_rep], by rw [Nat.sub_zero]; exact hlow, fun k _ => by
      simp only [List.getD_eq_getElem?_getD, List.getElem?_replicate]; split <;> rfl⟩
  exact ⟨N, q, h1, h2⟩
end Go.Proofs.YtilpgjoidgfbiaaGreat
