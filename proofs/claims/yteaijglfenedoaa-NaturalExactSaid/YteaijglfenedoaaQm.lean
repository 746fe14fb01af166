/- Natural numbers: decimal digits. -/
import Derived.Test.YteaijglfenedoaaQf
import Derived.Test.YteaijglfenedoaaQk
import Derived.Test.YteaijglfenedoaaPs
namespace Go.Proofs.Yteaijglfenedoaa
set_option linter.unusedVariables false
set_option linter.unusedSimpArgs false
open Vm
/-- decimal digits, the last one first -/
def dlowF : Nat → Int → List Int
  | 0, _ => []
  | f + 1, v => if v ≤ 0 then [] else (48 + v % 10) :: dlowF f (v / 10)
def dlow (v : Int) : List Int := dlowF v.toNat v
theorem dlowF_more : ∀ (f g : Nat) (v : Int), v ≤ f → v ≤ g → dlowF f v = dlowF g v := by
  intro f
  induction f with
  | zero =>
    intro g v h1 h2
    cases g with
    | zero => rfl
    | succ g => simp only [dlowF]; rw [if_pos (by omega)]
  | succ f ih =>
    intro g v h1 h2
    cases g with
    | zero => simp only [dlowF]; rw [if_pos (by omega)]
    | succ g =>
      simp only [dlowF]
      split
      · rfl
      · rw [ih g (v / 10) (by omega) (by omega)]
theorem dlow_pos {v : Int} (h : 0 < v) : dlow v = (48 + v % 10) :: dlow (v / 10) := by
  unfold dlow
  obtain ⟨n, hn⟩ : ∃ n, v.toNat = n + 1 := ⟨v.toNat - 1, by omega⟩
  rw [hn]
  simp only [dlowF]
  rw [if_neg (by omega), dlowF_more n (v / 10).toNat (v / 10) (by omega) (by omega)]
theorem dlow_zero : dlow 0 = [] := rfl
theorem dlowF_mem : ∀ (f : Nat) (v : Int), ∀ x ∈ dlowF f v, 48 ≤ x ∧ x ≤ 57 := by
  intro f
  induction f with
  | zero => intro v x hx; cases hx
  | succ f ih =>
    intro v x hx
    simp only [dlowF] at hx
    split at hx
    · cases hx
    · rcases List.mem_cons.1 hx with rfl | hx
      · omega
      · exact ih _ x hx
theorem dlow_b8 (v : Int) : B8 (dlow v) := fun x hx => by have := dlowF_mem _ _ x hx; omega
theorem dlow_len : ∀ (n : Nat) (v : Int), v < 10 ^ n → (dlow v).length ≤ n := by
  intro n
  induction n with
  | zero =>
    intro v h
    by_cases h0 : 0 < v
    · simp at h; omega
    · have : v.toNat = 0 := by omega
      unfold dlow; rw [this]; exact Nat.le_refl 0
  | succ n ih =>
    intro v h
    by_cases h0 : 0 < v
    · rw [dlow_pos h0, List.length_cons]
      have := ih (v / 10) (by apply Int.ediv_lt_of_lt_mul (by decide); rw [Int.pow_succ] at h; exact h)
      omega
    · have : v.toNat = 0 := by omega
      unfold dlow; rw [this]; simp [dlowF]
/-- the decimal digits of a number -/
def decL (v : Int) : List Int := if v = 0 then [48] else (dlow v).reverse
theorem B8.reverse {l : List Int} (h : B8 l) : B8 l.reverse := fun x hx => h x (List.mem_reverse.1 hx)
theorem decL_b8 (v : Int) : B8 (decL v) := by
  unfold decL
  split
  · exact B8.cons (by decide) B8.nil
  · exact B8.reverse (dlow_b8 v)
def textS (l : List Int) : ByteArray × Int := if VN l then (strOf (decL (val l)), 0) else (strOf [], 20)
theorem strP_all {l : List Int} : strP 0 l.length l = strOf l := by
  unfold strP strOf
  congr 1
  funext i
  rw [Nat.zero_add]
theorem reverse_eq {p : List Int} (hl : p.length < 1000000) : slices_Reverse_byte p 0 p.length = some p.reverse := by
  have fin : ∀ l : List Int, l.length = p.length → ∀ i : Nat, (∀ k, k < p.length → l[k]? = if k < i ∨ p.length ≤ k + i then p[p.length - 1 - k]? else p[k]?) → p.length ≤ 2 * i + 1 → l = p.reverse := by
    intro l h1 i h2 h3
    apply List.ext_getElem?
    intro k
    by_cases hk : k < p.length
    · rw [h2 k hk, List.getElem?_reverse hk]
      split
      · rfl
      · rename_i hc
        rw [show p.length - 1 - k = k by omega]
    · rw [List.getElem?_eq_none (by omega), List.getElem?_eq_none (by simp; omega)]
  obtain ⟨t, h1, h2⟩ := loop_of (step := fun v : List Int × Int × Int => slices_Reverse_byte_l1 0 p.length v.1 v.2.1 v.2.2)
    (fun v => ∃ i : Nat, v.2.1 = (i : Int) ∧ v.2.2 = (p.length : Int) - 1 - i ∧ v.1.length = p.length ∧ ∀ k, k < p.length → v.1[k]? = if k < i ∨ p.length ≤ k + i then p[p.length - 1 - k]? else p[k]?) (fun v => (v.2.2 - v.2.1).toNat) (fun t => t = p.reverse) (by
    rintro ⟨l, x, y⟩ ⟨i, e1, e2, e3, e4⟩
    simp only at e1 e2 e3 e4
    subst e1; subst e2
    simp only [slices_Reverse_byte_l1, Nat.zero_add, Int.toNat_natCast]
    by_cases c : (i : Int) < (p.length : Int) - 1 - i
    · left
      obtain ⟨j, hj⟩ : ∃ j : Nat, (j : Int) = (p.length : Int) - 1 - i := ⟨p.length - 1 - i, by omega⟩
      rw [← hj, if_pos (by simp; omega), if_pos (by omega), if_pos (by omega), if_pos (by simp only [Int.toNat_natCast]; omega), if_pos (by omega), if_pos (by omega), if_pos (by omega), wi64 (by omega) (by omega), wi64 (by omega) (by omega), Int.toNat_natCast]
      refine ⟨_, rfl, ⟨i + 1, by simp only; omega, by simp only; omega, by simp only [List.length_set]; exact e3, fun k hk => ?_⟩, by simp only; omega⟩
      simp only [List.getElem?_set, List.length_set]
      have gi := e4 i (by omega)
      have gj := e4 j (by omega)
      rw [if_neg (by omega)] at gi gj
      have di : l.getD i 0 = p.getD i 0 := by simp only [List.getD_eq_getElem?_getD, gi]
      have dj : l.getD j 0 = p.getD j 0 := by simp only [List.getD_eq_getElem?_getD, gj]
      by_cases k1 : j = k
      · subst k1
        rw [if_pos rfl, if_pos (by omega), if_pos (by omega), di, show p.length - 1 - j = i by omega, List.getElem?_eq_getElem (by omega), List.getD_eq_getElem?_getD, List.getElem?_eq_getElem (by omega)]
        rfl
      · rw [if_neg k1]
        by_cases k2 : i = k
        · subst k2
          rw [if_pos rfl, if_pos (by omega), if_pos (by omega), dj, show p.length - 1 - i = j by omega, List.getElem?_eq_getElem (by omega), List.getD_eq_getElem?_getD, List.getElem?_eq_getElem (by omega)]
          rfl
        · rw [if_neg k2, e4 k hk]
          by_cases k3 : k < i ∨ p.length ≤ k + i
          · rw [if_pos k3, if_pos (by omega)]
          · rw [if_neg k3, if_neg (by omega)]
    · right
      refine ⟨l, by rw [if_neg (by simp; omega)], fin l e3 i e4 (by omega)⟩) (p, 0, (p.length : Int) - 1) ⟨0, rfl, by simp, rfl, fun k hk => by rw [if_neg (by omega)]⟩
  unfold slices_Reverse_byte
  rw [wi64 (by omega) (by omega), h1, h2, bind1_pure]
theorem natural_text_eq {l : List Int} (hu : U32 l) (hl : l.length < 100000) : natural_Text l = some (textS l) := by
  unfold natural_Text textS
  rw [natural_valid_eq (by omega), bind1_pure]
  by_cases h : VN l
  · have hc := h.canon hu
    have v0 := val_nonneg hu
    have vlt : val l < bp 64 := by have := val_lt hu; have := bp_le h.1; omega
    rw [decide_eq_true h, if_neg (by simp), if_pos h]
    by_cases h0 : l = []
    · subst h0
      rw [if_pos (by simp)]
      simp only [val, decL]
      rw [if_pos trivial]
      rfl
    · have hp := hc.pos h0
      have hlen : l.length ≠ 0 := fun e => h0 (List.length_eq_zero_iff.1 e)
      rw [if_neg (by simp only [beq_iff_eq]; omega)]
      have hb : bp 64 ≤ 10 ^ 700 := by decide +kernel
      have hdl := dlow_len 700 (val l) (by omega)
      have hten : val [10] = 10 := rfl
      have c10 : Canon [10] := ⟨U32.cons (by decide) U32.nil, .inr (by decide)⟩
      obtain ⟨t, h1, h2⟩ := loop_of (step := fun v : List Int × List Int => natural_Text_l2 v.1 v.2) (fun v => ∃ w, 0 ≤ w ∧ w ≤ val l ∧ v.1 = nat32 w ∧ v.2 ++ dlow w = dlow (val l)) (fun v => (val v.1).toNat) (fun t => t = dlow (val l)) (by
        rintro ⟨x, out⟩ ⟨w, w0, w1, e1, e2⟩
        simp only at e1 e2
        subst e1
        simp only [natural_Text_l2]
        by_cases c : w = 0
        · right
          subst c
          refine ⟨out, by rw [show nat32 0 = [] from rfl, if_neg (by simp)], ?_⟩
          rw [dlow_zero, List.append_nil] at e2; exact e2
        · left
          have hn : nat32 w ≠ [] := fun e => c ((nat32_nil w0).1 e)
          have hnl : (nat32 w).length ≠ 0 := fun e => hn (List.length_eq_zero_iff.1 e)
          have hwl := nat32_len_le w0 (show w < bp 64 by omega)
          have hol : out.length ≤ 700 := by
            have := congrArg List.length e2
            rw [List.length_append] at this
            omega
          rw [if_pos (by simp; omega), divide_eq (nat32_canon w0) c10 (by simp) (by omega) (by simp), bind2_pure, hten, nat32_val w0, natural_int_eq (nat32_u32 (by omega)) (by have := nat32_len_le (v := w % 10) (n := 1) (by omega) (by simp [bp]; omega); omega), intS]
          have hv10 : val (nat32 (w % 10)) = w % 10 := nat32_val (by omega)
          have hl10 := nat32_len_le (v := w % 10) (n := 1) (by omega) (by simp [bp]; omega)
          rw [if_pos ⟨⟨by omega, (nat32_canon (by omega)).2⟩, by rw [hv10]; omega⟩, bind2_pure, hv10, if_pos (by simp; omega), wi64 (by omega) (by omega)]
          have w8 : IntKind.u8.wrap (48 + w % 10) = 48 + w % 10 := by
            simp only [IntKind.wrap, IntKind.bits, IntKind.signed]
            simp
            omega
          rw [w8]
          refine ⟨_, rfl, ⟨w / 10, by omega, by omega, rfl, ?_⟩, ?_⟩
          · simp only
            rw [List.append_assoc, ← e2, dlow_pos (show 0 < w by omega)]; rfl
          · simp only
            rw [nat32_val (by omega)]; omega) (l, []) ⟨val l, v0, Int.le_refl _, (nat32_of hc).symm, rfl⟩
      rw [h1, h2, bind1_pure, reverse_eq (by omega), bind1_pure, if_pos (by simp)]
      have hr : (dlow (val l)).length = (dlow (val l)).reverse.length := by simp
      rw [hr, strP_all]
      unfold decL
      rw [if_neg (by omega)]
  · rw [decide_eq_false h, if_pos (by simp), if_neg h]
    rfl
end Go.Proofs.Yteaijglfenedoaa
