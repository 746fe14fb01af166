/- Natural numbers: sums and products. -/
import Derived.Test.YtafmpnilgknfhaaQb
namespace Go.Proofs.Ytafmpnilgknfhaa
set_option linter.unusedVariables false
set_option linter.unusedSimpArgs false
open Vm
theorem getD_out {l : List Int} {i : Nat} (h : l.length ≤ i) : l.getD i 0 = 0 := by
  rw [List.getD_eq_getElem?_getD, List.getElem?_eq_none h]; rfl
theorem val_takeA (l : List Int) (i : Nat) : val (l.take (i + 1)) = val (l.take i) + l.getD i 0 * bp i := by
  by_cases h : i < l.length
  · exact val_take h
  · rw [List.take_of_length_le (by omega), List.take_of_length_le (by omega), getD_out (by omega)]; omega
theorem take_set {l : List Int} {i : Nat} (h : i < l.length) (d : Int) : (l.set i d).take (i + 1) = l.take i ++ [d] := by
  rw [take_snoc 0 (by rw [List.length_set]; exact h), List.take_set_of_le (Nat.le_refl i), List.getD_eq_getElem?_getD, List.getElem?_set_self h]
  rfl
theorem val_take_set {l : List Int} {i : Nat} (h : i < l.length) (d : Int) : val ((l.set i d).take (i + 1)) = val (l.take i) + d * bp i := by
  rw [take_set h, val_append, List.length_take, Nat.min_eq_left (by omega)]
  simp only [val]; grind
theorem getD_set {l : List Int} {i j : Nat} {v : Int} (h : i < l.length) : (l.set i v).getD j 0 = if i = j then v else l.getD j 0 := by
  simp only [List.getD_eq_getElem?_getD, List.getElem?_set]
  split
  · simp_all
  · rfl
def limN (v : Int) : List Int × Int := if v < bp 64 then (nat32 v, 0) else ([], 1)
theorem natural_done_eq {l : List Int} (h : U32 l) (hl : l.length < 1000000) : natural_done l = some (limN (val l)) := by
  have h0 := val_nonneg h
  have ht := trimL_length l
  unfold natural_done
  rw [natural_trim_eq hl, bind1_pure, natural_valid_eq (by omega), bind1_pure, trimL_nat h]
  have hv : VN (nat32 (val l)) ↔ val l < bp 64 := by
    unfold VN
    rw [nat32_len h0]
    exact ⟨fun h => h.1, fun h => ⟨h, (nat32_canon h0).2⟩⟩
  unfold limN
  by_cases c : val l < bp 64
  · rw [decide_eq_true (hv.2 c), if_neg (by simp), if_pos c]
  · rw [decide_eq_false (fun h => c (hv.1 h)), if_pos (by simp), if_neg c]
theorem natural_both_eq {a b : List Int} (la : a.length < 1000000) (lb : b.length < 1000000) : natural_both a b = some (if VN a ∧ VN b then 0 else 20) := by
  unfold natural_both natural_both_k1
  rw [natural_valid_eq la, natural_valid_eq lb, bind1_pure]
  grind
end Go.Proofs.Ytafmpnilgknfhaa
