/- The plain law of JournalLimits. -/
import Derived.Test.YtjedagkkeicpkaaJf
import Derived.Test.YtjedagkkeicpkaaGL8
namespace Go.Proofs.Ytjedagkkeicpkaa
open Vm
set_option linter.unusedVariables false
def e0 : ByteArray := ByteArray.mk #[]
def rep (n : Nat) : List ByteArray := List.replicate n e0
theorem rep_small (n : Nat) : Small (rep n) := fun p hp => by rw [List.eq_of_mem_replicate hp]; decide
theorem rep_succ (n : Nat) : rep (n + 1) = rep n ++ [e0] := List.replicate_succ'
theorem rep_len (n : Nat) : (rep n).length = n := List.length_replicate
theorem rep_jlen : ∀ n, jlen (rep n) = 12 * n
  | 0 => rfl
  | n + 1 => by rw [rep_succ, jlen_snoc, rep_jlen n, show e0.size = 0 from rfl]; omega
theorem rep_sum (b : Int) : rl_ref38_Sum b (ByteArray.mk #[]) = some (HS b []) := sum_any b (s := e0) (by decide)
theorem lim_inner (y : Int) : loop (fun v : (List Int) × Int => rl_law38_JournalLimits_l2 y v.1 v.2) (([0, 0, 255, 255] : List Int), 56) = some ([0, 0, 255, 255] ++ be8 y) := by
  refine loop_for (fun i => (([0, 0, 255, 255] : List Int) ++ (be8 y).take i, 8 * (7 - (i : Int)))) 8 _ (fun i hi => ?_) ?_ (by simp)
  · simp only [rl_law38_JournalLimits_l2]
    have hlen : ((be8 y).take i).length = i := by rw [List.length_take, be8_len]; omega
    rw [if_pos (by simp only [decide_eq_true_eq]; omega), wu64 (by omega) (by omega), if_pos (by omega), if_pos (by rw [List.length_append, hlen]; simp; omega), be8_at y i hi, List.append_assoc, be8_take y hi, wi64 (by omega) (by omega)]
    rw [show 8 * (7 - (i : Int)) - 8 = 8 * (7 - ((i + 1 : Nat) : Int)) by omega]
  · simp only [rl_law38_JournalLimits_l2]
    rw [if_neg (by simp)]
    rfl
theorem jn_rep (i : Nat) : jn (rep (i + 1)) = jn (rep i) ++ strOf (([0, 0, 255, 255] : List Int) ++ be8 (HS (lastS HS 0 ((rep i).map bytesL)) [])) := by
  rw [rep_succ, jn_append _ _ (rep_small i) (fun q hq => by rw [List.mem_singleton.1 hq]; decide)]
  congr 2
theorem lim_loop : loop (fun v : ByteArray × Int × Int => rl_law38_JournalLimits_l1 v.1 v.2.1 v.2.2) ((ByteArray.mk #[]), 0, 0) = some (jn (rep 512)) := by
  refine loop_for (fun i => (jn (rep i), lastS HS 0 ((rep i).map bytesL), (i : Int))) 512 _ (fun i hi => ?_) ?_ rfl
  · simp only [rl_law38_JournalLimits_l1]
    have hl : (strOf (([0, 0, 255, 255] : List Int) ++ be8 (HS (lastS HS 0 ((rep i).map bytesL)) []))).size = 12 := by rw [strOf_size]; rfl
    have hj : (jn (rep i)).size = 12 * i := by rw [jn_size, rep_jlen]
    rw [if_pos (by simp only [decide_eq_true_eq]; omega), rep_sum, bind1_pure, lim_inner, bind1_pure, if_pos (by rw [hl, hj, maxStr]; omega), ← jn_rep, wi64 (by omega) (by omega)]
    have : lastS HS 0 ((rep (i + 1)).map bytesL) = HS (lastS HS 0 ((rep i).map bytesL)) [] := by
      rw [rep_succ, List.map_append, lastS_append]; rfl
    rw [this]
    rfl
  · simp only [rl_law38_JournalLimits_l1]
    rw [if_neg (by simp)]
theorem app_long {s : ByteArray} (h : 60000 < s.size) : journal_Append (ByteArray.mk #[]) s = some (ByteArray.mk #[], 1) := by
  have h0 : Small ([] : List ByteArray) := fun p hp => absurd hp List.not_mem_nil
  rw [append_eq (s := ByteArray.mk #[]) (by decide), appJ, show (ByteArray.mk #[]) = jn [] from rfl, rdJ_jn h0 (by decide)]
  simp only
  rw [if_neg (by omega), if_pos (.inr h)]
theorem limits_law (q : Int) (hq : IntKind.u8.min ≤ q ∧ q ≤ IntKind.u8.max) : rl_law38_JournalLimits q = some true := by
  have hq0 : 0 ≤ q ∧ q ≤ 255 := hq
  unfold rl_law38_JournalLimits
  rw [awake38, bind1_pure, if_neg (by decide), lim_loop, bind1_pure]
  have hs := rep_small 512
  have hj : (jn (rep 512)).size = 6144 := by rw [jn_size, rep_jlen]
  have hjl : jlen (rep 512) = 6144 := rep_jlen 512
  have hcnt := rep_len 512
  rw [Read_jn hs (by omega) (by omega), bind3_pure]
  have a1 : journal_Append (jn (rep 512)) (ByteArray.mk #[]) = some (ByteArray.mk #[], 1) := by
    rw [append_eq (by omega), appJ, rdJ_jn hs (by omega)]
    simp only
    rw [if_neg (by omega), if_pos (.inl (by omega))]
  rw [a1, bind2_pure, hj, wi64 (n := ((6144 : Nat) : Int) - 12) (by decide) (by decide), if_pos (by decide), show (((6144 : Nat) : Int) - 12).toNat = 6132 from rfl, if_pos (by omega)]
  have ht : (rep 512).take 511 = rep 511 := by unfold rep; rw [List.take_replicate]; rfl
  have hx : (jn (rep 512)).extract 0 6132 = jn (rep 511) := by
    have := jn_take hs 511
    rw [ht, rep_jlen] at this
    exact this
  have hsa : (ByteArray.mk #[97]).size = 1 := rfl
  rw [hx, Append_jn (rep_small 511) (by rw [rep_len]; omega) (by rw [rep_jlen]; omega) (by rw [hsa]; omega), bind2_pure, if_pos (by rw [maxStr]; decide)]
  have hrx : journal_Read (jn (rep 512) ++ ByteArray.mk #[120]) = some (rep 512, 6144, 1) := by
    rw [Read_eq (by rw [ByteArray.size_append, hj]; decide), rdJ, bytesL_append, jn_bytes hs, rd_recs HS _ _ _ _ hs.len (by rw [List.length_map, hcnt]; omega), List.length_map, hcnt]
    have : bytesL (ByteArray.mk #[120]) = [120] := rfl
    rw [this, Nat.sub_self, rd_full HS (by simp)]
    simp only [List.append_nil, map_back, Nat.add_zero]
    have : lens ((rep 512).map bytesL) = 6144 := hjl
    rw [this]; rfl
  have hz : (strOf (List.replicate 60000 (0 : Int))).size = 60000 := by rw [strOf_size, List.length_replicate]
  generalize strOf (List.replicate 60000 (0 : Int)) = z at hz ⊢
  have h0 : Small ([] : List ByteArray) := fun p hp => absurd hp List.not_mem_nil
  have ha0 : journal_Append (ByteArray.mk #[]) z = some (jn [z], 0) := by
    have := Append_jn h0 (by decide) (by decide) (p := z) (by omega)
    exact this
  have hb1 : (z ++ ByteArray.mk #[122]).size = 60001 := by rw [ByteArray.size_append, hz]; rfl
  have hz1 : (ByteArray.mk #[122]).size = 1 := rfl
  rw [hrx, bind3_pure, ha0, bind2_pure, if_pos (by rw [hz, hz1, maxStr]; omega), app_long (by omega), bind2_pure, wi64 (n := q) (by omega) (by omega), wi64 (n := 1 + q) (by omega) (by omega), if_pos (by omega), if_pos (by omega)]
  have hr2 : (strOf (List.replicate (1 + q).toNat (0 : Int))).size = (1 + q).toNat := by rw [strOf_size, List.length_replicate]
  rw [if_pos (by rw [hz, hr2, maxStr]; omega), app_long (by rw [ByteArray.size_append, hz, hr2]; omega), bind2_pure]
  have hy : (jn (rep 511 ++ [ByteArray.mk #[97]])).size = 6145 := by rw [jn_size, jlen_snoc, rep_jlen]; rfl
  have hy2 : (jn [z]).size = 60012 := by rw [jn_size, jlen_cons, hz, jlen_nil]
  rw [hcnt, hjl, hy, hy2]
  rfl
end Go.Proofs.Ytjedagkkeicpkaa
