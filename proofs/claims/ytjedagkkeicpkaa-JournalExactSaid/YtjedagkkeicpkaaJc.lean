/- Plain: journals: the reference's reading; what all functions come to. -/
import Derived.Test.YtjedagkkeicpkaaJb
namespace Go.Proofs.Ytjedagkkeicpkaa
open Vm
set_option linter.unusedVariables false
set_option linter.unusedSimpArgs false
theorem take4 {d : List Int} (h : 4 ≤ d.length) : d.take 4 = [d.getD 0 0, d.getD 1 0, d.getD 2 0, d.getD 3 0] := by
  match d, h with
  | a :: b :: c :: e :: l, _ => rfl
theorem take_parts {d : List Int} {n : Nat} : d.take (12 + n) = d.take 4 ++ (d.drop 4).take n ++ (d.drop (4 + n)).take 8 := by
  rw [show 12 + n = 4 + n + 8 by omega, List.take_add, List.take_add]
theorem rcd_iff {d : List Int} {b : Int} {n : Nat} (hb : B8 d) (hl : 12 + n ≤ d.length) (hn : d.getD 0 0 * 256 + d.getD 1 0 = (n : Int)) (h1 : d.getD 0 0 + d.getD 2 0 = 255) (h2 : d.getD 1 0 + d.getD 3 0 = 255) :
    rcd HS b ((d.drop 4).take n) = d.take (12 + n) ↔ (d.drop (4 + n)).take 8 = be8 (HS b ((d.drop 4).take n)) := by
  have g0 := hb.get (i := 0) (by omega)
  have g1 := hb.get (i := 1) (by omega)
  have hlen : ((d.drop 4).take n).length = n := by rw [List.length_take, List.length_drop]; omega
  have hd : hd4 n = d.take 4 := by
    rw [take4 (by omega), hd4]
    simp only [List.cons.injEq, and_true]
    omega
  rw [take_parts, rcd, hlen, hd]
  constructor
  · intro h; exact (List.append_cancel_left h).symm
  · intro h; rw [h]
set_option maxHeartbeats 4000000 in
theorem ref_read_step (s : ByteArray) (hs : s.size ≤ 1000000) (acc : List ByteArray) (ha : acc.length ≤ 512) (at_ : Nat) (hat : at_ ≤ s.size) (b : Int) : rl_ref38_read_l1 s acc at_ b = some (stepR (bytesL s) acc at_ b) := by
  unfold rl_ref38_read_l1 stepR
  rw [bl_len]
  by_cases h1 : ¬ at_ < s.size
  · rw [if_neg (by simpa using h1), if_neg h1]
  have h1 := Decidable.not_not.1 h1
  rw [if_pos (by simpa using h1), if_pos h1]
  by_cases h2 : acc.length = 512
  · rw [if_pos (by simp [h2]), if_pos h2]
  rw [if_neg (by simp; omega), if_neg h2, wi64 (n := ((s.size : Nat) : Int) - (at_ : Int)) (by omega) (by omega)]
  have hb : B8 ((bytesL s).drop at_) := (bytesL_b8 s).drop _
  have hdl : ((bytesL s).drop at_).length = s.size - at_ := by rw [List.length_drop, bl_len]
  have q : ∀ i, (bytesL s).getD (at_ + i) 0 = ((bytesL s).drop at_).getD i 0 := fun i => by simp [List.getD_eq_getElem?_getD, List.getElem?_drop]
  have q0 : (bytesL s).getD at_ 0 = ((bytesL s).drop at_).getD 0 0 := q 0
  by_cases h4 : s.size - at_ < 4
  · rw [if_pos (by simp only [decide_eq_true_eq]; omega)]
    have : nxt HS b ((bytesL s).drop at_) = .inl 15 := by unfold nxt; rw [if_pos (by omega)]
    rw [this]
  rw [if_neg (by simp only [decide_eq_true_eq]; omega)]
  have w1 := wi64 (n := (at_ : Int) + 1) (by omega) (by omega)
  have w2 := wi64 (n := (at_ : Int) + 2) (by omega) (by omega)
  have w3 := wi64 (n := (at_ : Int) + 3) (by omega) (by omega)
  have w4 := wi64 (n := (at_ : Int) + 4) (by omega) (by omega)
  have w12 := wi64 (n := (at_ : Int) + 12) (by omega) (by omega)
  have t1 : ((at_ : Int) + 1).toNat = at_ + 1 := by omega
  have t2 : ((at_ : Int) + 2).toNat = at_ + 2 := by omega
  have t3 : ((at_ : Int) + 3).toNat = at_ + 3 := by omega
  have t4 : ((at_ : Int) + 4).toNat = at_ + 4 := by omega
  simp only [str_at, w1, w2, w3, t1, t2, t3, Int.toNat_natCast, q, q0]
  have g0 := hb.get (i := 0) (by omega)
  have g1 := hb.get (i := 1) (by omega)
  have g2 := hb.get (i := 2) (by omega)
  have g3 := hb.get (i := 3) (by omega)
  rw [wi64 (n := ((bytesL s).drop at_).getD 0 0) (by omega) (by omega), wi64 (n := ((bytesL s).drop at_).getD 1 0) (by omega) (by omega), wi64 (n := ((bytesL s).drop at_).getD 2 0) (by omega) (by omega), wi64 (n := ((bytesL s).drop at_).getD 3 0) (by omega) (by omega),
    wi64 (n := ((bytesL s).drop at_).getD 0 0 + ((bytesL s).drop at_).getD 2 0) (by omega) (by omega), wi64 (n := ((bytesL s).drop at_).getD 1 0 + ((bytesL s).drop at_).getD 3 0) (by omega) (by omega)]
  rw [if_pos (by omega), if_pos (by omega), if_pos (by omega), if_pos (by omega)]
  have k14 : rl_ref38_read_k2 s acc at_ b true = some (.inr (.inr (acc, (at_ : Int), b, 14))) := rfl
  by_cases h5 : ((bytesL s).drop at_).getD 0 0 + ((bytesL s).drop at_).getD 2 0 ≠ 255
  · have : nxt HS b ((bytesL s).drop at_) = .inl 14 := by unfold nxt; rw [if_neg (by omega), if_pos (.inl h5)]
    rw [if_pos (by simpa using h5), this, k14]
  rw [if_neg (by simpa using h5), if_pos (by omega), if_pos (by omega), if_pos (by omega), if_pos (by omega)]
  by_cases h6 : ((bytesL s).drop at_).getD 1 0 + ((bytesL s).drop at_).getD 3 0 ≠ 255
  · have : nxt HS b ((bytesL s).drop at_) = .inl 14 := by unfold nxt; rw [if_neg (by omega), if_pos (.inr h6)]
    rw [show (((bytesL s).drop at_).getD 1 0 + ((bytesL s).drop at_).getD 3 0 != 255) = true by simpa using h6, this, k14]
  rw [show (((bytesL s).drop at_).getD 1 0 + ((bytesL s).drop at_).getD 3 0 != 255) = false by simpa using h6]
  unfold rl_ref38_read_k2
  simp only [str_at, w1, t1, Int.toNat_natCast, q, q0]
  rw [if_neg (by decide), if_pos (by omega), if_pos (by omega), if_pos (by omega), if_pos (by omega), two_bytes g0 g1, bind1_pure]
  obtain ⟨n, hn⟩ := Int.eq_ofNat_of_zero_le (show 0 ≤ ((bytesL s).drop at_).getD 0 0 * 256 + ((bytesL s).drop at_).getD 1 0 by omega)
  rw [hn]
  have e5 : ¬ (((bytesL s).drop at_).getD 0 0 + ((bytesL s).drop at_).getD 2 0 ≠ 255 ∨ ((bytesL s).drop at_).getD 1 0 + ((bytesL s).drop at_).getD 3 0 ≠ 255) := by omega
  have hnx : nxt HS b ((bytesL s).drop at_) = if 60000 < (n : Int) then .inl 1 else if s.size - at_ < 12 + n then .inl 15 else if (((bytesL s).drop at_).drop (4 + n)).take 8 ≠ be8 (HS b ((((bytesL s).drop at_).drop 4).take n)) then .inl 16 else .inr ((((bytesL s).drop at_).drop 4).take n) := by
    unfold nxt
    rw [if_neg (by omega), if_neg e5, hn, Int.toNat_natCast, hdl]
  rw [hnx]
  by_cases h7 : 60000 < (n : Int)
  · rw [if_pos (by simpa using h7), if_pos h7]
  rw [if_neg (by simpa using h7), if_neg h7, wi64 (n := ((s.size : Nat) : Int) - (at_ : Int)) (by omega) (by omega), wi64 (n := 12 + (n : Int)) (by omega) (by omega)]
  by_cases h8 : s.size - at_ < 12 + n
  · rw [if_pos (by simp only [decide_eq_true_eq]; omega), if_pos h8]
  rw [if_neg (by simp only [decide_eq_true_eq]; omega), if_neg h8, w4, w12, wi64 (n := (at_ : Int) + 4 + (n : Int)) (by omega) (by omega), wi64 (n := (at_ : Int) + 12 + (n : Int)) (by omega) (by omega), t4,
    show ((at_ : Int) + 4 + (n : Int)).toNat = at_ + 4 + n by omega, show ((at_ : Int) + 12 + (n : Int)).toNat = at_ + 12 + n by omega]
  rw [if_pos (by omega), if_pos (by omega), if_pos (by omega), if_pos (by omega)]
  have e1 : s.extract (at_ + 4) (at_ + 4 + n) = strOf ((((bytesL s).drop at_).drop 4).take n) := by rw [ext_eq, List.drop_drop, Nat.add_sub_cancel_left]
  have e2 : s.extract at_ (at_ + 12 + n) = strOf (((bytesL s).drop at_).take (12 + n)) := by rw [ext_eq, show at_ + 12 + n - at_ = 12 + n by omega]
  have hp : B8 ((((bytesL s).drop at_).drop 4).take n) := (hb.drop 4).take n
  have hpl : ((((bytesL s).drop at_).drop 4).take n).length = n := by rw [List.length_take, List.length_drop]; omega
  simp only [e1, e2]
  rw [ref_record_eq b (s := strOf _) (by rw [strOf_size, hpl]; omega), bind2_pure, if_pos (by omega), if_pos (by omega), if_pos (by omega), bytesL_strOf hp, str_ne (rcd_b8 HS hp (by omega)) (hb.take _)]
  have hiff := rcd_iff (b := b) hb (by omega) hn (by omega) (by omega)
  by_cases h9 : (((bytesL s).drop at_).drop (4 + n)).take 8 ≠ be8 (HS b ((((bytesL s).drop at_).drop 4).take n))
  · rw [if_pos (by simp only [decide_eq_true_eq]; exact fun h => h9 (hiff.1 h)), if_pos h9]
  · rw [if_neg (by simp only [decide_eq_true_eq]; exact fun h => h (hiff.2 (Decidable.not_not.1 h9))), if_neg h9, if_pos (by simp; omega), wi64 (by omega) (by omega)]
    simp only [hpl]
    rw [show (at_ : Int) + (12 + (n : Int)) = ((at_ + (12 + n) : Nat) : Int) by omega]
/-! The whole of a journal. -/
def outOf : JO → List ByteArray × Int × Int × Int
  | .inl t => (t.1, t.2.1, t.2.2, 0)
  | .inr t => t
/-- what is read from a place on -/
def rdS (l : List Int) (acc : List ByteArray) (at_ : Nat) (b : Int) : List ByteArray × Int × Int × Int :=
  (acc ++ (rd HS (512 - acc.length) b (l.drop at_)).1.map strOf, ((at_ + (rd HS (512 - acc.length) b (l.drop at_)).2.1 : Nat) : Int), (rd HS (512 - acc.length) b (l.drop at_)).2.2.1, (rd HS (512 - acc.length) b (l.drop at_)).2.2.2)
theorem read_loop (step : (List ByteArray × Int × Int) → Option ((List ByteArray × Int × Int) ⊕ JO)) (l : List Int) (hb : B8 l)
    (hstep : ∀ (acc : List ByteArray) (at_ : Nat) (b : Int), acc.length ≤ 512 → at_ ≤ l.length → step (acc, (at_ : Int), b) = some (stepR l acc at_ b)) :
    ∀ (m : Nat) (acc : List ByteArray) (at_ : Nat) (b : Int), acc.length + m = 512 → at_ ≤ l.length → ∃ o, loop step (acc, (at_ : Int), b) = some o ∧ outOf o = rdS l acc at_ b := by
  intro m
  induction m with
  | zero =>
    intro acc at_ b hm hat
    have hs := hstep acc at_ b (by omega) hat
    unfold stepR at hs
    have h0 : 512 - acc.length = 0 := by omega
    by_cases h1 : at_ < l.length
    · rw [if_pos h1, if_pos (by omega)] at hs
      refine ⟨_, loop_end hs, ?_⟩
      have hne : l.drop at_ ≠ [] := by intro h; have := congrArg List.length h; rw [List.length_drop] at this; simp at this; omega
      rw [rdS, h0, rd_full HS hne]
      simp [outOf]
    · rw [if_neg h1] at hs
      refine ⟨_, loop_end hs, ?_⟩
      rw [rdS, show l.drop at_ = [] from List.drop_eq_nil_of_le (by omega), rd_nil]
      simp [outOf]
  | succ m ih =>
    intro acc at_ b hm hat
    have hs := hstep acc at_ b (by omega) hat
    unfold stepR at hs
    have h0 : 512 - acc.length = m + 1 := by omega
    by_cases h1 : at_ < l.length
    · rw [if_pos h1, if_neg (by omega)] at hs
      have hne : l.drop at_ ≠ [] := by intro h; have := congrArg List.length h; rw [List.length_drop] at this; simp at this; omega
      cases hn : nxt HS b (l.drop at_) with
      | inl e =>
        rw [hn] at hs
        refine ⟨_, loop_end hs, ?_⟩
        rw [rdS, h0, rd_err HS hne hn]
        simp [outOf]
      | inr p =>
        rw [hn] at hs
        obtain ⟨p1, p2, _, p4⟩ := nxt_bound (hb.drop at_) hn
        rw [List.length_drop] at p1
        obtain ⟨o, o1, o2⟩ := ih (acc ++ [strOf p]) (at_ + (12 + p.length)) (HS b p) (by simp; omega) (by omega)
        refine ⟨o, by rw [loop_next hs]; exact o1, ?_⟩
        rw [o2, rdS, rdS, h0, rd_ok HS hne hn]
        have h3 : 512 - (acc ++ [strOf p]).length = m := by simp; omega
        rw [h3, List.drop_drop]
        simp [Nat.add_assoc]
    · rw [if_neg h1] at hs
      refine ⟨_, loop_end hs, ?_⟩
      rw [rdS, show l.drop at_ = [] from List.drop_eq_nil_of_le (by omega), rd_nil]
      simp [outOf]
/-- what is read of a string -/
def rdJ (s : ByteArray) : List ByteArray × Int × Int × Int := ((rd HS 512 0 (bytesL s)).1.map strOf, (((rd HS 512 0 (bytesL s)).2.1 : Nat) : Int), (rd HS 512 0 (bytesL s)).2.2.1, (rd HS 512 0 (bytesL s)).2.2.2)
theorem rdS_zero (s : ByteArray) : rdS (bytesL s) [] 0 0 = rdJ s := by simp [rdS, rdJ]
theorem read_eq {s : ByteArray} (hs : s.size ≤ 1000000) : journal_read s = some (rdJ s) := by
  unfold journal_read
  obtain ⟨o, o1, o2⟩ := read_loop (fun v : (List ByteArray) × Int × Int => journal_read_l1 s v.1 v.2.1 v.2.2) (bytesL s) (bytesL_b8 s) (fun acc at_ b ha hat => read_step s hs acc ha at_ (by rw [bl_len] at hat; exact hat) b) 512 [] 0 0 rfl (Nat.zero_le _)
  rw [rdS_zero] at o2
  rw [show (([] : List ByteArray), (0 : Int), (0 : Int)) = (([] : List ByteArray), ((0 : Nat) : Int), (0 : Int)) from rfl, o1, ← o2]
  cases o with
  | inl t => rfl
  | inr t => rfl
theorem ref_read_eq {s : ByteArray} (hs : s.size ≤ 1000000) : rl_ref38_read s = some (rdJ s) := by
  unfold rl_ref38_read
  obtain ⟨o, o1, o2⟩ := read_loop (fun v : (List ByteArray) × Int × Int => rl_ref38_read_l1 s v.1 v.2.1 v.2.2) (bytesL s) (bytesL_b8 s) (fun acc at_ b ha hat => ref_read_step s hs acc ha at_ (by rw [bl_len] at hat; exact hat) b) 512 [] 0 0 rfl (Nat.zero_le _)
  rw [rdS_zero] at o2
  rw [show (([] : List ByteArray), (0 : Int), (0 : Int)) = (([] : List ByteArray), ((0 : Nat) : Int), (0 : Int)) from rfl, o1, ← o2]
  cases o with
  | inl t => rfl
  | inr t => rfl
theorem Read_eq {s : ByteArray} (hs : s.size ≤ 1000000) : journal_Read s = some ((rdJ s).1, (rdJ s).2.1, (rdJ s).2.2.2) := by
  unfold journal_Read
  rw [read_eq hs]
  rfl
theorem ref_Read_eq {s : ByteArray} (hs : s.size ≤ 1000000) : rl_ref38_Read s = some ((rdJ s).1, (rdJ s).2.1, (rdJ s).2.2.2) := by
  unfold rl_ref38_Read
  rw [ref_read_eq hs]
  rfl
/-- a record more -/
def appJ (s p : ByteArray) : ByteArray × Int := if (rdJ s).2.2.2 ≠ 0 then (ByteArray.mk #[], (rdJ s).2.2.2) else if 512 ≤ (rdJ s).1.length ∨ 60000 < p.size then (ByteArray.mk #[], 1) else (s ++ strOf (rcd HS (rdJ s).2.2.1 (bytesL p)), 0)
theorem rd_count (m : Nat) : ∀ (b : Int) (l : List Int), (rd HS m b l).1.length ≤ m := by
  induction m with
  | zero => intro b l; cases l <;> simp [rd]
  | succ m ih =>
    intro b l
    by_cases hl : l = []
    · subst hl; rw [rd_nil]; simp
    · cases hn : nxt HS b l with
      | inl e => rw [rd_err HS hl hn]; simp
      | inr p => rw [rd_ok HS hl hn]; simp; exact ih _ _
theorem rdJ_count (s : ByteArray) : (rdJ s).1.length ≤ 512 := by
  simp only [rdJ, List.length_map]; exact rd_count 512 0 _
theorem append_eq {s p : ByteArray} (hs : s.size ≤ 1000000) : journal_Append s p = some (appJ s p) := by
  unfold journal_Append appJ
  rw [read_eq hs]
  simp only [bind4]
  show (if ((rdJ s).2.2.2 != 0) = true then _ else _) = _
  by_cases h1 : (rdJ s).2.2.2 ≠ 0
  · rw [if_pos (by simpa using h1), if_pos h1]
  rw [if_neg (by simpa using h1), if_neg h1]
  have k1 : ∀ b, journal_Append_k1 s p b true = some (ByteArray.mk #[], 1) := fun _ => rfl
  have hc := rdJ_count s
  by_cases h2 : (rdJ s).1.length = 512
  · rw [if_pos (by simp [h2]), if_pos (.inl (by omega)), k1]
  rw [if_neg (by simp; omega)]
  by_cases h3 : 60000 < p.size
  · rw [decide_eq_true (by omega), if_pos (.inr h3), k1]
  rw [decide_eq_false (by omega), if_neg (by omega)]
  unfold journal_Append_k1
  rw [if_neg (by decide), write_eq _ (by omega), bind1_pure, if_pos (by rw [strOf_size, rcd_len, bl_len, maxStr]; omega)]
theorem ref_append_eq {s p : ByteArray} (hs : s.size ≤ 1000000) : rl_ref38_Append s p = some (appJ s p) := by
  unfold rl_ref38_Append appJ
  rw [ref_read_eq hs]
  simp only [bind4]
  show (if ((rdJ s).2.2.2 != 0) = true then _ else _) = _
  by_cases h1 : (rdJ s).2.2.2 ≠ 0
  · rw [if_pos (by simpa using h1), if_pos h1]
  rw [if_neg (by simpa using h1), if_neg h1]
  have k1 : ∀ b, rl_ref38_Append_k1 s p b true = some (ByteArray.mk #[], 1) := fun _ => rfl
  have hc := rdJ_count s
  by_cases h2 : (rdJ s).1.length = 512
  · rw [if_pos (by simp [h2]), if_pos (.inl (by omega)), k1]
  rw [if_neg (by simp; omega)]
  by_cases h3 : 60000 < p.size
  · rw [decide_eq_true (by omega), if_pos (.inr h3), k1]
  rw [decide_eq_false (by omega), if_neg (by omega)]
  unfold rl_ref38_Append_k1
  rw [if_neg (by decide), ref_record_eq _ (by omega), bind2_pure, if_pos (by rw [strOf_size, rcd_len, bl_len, maxStr]; omega)]
theorem rd_len (m : Nat) : ∀ (b : Int) (l : List Int), B8 l → (rd HS m b l).2.1 ≤ l.length := by
  induction m with
  | zero => intro b l _; cases l <;> simp [rd]
  | succ m ih =>
    intro b l hb
    by_cases hl : l = []
    · subst hl; rw [rd_nil]; simp
    · cases hn : nxt HS b l with
      | inl e => rw [rd_err HS hl hn]; simp
      | inr p =>
        obtain ⟨p1, _, _, _⟩ := nxt_bound hb hn
        have := ih (HS b p) (l.drop (12 + p.length)) (hb.drop _)
        rw [List.length_drop] at this
        rw [rd_ok HS hl hn]; simp only; omega
theorem rdJ_len (s : ByteArray) : 0 ≤ (rdJ s).2.1 ∧ (rdJ s).2.1.toNat ≤ s.size := by
  simp only [rdJ, Int.toNat_natCast]
  have := rd_len 512 0 _ (bytesL_b8 s)
  rw [bl_len] at this
  exact ⟨by omega, this⟩
theorem whole_eq {s : ByteArray} (hs : s.size ≤ 1000000) : journal_Whole s = some (s.extract 0 (rdJ s).2.1.toNat) := by
  obtain ⟨h1, h2⟩ := rdJ_len s
  unfold journal_Whole
  rw [Read_eq hs, bind3_pure, if_pos h1, if_pos h2]
theorem ref_whole_eq {s : ByteArray} (hs : s.size ≤ 1000000) : rl_ref38_Whole s = some (s.extract 0 (rdJ s).2.1.toNat) := by
  obtain ⟨h1, h2⟩ := rdJ_len s
  unfold rl_ref38_Whole
  rw [ref_Read_eq hs, bind3_pure, if_pos h1, if_pos h2]
end Go.Proofs.Ytjedagkkeicpkaa
