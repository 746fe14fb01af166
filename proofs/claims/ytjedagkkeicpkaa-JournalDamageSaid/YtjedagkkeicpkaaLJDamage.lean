/- The plain law of JournalDamage. -/
import Derived.Test.YtjedagkkeicpkaaJf
import Derived.Test.YtjedagkkeicpkaaGL6
namespace Go.Proofs.Ytjedagkkeicpkaa
open Vm
set_option linter.unusedVariables false
theorem damage_loop {ps : List ByteArray} (hsm : Small ps) (h3 : ∀ p ∈ ps, p.size ≤ 30) {k : Nat} (hn : ps.length ≤ 100) (hk : k ≤ 1000000) : loop (fun v : Int × Int × Int × Int => rl_law38_JournalDamage_l2 ps (k : Int) v.1 v.2.1 v.2.2.1 v.2.2.2) (0, 0, (k : Int), 0) = some (((wholeN ps k : Nat) : Int), ((k - jlen (ps.take (wholeN ps k)) : Nat) : Int)) := by
  have hsz := jlen_le h3
  refine loop_for (fun i => (((min i (wholeN ps k) : Nat) : Int), ((jlen (ps.take i) : Nat) : Int), ((k - jlen (ps.take (min i (wholeN ps k))) : Nat) : Int), (i : Int))) ps.length _ (fun i hi => ?_) ?_ ?_
  · simp only [rl_law38_JournalDamage_l2, rl_law38_JournalDamage_k3]
    have hp := getD_le h3 hi
    have hst := jlen_step hi
    have ht := jlen_take ps i
    rw [if_pos (by simpa using hi), if_pos (by omega), if_pos (by omega), Int.toNat_natCast, Nat.zero_add, wi64 (n := 12 + (((ps.getD i ByteArray.empty).size : Nat) : Int)) (by omega) (by omega), wi64 (n := ((jlen (ps.take i) : Nat) : Int) + (12 + (((ps.getD i ByteArray.empty).size : Nat) : Int))) (by omega) (by omega), bind1_pure,
      show ((jlen (ps.take i) : Nat) : Int) + (12 + (((ps.getD i ByteArray.empty).size : Nat) : Int)) = ((jlen (ps.take (i + 1)) : Nat) : Int) by omega, wi64 (n := (i : Int) + 1) (by omega) (by omega)]
    have hiff := wholeN_iff ps k (i + 1) (by omega)
    by_cases h : jlen (ps.take (i + 1)) ≤ k
    · have h1 := hiff.1 h
      rw [if_pos (by simp only [decide_eq_true_eq]; omega), Nat.min_eq_left (show i ≤ wholeN ps k by omega), Nat.min_eq_left h1, wi64 (by omega) (by omega), wi64 (by omega) (by omega)]
      rw [show (k : Int) - ((jlen (ps.take (i + 1)) : Nat) : Int) = ((k - jlen (ps.take (i + 1)) : Nat) : Int) by omega]
      rfl
    · have h1 : ¬ i + 1 ≤ wholeN ps k := fun x => h (hiff.2 x)
      rw [if_neg (by simp only [decide_eq_true_eq]; omega), Nat.min_eq_right (show wholeN ps k ≤ i by omega), Nat.min_eq_right (show wholeN ps k ≤ i + 1 by omega)]
      rfl
  · simp only [rl_law38_JournalDamage_l2]
    rw [if_neg (by simp), Nat.min_eq_right (wholeN_le ps k)]
  · rw [Nat.zero_min, List.take_zero]; rfl
theorem damage_law (p : List Int) (at_ by_ : Int) (hq : IntKind.u8.min ≤ by_ ∧ by_ ≤ IntKind.u8.max) : rl_law38_JournalDamage p at_ by_ = some true := by
  have hq0 : 0 ≤ by_ ∧ by_ ≤ 255 := hq
  unfold rl_law38_JournalDamage
  have kt : rl_law38_JournalDamage_k1 p at_ by_ true = some true := by unfold rl_law38_JournalDamage_k1; rw [if_pos rfl, awake38]; rfl
  rw [awake38, bind1_pure, if_neg (by decide)]
  unfold rl_make_Few
  rw [bind1_pure]
  by_cases hp : ¬ p.length ≤ 400
  · rw [decide_eq_false (by omega), if_pos (by decide), kt]
  have hp := Decidable.not_not.1 hp
  rw [decide_eq_true (by omega), if_neg (by decide)]
  by_cases hby : by_ = 0
  · rw [show (by_ == 0) = true by simp [hby], kt]
  rw [show (by_ == 0) = false by simp [hby]]
  unfold rl_law38_JournalDamage_k1
  rw [if_neg (by decide)]
  obtain ⟨d, he, hd⟩ := new_yes hp
  rw [he, bind1_pure]
  clear he
  obtain ⟨j, ps, d1, he, j1, j2, j3, hd1⟩ := made_yes hd (most := 5) (by decide)
  rw [show (5 : Int) = ((5 : Nat) : Int) from rfl, he, bind3_pure]
  clear he
  subst j1
  have hsm : Small ps := fun q hq => by have := j3 q hq; omega
  have hsz := jlen_le j3
  have hjs := jn_size ps
  by_cases h0 : (jn ps).size = 0
  · rw [if_pos (by simp [h0])]
  rw [if_neg (by simp [h0])]
  obtain ⟨x, e1, a0, a1⟩ := mod_yes at_ (n := (((jn ps).size : Nat) : Int)) (by omega) (by omega)
  rw [e1, bind1_pure]
  obtain ⟨k, rfl⟩ := Int.eq_ofNat_of_zero_le a0
  rw [damage_loop hsm j3 (by omega) (by omega), bind2_pure]
  have hbl : (bytesL (jn ps)).length = (jn ps).size := bl_len _
  rw [if_pos (by unfold maxLen; omega), if_pos (by omega), if_pos (by omega), if_pos (by omega), Int.toNat_natCast, Nat.zero_add, strP_all _ _ (by rw [List.length_set])]
  have hw := wholeN_spec ps k
  have hwl := wholeN_le ps k
  have hlt : wholeN ps k < ps.length := by
    rcases Nat.lt_or_ge (wholeN ps k) ps.length with h2 | h2
    · exact h2
    · rw [List.take_of_length_le h2] at hw; omega
  have hnx := wholeN_next ps k hlt
  have hst := jlen_step hlt
  have hpz := getD_le j3 hlt
  have hold : 0 ≤ (bytesL (jn ps)).getD k 0 ∧ (bytesL (jn ps)).getD k 0 < 256 := (bytesL_b8 _).get (by omega)
  obtain ⟨v0, v1, v2⟩ := xor_u8 hold (show 0 < by_ ∧ by_ < 256 by omega)
  generalize hv : ixor .u8 ((bytesL (jn ps)).getD k 0) by_ = v at v0 v1 v2 ⊢
  have htl : (ps.take (wholeN ps k)).length = wholeN ps k := by rw [List.length_take]; omega
  -- the bytes: whole records, the changed one, the rest
  have hsplit := jn_split hlt
  rw [← jn_bytes hsm] at hsplit
  generalize hb : lastS HS 0 ((ps.take (wholeN ps k)).map bytesL) = b at hsplit
  generalize hpay : bytesL (ps.getD (wholeN ps k) ByteArray.empty) = q at hsplit
  have hql : q.length = (ps.getD (wholeN ps k) ByteArray.empty).size := by rw [← hpay, bl_len]
  have hq8 : B8 q := by rw [← hpay]; exact bytesL_b8 _
  generalize hrest : recs HS (HS b q) ((ps.drop (wholeN ps k + 1)).map bytesL) = rest at hsplit
  have hr8 : B8 rest := by rw [← hrest]; exact recs_b8 HS _ _ (Small.map fun q hq => hsm q (List.mem_of_mem_drop hq))
  have hA : (recs HS 0 ((ps.take (wholeN ps k)).map bytesL)).length = jlen (ps.take (wholeN ps k)) := recs_len HS _ 0
  obtain ⟨o, ho⟩ : ∃ o, k = jlen (ps.take (wholeN ps k)) + o := ⟨k - jlen (ps.take (wholeN ps k)), by omega⟩
  have ho12 : o < 12 + q.length := by omega
  have hset : (bytesL (jn ps)).set k v = recs HS 0 ((ps.take (wholeN ps k)).map bytesL) ++ ((rcd HS b q).set o v ++ rest) := by
    rw [hsplit, List.set_append_right _ _ (by omega), List.set_append_left _ _ (by rw [rcd_len]; omega)]
    congr 3; omega
  have hvo : v ≠ (rcd HS b q).getD o 0 := by
    have : (bytesL (jn ps)).getD k 0 = (rcd HS b q).getD o 0 := by
      rw [hsplit, getD_right (by omega), getD_left (by rw [rcd_len]; omega)]
      congr 1; omega
    rw [← this]; exact v2
  have h8 : B8 ((rcd HS b q).set o v ++ rest) := (B8.set (rcd_b8 HS hq8 (by omega)) o ⟨v0, v1⟩).append hr8
  have hne : (rcd HS b q).set o v ++ rest ≠ [] := by
    intro hh
    have := congrArg List.length hh
    rw [List.length_append, List.length_set, rcd_len] at this
    simp at this
  have hko : ((k - jlen (ps.take (wholeN ps k)) : Nat) : Int) = (o : Int) := by omega
  rw [hko, hset]
  have hRd : ∀ e, nxt HS b ((rcd HS b q).set o v ++ rest) = .inl e → journal_Read (strOf (recs HS 0 ((ps.take (wholeN ps k)).map bytesL) ++ ((rcd HS b q).set o v ++ rest))) = some (ps.take (wholeN ps k), ((jlen (ps.take (wholeN ps k)) : Nat) : Int), e) := fun e hn => by
    rw [Read_eq (by rw [strOf_size, ← hset, List.length_set, bl_len]; omega), rdJ_bad (hsm.take _) (by omega) h8 hne (by rw [hb]; exact hn)]
  have k7 : ∀ x, rl_law38_JournalDamage_k7 x = some x := fun _ => rfl
  by_cases c1 : o < 4
  · rw [hRd 14 (nxt_len HS rest c1 hvo), bind3_pure, if_pos (by simp only [decide_eq_true_eq]; omega), if_pos (by decide), htl]
    unfold rl_law38_JournalDamage_k4
    simp
  have hhd : (hd4 q.length).length = 4 := rfl
  by_cases c2 : 4 + q.length ≤ o
  · have e2 : (rcd HS b q).set o v = hd4 q.length ++ q ++ (be8 (HS b q)).set (o - (4 + q.length)) v := by
      rw [rcd, List.set_append_right _ _ (by rw [List.length_append, hhd]; omega), List.length_append, hhd]
    have hne2 : (be8 (HS b q)).set (o - (4 + q.length)) v ≠ be8 (HS b q) := by
      apply set_ne (by rw [be8_len]; omega)
      rw [rcd, getD_right (by rw [List.length_append, hhd]; omega), List.length_append, hhd] at hvo
      exact hvo
    have hn16 : nxt HS b ((rcd HS b q).set o v ++ rest) = .inl 16 := by
      rw [e2]; exact nxt_other HS q _ rest (by rw [List.length_set, be8_len]) (by omega) hne2
    rw [hRd 16 hn16, bind3_pure, if_neg (by simp only [decide_eq_true_eq]; omega), if_pos (by omega), if_pos (by omega), Int.toNat_natCast, Nat.zero_add, wi64 (n := 4 + (((ps.getD (wholeN ps k) ByteArray.empty).size : Nat) : Int)) (by omega) (by omega), if_pos (by simp only [decide_eq_true_eq]; omega), if_pos (by decide), htl]
    unfold rl_law38_JournalDamage_k5
    simp
  -- a byte of the payload
  have e3 : (rcd HS b q).set o v = hd4 (q.set (o - 4) v).length ++ q.set (o - 4) v ++ be8 (HS b q) := by
    rw [rcd, List.set_append_left _ _ (by rw [List.length_append, hhd]; omega), List.set_append_right _ _ (by rw [hhd]; omega), hhd, List.length_set]
  have hq4 : ixor .u8 (q.getD (o - 4) 0) by_ = v := by
    have : (bytesL (jn ps)).getD k 0 = q.getD (o - 4) 0 := by
      rw [hsplit, getD_right (by omega), getD_left (by rw [rcd_len]; omega), rcd, getD_left (by rw [List.length_append, hhd]; omega), getD_right (by rw [hhd]; omega), hhd]
      congr 1; omega
    rw [← this]; exact hv
  have hloop := loop_for (step := fun w : (List Int) × Int × Int => rl_law38_JournalDamage_l6 ps ((wholeN ps k : Nat) : Int) w.1 w.2.1 w.2.2) (fun i => (q.set (o - 4) v, lastS HS 0 ((ps.take i).map bytesL), (i : Int))) (wholeN ps k) (q.set (o - 4) v, b) (fun i hi => by
      have hi' : i < ps.length := by omega
      simp only [rl_law38_JournalDamage_l6, Int.toNat_natCast]
      have hpp := getD_le j3 hi'
      rw [if_pos (by simpa using hi), if_pos (by omega), if_pos (by omega), if_pos (by omega), Nat.zero_add, sum_any _ (by omega), bind1_pure, wi64 (n := (i : Int) + 1) (by omega) (by omega), ← lastS_take hi']
      rfl) (by
      simp only [rl_law38_JournalDamage_l6, Int.toNat_natCast]
      rw [if_neg (by simp), hb]) (s := (q.set (o - 4) v, 0, 0)) (by rw [List.take_zero]; rfl)
  have hqs : B8 (q.set (o - 4) v) := B8.set hq8 _ ⟨v0, v1⟩
  have w4 : IntKind.i64.wrap ((o : Int) - 4) = ((o - 4 : Nat) : Int) := by rw [wi64 (by omega) (by omega)]; omega
  by_cases hs : HS b (q.set (o - 4) v) = HS b q
  · obtain ⟨r1, r2, r3, hr⟩ : ∃ r1 r2 r3, journal_Read (strOf (recs HS 0 ((ps.take (wholeN ps k)).map bytesL) ++ ((rcd HS b q).set o v ++ rest))) = some (r1, r2, r3) := ⟨_, _, _, Read_eq (by rw [strOf_size, ← hset, List.length_set, bl_len]; omega)⟩
    rw [hr, bind3_pure, if_neg (by simp only [decide_eq_true_eq]; omega), if_pos (by omega), if_pos (by omega), Int.toNat_natCast, Nat.zero_add, wi64 (n := 4 + (((ps.getD (wholeN ps k) ByteArray.empty).size : Nat) : Int)) (by omega) (by omega), if_neg (by simp only [decide_eq_true_eq]; omega), if_pos (by unfold maxLen; omega), w4, hpay, Int.toNat_natCast, Nat.zero_add, if_pos (by omega), if_pos (by omega), if_pos (by omega), hq4, hloop, bind2_pure,
      sum_any _ (by rw [strOf_size, List.length_set]; omega), bind1_pure, sum_any _ (by omega), bind1_pure, bytesL_strOf hqs, hpay, if_pos (by simp [hs]), k7]
  · have hn16 : nxt HS b ((rcd HS b q).set o v ++ rest) = .inl 16 := by
      rw [e3]
      refine nxt_other HS (q.set (o - 4) v) _ rest (be8_len _) (by rw [List.length_set]; omega) (fun h => hs ?_)
      exact (be8_inj (HS_in _ _) (HS_in _ _) h).symm
    rw [hRd 16 hn16, bind3_pure, if_neg (by simp only [decide_eq_true_eq]; omega), if_pos (by omega), if_pos (by omega), Int.toNat_natCast, Nat.zero_add, wi64 (n := 4 + (((ps.getD (wholeN ps k) ByteArray.empty).size : Nat) : Int)) (by omega) (by omega), if_neg (by simp only [decide_eq_true_eq]; omega), if_pos (by unfold maxLen; omega), w4, hpay, Int.toNat_natCast, Nat.zero_add, if_pos (by omega), if_pos (by omega), if_pos (by omega), hq4, hloop, bind2_pure,
      sum_any _ (by rw [strOf_size, List.length_set]; omega), bind1_pure, sum_any _ (by omega), bind1_pure, bytesL_strOf hqs, hpay, if_neg (by simp [hs]), if_pos (by decide), htl, k7]
    simp
end Go.Proofs.Ytjedagkkeicpkaa
