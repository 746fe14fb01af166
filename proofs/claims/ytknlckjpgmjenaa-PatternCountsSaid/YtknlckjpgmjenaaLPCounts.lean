/- Plain: the law PatternCounts. -/
import Derived.Test.YtknlckjpgmjenaaPd
import Derived.Test.YtknlckjpgmjenaaPr
import Derived.Test.YtknlckjpgmjenaaGL8
namespace Go.Proofs.Ytknlckjpgmjenaa
open Vm
open IntKind (i64 u64 u32 u8)
set_option linter.unusedVariables false
set_option linter.unusedSimpArgs false
theorem zipWith_comm' {α γ : Type} {f : α → α → γ} (h : ∀ a b, f a b = f b a) : ∀ {l k : List α}, List.zipWith f l k = List.zipWith f k l
  | [], [] => rfl
  | [], _ :: _ => rfl
  | _ :: _, [] => rfl
  | a :: l, b :: k => by rw [List.zipWith_cons_cons, List.zipWith_cons_cons, h, zipWith_comm' h]
theorem patN_comm (ts : List Int) (x y : S_api_Encoded) : patN ts x y = patN ts y x := by
  unfold patN
  rw [zipWith_comm' simB_comm]
/-- a loop from the end that keeps the first record with an ID -/
theorem back_loop {l : List S_api_Encoded} {id : Int} (hl : l.length < 1000000) {step : Int × Int × Int × (List S_api_Bits) → Option ((Int × Int × Int × (List S_api_Bits)) ⊕ (Int × Int × (List S_api_Bits)))}
    (hs : ∀ (i : Nat) (a b : Int) (f : List S_api_Bits), i < l.length → step ((i : Int), a, b, f) = if (l.getD i dS_api_Encoded).ID = id then some (.inl ((i : Int) - 1, (l.getD i dS_api_Encoded).ID, (l.getD i dS_api_Encoded).Version, (l.getD i dS_api_Encoded).Fields)) else some (.inl ((i : Int) - 1, a, b, f)))
    (he : ∀ (a b : Int) (f : List S_api_Bits), step (-1, a, b, f) = some (.inr (a, b, f))) {j : Nat} (hj : fndI l id = some j) : loop step ((l.length : Int) - 1, 0, 0, []) = some ((l.getD j dS_api_Encoded).ID, (l.getD j dS_api_Encoded).Version, (l.getD j dS_api_Encoded).Fields) := by
  obtain ⟨j1, j2, j3⟩ := List.findIdx?_eq_some_iff_getElem.1 hj
  have hid : ∀ i (h : i < l.length), l[i] = l.getD i dS_api_Encoded := fun i h => by rw [List.getD_eq_getElem?_getD, List.getElem?_eq_getElem h]; rfl
  rw [hid j j1] at j2
  have j2 : (l.getD j dS_api_Encoded).ID = id := by simpa using j2
  obtain ⟨t, e, ht⟩ := loop_inv (step := step) l.length (fun k s => s.1 = (l.length : Int) - 1 - (k : Int) ∧ (l.length - k ≤ j → s.2 = ((l.getD j dS_api_Encoded).ID, (l.getD j dS_api_Encoded).Version, (l.getD j dS_api_Encoded).Fields))) (fun t => t = ((l.getD j dS_api_Encoded).ID, (l.getD j dS_api_Encoded).Version, (l.getD j dS_api_Encoded).Fields)) (by
      rintro k hk ⟨i, a, b, f⟩ ⟨s1, s2⟩
      simp only at s1 s2
      left
      obtain ⟨m, hm⟩ : ∃ m : Nat, (m : Int) = (l.length : Int) - 1 - (k : Int) := ⟨l.length - 1 - k, by omega⟩
      rw [s1, ← hm, hs m a b f (by omega)]
      by_cases hx : (l.getD m dS_api_Encoded).ID = id
      · rw [if_pos hx]
        refine ⟨_, rfl, by simp only; omega, fun h => ?_⟩
        have : m = j := by
          rcases Nat.lt_or_ge m j with h1 | h1
          · have := j3 m h1
            rw [hid m (by omega)] at this
            exact absurd (by simpa using hx) this
          · omega
        subst this
        rfl
      · rw [if_neg hx]
        refine ⟨_, rfl, by simp only; omega, fun h => ?_⟩
        have : m ≠ j := fun e => hx (by rw [e]; exact j2)
        exact s2 (by omega)) (by
      rintro ⟨i, a, b, f⟩ ⟨s1, s2⟩
      simp only at s1 s2
      have : i = -1 := by omega
      subst this
      exact ⟨_, he a b f, s2 (by omega)⟩) (s := ((l.length : Int) - 1, 0, 0, [])) ⟨by simp, fun h => by omega⟩
  rw [e, ht]
theorem counts_law (p : List Int) : rl_law23_PatternCounts p = some true := by
  unfold rl_law23_PatternCounts
  rw [awake23]
  simp only [Option.bind_some, Bool.not_true, Bool.false_eq_true, if_false, rl_make_Few]
  by_cases hp : p.length ≤ 400
  rotate_left
  · rw [decide_eq_false (by omega : ¬ ((p.length : Nat) : Int) ≤ 400)]
    simp only [Bool.not_false, rl_law23_PatternCounts_k1, if_true, awake23, Option.bind_some]
  rw [decide_eq_true (by omega : ((p.length : Nat) : Int) ≤ 400)]
  simp only [Bool.not_true, rl_law23_PatternCounts_k1, Bool.false_eq_true, if_false]
  obtain ⟨d, he, hd⟩ := new_yes hp
  rw [he]; clear he; simp only [Option.bind_some]
  obtain ⟨x0, d1, he, x0a, x0b, hd1⟩ := next_yes hd (n := 3) (by decide) (by decide)
  rw [he]; clear he; first | rw [bind2_pure] | rw [bind3_pure] | rw [bind4_pure] | rw [bind1_pure]
  obtain ⟨n, hn⟩ : ∃ n : Nat, 1 + x0 = n := ⟨(1 + x0).toNat, by omega⟩
  have hw : IntKind.i64.wrap (1 + x0) = (n : Int) := by rw [wi64 (n := 1 + x0) (by omega) (by omega), hn]
  rw [hw]
  obtain ⟨a, d2, e2, la, ha, hd2⟩ := records_yes hd1 (n := n) (m := 4) (by omega) (by decide)
  rw [show (4 : Int) = ((4 : Nat) : Int) from rfl, e2, bind2_pure]
  obtain ⟨b, d3, e3, lb, hb, hd3⟩ := records_yes hd2 (n := n) (m := 4) (by omega) (by decide)
  rw [e3, bind2_pure]
  obtain ⟨cs, d4, e4, lc, hc, hd4⟩ := couples_yes hd3 (a := a) (b := b) (by omega) (by omega) (m := 1) (by decide)
  have e4' : rl_law23_couples d3 a b 1 = some (cs, d4) := e4
  rw [e4', bind2_pure]
  rcases cs with _ | ⟨c, _ | ⟨c', cs⟩⟩
  · rfl
  rotate_left
  · simp at lc
  have hcd := hc c List.mem_cons_self
  have hcd' : CD b a ⟨c.B, c.A⟩ := ⟨hcd.2, hcd.1⟩
  obtain ⟨ts, hts⟩ : ∃ ts, ([500, 800, 300] : List Int).take n = ts := ⟨_, rfl⟩
  have htl : ts.length = n := by rw [← hts]; simp; omega
  have htr : ∀ t ∈ ts, 0 ≤ t ∧ t ≤ 1000 := fun t ht => by
    rw [← hts] at ht
    have := List.mem_of_mem_take ht
    simp only [List.mem_cons, List.not_mem_nil, or_false] at this
    omega
  rw [if_neg (by simp), if_pos (by omega), Int.toNat_natCast, if_pos (by simp; omega), hts, tally_dealt (by omega) (by omega) htl htr ha hb (by omega) (by omega) hc (by simp), bind2_pure, if_pos (by simp; omega), if_pos (by simp)]
  simp only [Nat.add_zero, List.getD_cons_zero]
  rw [tally_dealt (cs := [⟨c.B, c.A⟩]) (by omega) (by omega) htl htr hb ha (by omega) (by omega) (fun z hz => by rw [List.mem_singleton.1 hz]; exact hcd') (by simp), bind2_pure, if_neg (by decide), if_neg (by decide)]
  have hp : patC ts b a ⟨c.B, c.A⟩ = patC ts a b c := by unfold patC; exact patN_comm _ _ _
  have hlt := patC_lt (ts := ts) (a := a) (b := b) (c := c)
  rw [htl] at hlt
  have h3 := pow3_le (show n ≤ 5 by omega)
  simp only [List.map_cons, List.map_nil]
  rw [hp, ints_eq (by rw [cntL_length]; omega), decide_eq_true rfl, bind1_pure, if_neg (by decide)]
  have hcv := cv_cnt (n := n) (ps := [patC ts a b c]) (fun q hq => by rw [List.mem_singleton.1 hq]; exact hlt) (by simp)
  rw [total_yes (by omega) hcv, sum_cnt _ (fun q hq => by rw [List.mem_singleton.1 hq]; exact hlt), bind1_pure]
  unfold rl_law23_PatternCounts_k2
  rw [if_neg (by simp)]
  obtain ⟨i, hi⟩ := fndI_some hcd.1
  obtain ⟨j, hj⟩ := fndI_some hcd.2
  have b1 := back_loop (l := a) (id := c.A) (by omega) (step := fun v : Int × Int × Int × (List S_api_Bits) => rl_law23_PatternCounts_l3 a [c] v.1 v.2.1 v.2.2.1 v.2.2.2) (fun i u v f hi => by
      simp only [rl_law23_PatternCounts_l3, rl_law23_PatternCounts_k4, Int.toNat_natCast, Nat.add_zero, List.getD_cons_zero]
      rw [if_pos (by simp only [decide_eq_true_eq]; omega), if_pos (by omega), if_pos (by omega), wi64 (n := (i : Int) - 1) (by omega) (by omega)]
      by_cases h : (a.getD i dS_api_Encoded).ID = c.A
      · rw [if_pos (by simpa using h), if_pos h]
      · rw [if_neg (by simpa using h), if_neg h]) (fun u v f => by
      simp only [rl_law23_PatternCounts_l3]
      rw [if_neg (by simp)]) hi
  have b2 := back_loop (l := b) (id := c.B) (by omega) (step := fun v : Int × Int × Int × (List S_api_Bits) => rl_law23_PatternCounts_l5 b [c] v.1 v.2.1 v.2.2.1 v.2.2.2) (fun i u v f hi => by
      simp only [rl_law23_PatternCounts_l5, rl_law23_PatternCounts_k6, Int.toNat_natCast, Nat.add_zero, List.getD_cons_zero]
      rw [if_pos (by simp only [decide_eq_true_eq]; omega), if_pos (by omega), if_pos (by omega), wi64 (n := (i : Int) - 1) (by omega) (by omega)]
      by_cases h : (b.getD i dS_api_Encoded).ID = c.B
      · rw [if_pos (by simpa using h), if_pos h]
      · rw [if_neg (by simpa using h), if_neg h]) (fun u v f => by
      simp only [rl_law23_PatternCounts_l5]
      rw [if_neg (by simp)]) hj
  rw [wi64 (n := (a.length : Int) - 1) (by omega) (by omega), b1, bind3_pure, wi64 (n := (b.length : Int) - 1) (by omega) (by omega), b2, bind3_pure]
  have rx := ha _ (enc_get (fndI_lt hi))
  have ry := hb _ (enc_get (fndI_lt hj))
  have hz : (List.zipWith simB (a.getD i dS_api_Encoded).Fields (b.getD j dS_api_Encoded).Fields).length = n := by rw [List.length_zipWith, rx.1, ry.1, Nat.min_self]
  rw [refcompare_eq rx.wf ry.wf (by have := rx.1; omega), if_pos ⟨by rw [rx.1, ry.1], by have := rx.1; omega, by have := rx.1; omega⟩, bind2_pure, hw, Int.toNat_natCast, hts, refpattern_eq (by omega), if_pos (by omega), if_pos ⟨htr, zip_sims rx.wf ry.wf⟩, bind2_pure, patN_int]
  have hpp : patN ts (a.getD i dS_api_Encoded) (b.getD j dS_api_Encoded) = patC ts a b c := by unfold patC; rw [recOf_eq hi, recOf_eq hj]
  rw [hpp, if_pos (by decide), if_pos (by decide), cntL_length, if_pos (by simp only [decide_eq_true_eq]; omega), if_pos (by omega), if_pos (by omega), Int.toNat_natCast, Nat.zero_add, cntL_get hlt]
  unfold rl_law23_PatternCounts_k7
  rw [List.count_singleton_self]
  rfl
end Go.Proofs.Ytknlckjpgmjenaa
