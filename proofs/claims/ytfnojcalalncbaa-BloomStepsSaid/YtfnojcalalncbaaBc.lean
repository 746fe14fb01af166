/- Plain: what is dealt in chapter 14; arrays combined; grams that are looked for. -/
import Derived.Test.YtfnojcalalncbaaBb
namespace Go.Proofs.Ytfnojcalalncbaa
open Vm
set_option linter.unusedVariables false
set_option linter.unusedSimpArgs false
def P0 (a b : Int) : S_api_Parameters := ⟨64 * (1 + a), 1 + b, -1⟩
theorem pv0 {a b : Int} (ha : 0 ≤ a ∧ a < 3) (hb : 0 ≤ b ∧ b < 6) : PV (P0 a b) := by
  unfold PV P0 Right
  simp only
  omega
theorem params_yes {d : S_recordlinkmake_Deck} (hd : DeckOk d) : ∃ l d', rl_make_Deck_Parameters d 1 = some (l, d') ∧ l.length = 1 ∧ (∃ a b : Int, (0 ≤ a ∧ a < 3) ∧ (0 ≤ b ∧ b < 6) ∧ l.getD (0 + 0) dS_api_Parameters = P0 a b) ∧ DeckOk d' := by
  unfold rl_make_Deck_Parameters
  obtain ⟨a, d1, e1, a0, a1, hd1⟩ := next_yes hd (n := 3) (by decide) (by decide)
  obtain ⟨b, d2, e2, b0, b1, hd2⟩ := next_yes hd1 (n := 6) (by decide) (by decide)
  have s1 : rl_make_Deck_Parameters_l1 1 [] 0 d.list d.at_ d.state = some (.inl ([P0 a b], 1, d2.list, d2.at_, d2.state)) := by
    simp only [rl_make_Deck_Parameters_l1]
    rw [if_pos (by decide), show rl_make_Deck_Next ⟨d.list, d.at_, d.state⟩ 3 = some (a, d1) from e1, bind2_pure, e2, bind2_pure, if_neg (by decide)]
    unfold rl_make_Deck_Parameters_k3
    rw [if_neg (by decide)]
    unfold rl_make_Deck_Parameters_k2
    rw [if_pos (by simp), wi64 (n := 1 + a) (by omega) (by omega), wi64 (n := 64 * (1 + a)) (by omega) (by omega), wi64 (n := 1 + b) (by omega) (by omega)]
    rfl
  have s2 : rl_make_Deck_Parameters_l1 1 [P0 a b] 1 d2.list d2.at_ d2.state = some (.inr ([P0 a b], d2.list, d2.at_, d2.state)) := by
    simp only [rl_make_Deck_Parameters_l1]
    rw [if_neg (by decide)]
  rw [loop_next (step := fun v : (List S_api_Parameters) × Int × (List Int) × Int × Int => rl_make_Deck_Parameters_l1 1 v.1 v.2.1 v.2.2.1 v.2.2.2.1 v.2.2.2.2) s1, loop_end s2, bind4_pure]
  exact ⟨_, _, rfl, rfl, ⟨a, b, ⟨a0, a1⟩, ⟨b0, b1⟩, rfl⟩, hd2⟩
theorem key_yes {d : S_recordlinkmake_Deck} (hd : DeckOk d) : ∃ k d', rl_make_Deck_Key d = some (k, d') ∧ DeckOk d' := by
  unfold rl_make_Deck_Key
  obtain ⟨a, d1, e1, _, _, hd1⟩ := word_yes hd
  obtain ⟨b, d2, e2, _, _, hd2⟩ := word_yes hd1
  rw [e1, bind2_pure, e2, bind2_pure]
  exact ⟨_, _, rfl, hd2⟩
theorem pick_yes {d : S_recordlinkmake_Deck} (hd : DeckOk d) (l : List ByteArray) (h1 : 1 ≤ l.length) (h2 : l.length ≤ 1000) : ∃ s d', rl_make_Deck_Pick d l = some (s, d') ∧ s ∈ l ∧ DeckOk d' := by
  unfold rl_make_Deck_Pick
  obtain ⟨v, d1, e1, v0, v1, hd1⟩ := next_yes hd (n := (l.length : Int)) (by omega) (by omega)
  rw [e1, bind2_pure, if_pos v0, if_pos v1]
  refine ⟨_, _, rfl, ?_, hd1⟩
  rw [List.getD_eq_getElem?_getD, List.getElem?_eq_getElem (by omega)]
  exact List.getElem_mem _
/-- the texts of which grams are dealt -/
def G8 : List ByteArray := [(ByteArray.mk #[95, 97]), (ByteArray.mk #[97, 110]), (ByteArray.mk #[110, 110]), (ByteArray.mk #[110, 95]), (ByteArray.mk #[114, 116]), (ByteArray.mk #[61, 56, 48, 48, 49]), (ByteArray.mk #[97, 49]), (ByteArray.mk #[111, 98])]
theorem g8_short : Short G8 := by
  intro g hg
  simp only [G8, List.mem_cons, List.not_mem_nil, or_false] at hg
  rcases hg with rfl | rfl | rfl | rfl | rfl | rfl | rfl | rfl <;> decide
theorem grams_yes {d : S_recordlinkmake_Deck} (hd : DeckOk d) : ∃ gs d', rl_law14_grams d = some (gs, d') ∧ gs.length ≤ 11 ∧ (∀ g ∈ gs, g ∈ G8) ∧ DeckOk d' := by
  unfold rl_law14_grams
  obtain ⟨x, d1, he, x0, x1, hd1⟩ := next_yes hd (n := 12) (by decide) (by decide)
  rw [he]; clear he; first | rw [bind2_pure] | rw [bind3_pure] | rw [bind4_pure] | rw [bind1_pure]
  obtain ⟨n, rfl⟩ := Int.eq_ofNat_of_zero_le x0
  obtain ⟨t, e1, t1, t2, t3⟩ := loop_inv (step := fun v : (List ByteArray) × Int × (List Int) × Int × Int => rl_law14_grams_l1 v.1 v.2.1 v.2.2.1 v.2.2.2.1 v.2.2.2.2) n
    (fun i s => s.1.length = i ∧ s.2.1 = ((n - i : Nat) : Int) ∧ (∀ g ∈ s.1, g ∈ G8) ∧ DeckOk ⟨s.2.2.1, s.2.2.2.1, s.2.2.2.2⟩) (fun t => t.1.length ≤ 11 ∧ (∀ g ∈ t.1, g ∈ G8) ∧ DeckOk ⟨t.2.1, t.2.2.1, t.2.2.2⟩) (by
      rintro i hi ⟨l, j, a, b, c⟩ ⟨s1, s2, s3, s4⟩
      left
      simp only [rl_law14_grams_l1] at s1 s2 s3 s4 ⊢
      subst s2
      rw [if_pos (by simp only [decide_eq_true_eq]; omega)]
      obtain ⟨g, d2, he, hg, hd2⟩ := pick_yes s4 G8 (by decide) (by decide)
      rw [show ([(ByteArray.mk #[95, 97]), (ByteArray.mk #[97, 110]), (ByteArray.mk #[110, 110]), (ByteArray.mk #[110, 95]), (ByteArray.mk #[114, 116]), (ByteArray.mk #[61, 56, 48, 48, 49]), (ByteArray.mk #[97, 49]), (ByteArray.mk #[111, 98])] : List ByteArray) = G8 from rfl, he, bind2_pure, if_pos (by simp; omega), wi64 (by omega) (by omega)]
      refine ⟨_, rfl, by simp [s1], by simp only; omega, ?_, hd2⟩
      intro q hq
      rcases List.mem_append.1 hq with h1 | h1
      · exact s3 q h1
      · rw [List.mem_singleton.1 h1]; exact hg) (by
      rintro ⟨l, j, a, b, c⟩ ⟨s1, s2, s3, s4⟩
      simp only [rl_law14_grams_l1] at s1 s2 s3 s4 ⊢
      subst s2
      rw [if_neg (by simp)]
      exact ⟨_, rfl, by simp only; omega, s3, s4⟩) (s := (([] : List ByteArray), (n : Int), d1.list, d1.at_, d1.state)) ⟨rfl, rfl, by simp, hd1⟩
  rw [e1]
  exact ⟨t.1, ⟨t.2.1, t.2.2.1, t.2.2.2⟩, rfl, t1, t2, t3⟩
theorem short_of {gs : List ByteArray} (h : ∀ g ∈ gs, g ∈ G8) : Short gs := fun g hg => g8_short g (h g hg)
theorem mod_eq {x n : Int} (h1 : 1 ≤ n) (h2 : n < 4611686018427387904) : rl_make_Mod x n = some (x % n) := by
  unfold rl_make_Mod
  rw [if_neg (by simp; omega), if_pos (by omega)]
  have h3 := Int.tmod_lt_of_pos x (show 0 < n by omega)
  have h4 : -n < x.tmod n := by
    rcases Int.lt_or_le x 0 with h | h
    · have := Int.neg_tmod (-x) n
      rw [Int.neg_neg] at this
      have h5 := Int.tmod_lt_of_pos (-x) (show 0 < n by omega)
      omega
    · have := Int.tmod_nonneg n h; omega
  rw [wi64 (by omega) (by omega), tmod_nn (by omega), Int.add_emod_right]
  congr 1
  rw [Int.tmod_def, Int.sub_mul_emod_self_left]
/-! Arrays combined. -/
theorem copy_eq {b : S_api_Bits} (h : b.Words.length ≤ 100) : rl_ref09_Copy b = some b := by
  unfold rl_ref09_Copy
  rw [if_pos (by omega), List.nil_append]
theorem zip_len {f : Int → Int → Int} {a b : List Int} (h : a.length = b.length) : (List.zipWith f a b).length = a.length := by simp [h]
theorem comb_step {f : Int → Int → Int} {a b : List Int} (h : a.length = b.length) {i : Nat} (hi : i < a.length) : ((List.zipWith f (a.take i) (b.take i)) ++ a.drop i).set i (f (((List.zipWith f (a.take i) (b.take i)) ++ a.drop i).getD i 0) (b.getD i 0)) = (List.zipWith f (a.take (i + 1)) (b.take (i + 1))) ++ a.drop (i + 1) := by
  have hz : (List.zipWith f (a.take i) (b.take i)).length = i := by simp; omega
  have hd : a.drop i = a.getD i 0 :: a.drop (i + 1) := by
    rw [List.drop_eq_getElem_cons hi, List.getD_eq_getElem?_getD, List.getElem?_eq_getElem hi]; rfl
  have hib : i < b.length := by omega
  have hg : ((List.zipWith f (a.take i) (b.take i)) ++ a.drop i).getD i 0 = a.getD i 0 := by
    rw [List.getD_eq_getElem?_getD, List.getElem?_append_right (by omega), hz, Nat.sub_self, hd]; rfl
  have hzz : List.zipWith f (a.take (i + 1)) (b.take (i + 1)) = List.zipWith f (a.take i) (b.take i) ++ [f (a.getD i 0) (b.getD i 0)] := by
    rw [List.take_add_one, List.take_add_one, List.zipWith_append (by simp; omega), List.getElem?_eq_getElem hi, List.getElem?_eq_getElem hib]
    simp [List.getD_eq_getElem?_getD, hi, hib]
  rw [hg, List.set_append_right _ _ (by omega), hz, Nat.sub_self, hd, List.set_cons_zero, hzz, List.append_assoc]
  rfl
theorem comb_loop {p q : S_api_Bits} {m : Int} {f : Int → Int → Int} (hm : (m = 1 ∧ f = ior .u64) ∨ (m = 0 ∧ f = iand .u64)) (hl : p.Words.length = q.Words.length) (hn : p.Words.length ≤ 100) : loop (fun v : Int × (List Int) => rl_ref09_combine_l2 q m v.1 v.2) (0, p.Words) = some (List.zipWith f p.Words q.Words) := by
  refine loop_for (fun i => ((i : Int), (List.zipWith f (p.Words.take i) (q.Words.take i)) ++ p.Words.drop i)) p.Words.length _ (fun i hi => ?_) ?_ (by simp)
  · have hlen : ((List.zipWith f (p.Words.take i) (q.Words.take i)) ++ p.Words.drop i).length = p.Words.length := by simp; omega
    have hst := comb_step (f := f) hl hi
    simp only [rl_ref09_combine_l2, rl_ref09_combine_k3, hlen, Int.toNat_natCast, Nat.zero_add]
    rcases hm with ⟨rfl, rfl⟩ | ⟨rfl, rfl⟩
    · rw [if_pos (by simpa using hi), if_neg (by decide), if_pos (by decide), if_pos (by omega), if_pos (by omega), if_pos (by omega), wi64 (by omega) (by omega), hst]; rfl
    · rw [if_pos (by simpa using hi), if_pos (by decide), if_pos (by omega), if_pos (by omega), if_pos (by omega), wi64 (by omega) (by omega), hst]; rfl
  · have hlen : ((List.zipWith f (p.Words.take p.Words.length) (q.Words.take p.Words.length)) ++ p.Words.drop p.Words.length).length = p.Words.length := by simp; omega
    simp only [rl_ref09_combine_l2, hlen]
    rw [if_neg (by simp), List.drop_length, List.append_nil, List.take_of_length_le (Nat.le_refl _), List.take_of_length_le (by omega)]
theorem comb_eq {p q : S_api_Bits} {m : Int} {f : Int → Int → Int} (hm : (m = 1 ∧ f = ior .u64) ∨ (m = 0 ∧ f = iand .u64)) (hp : VB p) (hq : VB q) (h : p.Length = q.Length) : rl_ref09_combine p q m = some (⟨p.Length, List.zipWith f p.Words q.Words⟩, 0) := by
  have h1 := hp.len
  have h2 := hp.2
  have h3 := hq.2
  unfold rl_ref09_combine
  rw [refvalid_eq, decide_eq_true hp, bind1_pure, if_neg (by decide), refvalid_eq, decide_eq_true hq, bind1_pure, if_neg (by decide), show (p.Length != q.Length) = false by simp [h]]
  unfold rl_ref09_combine_k1
  rw [if_neg (by decide), copy_eq (by omega), bind1_pure, comb_loop hm (by omega) (by omega), bind1_pure]
theorem or_eq {p q : S_api_Bits} (hp : VB p) (hq : VB q) (h : p.Length = q.Length) : rl_ref09_Or p q = some (⟨p.Length, List.zipWith (ior .u64) p.Words q.Words⟩, 0) := by
  unfold rl_ref09_Or
  rw [comb_eq (.inl ⟨rfl, rfl⟩) hp hq h, bind2_pure]
theorem and_eq {p q : S_api_Bits} (hp : VB p) (hq : VB q) (h : p.Length = q.Length) : rl_ref09_And p q = some (⟨p.Length, List.zipWith (iand .u64) p.Words q.Words⟩, 0) := by
  unfold rl_ref09_And
  rw [comb_eq (.inr ⟨rfl, rfl⟩) hp hq h, bind2_pure]
theorem zip_get {f : Int → Int → Int} {a b : List Int} (h : a.length = b.length) {i : Nat} (hi : i < a.length) : (List.zipWith f a b).getD i 0 = f (a.getD i 0) (b.getD i 0) := by
  have hib : i < b.length := by omega
  simp [List.getD_eq_getElem?_getD, List.getElem?_zipWith, hi, hib]
theorem or_w64 {a b : List Int} : W64 (List.zipWith (ior .u64) a b) := by
  intro w hw
  rw [List.mem_iff_getElem?] at hw
  obtain ⟨i, hi⟩ := hw
  rw [List.getElem?_zipWith] at hi
  split at hi
  · injection hi with hi; rw [← hi]; unfold ior; exact ⟨wu64_lo _, wu64_hi _⟩
  · cases hi
theorem and_w64 {a b : List Int} : W64 (List.zipWith (iand .u64) a b) := by
  intro w hw
  rw [List.mem_iff_getElem?] at hw
  obtain ⟨i, hi⟩ := hw
  rw [List.getElem?_zipWith] at hi
  split at hi
  · injection hi with hi; rw [← hi]; unfold iand; exact ⟨wu64_lo _, wu64_hi _⟩
  · cases hi
theorem or_bit {a b : List Int} (ha : W64 a) (hb : W64 b) (h : a.length = b.length) {k : Nat} (hk : k / 64 < a.length) : bitAt (List.zipWith (ior .u64) a b) k = (bitAt a k || bitAt b k) := by
  unfold bitAt
  rw [zip_get h hk]
  obtain ⟨x, hx, e⟩ := W64.nat (ha.get hk)
  obtain ⟨y, hy, e2⟩ := W64.nat (hb.get (i := k / 64) (by omega))
  rw [e, e2, ior64 hx hy]
  simp only [Int.toNat_natCast, Nat.testBit_or]
theorem and_bit {a b : List Int} (ha : W64 a) (hb : W64 b) (h : a.length = b.length) {k : Nat} (hk : k / 64 < a.length) : bitAt (List.zipWith (iand .u64) a b) k = (bitAt a k && bitAt b k) := by
  unfold bitAt
  rw [zip_get h hk]
  obtain ⟨x, hx, e⟩ := W64.nat (ha.get hk)
  obtain ⟨y, hy, e2⟩ := W64.nat (hb.get (i := k / 64) (by omega))
  rw [e, e2, iand64 hx hy]
  simp only [Int.toNat_natCast, Nat.testBit_and]
/-! Grams that are looked for. -/
theorem scanN {τ : Type} {step : Int → Option (Int ⊕ (Unit ⊕ τ))} (n : Nat) (bad : Nat → Prop) (t : Nat → τ)
    (h : ∀ i, i < n → (bad i ∧ step (i : Int) = some (.inr (.inr (t i)))) ∨ (¬ bad i ∧ step (i : Int) = some (.inl ((i + 1 : Nat) : Int)))) (he : step (n : Int) = some (.inr (.inl ()))) :
    (loop step 0 = some (.inl ()) ∧ ∀ i, i < n → ¬ bad i) ∨ ∃ i, i < n ∧ bad i ∧ loop step 0 = some (.inr (t i)) := by
  have key : ∀ k j, j + k = n → (loop step (j : Int) = some (.inl ()) ∧ ∀ i, j ≤ i → i < n → ¬ bad i) ∨ ∃ i, i < n ∧ bad i ∧ loop step (j : Int) = some (.inr (t i)) := by
    intro k
    induction k with
    | zero =>
      intro j hj
      have : j = n := by omega
      subst this
      exact .inl ⟨loop_end he, fun i h1 h2 => by omega⟩
    | succ k ih =>
      intro j hj
      rcases h j (by omega) with ⟨hb, hs⟩ | ⟨hb, hs⟩
      · exact .inr ⟨j, by omega, hb, loop_end hs⟩
      · rw [loop_next hs]
        rcases ih (j + 1) (by omega) with ⟨h1, h2⟩ | h1
        · refine .inl ⟨h1, fun i h3 h4 => ?_⟩
          rcases Nat.lt_or_eq_of_le h3 with h5 | rfl
          · exact h2 i h5 h4
          · exact hb
        · exact .inr h1
  rcases key n 0 (by omega) with ⟨h1, h2⟩ | h1
  · exact .inl ⟨h1, fun i hi => h2 i (Nat.zero_le _) hi⟩
  · exact .inr h1
theorem may_eq {p : S_api_Parameters} (h : PV p) (k : S_api_Key) {g : ByteArray} (hg : g.size ≤ 1000) {b : S_api_Bits} (hb : VB b) (hw : W64 b.Words) (hl : b.Length = p.Length) :
    (bloom_May p k g b = some true ∧ ∀ i, i < (PP p k g).length → bitAt b.Words ((PP p k g).getD i 0).toNat = true) ∨ (bloom_May p k g b = some false ∧ ∃ i, i < (PP p k g).length ∧ bitAt b.Words ((PP p k g).getD i 0).toNat = false) := by
  obtain ⟨g1, g2, g3⟩ := pp_spec h k hg
  have hh := h.2.2.1
  unfold bloom_May
  rw [g1, bind2_pure, if_neg (by decide), if_neg (by simp [hl]), valid_eq, decide_eq_true hb, bind1_pure]
  unfold bloom_May_k1
  rw [show (!true) = false from rfl, if_neg (by decide)]
  rcases scanN (step := fun v : Int => bloom_May_l2 b (PP p k g) v) (PP p k g).length (fun i => bitAt b.Words ((PP p k g).getD i 0).toNat = false) (fun i => ()) (fun i hi => by
      simp only [bloom_May_l2, Int.toNat_natCast, Nat.zero_add]
      have hv : 0 ≤ (PP p k g).getD i 0 ∧ (PP p k g).getD i 0 < p.Length := by
        rw [List.getD_eq_getElem?_getD, List.getElem?_eq_getElem hi]
        exact g3 _ (List.getElem_mem hi)
      rw [if_pos (by simpa using hi), if_pos (by omega), if_pos (by omega), has_eq hw, bind1_pure, decide_eq_true ⟨hb, hv.1, by rw [hl]; exact hv.2⟩, Bool.true_and, wi64 (by omega) (by omega)]
      by_cases hx : bitAt b.Words ((PP p k g).getD i 0).toNat = false
      · left; rw [hx]; exact ⟨rfl, rfl⟩
      · right
        have hx' : bitAt b.Words ((PP p k g).getD i 0).toNat = true := by simpa using hx
        rw [hx']; exact ⟨by decide, rfl⟩) (by simp only [bloom_May_l2]; rw [if_neg (by simp)]) with ⟨h1, h2⟩ | ⟨i, hi, hb2, h1⟩
  · left
    rw [h1, bindE_l]
    exact ⟨rfl, fun i hi => by simpa using h2 i hi⟩
  · right
    rw [h1, bindE_r]
    exact ⟨rfl, i, hi, hb2⟩
end Go.Proofs.Ytfnojcalalncbaa
