/- Plain: positions of grams, and arrays of grams. -/
import Derived.Test.YtfnojcalalncbaaBa
import Derived.Test.YtfnojcalalncbaaGE0
namespace Go.Proofs.Ytfnojcalalncbaa
open Vm
set_option linter.unusedVariables false
set_option linter.unusedSimpArgs false
theorem awake14 : rl_law14_awake = some true := rl_law14_awake_le 200 _ (by kernel_rfl)
theorem parts_yes (k : S_api_Key) {s g : ByteArray} (hs : s.size ≤ 1000) (hg : g.size ≤ 1000) : ∃ v, siphash_Parts k ([s, g] : List ByteArray) = some v ∧ 0 ≤ v ∧ v < 18446744073709551616 := by
  unfold siphash_Parts
  have hall : ∀ i, i < 2 → (([s, g] : List ByteArray).getD i ByteArray.empty).size ≤ 1000 := by
    intro i hi
    match i, hi with
    | 0, _ => exact hs
    | 1, _ => exact hg
  have hlen : ([s, g] : List ByteArray).length = 2 := rfl
  generalize ([s, g] : List ByteArray) = L at hall hlen ⊢
  obtain ⟨t, e1, t1⟩ := loop_inv (step := fun v : (List Int) × Int => siphash_Parts_l1 L v.1 v.2) 2 (fun i s => s.2 = (i : Int) ∧ s.1.length ≤ 2000 * i) (fun t => t.length ≤ 4000) (by
      rintro i hi ⟨l, j⟩ ⟨s1, s2⟩
      left
      simp only at s1 s2
      subst s1
      simp only [siphash_Parts_l1, Int.toNat_natCast]
      have h1 := hall i hi
      rw [hlen, if_pos (by simp only [decide_eq_true_eq]; omega), if_pos (by omega), if_pos (by omega)]
      have hm : (if (65535 : Int) < (((L.getD i ByteArray.empty).size : Nat) : Int) then 65535 else (((L.getD i ByteArray.empty).size : Nat) : Int)) = (((L.getD i ByteArray.empty).size : Nat) : Int) := by rw [if_neg (by omega)]
      simp only [hm, Int.toNat_natCast]
      have hx : ((L.getD i ByteArray.empty).extract 0 (L.getD i ByteArray.empty).size).size = (L.getD i ByteArray.empty).size := by rw [ByteArray.size_extract]; omega
      rw [if_pos (by omega), if_pos (by omega), if_pos (by simp only [List.length_cons, List.length_nil]; omega), if_pos (by rw [List.length_append, hx]; simp only [List.length_cons, List.length_nil]; omega)]
      refine ⟨_, rfl, ?_, ?_⟩
      · simp only; rw [wi64 (by omega) (by omega)]; omega
      · simp only [List.length_append, List.length_cons, List.length_nil]
        rw [← bytesL_length, hx]; omega) (by
      rintro ⟨l, j⟩ ⟨s1, s2⟩
      simp only at s1 s2
      subst s1
      refine ⟨l, ?_, by omega⟩
      simp only [siphash_Parts_l1]
      rw [hlen, if_neg (by simp)]) (s := (([] : List Int), 0)) ⟨rfl, by simp⟩
  rw [e1, bind1_pure, sip_eq _ (by omega), bind1_pure]
  exact ⟨_, rfl, (sipF_in _ _).1, (sipF_in _ _).2⟩
/-- parameters -/
def PV (p : S_api_Parameters) : Prop := Right p.Length ∧ 1 ≤ p.Hashes ∧ p.Hashes ≤ 16 ∧ -1 ≤ p.Salt ∧ p.Salt < 5
theorem new_bits {L : Int} (h : Right L) : bitset_New L = some (⟨L, List.replicate (L / 64).toNat 0⟩, 0) := by
  obtain ⟨h1, h2, h3⟩ := id h
  unfold bitset_New
  rw [right_eq, decide_eq_true h, bind1_pure, if_neg (by decide), tdiv_nn (by omega), wi64 (by omega) (by omega), if_pos (by omega), if_pos (by omega)]
theorem refnew_bits {L : Int} (h : Right L) : rl_ref09_New L = some (⟨L, List.replicate (L / 64).toNat 0⟩, 0) := by
  obtain ⟨h1, h2, h3⟩ := id h
  unfold rl_ref09_New
  rw [reflen_eq, decide_eq_true h, bind1_pure, if_neg (by decide), tdiv_nn (by omega), wi64 (by omega) (by omega), if_pos (by omega), if_pos (by omega)]
theorem check_yes {p : S_api_Parameters} (h : PV p) : bloom_Check p = some 0 := by
  obtain ⟨h1, h2, h3, h4, h5⟩ := h
  unfold bloom_Check
  rw [new_bits h1, bind2_pure, if_neg (by decide), if_neg (by simp only [decide_eq_true_eq]; omega), if_neg (by simp only [decide_eq_true_eq]; omega), if_neg (by simp only [decide_eq_true_eq]; omega), decide_eq_false (by omega)]
  rfl
/-- the first n positions of steps of y behind x -/
def posL (x y L : Int) (n : Nat) : List Int := (List.range n).map fun (j : Nat) => (x + (j : Int) * y) % L
theorem posL_len (x y L : Int) (n : Nat) : (posL x y L n).length = n := by simp [posL]
theorem posL_get {x y L : Int} {n i : Nat} (hi : i < n) : (posL x y L n).getD i 0 = (x + (i : Int) * y) % L := by
  simp [posL, List.getD_eq_getElem?_getD, hi]
theorem posL_succ (x y L : Int) (n : Nat) : posL x y L (n + 1) = posL x y L n ++ [(x + (n : Int) * y) % L] := by
  simp [posL, List.range_succ]
theorem posL_take {x y L : Int} {m n : Nat} (h : m ≤ n) : (posL x y L n).take m = posL x y L m := by
  unfold posL
  rw [← List.map_take, List.take_range, Nat.min_eq_left h]
theorem posL_in {x y L : Int} {n : Nat} (hL : 0 < L) : ∀ v ∈ posL x y L n, 0 ≤ v ∧ v < L := by
  intro v hv
  obtain ⟨j, _, rfl⟩ := List.mem_map.1 hv
  exact ⟨Int.emod_nonneg _ (by omega), Int.emod_lt_of_pos _ hL⟩
theorem set_next {α : Type} (d : α) (a : List α) (i m : Nat) (h : a.length = i) (y : α) : (a ++ List.replicate (m + 1) d).set i y = (a ++ [y]) ++ List.replicate m d := by
  subst h; simp [List.replicate_succ]
/-- Where a gram's positions begin, and how they go on. -/
def XY (L : Int) (k : S_api_Key) (g : ByteArray) (x y : Int) : Prop := 0 ≤ x ∧ x < L ∧ 1 ≤ y ∧ y < L ∧ ∀ h s : Int, bloom_drawn ⟨L, h, s⟩ k g = some (x, y, ⟨L, h, s⟩, x)
theorem xy_yes {L : Int} (h : Right L) (k : S_api_Key) {g : ByteArray} (hg : g.size ≤ 1000) : ∃ x y, XY L k g x y := by
  obtain ⟨h1, h2, h3⟩ := h
  obtain ⟨u, e1, u0, u1⟩ := parts_yes k (s := ByteArray.mk #[49]) (g := g) (by decide) hg
  obtain ⟨v, e2, v0, v1⟩ := parts_yes k (s := ByteArray.mk #[50]) (g := g) (by decide) hg
  have a0 := Int.emod_nonneg u (show L ≠ 0 by omega)
  have a1 := Int.emod_lt_of_pos u (show 0 < L by omega)
  have b0 := Int.emod_nonneg v (show L - 1 ≠ 0 by omega)
  have b1 := Int.emod_lt_of_pos v (show 0 < L - 1 by omega)
  refine ⟨u % L, 1 + v % (L - 1), a0, a1, by omega, by omega, fun hh s => ?_⟩
  unfold bloom_drawn
  simp only
  rw [e1, bind1_pure, wu64 (n := L) (by omega) (by omega), if_pos (by omega), e2, bind1_pure, wi64 (n := L - 1) (by omega) (by omega), wu64 (n := L - 1) (by omega) (by omega), if_pos (by omega), tmod_nn u0, tmod_nn v0, wi64 (n := u % L) (by omega) (by omega), wi64 (n := v % (L - 1)) (by omega) (by omega), wi64 (n := 1 + v % (L - 1)) (by omega) (by omega), bind1_pure]
theorem bind5_pure {α β γ δ ε ζ : Type} (a : α) (b : β) (c : γ) (d : δ) (e : ε) (f : α → β → γ → δ → ε → Option ζ) : bind5 (some (a, b, c, d, e)) f = f a b c d e := rfl
/-- the last position before the n-th -/
def lx (x y L : Int) : Nat → Int
  | 0 => x
  | n + 1 => (x + (n : Int) * y) % L
theorem positions_eq {p : S_api_Parameters} (h : PV p) (k : S_api_Key) {g : ByteArray} {x y : Int} (hxy : XY p.Length k g x y) : bloom_Positions p k g = some (posL x y p.Length p.Hashes.toNat, 0) := by
  obtain ⟨h1, h2, h3, h4, h5⟩ := id h
  obtain ⟨x0, x1, y0, y1, hd⟩ := hxy
  obtain ⟨r1, r2, r3⟩ := h1
  unfold bloom_Positions
  rw [check_yes h, bind1_pure, if_neg (by decide), if_pos (by omega), if_pos (by omega), show bloom_drawn p k g = some (x, y, p, x) from hd p.Hashes p.Salt, bind1_pure]
  have hlen : ((List.replicate p.Hashes.toNat (0 : Int)).length : Nat) = p.Hashes.toNat := List.length_replicate
  have hloop := loop_for (step := fun v : (List Int) × Int × Int × Int × Int × Int × Int × Int => bloom_Positions_l1 p v.1 v.2.1 v.2.2.1 v.2.2.2.1 v.2.2.2.2.1 v.2.2.2.2.2.1 v.2.2.2.2.2.2.1 v.2.2.2.2.2.2.2)
    (fun i => (posL x y p.Length i ++ List.replicate (p.Hashes.toNat - i) 0, (i : Int), (x + (i : Int) * y) % p.Length, y, p.Length, p.Hashes, p.Salt, lx x y p.Length i)) p.Hashes.toNat (posL x y p.Length p.Hashes.toNat) (fun i hi => by
      simp only [bloom_Positions_l1, hlen]
      have hn0 := Int.emod_nonneg (x + (i : Int) * y) (show p.Length ≠ 0 by omega)
      have hn1 := Int.emod_lt_of_pos (x + (i : Int) * y) (show 0 < p.Length by omega)
      have hf : bloom_drawn_f1 ((x + (i : Int) * y) % p.Length) y (⟨p.Length, p.Hashes, p.Salt⟩ : S_api_Parameters) (lx x y p.Length i) = some ((x + (i : Int) * y) % p.Length, (x + ((i + 1 : Nat) : Int) * y) % p.Length, y, ⟨p.Length, p.Hashes, p.Salt⟩, (x + (i : Int) * y) % p.Length) := by
        unfold bloom_drawn_f1
        simp only
        rw [if_pos (by omega), wi64 (by omega) (by omega), tmod_nn (by omega), Int.emod_add_emod]
        have : x + (i : Int) * y + y = x + ((i + 1 : Nat) : Int) * y := by rw [Int.natCast_add, Int.add_mul]; omega
        rw [this]
      rw [if_pos (by simp only [decide_eq_true_eq]; omega), hf, bind5_pure, if_pos (by omega), if_pos (by rw [List.length_append, posL_len, List.length_replicate]; omega), Int.toNat_natCast, Nat.zero_add, wi64 (n := (i : Int) + 1) (by omega) (by omega),
        show p.Hashes.toNat - i = (p.Hashes.toNat - (i + 1)) + 1 by omega, set_next _ _ _ _ (posL_len _ _ _ _), ← posL_succ]
      rfl) (by
      simp only [bloom_Positions_l1, hlen]
      rw [if_neg (by simp), Nat.sub_self, List.replicate_zero, List.append_nil]) (s := (List.replicate p.Hashes.toNat (0 : Int), 0, x, y, p.Length, p.Hashes, p.Salt, x)) (by
      simp only [posL, List.range_zero, List.map_nil, List.nil_append, Nat.sub_zero]
      rw [show ((0 : Nat) : Int) * y = 0 by simp, Int.add_zero, Int.emod_eq_of_lt x0 x1]
      rfl)
  show ((loop (fun v : (List Int) × Int × Int × Int × Int × Int × Int × Int => bloom_Positions_l1 p v.1 v.2.1 v.2.2.1 v.2.2.2.1 v.2.2.2.2.1 v.2.2.2.2.2.1 v.2.2.2.2.2.2.1 v.2.2.2.2.2.2.2) (List.replicate p.Hashes.toNat (0 : Int), 0, x, y, p.Length, p.Hashes, p.Salt, x)).bind _) = _
  rw [hloop]
  rfl
/-- A gram's positions. -/
noncomputable def PP (p : S_api_Parameters) (k : S_api_Key) (g : ByteArray) : List Int := match bloom_Positions p k g with
  | some (l, _) => l
  | none => []
theorem pp_spec {p : S_api_Parameters} (h : PV p) (k : S_api_Key) {g : ByteArray} (hg : g.size ≤ 1000) : bloom_Positions p k g = some (PP p k g, 0) ∧ (PP p k g).length = p.Hashes.toNat ∧ ∀ v ∈ PP p k g, 0 ≤ v ∧ v < p.Length := by
  obtain ⟨x, y, hxy⟩ := xy_yes h.1 k hg
  have e := positions_eq h k hxy
  have e2 : PP p k g = posL x y p.Length p.Hashes.toNat := by unfold PP; rw [e]
  rw [e2]
  exact ⟨e, posL_len _ _ _ _, posL_in (by have := h.1.1; omega)⟩
/-! Arrays of grams. -/
def encW (W : List Int) (ps : List Int) : List Int := ps.foldl (fun W i => setB W i.toNat) W
theorem encW_len : ∀ (ps W : List Int), (encW W ps).length = W.length
  | [], W => rfl
  | i :: ps, W => by
    show (encW (setB W i.toNat) ps).length = _
    rw [encW_len ps, setB_length]
theorem encW_w64 : ∀ (ps : List Int) {W : List Int}, W64 W → W64 (encW W ps)
  | [], W, h => h
  | i :: ps, W, h => encW_w64 ps (h.setB _)
theorem encW_bit : ∀ (ps : List Int) {W : List Int} {L : Int}, W64 W → L = 64 * (W.length : Int) → (∀ v ∈ ps, 0 ≤ v ∧ v < L) → ∀ k : Nat, bitAt (encW W ps) k = (bitAt W k || decide ((k : Int) ∈ ps))
  | [], W, L, _, _, _, k => by simp [encW]
  | i :: ps, W, L, h, hL, hp, k => by
    have h1 := hp i List.mem_cons_self
    show bitAt (encW (setB W i.toNat) ps) k = _
    rw [encW_bit ps (h.setB _) (by rw [setB_length]; exact hL) (fun v hv => hp v (List.mem_cons_of_mem _ hv)) k, bitAt_set h (by omega), Bool.or_assoc]
    congr 1
    rw [← Bool.decide_or]
    apply decide_eq_decide.2
    rw [List.mem_cons]
    constructor
    · rintro (h2 | h2)
      · left; omega
      · exact .inr h2
    · rintro (h2 | h2)
      · left; omega
      · exact .inr h2
theorem enc_inner {W ps : List Int} {L : Int} (hL : L = 64 * (W.length : Int)) (hW : W.length ≤ 8) (hp : ∀ v ∈ ps, 0 ≤ v ∧ v < L) (hn : ps.length ≤ 100) : loop (fun v : Int × (List Int) => bloom_Encode_l2 ps v.1 v.2) (0, W) = some (encW W ps) := by
  refine loop_for (fun i => ((i : Int), encW W (ps.take i))) ps.length _ (fun i hi => ?_) ?_ (by simp [encW])
  · simp only [bloom_Encode_l2]
    have hv : 0 ≤ ps.getD i 0 ∧ ps.getD i 0 < L := by
      rw [List.getD_eq_getElem?_getD, List.getElem?_eq_getElem hi]
      exact hp _ (List.getElem_mem hi)
    rw [if_pos (by simpa using hi), if_pos (by omega), if_pos (by omega), Int.toNat_natCast, Nat.zero_add, tdiv_nn hv.1, tmod_nn hv.1, wi64 (n := ps.getD i 0 / 64) (by omega) (by omega), if_pos (by omega), if_pos (by rw [encW_len]; omega), if_pos (by omega), wi64 (n := (i : Int) + 1) (by omega) (by omega), ishl_one (by omega) (by omega), Nat.zero_add,
      show (ps.getD i 0 / 64).toNat = (ps.getD i 0).toNat / 64 by omega, show (ps.getD i 0 % 64).toNat = (ps.getD i 0).toNat % 64 by omega]
    have ht : ps.take (i + 1) = ps.take i ++ [ps.getD i 0] := by
      rw [List.take_add_one, List.getD_eq_getElem?_getD, List.getElem?_eq_getElem hi]; rfl
    rw [ht]
    unfold encW
    rw [List.foldl_append]
    rfl
  · simp only [bloom_Encode_l2]
    rw [if_neg (by simp), List.take_of_length_le (Nat.le_refl _)]
noncomputable def encG (p : S_api_Parameters) (k : S_api_Key) (W : List Int) (gs : List ByteArray) : List Int := gs.foldl (fun W g => encW W (PP p k g)) W
def Short (gs : List ByteArray) : Prop := ∀ g ∈ gs, g.size ≤ 1000
theorem encG_len (p : S_api_Parameters) (k : S_api_Key) : ∀ (gs : List ByteArray) (W : List Int), (encG p k W gs).length = W.length
  | [], W => rfl
  | g :: gs, W => by
    show (encG p k (encW W (PP p k g)) gs).length = _
    rw [encG_len p k gs, encW_len]
theorem encG_w64 (p : S_api_Parameters) (k : S_api_Key) : ∀ (gs : List ByteArray) {W : List Int}, W64 W → W64 (encG p k W gs)
  | [], W, h => h
  | g :: gs, W, h => encG_w64 p k gs (encW_w64 _ h)
theorem encG_bit {p : S_api_Parameters} (h : PV p) (k : S_api_Key) : ∀ (gs : List ByteArray) {W : List Int}, Short gs → W64 W → p.Length = 64 * (W.length : Int) → ∀ j : Nat, bitAt (encG p k W gs) j = true ↔ (bitAt W j = true ∨ ∃ g ∈ gs, (j : Int) ∈ PP p k g)
  | [], W, _, _, _, j => by simp [encG]
  | g :: gs, W, hs, hw, hL, j => by
    have hg := pp_spec h k (hs g List.mem_cons_self)
    show bitAt (encG p k (encW W (PP p k g)) gs) j = true ↔ _
    rw [encG_bit h k gs (fun x hx => hs x (List.mem_cons_of_mem _ hx)) (encW_w64 _ hw) (by rw [encW_len]; exact hL) j, encW_bit (PP p k g) hw hL hg.2.2 j]
    simp only [Bool.or_eq_true, decide_eq_true_eq, List.mem_cons, exists_eq_or_imp, or_assoc]
def zeros (L : Int) : List Int := List.replicate (L / 64).toNat 0
theorem zeros_w64 (L : Int) : W64 (zeros L) := fun w hw => by rw [List.eq_of_mem_replicate hw]; decide
theorem zeros_bit (L : Int) (k : Nat) : bitAt (zeros L) k = false := by
  have : (zeros L).getD (k / 64) 0 = 0 := by
    unfold zeros
    rw [List.getD_eq_getElem?_getD, List.getElem?_replicate]
    split <;> rfl
  unfold bitAt
  rw [this]; simp
theorem zeros_len {L : Int} (h : Right L) : L = 64 * ((zeros L).length : Int) ∧ (zeros L).length ≤ 8 := by
  obtain ⟨h1, h2, h3⟩ := h
  unfold zeros
  rw [List.length_replicate]
  omega
/-- What an array of grams is. -/
theorem encode_eq {p : S_api_Parameters} (h : PV p) (k : S_api_Key) {gs : List ByteArray} (hs : Short gs) (hn : gs.length ≤ 80) : bloom_Encode p k gs = some (⟨p.Length, encG p k (zeros p.Length) gs⟩, 0) := by
  unfold bloom_Encode
  obtain ⟨z1, z2⟩ := zeros_len h.1
  rw [check_yes h, bind1_pure, if_neg (by decide), if_neg (by simp only [decide_eq_true_eq]; omega), new_bits h.1, bind2_pure]
  have hloop := loop_for (step := fun v : Int × (List Int) => bloom_Encode_l1 p k gs v.1 v.2) (fun i => ((i : Int), encG p k (zeros p.Length) (gs.take i))) gs.length (encG p k (zeros p.Length) gs) (fun i hi => by
      simp only [bloom_Encode_l1, Int.toNat_natCast]
      have hg : gs.getD i ByteArray.empty ∈ gs := by
        rw [List.getD_eq_getElem?_getD, List.getElem?_eq_getElem hi]
        exact List.getElem_mem hi
      obtain ⟨g1, g2, g3⟩ := pp_spec h k (hs _ hg)
      have hh := h.2.2.1
      rw [if_pos (by simpa using hi), if_pos (by omega), if_pos (by omega), g1, bind2_pure, enc_inner (L := p.Length) (by rw [encG_len]; exact z1) (by rw [encG_len]; exact z2) g3 (by omega), bind1_pure, wi64 (by omega) (by omega)]
      have ht : gs.take (i + 1) = gs.take i ++ [gs.getD i ByteArray.empty] := by
        rw [List.take_add_one, List.getD_eq_getElem?_getD, List.getElem?_eq_getElem hi]; rfl
      rw [ht]
      unfold encG
      rw [List.foldl_append]
      rfl) (by
      simp only [bloom_Encode_l1]
      rw [if_neg (by simp), List.take_of_length_le (Nat.le_refl _)]) (s := (0, zeros p.Length)) rfl
  show ((loop (fun v : Int × (List Int) => bloom_Encode_l1 p k gs v.1 v.2) (0, zeros p.Length)).bind _) = _
  rw [hloop]
  rfl
theorem encode_vb {p : S_api_Parameters} (h : PV p) (k : S_api_Key) (gs : List ByteArray) : VB ⟨p.Length, encG p k (zeros p.Length) gs⟩ := by
  obtain ⟨z1, z2⟩ := zeros_len h.1
  refine ⟨h.1, ?_⟩
  simp only [encG_len]
  omega
theorem encode_w64 (p : S_api_Parameters) (k : S_api_Key) (gs : List ByteArray) : W64 (encG p k (zeros p.Length) gs) := encG_w64 p k gs (zeros_w64 _)
theorem encode_bit {p : S_api_Parameters} (h : PV p) (k : S_api_Key) {gs : List ByteArray} (hs : Short gs) (j : Nat) : bitAt (encG p k (zeros p.Length) gs) j = true ↔ ∃ g ∈ gs, (j : Int) ∈ PP p k g := by
  rw [encG_bit h k gs hs (zeros_w64 _) (zeros_len h.1).1, zeros_bit]
  simp
end Go.Proofs.Ytfnojcalalncbaa
