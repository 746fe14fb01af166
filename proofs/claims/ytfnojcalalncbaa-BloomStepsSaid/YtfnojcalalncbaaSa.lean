/- Plain: SipHash of program and reference, as one function of the bytes. -/
import Derived.Test.YtfnojcalalncbaaBw
import Derived.Test.YtfnojcalalncbaaPs
import Derived.Test.YtfnojcalalncbaaGz
namespace Go.Proofs.Ytfnojcalalncbaa
open Vm
set_option linter.unusedVariables false
set_option linter.unusedSimpArgs false
/-- a rotation to the left -/
def rl64 (x n : Int) : Int := ior .u64 (ishl .u64 x n) (ishr .u64 x (64 - n))
theorem rot_eq (x : Int) : bits_RotateLeft64 x 13 = some (rl64 x 13) ∧ bits_RotateLeft64 x 16 = some (rl64 x 16) ∧ bits_RotateLeft64 x 17 = some (rl64 x 17) ∧ bits_RotateLeft64 x 21 = some (rl64 x 21) ∧ bits_RotateLeft64 x 32 = some (rl64 x 32) := by
  have h : ∀ n : Int, iand .u64 (IntKind.u64.wrap n) 63 = n → 0 ≤ n → IntKind.u64.wrap (64 - n) = 64 - n → 0 ≤ 64 - n → bits_RotateLeft64 x n = some (rl64 x n) := fun n h1 h2 h3 h4 => by
    unfold bits_RotateLeft64
    rw [h1, if_pos h2, h3, if_pos h4]
    rfl
  exact ⟨h 13 (by decide) (by decide) (by decide) (by decide), h 16 (by decide) (by decide) (by decide) (by decide), h 17 (by decide) (by decide) (by decide) (by decide), h 21 (by decide) (by decide) (by decide) (by decide), h 32 (by decide) (by decide) (by decide) (by decide)⟩
def ad (x y : Int) : Int := IntKind.u64.wrap (x + y)
def rndA (s : S_siphash_state) : Int := ad (rl64 (ad s.a s.b) 32) (ixor .u64 (rl64 s.d 16) (ad s.c s.d))
def rndC (s : S_siphash_state) : Int := ad (ad s.c s.d) (ixor .u64 (rl64 s.b 13) (ad s.a s.b))
/-- a round -/
def rnd (s : S_siphash_state) : S_siphash_state := ⟨rndA s, ixor .u64 (rl64 (ixor .u64 (rl64 s.b 13) (ad s.a s.b)) 17) (rndC s), rl64 (rndC s) 32, ixor .u64 (rl64 (ixor .u64 (rl64 s.d 16) (ad s.c s.d)) 21) (rndA s)⟩
def rnds (s : S_siphash_state) : Nat → S_siphash_state
  | 0 => s
  | n + 1 => rnd (rnds s n)
theorem rounds_step (n : Int) (i : Nat) (hi : (i : Int) < n) (hn : n ≤ 1000) (s : S_siphash_state) : siphash_state_rounds_l1 n i s.a s.b s.c s.d = some (.inl (((i + 1 : Nat) : Int), (rnd s).a, (rnd s).b, (rnd s).c, (rnd s).d)) := by
  unfold siphash_state_rounds_l1
  rw [if_pos (by simpa using hi)]
  simp only [(rot_eq _).1, (rot_eq _).2.1, (rot_eq _).2.2.1, (rot_eq _).2.2.2.1, (rot_eq _).2.2.2.2, bind1_pure]
  rw [wi64 (n := (i : Int) + 1) (by omega) (by omega)]
  rfl
theorem rounds_eq (s : S_siphash_state) (n : Nat) (hn : n ≤ 1000) : siphash_state_rounds s n = some (rnds s n) := by
  unfold siphash_state_rounds
  have := loop_for (step := fun v : Int × Int × Int × Int × Int => siphash_state_rounds_l1 n v.1 v.2.1 v.2.2.1 v.2.2.2.1 v.2.2.2.2) (fun i => ((i : Int), (rnds s i).a, (rnds s i).b, (rnds s i).c, (rnds s i).d)) n ((rnds s n).a, (rnds s n).b, (rnds s n).c, (rnds s n).d)
    (fun i hi => rounds_step n i (by omega) (by omega) (rnds s i)) (by simp only [siphash_state_rounds_l1]; rw [if_neg (by simp)]) (s := (0, s.a, s.b, s.c, s.d)) rfl
  rw [this]
  rfl
theorem rounds2 (s : S_siphash_state) : siphash_state_rounds s 2 = some (rnd (rnd s)) := rounds_eq s 2 (by decide)
theorem rounds4 (s : S_siphash_state) : siphash_state_rounds s 4 = some (rnd (rnd (rnd (rnd s)))) := rounds_eq s 4 (by decide)
/-- a group of bytes is taken -/
def wrd (s : S_siphash_state) (m : Int) : S_siphash_state := ⟨ixor .u64 (rnd (rnd ⟨s.a, s.b, s.c, ixor .u64 s.d m⟩)).a m, (rnd (rnd ⟨s.a, s.b, s.c, ixor .u64 s.d m⟩)).b, (rnd (rnd ⟨s.a, s.b, s.c, ixor .u64 s.d m⟩)).c, (rnd (rnd ⟨s.a, s.b, s.c, ixor .u64 s.d m⟩)).d⟩
theorem word_eq (s : S_siphash_state) (m : Int) : siphash_state_word s m = some (wrd s m) := by
  unfold siphash_state_word
  rw [rounds2, bind1_pure]
  rfl
/-- the number that the first n bytes are -/
def numN (l : List Int) : Nat → Int
  | 0 => 0
  | n + 1 => ior .u64 (numN l n) (ishl .u64 (IntKind.u64.wrap (l.getD n 0)) (8 * n))
theorem numN_take (l : List Int) : ∀ n, numN (l.take n) n = numN l n := by
  have : ∀ n m, m ≤ n → numN (l.take n) m = numN l m := by
    intro n m
    induction m with
    | zero => intro _; rfl
    | succ m ih =>
      intro h
      simp only [numN, ih (by omega)]
      have : (l.take n).getD m 0 = l.getD m 0 := by simp [List.getD_eq_getElem?_getD, List.getElem?_take, show m < n by omega]
      rw [this]
  exact fun n => this n n (Nat.le_refl n)
theorem number_eq (l : List Int) (hl : l.length ≤ 1000) : siphash_number l = some (numN l l.length) := by
  unfold siphash_number
  have := loop_for (step := fun v : Int × Int => siphash_number_l1 l v.1 v.2) (fun i => (numN l i, (i : Int))) l.length (numN l l.length)
    (fun i hi => by
      simp only [siphash_number_l1]
      rw [if_pos (by simpa using hi), if_pos (by omega), if_pos (by omega), wi64 (n := 8 * (i : Int)) (by omega) (by omega), if_pos (by omega), wi64 (n := (i : Int) + 1) (by omega) (by omega)]
      rfl) (by simp only [siphash_number_l1]; rw [if_neg (by simp)]) (s := (0, 0)) rfl
  rw [this]
  rfl
/-- behind n whole groups -/
def blk (l : List Int) (s : S_siphash_state) : Nat → S_siphash_state
  | 0 => s
  | n + 1 => wrd (blk l s n) (numN (l.drop (8 * n)) 8)
def st0 (k : S_api_Key) : S_siphash_state := ⟨ixor .u64 k.A 8317987319222330741, ixor .u64 k.B 7237128888997146477, ixor .u64 k.A 7816392313619706465, ixor .u64 k.B 8387220255154660723⟩
def lastW (l : List Int) : Int := ior .u64 (numN (l.drop (8 * (l.length / 8))) (l.length % 8)) (ishl .u64 (IntKind.u64.wrap (l.length : Int)) 56)
def fin (s : S_siphash_state) : Int := ixor .u64 (ixor .u64 (ixor .u64 s.a s.b) s.c) s.d
def lst (s : S_siphash_state) : S_siphash_state := rnd (rnd (rnd (rnd ⟨s.a, s.b, ixor .u64 s.c 255, s.d⟩)))
/-- the hash -/
def sipF (k : S_api_Key) (l : List Int) : Int := fin (lst (wrd (blk l (st0 k) (l.length / 8)) (lastW l)))
theorem sipF_in (k : S_api_Key) (l : List Int) : 0 ≤ sipF k l ∧ sipF k l < 18446744073709551616 := ⟨by unfold sipF fin ixor; exact wu64_lo _, by unfold sipF fin ixor; exact wu64_hi _⟩
theorem sip_eq (k : S_api_Key) {l : List Int} (hl : l.length ≤ 4611686018427387904) : siphash_Sum k l = some (sipF k l) := by
  unfold siphash_Sum
  have := loop_for (step := fun v : (List Int) × Int × Int × Int × Int => siphash_Sum_l1 v.1 v.2.1 v.2.2.1 v.2.2.2.1 v.2.2.2.2) (fun i => (l.drop (8 * i), (blk l (st0 k) i).a, (blk l (st0 k) i).b, (blk l (st0 k) i).c, (blk l (st0 k) i).d)) (l.length / 8)
    (l.drop (8 * (l.length / 8)), (blk l (st0 k) (l.length / 8)).a, (blk l (st0 k) (l.length / 8)).b, (blk l (st0 k) (l.length / 8)).c, (blk l (st0 k) (l.length / 8)).d)
    (fun i hi => by
      have hlen : (l.drop (8 * i)).length = l.length - 8 * i := List.length_drop
      simp only [siphash_Sum_l1]
      rw [if_pos (by simp only [decide_eq_true_eq, hlen]; omega), if_pos (by omega), number_eq _ (by rw [List.length_take]; omega), bind1_pure, word_eq, bind1_pure]
      have h8 : ((l.drop (8 * i)).take 8).length = 8 := by rw [List.length_take]; omega
      rw [h8, numN_take]
      have hd : ((l.drop (8 * i)).drop 8).take ((l.drop (8 * i)).length - 8) = l.drop (8 * (i + 1)) := by
        rw [List.drop_drop, List.take_of_length_le (by rw [List.length_drop, List.length_drop]; omega)]
        congr 1
      rw [hd]
      rfl) (by
      have hlen : (l.drop (8 * (l.length / 8))).length = l.length - 8 * (l.length / 8) := List.length_drop
      simp only [siphash_Sum_l1]
      rw [if_neg (by simp only [decide_eq_true_eq, hlen]; omega)])
    (s := (l, ixor .u64 k.A 8317987319222330741, ixor .u64 k.B 7237128888997146477, ixor .u64 k.A 7816392313619706465, ixor .u64 k.B 8387220255154660723)) rfl
  rw [this]
  have hlen : (l.drop (8 * (l.length / 8))).length = l.length % 8 := by rw [List.length_drop]; omega
  show ((siphash_number (l.drop (8 * (l.length / 8)))).bind _) = _
  rw [number_eq _ (by omega), bind1_pure, word_eq, bind1_pure, hlen]
  show (siphash_state_rounds _ 4).bind _ = _
  rw [rounds4, bind1_pure]
  rfl
end Go.Proofs.Ytfnojcalalncbaa
