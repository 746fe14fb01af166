/- Journals as lists of bytes: records in a chain, and what is read of bytes. -/
import Derived.Test.YtjedagkkeicpkaaPs
namespace Go.Proofs.Ytjedagkkeicpkaa
set_option linter.unusedVariables false
namespace Vm
/-- The bytes of a number, the most significant one first. -/
def be8 (x : Int) : List Int := [x / 72057594037927936 % 256, x / 281474976710656 % 256, x / 1099511627776 % 256, x / 4294967296 % 256, x / 16777216 % 256, x / 65536 % 256, x / 256 % 256, x % 256]
theorem be8_len (x : Int) : (be8 x).length = 8 := rfl
theorem be8_b8 (x : Int) : B8 (be8 x) := by
  intro y hy
  simp only [be8, List.mem_cons, List.not_mem_nil, or_false] at hy
  rcases hy with rfl | rfl | rfl | rfl | rfl | rfl | rfl | rfl <;> omega
theorem be8_inj {x y : Int} (hx : 0 ≤ x ∧ x < 18446744073709551616) (hy : 0 ≤ y ∧ y < 18446744073709551616) (h : be8 x = be8 y) : x = y := by
  simp only [be8, List.cons.injEq, and_true] at h
  omega
def hd4 (n : Nat) : List Int := [((n / 256 : Nat) : Int), ((n % 256 : Nat) : Int), 255 - ((n / 256 : Nat) : Int), 255 - ((n % 256 : Nat) : Int)]
theorem hd4_b8 {n : Nat} (h : n < 65536) : B8 (hd4 n) := by
  intro y hy
  simp only [hd4, List.mem_cons, List.not_mem_nil, or_false] at hy
  rcases hy with rfl | rfl | rfl | rfl <;> omega
section
variable (H : Int → List Int → Int)
/-- A record. -/
def rcd (b : Int) (p : List Int) : List Int := hd4 p.length ++ p ++ be8 (H b p)
theorem rcd_len (b : Int) (p : List Int) : (rcd H b p).length = 12 + p.length := by simp [rcd, hd4, be8]; omega
theorem rcd_b8 {b : Int} {p : List Int} (hp : B8 p) (hl : p.length < 65536) : B8 (rcd H b p) := ((hd4_b8 hl).append hp).append (be8_b8 _)
def recs : Int → List (List Int) → List Int
  | _, [] => []
  | b, p :: ps => rcd H b p ++ recs (H b p) ps
def lastS : Int → List (List Int) → Int
  | b, [] => b
  | b, p :: ps => lastS (H b p) ps
theorem recs_append : ∀ (ps qs : List (List Int)) (b : Int), recs H b (ps ++ qs) = recs H b ps ++ recs H (lastS H b ps) qs
  | [], qs, b => rfl
  | p :: ps, qs, b => by simp only [List.cons_append, recs, lastS, recs_append ps qs, List.append_assoc]
theorem lastS_append : ∀ (ps qs : List (List Int)) (b : Int), lastS H b (ps ++ qs) = lastS H (lastS H b ps) qs
  | [], qs, b => rfl
  | p :: ps, qs, b => by simp only [List.cons_append, lastS, lastS_append ps qs]
def lens : List (List Int) → Nat
  | [] => 0
  | p :: ps => 12 + p.length + lens ps
theorem recs_len : ∀ (ps : List (List Int)) (b : Int), (recs H b ps).length = lens ps
  | [], b => rfl
  | p :: ps, b => by simp only [recs, lens, List.length_append, rcd_len, recs_len ps]
theorem lens_append : ∀ (ps qs : List (List Int)), lens (ps ++ qs) = lens ps + lens qs
  | [], qs => by simp [lens]
  | p :: ps, qs => by simp only [List.cons_append, lens, lens_append ps qs]; omega
theorem recs_b8 : ∀ (ps : List (List Int)) (b : Int), (∀ p ∈ ps, B8 p ∧ p.length ≤ 60000) → B8 (recs H b ps)
  | [], b, _ => B8.nil
  | p :: ps, b, h => by
    have h1 := h p List.mem_cons_self
    exact (rcd_b8 H h1.1 (by omega)).append (recs_b8 ps _ fun q hq => h q (List.mem_cons_of_mem _ hq))
/-- What stands at the beginning of bytes: an error, or a payload. -/
def nxt (b : Int) (j : List Int) : Int ⊕ List Int :=
  if j.length < 4 then .inl 15
  else if j.getD 0 0 + j.getD 2 0 ≠ 255 ∨ j.getD 1 0 + j.getD 3 0 ≠ 255 then .inl 14
  else if 60000 < j.getD 0 0 * 256 + j.getD 1 0 then .inl 1
  else if j.length < 12 + (j.getD 0 0 * 256 + j.getD 1 0).toNat then .inl 15
  else if (j.drop (4 + (j.getD 0 0 * 256 + j.getD 1 0).toNat)).take 8 ≠ be8 (H b ((j.drop 4).take (j.getD 0 0 * 256 + j.getD 1 0).toNat)) then .inl 16
  else .inr ((j.drop 4).take (j.getD 0 0 * 256 + j.getD 1 0).toNat)
theorem nxt_cons (b x0 x1 x2 x3 : Int) (l : List Int) : nxt H b (x0 :: x1 :: x2 :: x3 :: l) =
    if x0 + x2 ≠ 255 ∨ x1 + x3 ≠ 255 then .inl 14 else if 60000 < x0 * 256 + x1 then .inl 1 else if l.length < 8 + (x0 * 256 + x1).toNat then .inl 15
    else if (l.drop (x0 * 256 + x1).toNat).take 8 ≠ be8 (H b (l.take (x0 * 256 + x1).toNat)) then .inl 16 else .inr (l.take (x0 * 256 + x1).toNat) := by
  have e1 : (x0 :: x1 :: x2 :: x3 :: l).length = l.length + 4 := rfl
  have e2 : ∀ n, (x0 :: x1 :: x2 :: x3 :: l).drop (4 + n) = l.drop n := fun n => by rw [Nat.add_comm]; rfl
  have e3 : (x0 :: x1 :: x2 :: x3 :: l).drop 4 = l := rfl
  have g0 : (x0 :: x1 :: x2 :: x3 :: l).getD 0 0 = x0 := rfl
  have g1 : (x0 :: x1 :: x2 :: x3 :: l).getD 1 0 = x1 := rfl
  have g2 : (x0 :: x1 :: x2 :: x3 :: l).getD 2 0 = x2 := rfl
  have g3 : (x0 :: x1 :: x2 :: x3 :: l).getD 3 0 = x3 := rfl
  unfold nxt
  rw [e1, e3, g0, g1, g2, g3, if_neg (by omega), e2]
  have e4 : (l.length + 4 < 12 + (x0 * 256 + x1).toNat) = (l.length < 8 + (x0 * 256 + x1).toNat) := by apply propext; omega
  simp only [e4]
theorem rcd_cons (b : Int) (p rest : List Int) : rcd H b p ++ rest = ((p.length / 256 : Nat) : Int) :: ((p.length % 256 : Nat) : Int) :: (255 - ((p.length / 256 : Nat) : Int)) :: (255 - ((p.length % 256 : Nat) : Int)) :: (p ++ (be8 (H b p) ++ rest)) := by
  simp [rcd, hd4]
theorem hd_nat (n : Nat) : (((n / 256 : Nat) : Int) * 256 + ((n % 256 : Nat) : Int)).toNat = n := by omega
theorem nxt_rcd {b b' : Int} {p : List Int} (rest : List Int) (hl : p.length ≤ 60000) : nxt H b' (rcd H b p ++ rest) = if be8 (H b p) ≠ be8 (H b' p) then .inl 16 else .inr p := by
  rw [rcd_cons, nxt_cons, hd_nat, if_neg (by omega), if_neg (by omega), if_neg (by simp only [List.length_append, be8_len]; omega)]
  have e1 : (p ++ (be8 (H b p) ++ rest)).take p.length = p := by simp
  have e2 : ((p ++ (be8 (H b p) ++ rest)).drop p.length).take 8 = be8 (H b p) := by
    rw [List.drop_left, List.take_append_of_le_length (by rw [be8_len]; omega), List.take_of_length_le (by rw [be8_len]; omega)]
  rw [e1, e2]
/-- a record that is cut off -/
theorem nxt_cut {b : Int} {p : List Int} (hl : p.length ≤ 60000) {k : Nat} (hk : k < 12 + p.length) : nxt H b ((rcd H b p).take k) = .inl 15 := by
  by_cases h4 : k < 4
  · unfold nxt; rw [if_pos (by rw [List.length_take]; omega)]
  · have e := rcd_cons H b p []
    rw [List.append_nil, List.append_nil] at e
    obtain ⟨m, rfl⟩ : ∃ m, k = m + 4 := ⟨k - 4, by omega⟩
    rw [e]
    simp only [List.take_succ_cons]
    rw [nxt_cons, hd_nat, if_neg (by omega), if_neg (by omega), if_pos (by rw [List.length_take, List.length_append, be8_len]; omega)]
/-- a byte of the lengths is another one -/
theorem nxt_len {b : Int} {p : List Int} (rest : List Int) {k : Nat} (hk : k < 4) {v : Int} (hv : v ≠ (rcd H b p).getD k 0) : nxt H b ((rcd H b p).set k v ++ rest) = .inl 14 := by
  have e : (rcd H b p) = ((p.length / 256 : Nat) : Int) :: ((p.length % 256 : Nat) : Int) :: (255 - ((p.length / 256 : Nat) : Int)) :: (255 - ((p.length % 256 : Nat) : Int)) :: (p ++ be8 (H b p)) := by simp [rcd, hd4]
  rw [e] at hv ⊢
  match k, hk, hv with
  | 0, _, hv => simp only [List.set_cons_zero, List.cons_append, List.getD_cons_zero] at hv ⊢; rw [nxt_cons, if_pos (by omega)]
  | 1, _, hv => simp only [List.set_cons_zero, List.set_cons_succ, List.cons_append, List.getD_cons_zero, List.getD_cons_succ] at hv ⊢; rw [nxt_cons, if_pos (by omega)]
  | 2, _, hv => simp only [List.set_cons_zero, List.set_cons_succ, List.cons_append, List.getD_cons_zero, List.getD_cons_succ] at hv ⊢; rw [nxt_cons, if_pos (by omega)]
  | 3, _, hv => simp only [List.set_cons_zero, List.set_cons_succ, List.cons_append, List.getD_cons_zero, List.getD_cons_succ] at hv ⊢; rw [nxt_cons, if_pos (by omega)]
/-- another payload of this length, or another sum -/
theorem nxt_other {b : Int} (p t rest : List Int) (ht : t.length = 8) (hl : p.length ≤ 60000) (hne : t ≠ be8 (H b p)) : nxt H b (hd4 p.length ++ p ++ t ++ rest) = .inl 16 := by
  have e : hd4 p.length ++ p ++ t ++ rest = ((p.length / 256 : Nat) : Int) :: ((p.length % 256 : Nat) : Int) :: (255 - ((p.length / 256 : Nat) : Int)) :: (255 - ((p.length % 256 : Nat) : Int)) :: (p ++ (t ++ rest)) := by simp [hd4]
  rw [e, nxt_cons, hd_nat, if_neg (by omega), if_neg (by omega), if_neg (by simp only [List.length_append]; omega)]
  have e1 : (p ++ (t ++ rest)).take p.length = p := by simp
  have e2 : ((p ++ (t ++ rest)).drop p.length).take 8 = t := by
    rw [List.drop_left, List.take_append_of_le_length (by omega), List.take_of_length_le (by omega)]
  rw [e1, e2, if_pos hne]
/-- What is read of bytes, if m records more are permitted: the payloads, their bytes, the last sum, the error. -/
def rd : Nat → Int → List Int → List (List Int) × Nat × Int × Int
  | _, b, [] => ([], 0, b, 0)
  | 0, b, _ :: _ => ([], 0, b, 1)
  | m + 1, b, x :: l => match nxt H b (x :: l) with
    | .inl e => ([], 0, b, e)
    | .inr p => (p :: (rd m (H b p) ((x :: l).drop (12 + p.length))).1, 12 + p.length + (rd m (H b p) ((x :: l).drop (12 + p.length))).2.1, (rd m (H b p) ((x :: l).drop (12 + p.length))).2.2)
theorem rd_nil (m : Nat) (b : Int) : rd H m b [] = ([], 0, b, 0) := by cases m <;> rfl
theorem rd_full {b : Int} {j : List Int} (hj : j ≠ []) : rd H 0 b j = ([], 0, b, 1) := by
  cases j with
  | nil => exact absurd rfl hj
  | cons x l => rfl
theorem rd_err {m : Nat} {b : Int} {j : List Int} {e : Int} (hj : j ≠ []) (h : nxt H b j = .inl e) : rd H (m + 1) b j = ([], 0, b, e) := by
  cases j with
  | nil => exact absurd rfl hj
  | cons x l => simp only [rd, h]
theorem rd_ok {m : Nat} {b : Int} {j p : List Int} (hj : j ≠ []) (h : nxt H b j = .inr p) : rd H (m + 1) b j = (p :: (rd H m (H b p) (j.drop (12 + p.length))).1, 12 + p.length + (rd H m (H b p) (j.drop (12 + p.length))).2.1, (rd H m (H b p) (j.drop (12 + p.length))).2.2) := by
  cases j with
  | nil => exact absurd rfl hj
  | cons x l => simp only [rd, h]
theorem rcd_ne (b : Int) (p rest : List Int) : rcd H b p ++ rest ≠ [] := by rw [rcd_cons]; simp
theorem rd_recs : ∀ (ps : List (List Int)) (m : Nat) (b : Int) (rest : List Int), (∀ p ∈ ps, p.length ≤ 60000) → ps.length ≤ m →
    rd H m b (recs H b ps ++ rest) = (ps ++ (rd H (m - ps.length) (lastS H b ps) rest).1, lens ps + (rd H (m - ps.length) (lastS H b ps) rest).2.1, (rd H (m - ps.length) (lastS H b ps) rest).2.2)
  | [], m, b, rest, _, _ => by simp [recs, lastS, lens]
  | p :: ps, 0, b, rest, _, h => by simp at h
  | p :: ps, m + 1, b, rest, hp, h => by
    have h1 := hp p List.mem_cons_self
    have hn := nxt_rcd H (b := b) (b' := b) (p := p) (recs H (H b p) ps ++ rest) h1
    rw [if_neg (fun h => h rfl)] at hn
    have ih := rd_recs ps m (H b p) rest (fun q hq => hp q (List.mem_cons_of_mem _ hq)) (by simpa using h)
    have hd : (rcd H b p ++ (recs H (H b p) ps ++ rest)).drop (12 + p.length) = recs H (H b p) ps ++ rest := by rw [← rcd_len H b p, List.drop_left]
    simp only [recs, List.append_assoc]
    rw [rd_ok H (rcd_ne H b p _) hn, hd, ih]
    simp only [List.length_cons, Nat.add_sub_add_right, lastS, lens, List.cons_append, Nat.add_assoc]
theorem rd_all (ps : List (List Int)) {m : Nat} (b : Int) (h : ∀ p ∈ ps, p.length ≤ 60000) (hm : ps.length ≤ m) : rd H m b (recs H b ps) = (ps, lens ps, lastS H b ps, 0) := by
  have := rd_recs H ps m b [] h hm
  rw [List.append_nil, rd_nil] at this
  simpa using this
end
end Vm
end Go.Proofs.Ytjedagkkeicpkaa
