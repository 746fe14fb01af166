/- Natural numbers as lists of digits of 32 bits. -/
import Derived.Test.YtilpgjoidgfbiaaGreatPa
namespace Go.Proofs.YtilpgjoidgfbiaaGreat
set_option linter.unusedVariables false
set_option linter.unusedSimpArgs false
namespace Vm
def val : List Int → Int
  | [] => 0
  | d :: l => d + 4294967296 * val l
/-- the powers of the base -/
def bp : Nat → Int
  | 0 => 1
  | n + 1 => 4294967296 * bp n
def U32 (l : List Int) : Prop := ∀ x ∈ l, 0 ≤ x ∧ x < 4294967296
theorem bp_pos (n : Nat) : 0 < bp n := by
  induction n with
  | zero => decide
  | succ n ih => simp only [bp]; omega
theorem bp_add (m n : Nat) : bp (m + n) = bp m * bp n := by
  induction m with
  | zero => simp [bp]
  | succ m ih => rw [show m + 1 + n = (m + n) + 1 by omega]; simp only [bp, ih]; grind
theorem bp_le {m n : Nat} (h : m ≤ n) : bp m ≤ bp n := by
  obtain ⟨k, rfl⟩ : ∃ k, n = m + k := ⟨n - m, by omega⟩
  rw [bp_add]
  have h1 := bp_pos m
  have h2 := bp_pos k
  have : bp m * 1 ≤ bp m * bp k := Int.mul_le_mul_of_nonneg_left (by omega) (by omega)
  omega
theorem U32.nil : U32 [] := fun _ hx => absurd hx (List.not_mem_nil)
theorem U32.cons {x : Int} {l : List Int} (h : 0 ≤ x ∧ x < 4294967296) (hl : U32 l) : U32 (x :: l) := by
  intro y hy
  rcases List.mem_cons.1 hy with rfl | hy
  · exact h
  · exact hl y hy
theorem U32.tail {x : Int} {l : List Int} (h : U32 (x :: l)) : U32 l := fun y hy => h y (List.mem_cons_of_mem _ hy)
theorem U32.head {x : Int} {l : List Int} (h : U32 (x :: l)) : 0 ≤ x ∧ x < 4294967296 := h x (List.mem_cons_self ..)
theorem U32.append {l k : List Int} (h : U32 l) (h' : U32 k) : U32 (l ++ k) := by
  intro x hx
  rcases List.mem_append.1 hx with hx | hx
  · exact h x hx
  · exact h' x hx
theorem U32.take {l : List Int} (h : U32 l) (n : Nat) : U32 (l.take n) := fun x hx => h x (List.mem_of_mem_take hx)
theorem U32.drop {l : List Int} (h : U32 l) (n : Nat) : U32 (l.drop n) := fun x hx => h x (List.mem_of_mem_drop hx)
theorem U32.set {l : List Int} (h : U32 l) (i : Nat) {x : Int} (hx : 0 ≤ x ∧ x < 4294967296) : U32 (l.set i x) := by
  intro y hy
  rcases List.mem_or_eq_of_mem_set hy with hy | rfl
  · exact h y hy
  · exact hx
theorem U32.get {l : List Int} (h : U32 l) (i : Nat) : 0 ≤ l.getD i 0 ∧ l.getD i 0 < 4294967296 := by
  rw [List.getD_eq_getElem?_getD]
  by_cases hi : i < l.length
  · rw [List.getElem?_eq_getElem hi]; exact h _ (List.getElem_mem hi)
  · rw [List.getElem?_eq_none (by omega)]; decide
theorem U32.rep (n : Nat) : U32 (List.replicate n 0) := by
  intro x hx
  rw [List.eq_of_mem_replicate hx]; decide
theorem val_rep (n : Nat) : val (List.replicate n 0) = 0 := by
  induction n with
  | zero => rfl
  | succ n ih => rw [List.replicate_succ, val, ih]; rfl
theorem val_append (l k : List Int) : val (l ++ k) = val l + bp l.length * val k := by
  induction l with
  | nil => simp [val, bp]
  | cons d l ih => simp only [List.cons_append, val, ih, List.length_cons, bp]; grind
theorem val_nonneg {l : List Int} (h : U32 l) : 0 ≤ val l := by
  induction l with
  | nil => decide
  | cons d l ih =>
    have h1 := h.head
    have h2 := ih h.tail
    simp only [val]; omega
theorem val_lt {l : List Int} (h : U32 l) : val l < bp l.length := by
  induction l with
  | nil => decide
  | cons d l ih =>
    have h1 := h.head
    have h2 := ih h.tail
    simp only [val, List.length_cons, bp]; omega
theorem val_set {l : List Int} {i : Nat} (hi : i < l.length) (x : Int) : val (l.set i x) = val l + (x - l.getD i 0) * bp i := by
  induction l generalizing i with
  | nil => simp at hi
  | cons d l ih =>
    cases i with
    | zero => simp only [List.set_cons_zero, val, List.getD_cons_zero, bp]; omega
    | succ i => simp only [List.set_cons_succ, val, List.getD_cons_succ, bp, ih (by simpa using hi)]; grind
theorem take_snoc {α : Type} (d : α) {l : List α} {i : Nat} (h : i < l.length) : l.take (i + 1) = l.take i ++ [l.getD i d] := by
  rw [List.take_add_one, List.getD_eq_getElem?_getD, List.getElem?_eq_getElem h]
  rfl
theorem val_take {l : List Int} {i : Nat} (h : i < l.length) : val (l.take (i + 1)) = val (l.take i) + l.getD i 0 * bp i := by
  rw [take_snoc 0 h, val_append, List.length_take, Nat.min_eq_left (by omega)]
  simp only [val]; grind
theorem val_split (l : List Int) {i : Nat} (h : i ≤ l.length) : val l = val (l.take i) + bp i * val (l.drop i) := by
  have := val_append (l.take i) (l.drop i)
  rw [List.take_append_drop, List.length_take, Nat.min_eq_left h] at this
  exact this
theorem val_drop {l : List Int} {i : Nat} (h : i < l.length) : val (l.drop i) = l.getD i 0 + 4294967296 * val (l.drop (i + 1)) := by
  rw [List.drop_eq_getElem_cons h, val, List.getD_eq_getElem?_getD, List.getElem?_eq_getElem h]
  rfl
theorem val_drop_zero {l : List Int} {i : Nat} (h : l.length ≤ i) : val (l.drop i) = 0 := by
  rw [List.drop_of_length_le h]; rfl
/-! without zeros at the end -/
def trimL : List Int → List Int
  | [] => []
  | d :: l => if trimL l = [] ∧ d = 0 then [] else d :: trimL l
def NoZ (l : List Int) : Prop := l = [] ∨ l.getD (l.length - 1) 0 ≠ 0
instance (l : List Int) : Decidable (NoZ l) := by unfold NoZ; infer_instance
def Canon (l : List Int) : Prop := U32 l ∧ NoZ l
theorem NoZ.cons {d : Int} {l : List Int} (h : NoZ (d :: l)) : NoZ l ∧ (l = [] → d ≠ 0) := by
  unfold NoZ at h ⊢
  cases l with
  | nil => simp at h; exact ⟨.inl rfl, fun _ => h⟩
  | cons e l => simp at h ⊢; exact h
theorem NoZ.mk {d : Int} {l : List Int} (h : NoZ l) (hd : l = [] → d ≠ 0) : NoZ (d :: l) := by
  unfold NoZ at h ⊢
  cases l with
  | nil => simp; exact hd rfl
  | cons e l => simp at h ⊢; exact h
theorem trimL_noz (l : List Int) : NoZ (trimL l) := by
  induction l with
  | nil => exact .inl rfl
  | cons d l ih =>
    simp only [trimL]
    split
    · exact .inl rfl
    · rename_i h; exact ih.mk fun e => fun hd => h ⟨e, hd⟩
theorem trimL_val (l : List Int) : val (trimL l) = val l := by
  induction l with
  | nil => rfl
  | cons d l ih =>
    simp only [trimL]
    split
    · rename_i h; rw [h.1] at ih; simp only [val] at ih ⊢; rw [← ih, h.2]; rfl
    · simp only [val, ih]
theorem trimL_u32 {l : List Int} (h : U32 l) : U32 (trimL l) := by
  induction l with
  | nil => exact h
  | cons d l ih =>
    simp only [trimL]
    split
    · exact U32.nil
    · exact U32.cons h.head (ih h.tail)
theorem trimL_length (l : List Int) : (trimL l).length ≤ l.length := by
  induction l with
  | nil => exact Nat.le_refl _
  | cons d l ih => simp only [trimL]; split <;> simp <;> omega
theorem trimL_self {l : List Int} (h : NoZ l) : trimL l = l := by
  induction l with
  | nil => rfl
  | cons d l ih =>
    have := h.cons
    simp only [trimL, ih this.1]
    rw [if_neg fun e => this.2 e.1 e.2]
theorem trimL_snoc_zero (l : List Int) : trimL (l ++ [0]) = trimL l := by
  induction l with
  | nil => simp [trimL]
  | cons d l ih => simp only [List.cons_append, trimL, ih]
theorem Canon.zero {l : List Int} (h : Canon l) (hv : val l = 0) : l = [] := by
  obtain ⟨h1, h2⟩ := h
  induction l with
  | nil => rfl
  | cons d l ih =>
    have a := h1.head
    have b := val_nonneg h1.tail
    have c := h2.cons
    simp only [val] at hv
    have := ih (by omega) h1.tail c.1
    exact absurd (by omega) (c.2 this)
theorem Canon.inj : ∀ {l k : List Int}, Canon l → Canon k → val l = val k → l = k := by
  intro l
  induction l with
  | nil => intro k _ hk h; exact (hk.zero h.symm).symm
  | cons d l ih =>
    intro k hl hk h
    cases k with
    | nil => exact hl.zero h
    | cons e k =>
      have a := hl.1.head
      have b := hk.1.head
      simp only [val] at h
      have h1 : d = e := by omega
      subst h1
      rw [ih ⟨hl.1.tail, hl.2.cons.1⟩ ⟨hk.1.tail, hk.2.cons.1⟩ (by omega)]
theorem trimL_canon {l : List Int} (h : U32 l) : Canon (trimL l) := ⟨trimL_u32 h, trimL_noz l⟩
theorem Canon.ge {l : List Int} (h : Canon l) : l.length = 0 ∨ bp (l.length - 1) ≤ val l := by
  obtain ⟨h1, h2⟩ := h
  induction l with
  | nil => exact .inl rfl
  | cons d l ih =>
    right
    have a := h1.head
    have b := val_nonneg h1.tail
    have c := h2.cons
    cases l with
    | nil =>
      have := c.2 rfl
      simp only [List.length_cons, List.length_nil, val]
      show bp 0 ≤ _
      simp only [bp]; omega
    | cons e l =>
      rcases ih h1.tail c.1 with h | h
      · simp at h
      · simp only [List.length_cons, Nat.add_sub_cancel] at h ⊢
        rw [val, bp]; omega
/-- how many digits a number has -/
theorem Canon.len_le {l : List Int} (h : Canon l) {n : Nat} : l.length ≤ n ↔ val l < bp n := by
  constructor
  · intro h1
    have := val_lt h.1
    have := bp_le h1
    omega
  · intro h1
    rcases h.ge with h2 | h2
    · omega
    · rcases Nat.lt_or_ge n l.length with h3 | h3
      · have := bp_le (show n ≤ l.length - 1 by omega); omega
      · exact h3
def natF : Nat → Int → List Int
  | 0, _ => []
  | f + 1, v => if v ≤ 0 then [] else v % 4294967296 :: natF f (v / 4294967296)
/-- the digits of a number -/
def nat32 (v : Int) : List Int := natF v.toNat v
theorem natF_spec : ∀ (f : Nat) (v : Int), 0 ≤ v → v ≤ f → Canon (natF f v) ∧ val (natF f v) = v := by
  intro f
  induction f with
  | zero => intro v h0 h1; have : v = 0 := by omega
            subst this; exact ⟨⟨U32.nil, .inl rfl⟩, rfl⟩
  | succ f ih =>
    intro v h0 h1
    simp only [natF]
    split
    · have : v = 0 := by omega
      subst this; exact ⟨⟨U32.nil, .inl rfl⟩, rfl⟩
    · obtain ⟨h2, h3⟩ := ih (v / 4294967296) (by omega) (by omega)
      refine ⟨⟨U32.cons (by omega) h2.1, h2.2.mk fun e => ?_⟩, ?_⟩
      · rw [e] at h3; simp only [val] at h3; omega
      · simp only [val, h3]; omega
theorem nat32_canon {v : Int} (h : 0 ≤ v) : Canon (nat32 v) := (natF_spec v.toNat v h (by omega)).1
theorem nat32_val {v : Int} (h : 0 ≤ v) : val (nat32 v) = v := (natF_spec v.toNat v h (by omega)).2
theorem nat32_of {l : List Int} (h : Canon l) : nat32 (val l) = l := (nat32_canon (val_nonneg h.1)).inj h (nat32_val (val_nonneg h.1))
theorem trimL_nat {l : List Int} (h : U32 l) : trimL l = nat32 (val l) := (trimL_canon h).inj (nat32_canon (val_nonneg h)) (by rw [trimL_val, nat32_val (val_nonneg h)])
theorem nat32_len {v : Int} (h : 0 ≤ v) {n : Nat} : (nat32 v).length ≤ n ↔ v < bp n := by
  rw [(nat32_canon h).len_le, nat32_val h]
theorem nat32_nil {v : Int} (h : 0 ≤ v) : nat32 v = [] ↔ v = 0 := by
  constructor
  · intro e
    have := nat32_val h
    rw [e] at this
    exact this.symm
  · rintro rfl; rfl
theorem nat32_inj {v w : Int} (hv : 0 ≤ v) (hw : 0 ≤ w) : nat32 v = nat32 w ↔ v = w := by
  constructor
  · intro e
    have := nat32_val hv
    rw [e, nat32_val hw] at this
    exact this.symm
  · rintro rfl; rfl
/-! words -/
theorem wu32_eq (n : Int) : IntKind.u32.wrap n = n % 4294967296 := by
  simp [IntKind.wrap, IntKind.bits, IntKind.signed]
theorem wu32 {n : Int} (h0 : 0 ≤ n) (h1 : n < 4294967296) : IntKind.u32.wrap n = n := by rw [wu32_eq]; omega
theorem ishr_eq (k : IntKind) {x : Int} {s : Nat} (hs : s ≤ k.bits) : ishr k x s = x / 2 ^ s := by
  show x.fdiv (2 ^ min (s : Int).toNat k.bits) = _
  rw [Int.toNat_natCast, Nat.min_eq_left hs]
  exact Int.fdiv_eq_ediv_of_nonneg _ (Int.le_of_lt (Int.pow_pos (by decide)))
theorem shr32 (x : Int) : ishr .u64 x 32 = x / 4294967296 := ishr_eq .u64 (s := 32) (by decide)
theorem shr63 (x : Int) : ishr .u64 x 63 = x / 9223372036854775808 := ishr_eq .u64 (s := 63) (by decide)
end Vm
end Go.Proofs.YtilpgjoidgfbiaaGreat
