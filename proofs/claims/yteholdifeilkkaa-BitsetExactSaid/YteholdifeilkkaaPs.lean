/- Strings as lists of numbers. -/
import Derived.Test.YteholdifeilkkaaPa
import Derived.Laws.Strings
namespace Go.Proofs.Yteholdifeilkkaa
namespace Vm
/-- bytes -/
def B8 (l : List Int) : Prop := ∀ x ∈ l, 0 ≤ x ∧ x < 256
theorem B8.nil : B8 [] := fun _ hx => absurd hx (List.not_mem_nil)
theorem B8.cons {x : Int} {l : List Int} (h : 0 ≤ x ∧ x < 256) (hl : B8 l) : B8 (x :: l) := by
  intro y hy
  rcases List.mem_cons.1 hy with rfl | hy
  · exact h
  · exact hl y hy
theorem B8.append {l k : List Int} (h : B8 l) (h' : B8 k) : B8 (l ++ k) := by
  intro x hx
  rcases List.mem_append.1 hx with hx | hx
  · exact h x hx
  · exact h' x hx
theorem B8.get {l : List Int} (h : B8 l) {i : Nat} (hi : i < l.length) : 0 ≤ l.getD i 0 ∧ l.getD i 0 < 256 := by
  rw [List.getD_eq_getElem?_getD, List.getElem?_eq_getElem hi]
  exact h _ (List.getElem_mem hi)
theorem B8.take {l : List Int} (h : B8 l) (n : Nat) : B8 (l.take n) := fun x hx => h x (List.mem_of_mem_take hx)
theorem B8.drop {l : List Int} (h : B8 l) (n : Nat) : B8 (l.drop n) := fun x hx => h x (List.mem_of_mem_drop hx)
theorem bytesL_b8 (s : ByteArray) : B8 (bytesL s) := by
  intro x hx
  obtain ⟨b, _, rfl⟩ := List.mem_map.1 hx
  have := b.toNat_lt
  omega
theorem strOf_data (xs : List Int) : (strOf xs).data.toList = xs.map fun x => UInt8.ofNat x.toNat := by
  unfold strOf bytesOf
  simp only
  apply List.ext_getElem?
  intro i
  by_cases hi : i < xs.length
  · rw [tab_get _ _ _ _ hi, List.getElem?_map, List.getElem?_eq_getElem hi, Nat.zero_add, List.getD_eq_getElem?_getD, List.getElem?_eq_getElem hi]
    rfl
  · rw [List.getElem?_eq_none (by rw [tab_length]; omega), List.getElem?_eq_none (by simp; omega)]
theorem bytesL_strOf {xs : List Int} (h : B8 xs) : bytesL (strOf xs) = xs := by
  unfold bytesL
  rw [strOf_data, List.map_map]
  conv => rhs; rw [← List.map_id xs]
  apply List.map_congr_left
  intro x hx
  have := h x hx
  simp only [Function.comp, id, UInt8.toNat_ofNat']
  omega
theorem strOf_size (xs : List Int) : (strOf xs).size = xs.length := by
  have h : (strOf xs).size = (strOf xs).data.toList.length := by rw [Array.length_toList]; rfl
  rw [h, strOf_data]
  simp
theorem bytesL_inj {s t : ByteArray} : bytesL s = bytesL t ↔ s = t := by
  constructor
  · intro h
    unfold bytesL at h
    have : s.data.toList = t.data.toList := by
      apply List.map_inj_right (f := fun b : UInt8 => (b.toNat : Int)) (by intro a b hab; exact UInt8.toNat_inj.1 (Int.ofNat.inj hab)) |>.1 h
    cases s; cases t
    simp only at this
    rw [Array.toList_inj.1 this]
  · rintro rfl; rfl
theorem strOf_bytesL (s : ByteArray) : strOf (bytesL s) = s := bytesL_inj.1 (bytesL_strOf (bytesL_b8 s))
theorem str_ex (s : ByteArray) : ∃ l, B8 l ∧ s = strOf l := ⟨bytesL s, bytesL_b8 s, (strOf_bytesL s).symm⟩
theorem strOf_inj {l k : List Int} (h : B8 l) (h' : B8 k) : strOf l = strOf k ↔ l = k := by
  rw [← bytesL_inj, bytesL_strOf h, bytesL_strOf h']
theorem str_eq (s t : ByteArray) : (s.toList == t.toList) = decide (s = t) := by
  rw [Go.ByteArray.toList_eq, Go.ByteArray.toList_eq]
  by_cases h : s = t
  · subst h; simp
  · rw [decide_eq_false h]
    apply Bool.eq_false_iff.2
    intro h'
    apply h
    have := eq_of_beq h'
    cases s; cases t
    simp only at this
    rw [Array.toList_inj.1 this]
theorem str_at (s : ByteArray) (i : Nat) : ((s.data.toList.getD i 0).toNat : Int) = (bytesL s).getD i 0 := by
  unfold bytesL
  simp only [List.getD_eq_getElem?_getD, List.getElem?_map]
  cases s.data.toList[i]? <;> rfl
theorem bytesL_append (s t : ByteArray) : bytesL (s ++ t) = bytesL s ++ bytesL t := by
  unfold bytesL
  rw [ByteArray.data_append, Array.toList_append, List.map_append]
theorem strOf_append {l k : List Int} (h : B8 l) (h' : B8 k) : strOf l ++ strOf k = strOf (l ++ k) := by
  rw [← bytesL_inj, bytesL_append, bytesL_strOf h, bytesL_strOf h', bytesL_strOf (h.append h')]
theorem bytesL_extract (s : ByteArray) (i j : Nat) : bytesL (s.extract i j) = ((bytesL s).drop i).take (j - i) := by
  unfold bytesL
  rw [ByteArray.data_extract, Array.toList_extract, List.extract_eq_take_drop, List.map_take, List.map_drop]
theorem strOf_extract {l : List Int} (h : B8 l) (i j : Nat) : (strOf l).extract i j = strOf ((l.drop i).take (j - i)) := by
  rw [← bytesL_inj, bytesL_extract, bytesL_strOf h, bytesL_strOf ((h.drop i).take _)]
/-- the order of lists of numbers, as texts are ordered -/
def lessL : List Int → List Int → Bool
  | [], [] => false
  | [], _ :: _ => true
  | _ :: _, [] => false
  | a :: l, b :: k => decide (a < b) || (a == b && lessL l k)
theorem str_less (s t : ByteArray) : Op.bytesLess s.toList t.toList = lessL (bytesL s) (bytesL t) := by
  rw [Go.ByteArray.toList_eq, Go.ByteArray.toList_eq]
  unfold bytesL
  generalize s.data.toList = a
  generalize t.data.toList = b
  induction a generalizing b with
  | nil => cases b <;> simp [Op.bytesLess, lessL]
  | cons x a ih =>
    cases b with
    | nil => simp [Op.bytesLess, lessL]
    | cons y b =>
      simp only [Op.bytesLess, lessL, List.map_cons, ih]
      have h1 : decide (x < y) = decide ((x.toNat : Int) < (y.toNat : Int)) := by
        apply decide_eq_decide.2
        rw [UInt8.lt_iff_toNat_lt]
        omega
      have h2 : (x == y) = ((x.toNat : Int) == (y.toNat : Int)) := by
        rw [Bool.eq_iff_iff]
        simp only [beq_iff_eq]
        rw [← UInt8.toNat_inj]
        omega
      rw [h1, h2]
end Vm
end Go.Proofs.Yteholdifeilkkaa
