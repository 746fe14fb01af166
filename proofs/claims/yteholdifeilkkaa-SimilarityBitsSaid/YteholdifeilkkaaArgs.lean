/- What a call is told of its arguments, by their types: numbers, strings, slices, pairs of numbers. -/
import Derived.Test.YteholdifeilkkaaMem
import Derived.WalkKit
import Derived.ProofKit
import Derived.OpenShut
import Derived.ShutString
import Derived.ChangeOld
import Derived.ChangeSame
import Derived.Below
import Derived.Deep.Strs
namespace Go.Proofs.Yteholdifeilkkaa
open Go.ChangeShapes Go.WideShapes Go.ChangeAt Go.RowKit
open Go.ChangeMaps (open_string shut_string)

/-- What a walk is told of a slice of integers that came in. -/
def RowI (k : IntKind) (w : World) (a : Option Addr) (len cap : Nat) (zs : List Int) : Prop :=
  (a = none ∧ len = 0 ∧ cap = 0 ∧ zs = []) ∨
  ∃ x, a = some x ∧ len ≤ cap ∧ cap ≤ maxLen ∧ zs.length = cap ∧ (∀ i, i < zs.length → w.cell? (x.add i) = some (.int k (zs.getD i 0))) ∧ ∀ n ∈ zs, (Lit.int k n).wf = true
theorem addr_of_cell {w : World} {x : Addr} {v : Value} (h : w.cell? x = some v) : x.spot = none := by
  unfold World.cell? at h
  split at h
  · split at h
    · cases h
    · rename_i hs; cases hx : x.spot with
      | none => rfl
      | some _ => rw [hx] at hs; simp at hs
  · cases h
theorem addr_plain {w : World} {x : Addr} {v : Value} (h : w.cell? (x.add 0) = some v) : x = ⟨x.block, x.off, none⟩ := by
  have h0 := addr_of_cell h
  have : (x.add 0).spot = x.spot := by simp [Addr.add]
  rw [this] at h0
  cases x; simp at h0; simp [h0]
theorem RowI.cells {k : IntKind} {w : World} {a : Option Addr} {len cap : Nat} {zs : List Int} (h : RowI k w a len cap zs) : len = (zs.take len).length ∧ Cells w a ((zs.take len).map fun z => .int k z) := by
  rcases h with ⟨rfl, rfl, rfl, rfl⟩ | ⟨x, rfl, h1, _, h3, h4, _⟩
  · exact ⟨rfl, Cells.nil _ _⟩
  · refine ⟨by rw [List.length_take]; omega, fun i hi => ?_⟩
    rw [List.length_map, List.length_take] at hi
    have hc := h4 i (by omega)
    have hx := addr_plain (h4 0 (by omega))
    refine ⟨x.block, x.off, by rw [← hx], ?_⟩
    rw [hx, Addr.add_lit] at hc
    rw [hc]; simp [List.getD_eq_getElem?_getD, show i < zs.length by omega]
theorem Cells.low {w : World} {q : Option Addr} {l : List Value} (h : Cells w q l) (hl : 0 < l.length) : ∀ x, q = some x → x.block < w.heap.size := by
  intro x hx
  obtain ⟨b, o, e, hc⟩ := h 0 hl
  rw [hx] at e
  injection e with e
  subst e
  exact lt_of_cell hc
theorem RowI.low {k : IntKind} {w : World} {a : Option Addr} {len cap : Nat} {zs : List Int} (h : RowI k w a len cap zs) (hl : 0 < len) : ∀ x, a = some x → x.block < w.heap.size :=
  h.cells.2.low (by have := h.cells.1; rw [List.length_map]; omega)

section
variable {H : Type} {enc : TypeId × Value → H} {P : Program} {W : World} {base : Nat} {sp : Nat → Bool} {t e : TypeId} {v : Value} {d : DataW H} {p : List MemPlace}
theorem wf_int {k : IntKind} {x : Int} (h : (Lit.int k x).wf = true) : k.min ≤ x ∧ x ≤ k.max := by simpa [Lit.wf] using h
theorem arg_int {k : IntKind} (ht : P.underlying t = some (.int k)) (hv : Value.okWide P W .any base t v) (h : DataW.Trod enc P W 0 sp true t v d p) : ∃ x : Int, v = .int k x ∧ k.min ≤ x ∧ x ≤ k.max := by
  obtain ⟨x, rfl, rfl, rfl, hw⟩ := open_int ht hv h
  exact ⟨x, rfl, wf_int hw⟩
theorem arg_i64 (ht : P.underlying t = some (.int .i64)) (hv : Value.okWide P W .any base t v) (h : DataW.Trod enc P W 0 sp true t v d p) : ∃ x : Int, v = .int .i64 x ∧ -9223372036854775808 ≤ x ∧ x ≤ 9223372036854775807 := by
  obtain ⟨x, rfl, h1, h2⟩ := arg_int ht hv h
  exact ⟨x, rfl, h1, h2⟩
theorem arg_u8 (ht : P.underlying t = some (.int .u8)) (hv : Value.okWide P W .any base t v) (h : DataW.Trod enc P W 0 sp true t v d p) : ∃ m : Nat, v = .int .u8 (m : Int) ∧ m ≤ 255 := by
  obtain ⟨x, rfl, h1, h2⟩ := arg_int ht hv h
  have h1 : (0 : Int) ≤ x := h1
  have h2 : x ≤ 255 := h2
  obtain ⟨m, rfl⟩ := Int.eq_ofNat_of_zero_le h1
  exact ⟨m, rfl, by omega⟩
theorem arg_u64 (ht : P.underlying t = some (.int .u64)) (hv : Value.okWide P W .any base t v) (h : DataW.Trod enc P W 0 sp true t v d p) : ∃ x : UInt64, v = .int .u64 (T64 x) := by
  obtain ⟨x, rfl, h1, h2⟩ := arg_int ht hv h
  have h1 : (0 : Int) ≤ x := h1
  have h2 : x ≤ 18446744073709551615 := h2
  exact ⟨_, by rw [← T64_of x h1 (by omega)]⟩
theorem arg_bool (ht : P.underlying t = some .bool) (hv : Value.okWide P W .any base t v) (h : DataW.Trod enc P W 0 sp true t v d p) : ∃ b : Bool, v = .bool b := by
  obtain ⟨b, rfl, rfl, rfl⟩ := open_bool ht hv h
  exact ⟨b, rfl⟩
theorem arg_string (ht : P.underlying t = some .string) (hv : Value.okWide P W .any base t v) (h : DataW.Trod enc P W 0 sp true t v d p) : ∃ s : ByteArray, v = .string s ∧ s.size ≤ maxLen := by
  obtain ⟨s, rfl, rfl, rfl, hs⟩ := open_string ht hv h
  exact ⟨s, rfl, hs⟩
theorem arg_ints {k : IntKind} (ht : P.underlying t = some (.slice e)) (he : P.underlying e = some (.int k)) (hc : P.cellsOf e = 1) (hv : Value.okWide P W .any base t v) (h : DataW.Trod enc P W 0 (fun _ => true) true t v d p) :
    ∃ a n c zs, v = .slice a n c ∧ RowI k W a n c zs := by
  obtain ⟨a0, len0, cap0, rfl⟩ := okWide_slice ht hv
  obtain ⟨fuel, hf⟩ := h
  rcases open_ints ht he hc hf with ⟨hcs, _⟩ | ⟨x, l, c, zs, hcs, _, hl, hm, hz, _, hcell, hwz⟩
  · simp [Value.cells] at hcs
    obtain ⟨rfl, rfl, rfl⟩ := hcs
    exact ⟨_, _, _, [], rfl, .inl ⟨rfl, rfl, rfl, rfl⟩⟩
  · simp [Value.cells] at hcs
    obtain ⟨rfl, rfl, rfl⟩ := hcs
    exact ⟨_, _, _, zs, rfl, .inr ⟨_, rfl, hl, hm, by simpa using hz, hcell, hwz⟩⟩
theorem bytes_of_ints (zs : List Int) (h : ∀ n ∈ zs, (Lit.int .u8 n).wf = true) : ∃ l : List UInt8, zs = l.map T8 := by
  induction zs with
  | nil => exact ⟨[], rfl⟩
  | cons z zs ih =>
    obtain ⟨l, hl⟩ := ih fun n hn => h n (List.mem_cons_of_mem _ hn)
    have h1 := wf_int (h z (List.mem_cons_self ..))
    have h2 : (0 : Int) ≤ z := h1.1
    have h3 : z ≤ 255 := h1.2
    refine ⟨UInt8.ofNat z.toNat :: l, ?_⟩
    have e : z = T8 (UInt8.ofNat z.toNat) := by unfold T8; rw [UInt8.toNat_ofNat']; omega
    rw [List.map_cons, ← e, hl]
theorem arg_bytes (ht : P.underlying t = some (.slice e)) (he : P.underlying e = some (.int .u8)) (hc : P.cellsOf e = 1) (hv : Value.okWide P W .any base t v) (h : DataW.Trod enc P W 0 (fun _ => true) true t v d p) :
    ∃ a n c, ∃ l : List UInt8, v = .slice a n c ∧ n = l.length ∧ n ≤ c ∧ c ≤ maxLen ∧ Cells W a (bytesV l) := by
  obtain ⟨a, n, c, zs, rfl, hr⟩ := arg_ints ht he hc hv h
  have hcs := hr.cells
  have hz : ∀ m ∈ zs.take n, (Lit.int .u8 m).wf = true := by
    rcases hr with ⟨_, _, _, rfl⟩ | ⟨x, _, _, _, _, _, h5⟩
    · intro m hm; simp at hm
    · intro m hm; exact h5 m (List.mem_of_mem_take hm)
  have hcap : n ≤ c ∧ c ≤ maxLen := by
    rcases hr with ⟨_, rfl, rfl, rfl⟩ | ⟨x, _, h1, h2, _⟩
    · simp
    · exact ⟨h1, h2⟩
  obtain ⟨l, hl⟩ := bytes_of_ints _ hz
  rw [hl, List.map_map, List.length_map] at hcs
  exact ⟨a, n, c, l, rfl, hcs.1, hcap.1, hcap.2, hcs.2⟩
theorem arg_strs (ht : P.underlying t = some (.slice e)) (he : P.underlying e = some .string) (hc : P.cellsOf e = 1) (hv : Value.okWide P W .any base t v) (h : DataW.Trod enc P W 0 sp true t v d p) :
    ∃ a n c, ∃ ss : List ByteArray, v = .slice a n c ∧ n = ss.length ∧ n ≤ c ∧ c ≤ maxLen ∧ Cells W a (strV ss) ∧ ∀ s ∈ ss, s.size ≤ maxLen := by
  obtain ⟨a0, len0, cap0, rfl⟩ := okWide_slice ht hv
  obtain ⟨fuel, hf⟩ := h
  rcases Deep.open_strs ht he hc hf with ⟨hcs, _⟩ | ⟨x, l, c, m, S, hcs, _, hl, hm, hmm, _, hS⟩
  · simp [Value.cells] at hcs
    obtain ⟨rfl, rfl, rfl⟩ := hcs
    exact ⟨_, _, _, [], rfl, rfl, by simp, by simp, Cells.nil _ _, by simp⟩
  · simp [Value.cells] at hcs
    obtain ⟨rfl, rfl, rfl⟩ := hcs
    have hlm : len0 ≤ m := by rw [hmm]; split <;> omega
    refine ⟨_, _, _, (List.range len0).map S, rfl, by simp, hl, hm, fun i hi => ?_, fun s hs => ?_⟩
    · have hi' : i < len0 := by simpa [strV] using hi
      have h1 := (hS i (by omega)).1
      have hx := addr_plain (hS 0 (by omega)).1
      refine ⟨x.block, x.off, by rw [← hx], ?_⟩
      rw [hx, Addr.add_lit] at h1
      rw [h1]; simp [strV]
    · obtain ⟨i, hi, rfl⟩ := List.mem_map.1 hs
      exact (hS i (by have := List.mem_range.1 hi; omega)).2
theorem arg_two64 {f0 f1 : Field} (ht : P.underlying t = some (.struct #[f0, f1])) (h0 : P.underlying f0.type = some (.int .u64)) (h1 : P.underlying f1.type = some (.int .u64)) (c0 : P.cellsOf f0.type = 1) (c1 : P.cellsOf f1.type = 1) (ct : P.cellsOf t = 2) (o0 : f0.offset = 0) (o1 : f1.offset = 1)
    (hv : Value.okWide P W .any base t v) (h : DataW.Trod enc P W 0 sp true t v d p) : ∃ a b : UInt64, v = .agg #[.int .u64 (T64 a), .int .u64 (T64 b)] := by
  obtain ⟨cs, rfl, hsz⟩ := okWide_struct ht hv
  rw [ct] at hsz
  obtain ⟨l⟩ := cs
  match l, hsz with
  | [x0, x1], _ =>
  obtain ⟨fuel, hf⟩ := h
  obtain ⟨y0, y1, m, hx, _, hy0, hy1⟩ := trod_struct2 ht hf
  obtain ⟨a, e0, _, wa⟩ := DataW.trod_int h0 hy0
  obtain ⟨b, e1, _, wb⟩ := DataW.trod_int h1 hy1
  simp [Value.cells, c0, c1, o0, o1] at e0 e1
  subst e0 e1
  have a1 := wf_int wa
  have b1 := wf_int wb
  have a2 : (0 : Int) ≤ a := a1.1
  have a3 : a ≤ 18446744073709551615 := a1.2
  have b2 : (0 : Int) ≤ b := b1.1
  have b3 : b ≤ 18446744073709551615 := b1.2
  refine ⟨UInt64.ofNat a.toNat, UInt64.ofNat b.toNat, ?_⟩
  rw [← T64_of a a2 (by omega), ← T64_of b b2 (by omega)]
end
theorem Try.cells1 : Try.prog.cellsOf 3 = 1 := by kernel_rfl
end Go.Proofs.Yteholdifeilkkaa
