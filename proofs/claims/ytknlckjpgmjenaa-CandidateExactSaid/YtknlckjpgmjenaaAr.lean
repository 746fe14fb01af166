/- What a law is told of its arguments, by their types: any nest of numbers, strings, slices and structures. -/
import Derived.WalkKit
import Derived.ProofKit
import Derived.OpenShut
import Derived.ShutString
import Derived.ChangeOld
import Derived.ChangeSame
import Derived.Below
import Derived.Deep.Strs
import Derived.Test.YtknlckjpgmjenaaVp
namespace Go.Proofs.Ytknlckjpgmjenaa
namespace Vm
open Go.ChangeShapes Go.WideShapes Go.ChangeAt Go.RowKit
open Go.ChangeMaps (open_string shut_string)
theorem lt_of_cell {w : World} {a : Addr} {v : Value} (h : w.cell? a = some v) : a.block < w.heap.size := by
  rcases Nat.lt_or_ge a.block w.heap.size with h1 | h1
  · exact h1
  · simp [World.cell?, Array.getElem?_eq_none h1] at h
theorem addr_of_cell {w : World} {x : Addr} {v : Value} (h : w.cell? x = some v) : x.spot = none := by
  unfold World.cell? at h
  split at h
  · split at h
    · cases h
    · rename_i hs; cases hx : x.spot with
      | none => rfl
      | some _ => rw [hx] at hs; simp at hs
  · cases h
theorem wf_int {k : IntKind} {x : Int} (h : (Lit.int k x).wf = true) : k.min ≤ x ∧ x ≤ k.max := by simpa [Lit.wf] using h
theorem mapM_idx {α β : Type} {f : α → Option β} : ∀ {l : List α} {ys : List β}, l.mapM f = some ys → ys.length = l.length ∧ ∀ i (h : i < l.length), f l[i] = ys[i]? := by
  intro l
  induction l with
  | nil => intro ys h; simp at h; subst h; simp
  | cons a l ih =>
    intro ys h
    rw [List.mapM_cons] at h
    simp only [Option.bind_eq_bind, Option.bind_eq_some_iff] at h
    obtain ⟨y, h1, zs, h2, h3⟩ := h
    cases h3
    obtain ⟨k1, k2⟩ := ih h2
    refine ⟨by simp [k1], fun i hi => ?_⟩
    cases i with
    | zero => simpa using h1
    | succ i => simpa using k2 i (by simpa using hi)
theorem choose_list {α : Type} (p : Nat → α → Prop) (n : Nat) (h : ∀ i, i < n → ∃ x, p i x) : ∃ xs : List α, xs.length = n ∧ ∀ i x, xs[i]? = some x → p i x := by
  induction n with
  | zero => exact ⟨[], rfl, fun i x h => by simp at h⟩
  | succ n ih =>
    obtain ⟨xs, h1, h2⟩ := ih fun i hi => h i (by omega)
    obtain ⟨y, hy⟩ := h n (by omega)
    refine ⟨xs ++ [y], by simp [h1], fun i x hx => ?_⟩
    by_cases hi : i < n
    · exact h2 i x (by rwa [List.getElem?_append_left (by omega)] at hx)
    · rw [List.getElem?_append_right (by omega)] at hx
      have : i = n := by
        have := (List.getElem?_eq_some_iff.1 hx).1
        simp at this; omega
      subst this
      rw [h1, Nat.sub_self] at hx
      simp at hx; subst hx; exact hy
section
variable {P : Program} {W : World} {t e : TypeId}
/-- An argument of this type is told by a value of Lean. -/
def Arg (P : Program) (W : World) (t : TypeId) {α : Type} (E : α → List T) (ok : α → Prop) : Prop :=
  ∀ (H : Type) (enc : TypeId × Value → H) (sp : Nat → Bool) (fuel : Nat) (cs : List Value) (d : DataW H) (p : List MemPlace), DataW.trod enc P W 0 sp true fuel t cs = some (d, p) → ∃ x, ok x ∧ All2 (RT W fun b => b < W.heap.size) (E x) cs
theorem Arg.map {α β : Type} {E : α → List T} {ok : α → Prop} {E' : β → List T} {ok' : β → Prop} (h : Arg P W t E ok) (f : α → β) (hE : ∀ x, E' (f x) = E x) (hk : ∀ x, ok x → ok' (f x)) : Arg P W t E' ok' := by
  intro H enc sp fuel cs d p h1
  obtain ⟨x, a, b⟩ := h H enc sp fuel cs d p h1
  exact ⟨f x, hk x a, by rw [hE]; exact b⟩
theorem arg_intT {k : IntKind} (ht : P.underlying t = some (.int k)) : Arg P W t (fun x : Int => [.v (.int k x)]) (fun x => k.min ≤ x ∧ x ≤ k.max) := by
  intro H enc sp fuel cs d p h
  cases fuel with
  | zero => cases h
  | succ fuel =>
    unfold DataW.trod at h
    rw [ht] at h
    split at h <;> rename_i h1 <;> try (first | (cases h; done) | (injection h1 with h1; cases h1; done))
    injection h1 with h1
    injection h1 with h1
    subst h1
    split at h
    · rename_i h2
      obtain ⟨rfl, h2⟩ := h2
      exact ⟨_, wf_int h2, ⟨rfl, rfl⟩, trivial⟩
    · cases h
theorem arg_boolT (ht : P.underlying t = some .bool) : Arg P W t (fun x : Bool => [.v (.bool x)]) (fun _ => True) := by
  intro H enc sp fuel cs d p h
  cases fuel with
  | zero => cases h
  | succ fuel =>
    unfold DataW.trod at h
    rw [ht] at h
    split at h <;> rename_i h1 <;> try (first | (cases h; done) | (injection h1 with h1; cases h1; done))
    exact ⟨_, trivial, ⟨rfl, rfl⟩, trivial⟩
theorem arg_strT (ht : P.underlying t = some .string) : Arg P W t (fun x : ByteArray => [.v (.string x)]) (fun x => x.size ≤ maxLen) := by
  intro H enc sp fuel cs d p h
  cases fuel with
  | zero => cases h
  | succ fuel =>
    unfold DataW.trod at h
    rw [ht] at h
    split at h <;> rename_i h1 <;> try (first | (cases h; done) | (injection h1 with h1; cases h1; done))
    split at h
    · rename_i h2; exact ⟨_, h2, ⟨rfl, rfl⟩, trivial⟩
    · cases h
theorem cells_of {a : Addr} {n : Nat} {cs : List Value} (h : W.cells? 0 a n = some cs) : cs.length = n ∧ ∀ j, j < n → W.cell? (a.add j) = cs[j]? := by
  unfold World.cells? at h
  rw [if_pos (Nat.zero_le _)] at h
  obtain ⟨h1, h2⟩ := mapM_idx h
  rw [List.length_range] at h1
  refine ⟨h1, fun j hj => ?_⟩
  have := h2 j (by rw [List.length_range]; exact hj)
  rwa [List.getElem_range] at this
theorem arg_sliceT {α : Type} {E : α → List T} {ok : α → Prop} {sz : Nat} (dflt : α) (ht : P.underlying t = some (.slice e)) (hc : P.cellsOf e = sz) (he : Arg P W e E ok) : Arg P W t (fun xs : List α => [.tree xs.length sz (rowL dflt E xs)]) (fun xs => (∀ x ∈ xs, ok x) ∧ xs.length ≤ maxLen) := by
  intro H enc sp fuel cs d p h
  cases fuel with
  | zero => cases h
  | succ fuel =>
    unfold DataW.trod at h
    rw [ht] at h
    split at h <;> rename_i h1 <;> try (first | (cases h; done) | (injection h1 with h1; cases h1; done))
    · exact ⟨[], ⟨fun x hx => absurd hx (List.not_mem_nil), Nat.zero_le _⟩, ⟨_, _, rfl, Nat.zero_le _, fun i hi => absurd hi (Nat.not_lt_zero _)⟩, trivial⟩
    · rename_i a len cap
      injection h1 with h1
      injection h1 with h1
      subst h1
      simp only at h
      split at h
      · rename_i h2
        obtain ⟨_, h2, h3⟩ := h2
        rw [Option.bind_eq_some_iff] at h
        obtain ⟨ys, h4, _⟩ := h
        obtain ⟨h5, h6⟩ := mapM_idx h4
        rw [List.length_range] at h5
        obtain ⟨xs, x1, x2⟩ := choose_list (fun i x => ok x ∧ ∃ cs, W.cells? 0 (a.add (i * sz)) sz = some cs ∧ All2 (RT W fun b => b < W.heap.size) (E x) cs) len (fun i hi => by
          have h7 := h6 i (by rw [List.length_range]; exact hi)
          rw [List.getElem_range, List.getElem?_eq_getElem (by omega), Option.bind_eq_some_iff] at h7
          obtain ⟨c, c1, c2⟩ := h7
          obtain ⟨x, k1, k2⟩ := he H enc sp fuel c _ _ c2
          rw [hc] at c1
          exact ⟨x, k1, c, c1, k2⟩)
        refine ⟨xs, ⟨fun x hx => ?_, by omega⟩, ⟨_, _, by rw [x1], by omega, fun i hi j hj => ?_⟩, trivial⟩
        · obtain ⟨i, hi⟩ := List.getElem?_of_mem hx
          exact (x2 i x hi).1
        · have hx : xs[i]? = some xs[i] := List.getElem?_eq_getElem hi
          obtain ⟨_, c, c1, c2⟩ := x2 i _ hx
          obtain ⟨c3, c4⟩ := cells_of c1
          have c5 := c4 j hj
          rw [List.getElem?_eq_getElem (by omega)] at c5
          have hsp : a.spot = none := by
            obtain ⟨_, c', c1', _⟩ := x2 0 _ (List.getElem?_eq_getElem (by omega))
            obtain ⟨c3', c4'⟩ := cells_of c1'
            have c5' := c4' 0 (by omega)
            rw [List.getElem?_eq_getElem (by omega), Nat.zero_mul] at c5'
            have := addr_of_cell c5'
            simpa [Addr.add] using this
          have hE : j < (E xs[i]).length := by rw [c2.length]; omega
          obtain ⟨y, y1, y2⟩ := c2.get (List.getElem?_eq_getElem hE)
          rw [List.getElem?_eq_getElem (by omega)] at y1
          injection y1 with y1
          have ha : (a.add (i * sz)).add j = ⟨a.block, a.off + i * sz + j, none⟩ := by
            obtain ⟨ab, ao, asp⟩ := a
            simp only at hsp
            subst hsp
            simp only [Addr.add]
            split <;> split <;> simp_all
          rw [ha] at c5
          refine ⟨a.block, a.off, y, by obtain ⟨ab, ao, asp⟩ := a; simp only at hsp; subst hsp; rfl, lt_of_cell (a := ⟨a.block, a.off + i * sz + j, none⟩) c5, by rw [c5, y1], ?_⟩
          have : rowL dflt E xs i j = (E xs[i])[j] := by
            unfold rowL
            have hg : xs.getD i dflt = xs[i] := by rw [List.getD_eq_getElem?_getD, hx, Option.getD_some]
            rw [hg, List.getD_eq_getElem?_getD, List.getElem?_eq_getElem hE, Option.getD_some]
          rw [this]; exact y2
      · cases h
/-- fields that follow each other -/
def ArgF (P : Program) (W : World) (fs : List Field) (off : Nat) {α : Type} (E : α → List T) (ok : α → Prop) : Prop :=
  ∀ (H : Type) (enc : TypeId × Value → H) (sp : Nat → Bool) (fuel : Nat) (cs : List Value) (xs : List (DataW H × List MemPlace)), (fs.mapM fun f => DataW.trod enc P W 0 sp true fuel f.type ((cs.drop f.offset).take (P.cellsOf f.type))) = some xs → (∃ n, n = (fs.map fun f => P.cellsOf f.type).sum ∧ cs.length = off + n) → ∃ x, ok x ∧ All2 (RT W fun b => b < W.heap.size) (E x) (cs.drop off)
theorem argF_nil {off : Nat} : ArgF P W [] off (fun _ : Unit => []) (fun _ => True) := by
  intro H enc sp fuel cs xs h hn
  obtain ⟨n, h1, h2⟩ := hn
  refine ⟨(), trivial, ?_⟩
  rw [List.drop_of_length_le (by simp at h1; omega)]
  trivial
theorem argF_cons {α β : Type} {E : α → List T} {ok : α → Prop} {F : β → List T} {kk : β → Prop} {f : Field} {fs : List Field} {off sz : Nat} (ho : f.offset = off) (hs : P.cellsOf f.type = sz) (h1 : Arg P W f.type E ok) (h2 : ArgF P W fs (off + sz) F kk) : ArgF P W (f :: fs) off (fun x : α × β => E x.1 ++ F x.2) (fun x => ok x.1 ∧ kk x.2) := by
  intro H enc sp fuel cs xs h hn
  rw [List.mapM_cons] at h
  simp only [Option.bind_eq_bind, Option.bind_eq_some_iff] at h
  obtain ⟨y, k1, zs, k2, _⟩ := h
  obtain ⟨n, n1, n2⟩ := hn
  simp only [List.map_cons, List.sum_cons, hs] at n1
  obtain ⟨x, a1, a2⟩ := h1 H enc sp fuel _ _ _ k1
  obtain ⟨z, b1, b2⟩ := h2 H enc sp fuel cs _ k2 ⟨_, rfl, by omega⟩
  refine ⟨(x, z), ⟨a1, b1⟩, ?_⟩
  rw [ho, hs] at a2
  rw [← List.take_append_drop sz (cs.drop off), List.drop_drop]
  exact All2.append a2 b2
theorem arg_structT {α : Type} {E : α → List T} {ok : α → Prop} {fs : Array Field} (ht : P.underlying t = some (.struct fs)) (hc : P.cellsOf t = (fs.toList.map fun f => P.cellsOf f.type).sum) (h1 : ArgF P W fs.toList 0 E ok) : Arg P W t E ok := by
  intro H enc sp fuel cs d p h
  cases fuel with
  | zero => cases h
  | succ fuel =>
    unfold DataW.trod at h
    rw [ht] at h
    replace h : (if cs.length = P.cellsOf t then (fs.toList.mapM fun f => DataW.trod enc P W 0 sp true fuel f.type ((cs.drop f.offset).take (P.cellsOf f.type))).map fun xs => (DataW.agg (xs.map (·.1)), xs.flatMap (·.2)) else none) = some (d, p) := h
    split at h
    · rename_i hl
      rw [Option.map_eq_some_iff] at h
      obtain ⟨xs, x1, _⟩ := h
      have := h1 H enc sp fuel cs xs x1 ⟨_, rfl, by rw [hl, hc]; omega⟩
      rwa [List.drop_zero] at this
    · cases h
variable {H : Type} {enc : TypeId × Value → H} {base : Nat} {sp : Nat → Bool} {v : Value} {d : DataW H} {p : List MemPlace}
theorem Arg.one {α : Type} {c : α → T} {ok : α → Prop} (h : Arg P W t (fun x => [c x]) ok) (h1 : DataW.Trod enc P W 0 sp true t v d p) (hv : ∃ y, v.cells.toList = [y] ∧ v = y) : ∃ x, ok x ∧ RV W (fun b => b < W.heap.size) (fun _ => none) (.c (.t (c x))) v := by
  obtain ⟨fuel, h1⟩ := h1
  obtain ⟨x, a, b⟩ := h H enc sp fuel _ _ _ h1
  obtain ⟨y, e, rfl⟩ := hv
  rw [e] at b
  exact ⟨x, a, b.1⟩
theorem All2.mapT {w : World} {okb : Nat → Prop} {ρ : Ren} : ∀ {l : List T} {k : List Value}, All2 (RT w okb) l k → All2 (RC w okb ρ) (l.map C.t) k
  | [], [], _ => trivial
  | _ :: _, _ :: _, ⟨a, b⟩ => ⟨a, All2.mapT b⟩
  | [], _ :: _, x => x.elim
  | _ :: _, [], x => x.elim
theorem Arg.agg {α : Type} {E : α → List T} {ok : α → Prop} (h : Arg P W t E ok) (h1 : DataW.Trod enc P W 0 sp true t v d p) (hv : ∃ cs, v = .agg cs) : ∃ x, ok x ∧ RV W (fun b => b < W.heap.size) (fun _ => none) (.agg ((E x).map C.t)) v := by
  obtain ⟨fuel, h1⟩ := h1
  obtain ⟨x, a, b⟩ := h H enc sp fuel _ _ _ h1
  obtain ⟨cs, rfl⟩ := hv
  exact ⟨x, a, cs, rfl, All2.mapT b⟩
theorem arg_int {k : IntKind} (ht : P.underlying t = some (.int k)) (hv : Value.okWide P W .any base t v) (h : DataW.Trod enc P W 0 sp true t v d p) : ∃ x : Int, v = .int k x ∧ k.min ≤ x ∧ x ≤ k.max := by
  obtain ⟨x, rfl, rfl, rfl, hw⟩ := open_int ht hv h
  exact ⟨x, rfl, wf_int hw⟩
theorem arg_bool (ht : P.underlying t = some .bool) (hv : Value.okWide P W .any base t v) (h : DataW.Trod enc P W 0 sp true t v d p) : ∃ b : Bool, v = .bool b := by
  obtain ⟨b, rfl, rfl, rfl⟩ := open_bool ht hv h
  exact ⟨b, rfl⟩
theorem arg_string (ht : P.underlying t = some .string) (hv : Value.okWide P W .any base t v) (h : DataW.Trod enc P W 0 sp true t v d p) : ∃ s : ByteArray, v = .string s ∧ s.size ≤ maxLen := by
  obtain ⟨s, rfl, rfl, rfl, hs⟩ := open_string ht hv h
  exact ⟨s, rfl, hs⟩
theorem one_int {k : IntKind} (ht : P.underlying t = some (.int k)) (hv : Value.okWide P W .any base t v) (h : DataW.Trod enc P W 0 sp true t v d p) : ∃ y, v.cells.toList = [y] ∧ v = y := by
  obtain ⟨x, rfl, _⟩ := arg_int ht hv h; exact ⟨_, rfl, rfl⟩
theorem one_bool (ht : P.underlying t = some .bool) (hv : Value.okWide P W .any base t v) (h : DataW.Trod enc P W 0 sp true t v d p) : ∃ y, v.cells.toList = [y] ∧ v = y := by
  obtain ⟨x, rfl⟩ := arg_bool ht hv h; exact ⟨_, rfl, rfl⟩
theorem one_str (ht : P.underlying t = some .string) (hv : Value.okWide P W .any base t v) (h : DataW.Trod enc P W 0 sp true t v d p) : ∃ y, v.cells.toList = [y] ∧ v = y := by
  obtain ⟨x, rfl, _⟩ := arg_string ht hv h; exact ⟨_, rfl, rfl⟩
theorem one_slice (ht : P.underlying t = some (.slice e)) (hv : Value.okWide P W .any base t v) : ∃ y, v.cells.toList = [y] ∧ v = y := by
  obtain ⟨a, b, c, rfl⟩ := okWide_slice ht hv; exact ⟨_, rfl, rfl⟩
theorem agg_struct {fs : Array Field} (ht : P.underlying t = some (.struct fs)) (hv : Value.okWide P W .any base t v) : ∃ cs, v = .agg cs := by
  obtain ⟨cs, rfl, _⟩ := okWide_struct ht hv; exact ⟨_, rfl⟩
end
end Vm
end Go.Proofs.Ytknlckjpgmjenaa
