/- An abstract machine over Go's operations: its values, and what it means that a run's world holds them. -/
import Derived.WalkKit
import Derived.Orders
import Derived.BigQuiet
namespace Go.Proofs.Yteholdifeilkkaa
set_option linter.unusedVariables false
namespace Vm
/-- A cell's content that leads to nothing that may be written: a plain value; a slice that is read only, by its elements' cells; the address of such an element. -/
inductive T where
  | v (x : Value)
  | tree (n sz : Nat) (f : Nat → Nat → T)
  | eptr (sz : Nat) (g : Nat → T) (sub : Nat)
  | tst (p : Prop)
/-- A cell's content: it may lead to a block of the machine's own, by its number. -/
inductive C where
  | t (x : T)
  | ref (id sz off len : Nat)
  | ptr (id sz e sub : Nat)
inductive AV where
  | c (x : C)
  | agg (l : List C)
  | fagg (n : Nat) (f : Nat → T)
  | tup (l : List AV)
inductive Blk where
  | box (ty : TypeId) (cs : List C)
  | row (ty : TypeId) (fro : Bool) (sz n : Nat) (f : Nat → Nat → T)
inductive Loc where
  | nil
  | at (b cap : Nat)
def Blk.isRow : Blk → Bool
  | .box .. => false
  | .row .. => true
def Blk.mut : Blk → Bool
  | .box .. => true
  | .row _ fro .. => !fro
abbrev Ren := Nat → Option Loc

def All2 {α β : Type} (R : α → β → Prop) : List α → List β → Prop
  | [], [] => True
  | x :: xs, y :: ys => R x y ∧ All2 R xs ys
  | _, _ => False
theorem All2.mono {α β : Type} {R S : α → β → Prop} (h : ∀ x y, R x y → S x y) : ∀ {l : List α} {k : List β}, All2 R l k → All2 S l k
  | [], [], _ => trivial
  | _ :: _, _ :: _, ⟨a, b⟩ => ⟨h _ _ a, All2.mono h b⟩
  | [], _ :: _, x => x.elim
  | _ :: _, [], x => x.elim
theorem All2.length {α β : Type} {R : α → β → Prop} : ∀ {l : List α} {k : List β}, All2 R l k → l.length = k.length
  | [], [], _ => rfl
  | _ :: _, _ :: _, ⟨_, b⟩ => by simp [All2.length b]
  | [], _ :: _, x => x.elim
  | _ :: _, [], x => x.elim
theorem All2.get {α β : Type} {R : α → β → Prop} : ∀ {l : List α} {k : List β} {i : Nat} {x : α}, All2 R l k → l[i]? = some x → ∃ y, k[i]? = some y ∧ R x y
  | [], _, _, _, _, h => by simp at h
  | a :: l, b :: k, 0, x, ⟨h1, _⟩, h => by simp at h; subst h; exact ⟨b, by simp, h1⟩
  | a :: l, b :: k, i + 1, x, ⟨_, h2⟩, h => by simp at h; obtain ⟨y, e, r⟩ := All2.get h2 h; exact ⟨y, by simpa using e, r⟩
  | _ :: _, [], _, _, x, _ => x.elim
theorem All2.set {α β : Type} {R : α → β → Prop} : ∀ {l : List α} {k : List β} {i : Nat} {x : α} {y : β}, All2 R l k → R x y → All2 R (l.set i x) (k.set i y)
  | [], [], _, _, _, _, _ => trivial
  | a :: l, b :: k, 0, x, y, ⟨h1, h2⟩, h => ⟨h, h2⟩
  | a :: l, b :: k, i + 1, x, y, ⟨h1, h2⟩, h => ⟨h1, All2.set h2 h⟩
  | [], _ :: _, _, _, _, x, _ => x.elim
  | _ :: _, [], _, _, _, x, _ => x.elim
theorem All2.append {α β : Type} {R : α → β → Prop} : ∀ {l : List α} {k : List β} {l' : List α} {k' : List β}, All2 R l k → All2 R l' k' → All2 R (l ++ l') (k ++ k')
  | [], [], _, _, _, h => h
  | _ :: _, _ :: _, _, _, ⟨a, b⟩, h => ⟨a, All2.append b h⟩
  | [], _ :: _, _, _, x, _ => x.elim
  | _ :: _, [], _, _, x, _ => x.elim
theorem All2.drop {α β : Type} {R : α → β → Prop} : ∀ {l : List α} {k : List β} (n : Nat), All2 R l k → All2 R (l.drop n) (k.drop n)
  | _, _, 0, h => by simpa using h
  | [], [], n + 1, _ => trivial
  | _ :: _, _ :: _, n + 1, ⟨_, b⟩ => All2.drop n b
  | [], _ :: _, _, x => x.elim
  | _ :: _, [], _, x => x.elim
theorem All2.take {α β : Type} {R : α → β → Prop} : ∀ {l : List α} {k : List β} (n : Nat), All2 R l k → All2 R (l.take n) (k.take n)
  | _, _, 0, h => trivial
  | [], [], n + 1, _ => trivial
  | _ :: _, _ :: _, n + 1, ⟨a, b⟩ => ⟨a, All2.take n b⟩
  | [], _ :: _, _, x => x.elim
  | _ :: _, [], _, x => x.elim
theorem All2.of_get {α β : Type} {R : α → β → Prop} : ∀ {l : List α} {k : List β}, l.length = k.length → (∀ (i : Nat) (x : α) (y : β), l[i]? = some x → k[i]? = some y → R x y) → All2 R l k
  | [], [], _, _ => trivial
  | a :: l, b :: k, h, hr => ⟨hr 0 a b (by simp) (by simp), All2.of_get (by simpa using h) fun i x y hx hy => hr (i + 1) x y (by simpa using hx) (by simpa using hy)⟩
  | [], _ :: _, h, _ => by simp at h
  | _ :: _, [], h, _ => by simp at h

/-- What the world holds where a read-only content is said to stand; the blocks that it leads to are among ok. -/
def RT (w : World) (ok : Nat → Prop) : T → Value → Prop
  | .v x, y => y = x ∧ x.oneCell' = true
  | .tree n sz f, y => ∃ q c, y = .slice q n c ∧ n ≤ c ∧ ∀ i, i < n → ∀ j, j < sz → ∃ b o x, q = some ⟨b, o, none⟩ ∧ ok b ∧ w.cell? ⟨b, o + i * sz + j, none⟩ = some x ∧ RT w ok (f i j) x
  | .eptr sz g sub, y => ∃ b o, y = .pointer (some ⟨b, o + sub, none⟩) ∧ ok b ∧ ∀ j, j < sz → ∃ x, w.cell? ⟨b, o + j, none⟩ = some x ∧ RT w ok (g j) x
  | .tst p, y => ∃ b, y = .bool b ∧ (b = true → p)
def RC (w : World) (ok : Nat → Prop) (ρ : Ren) : C → Value → Prop
  | .t x, y => RT w ok x y
  | .ref id sz off len, y => ∃ l, ρ id = some l ∧ match l with
    | .nil => off = 0 ∧ len = 0 ∧ ∃ q, y = .slice q 0 0
    | .at b cap => (y = .slice (some ⟨b, off * sz, none⟩) len (cap - off) ∧ off + len ≤ cap) ∨ (len = 0 ∧ ∃ q, y = .slice q 0 0)
  | .ptr id sz e sub, y => ∃ b cap, ρ id = some (.at b cap) ∧ y = .pointer (some ⟨b, e * sz + sub, none⟩)
def R1 (w : World) (ok : Nat → Prop) (ρ : Ren) : AV → Value → Prop
  | .c x, y => RC w ok ρ x y
  | .agg l, y => ∃ ys : Array Value, y = .agg ys ∧ All2 (RC w ok ρ) l ys.toList
  | .fagg n f, y => ∃ ys : Array Value, y = .agg ys ∧ ys.size = n ∧ ∀ i, i < n → ∃ x, ys[i]? = some x ∧ RT w ok (f i) x
  | .tup _, _ => False
def RV (w : World) (ok : Nat → Prop) (ρ : Ren) : AV → Value → Prop
  | .tup l, y => ∃ ys : Array Value, y = .tuple ys ∧ All2 (R1 w ok ρ) l ys.toList
  | x, y => R1 w ok ρ x y
/-- None of the first n cells is closed to writing. -/
def Fz (fz : Nat × Nat) (n : Nat) : Prop := fz.2 ≤ fz.1 ∨ n ≤ fz.1
theorem Fz.free {fz : Nat × Nat} {w : World} {b : Nat} {vs : Array Value} {t : TypeId} (h : Fz fz vs.size) (hw : w.heap[b]? = some (.cells vs t fz)) {o : Nat} (ho : o < vs.size) : w.frozen? ⟨b, o, none⟩ = false := by
  simp only [World.frozen?, hw]
  rcases h with h | h
  · by_cases h1 : fz.1 ≤ o
    · simp [h1]; omega
    · simp [h1]
  · simp [show ¬ fz.1 ≤ o by omega]
def RB (w : World) (ok : Nat → Prop) (ρ : Ren) : Blk → Loc → Prop
  | .box ty cs, l => ∃ b vs, l = .at b 1 ∧ w.heap[b]? = some (.cells vs ty (0, 0)) ∧ All2 (RC w ok ρ) cs vs.toList
  | .row ty fro sz n f, l => match l with
    | .nil => n = 0
    | .at b cap => n ≤ cap ∧ ∃ vs fz, w.heap[b]? = some (.cells vs ty fz) ∧ vs.size = cap * sz ∧ (fro = false → Fz fz vs.size ∧ cap ≤ maxLen) ∧ ∀ i, i < n → ∀ j, j < sz → ∃ x, vs[i * sz + j]? = some x ∧ RT w ok (f i j) x

/-- Later worlds keep what stands in blocks that are not written. -/
structure Keeps (w w' : World) (ok ok' : Nat → Prop) : Prop where
  le : ∀ b, ok b → ok' b
  blk : ∀ b, ok b → w'.heap[b]? = w.heap[b]?
theorem Keeps.cell {w w' : World} {ok ok' : Nat → Prop} (k : Keeps w w' ok ok') {b : Nat} (h : ok b) (o : Nat) : w'.cell? ⟨b, o, none⟩ = w.cell? ⟨b, o, none⟩ := by
  simp [World.cell?, k.blk b h]
theorem RT.mono {w w' : World} {ok ok' : Nat → Prop} (k : Keeps w w' ok ok') : ∀ (x : T) (y : Value), RT w ok x y → RT w' ok' x y := by
  intro x
  induction x with
  | v x => exact fun y h => h
  | tree n sz f ih =>
    rintro y ⟨q, c, e, hn, h⟩
    refine ⟨q, c, e, hn, fun i hi j hj => ?_⟩
    obtain ⟨b, o, x, hq, hb, hc, hr⟩ := h i hi j hj
    exact ⟨b, o, x, hq, k.le b hb, by rw [k.cell hb]; exact hc, ih i j x hr⟩
  | eptr sz g sub ih =>
    rintro y ⟨b, o, e, hb, h⟩
    refine ⟨b, o, e, k.le b hb, fun j hj => ?_⟩
    obtain ⟨x, hc, hr⟩ := h j hj
    exact ⟨x, by rw [k.cell hb]; exact hc, ih j x hr⟩
  | tst p => exact fun y h => h
def Ext (ρ ρ' : Ren) : Prop := ∀ id l, ρ id = some l → ρ' id = some l
theorem Ext.rfl_ (ρ : Ren) : Ext ρ ρ := fun _ _ h => h
theorem RC.mono {w w' : World} {ok ok' : Nat → Prop} {ρ ρ' : Ren} (k : Keeps w w' ok ok') (e : Ext ρ ρ') : ∀ (x : C) (y : Value), RC w ok ρ x y → RC w' ok' ρ' x y
  | .t x, y, h => RT.mono k x y h
  | .ref id sz off len, y, ⟨l, h1, h2⟩ => ⟨l, e id l h1, h2⟩
  | .ptr id sz a sub, y, ⟨b, cap, h1, h2⟩ => ⟨b, cap, e id _ h1, h2⟩
theorem R1.mono {w w' : World} {ok ok' : Nat → Prop} {ρ ρ' : Ren} (k : Keeps w w' ok ok') (e : Ext ρ ρ') : ∀ (x : AV) (y : Value), R1 w ok ρ x y → R1 w' ok' ρ' x y
  | .c x, y, h => RC.mono k e x y h
  | .agg l, y, ⟨ys, h1, h2⟩ => ⟨ys, h1, h2.mono (RC.mono k e)⟩
  | .fagg n f, y, ⟨ys, h1, h2, h3⟩ => ⟨ys, h1, h2, fun i hi => let ⟨x, a, b⟩ := h3 i hi; ⟨x, a, RT.mono k _ _ b⟩⟩
  | .tup _, y, h => h
theorem RV.mono {w w' : World} {ok ok' : Nat → Prop} {ρ ρ' : Ren} (k : Keeps w w' ok ok') (e : Ext ρ ρ') : ∀ (x : AV) (y : Value), RV w ok ρ x y → RV w' ok' ρ' x y
  | .tup l, y, ⟨ys, h1, h2⟩ => ⟨ys, h1, h2.mono (R1.mono k e)⟩
  | .c x, y, h => RC.mono k e x y h
  | .agg l, y, h => R1.mono k e (.agg l) y h
  | .fagg n f, y, h => R1.mono k e (.fagg n f) y h
theorem RB.mono {w w' : World} {ok ok' : Nat → Prop} {ρ ρ' : Ren} (k : Keeps w w' ok ok') (e : Ext ρ ρ') : ∀ (x : Blk) (l : Loc), (∀ b cap, l = .at b cap → w'.heap[b]? = w.heap[b]?) → RB w ok ρ x l → RB w' ok' ρ' x l
  | .box ty cs, l, hb, ⟨b, vs, h1, h2, h3⟩ => ⟨b, vs, h1, (hb b 1 h1).trans h2, h3.mono (RC.mono k e)⟩
  | .row ty fro sz n f, .nil, _, h => h
  | .row ty fro sz n f, .at b cap, hb, ⟨h0, vs, fz, h1, h2, h3, h4⟩ => ⟨h0, vs, fz, (hb b cap rfl).trans h1, h2, h3, fun i hi j hj => let ⟨x, a, r⟩ := h4 i hi j hj; ⟨x, a, RT.mono k _ _ r⟩⟩

/-- Of the blocks that w has, at most those of X are other ones in w'. -/
structure Upd (X : Nat → Prop) (w w' : World) : Prop where
  os : w'.os = w.os
  tape : w'.tape = w.tape
  output : w'.output = w.output
  size : w.heap.size ≤ w'.heap.size
  block : ∀ b, b < w.heap.size → ¬ X b → w'.heap[b]? = w.heap[b]?
theorem Upd.refl (X : Nat → Prop) (w : World) : Upd X w w := ⟨rfl, rfl, rfl, Nat.le_refl _, fun _ _ _ => rfl⟩
theorem Upd.trans {X Y : Nat → Prop} {w w' w'' : World} (h : Upd X w w') (k : Upd Y w' w'') (hy : ∀ b, b < w.heap.size → Y b → X b) : Upd X w w'' :=
  ⟨k.os.trans h.os, k.tape.trans h.tape, k.output.trans h.output, Nat.le_trans h.size k.size, fun b hb hx => (k.block b (Nat.lt_of_lt_of_le hb h.size) fun y => hx (hy b hb y)).trans (h.block b hb hx)⟩
theorem Upd.drewN {X : Nat → Prop} {w w' : World} (h : Upd X w w') (n : Nat) : Upd X w { w' with drawn := w'.drawn + n } := ⟨h.os, h.tape, h.output, h.size, h.block⟩
theorem lt_heap {w : World} {b : Nat} {o : Obj} (h : w.heap[b]? = some o) : b < w.heap.size := by
  rcases Nat.lt_or_ge b w.heap.size with h1 | h1
  · exact h1
  · rw [Array.getElem?_eq_none h1] at h; cases h

abbrev Tm := Nat → Option AV
abbrev Hp := Nat → Option Blk
/-- Where a body began: the world; the blocks there that may be read for ever; what stood for the blocks that were handed over. -/
structure Base where
  w : World
  ok : Nat → Prop
  ρ0 : Ren
/-- The blocks that read-only contents may lead to: those that are no block of the machine's own that may be written. -/
def okOf (base : Base) (w : World) (ρ : Ren) (h : Hp) (b : Nat) : Prop := b < w.heap.size ∧ (base.w.heap.size ≤ b ∨ base.ok b) ∧ ∀ id blk cap, h id = some blk → blk.mut = true → ρ id ≠ some (.at b cap)
structure Rep (base : Base) (X : Nat → Prop) (nt : Nat) (used : Nat → Prop) (ρ : Ren) (tm : Tm) (h : Hp) (a : Act) (w : World) : Prop where
  tmp : ∀ t av, tm t = some av → RV w (okOf base w ρ h) ρ av (a.tmps.getD t undef)
  heap : ∀ id blk, h id = some blk → ∃ l, ρ id = some l ∧ RB w (okOf base w ρ h) ρ blk l ∧ ∀ b cap, l = .at b cap → b < w.heap.size ∧ (base.w.heap.size ≤ b ∨ X b)
  own : ∀ id blk b cap, h id = some blk → blk.isRow = true → ρ id = some (.at b cap) → base.w.heap.size ≤ b
  inj : ∀ i j b c c', (∃ x, h i = some x) → (∃ y, h j = some y) → ρ i = some (.at b c) → ρ j = some (.at b c') → i = j
  used : ∀ id, ρ id ≠ none → used id
  upd : Upd X base.w w
  ext0 : Ext base.ρ0 ρ
  size : a.tmps.size = nt
  defers : a.defers = []

section
variable {base : Base} {X Y : Nat → Prop} {nt : Nat} {used used' : Nat → Prop} {ρ ρ' : Ren} {tm tm' : Tm} {h h' : Hp} {a a' : Act} {w w' : World}
/-- What a step must show of a block that is new or was written. -/
def NewBlk (base : Base) (X : Nat → Prop) (ρ : Ren) (h : Hp) (w w' : World) (ρ' : Ren) (h' : Hp) (id : Nat) (blk : Blk) : Prop :=
  ∃ l, ρ' id = some l ∧ (Keeps w w' (okOf base w ρ h) (okOf base w' ρ' h') → RB w' (okOf base w' ρ' h') ρ' blk l) ∧
    ∀ b cap, l = .at b cap → b < w'.heap.size ∧ (base.w.heap.size ≤ b ∨ X b) ∧ (w.heap.size ≤ b ∨ ∃ id0 blk0 cap0, h id0 = some blk0 ∧ blk0.mut = true ∧ ρ id0 = some (.at b cap0)) ∧ (blk.isRow = true → base.w.heap.size ≤ b)
theorem Rep.step_keeps (R : Rep base X nt used ρ tm h a w) (U : Upd Y w w')
    (hY : ∀ b, Y b → b < w.heap.size → ∃ id blk cap, h id = some blk ∧ blk.mut = true ∧ ρ id = some (.at b cap)) (hρ : Ext ρ ρ')
    (hh : ∀ id blk, h' id = some blk → (h id = some blk ∧ ∀ b cap, ρ id = some (.at b cap) → ¬ Y b) ∨ NewBlk base X ρ h w w' ρ' h' id blk) : Keeps w w' (okOf base w ρ h) (okOf base w' ρ' h') := by
  have nY : ∀ b, okOf base w ρ h b → ¬ Y b := fun b hb hy => by
    obtain ⟨id, blk, cap, h1, h2, h3⟩ := hY b hy hb.1
    exact hb.2.2 id blk cap h1 h2 h3
  refine ⟨fun b hb => ⟨Nat.lt_of_lt_of_le hb.1 U.size, hb.2.1, fun id blk cap h1 h2 h3 => ?_⟩, fun b hb => U.block b hb.1 (nY b hb)⟩
  rcases hh id blk h1 with ⟨k1, _⟩ | ⟨l, k1, _, k3⟩
  · obtain ⟨l, m1, _, _⟩ := R.heap id blk k1
    have := hρ id l m1
    rw [h3] at this
    injection this with this
    exact hb.2.2 id blk cap k1 h2 (by rw [m1, ← this])
  · rw [h3] at k1
    injection k1 with k1
    obtain ⟨_, _, k4, _⟩ := k3 b cap k1.symm
    rcases k4 with k4 | ⟨id0, blk0, cap0, k5, k6, k7⟩
    · have := hb.1; omega
    · exact hb.2.2 id0 blk0 cap0 k5 k6 k7
theorem Rep.step (R : Rep base X nt used ρ tm h a w) (U : Upd Y w w')
    (hY : ∀ b, Y b → b < w.heap.size → ∃ id blk cap, h id = some blk ∧ blk.mut = true ∧ ρ id = some (.at b cap)) (hρ : Ext ρ ρ') (hused : ∀ id, ρ' id ≠ none → used' id)
    (hh : ∀ id blk, h' id = some blk → (h id = some blk ∧ ∀ b cap, ρ id = some (.at b cap) → ¬ Y b) ∨ NewBlk base X ρ h w w' ρ' h' id blk)
    (hinj : ∀ i j b c c', (∃ x, h' i = some x) → (∃ y, h' j = some y) → ρ' i = some (.at b c) → ρ' j = some (.at b c') → i = j)
    (htm : ∀ t av, tm' t = some av → (tm t = some av ∧ a'.tmps.getD t undef = a.tmps.getD t undef) ∨ (Keeps w w' (okOf base w ρ h) (okOf base w' ρ' h') → RV w' (okOf base w' ρ' h') ρ' av (a'.tmps.getD t undef)))
    (hsize : a'.tmps.size = nt) (hdef : a'.defers = []) : Rep base X nt used' ρ' tm' h' a' w' := by
  have K := R.step_keeps U hY hρ hh
  refine ⟨fun t av ht => ?_, fun id blk hid => ?_, fun id blk b cap hid hrow hb => ?_, hinj, hused, R.upd.trans U fun b hb hy => ?_, fun id l hl => hρ id l (R.ext0 id l hl), hsize, hdef⟩
  · rcases htm t av ht with ⟨h1, h2⟩ | h1
    · rw [h2]; exact RV.mono K hρ _ _ (R.tmp t av h1)
    · exact h1 K
  · rcases hh id blk hid with ⟨k1, k2⟩ | ⟨l, k1, k2, k3⟩
    · obtain ⟨l, m1, m2, m3⟩ := R.heap id blk k1
      refine ⟨l, hρ id l m1, RB.mono K hρ _ _ (fun b cap e => U.block b (m3 b cap e).1 (k2 b cap (by rw [m1, e]))) m2, fun b cap e => ⟨Nat.lt_of_lt_of_le (m3 b cap e).1 U.size, (m3 b cap e).2⟩⟩
    · exact ⟨l, k1, k2 K, fun b cap e => ⟨(k3 b cap e).1, (k3 b cap e).2.1⟩⟩
  · rcases hh id blk hid with ⟨k1, k2⟩ | ⟨l, k1, k2, k3⟩
    · obtain ⟨l, m1, _, _⟩ := R.heap id blk k1
      have := hρ id l m1
      rw [hb] at this
      injection this with this
      exact R.own id blk b cap k1 hrow (by rw [m1, ← this])
    · rw [hb] at k1
      injection k1 with k1
      exact (k3 b cap k1.symm).2.2.2 hrow
  · rcases Nat.lt_or_ge b w.heap.size with h1 | h1
    · obtain ⟨id, blk, cap, k1, k2, k3⟩ := hY b hy h1
      obtain ⟨l, m1, _, m3⟩ := R.heap id blk k1
      rw [k3] at m1
      injection m1 with m1
      rcases (m3 b cap m1.symm).2 with h5 | h5
      · omega
      · exact h5
    · have := R.upd.size; omega
theorem put_size' (a : Act) (d : Option Tmp) (v : Value) : (a.put d v).tmps.size = a.tmps.size := by cases d <;> simp [Act.put]
theorem put_def' (a : Act) (d : Option Tmp) (v : Value) : (a.put d v).defers = a.defers := by cases d <;> rfl
theorem put_ne {a : Act} {d t : Nat} (v : Value) (h : t ≠ d) : (a.put (some d) v).tmps.getD t undef = a.tmps.getD t undef := by
  simp only [Act.put, Array.getD_eq_getD_getElem?, Array.getElem?_setIfInBounds_ne (Ne.symm h)]
theorem put_eq {a : Act} {d : Nat} (v : Value) (h : d < a.tmps.size) : (a.put (some d) v).tmps.getD d undef = v := by
  simp [Act.put, h]
/-- The slots behind an operation. -/
def setTm (tm : Tm) (d : Option Tmp) (v : Option AV) : Tm := fun t => if some t = d then v else tm t
/-- The blocks behind an operation: some are taken away, others laid. -/
def setHp (h : Hp) (W : List (Nat × Option Blk)) : Hp := fun id => match W with
  | [] => h id
  | (k, b) :: W' => if k = id then b else setHp h W' id
theorem dstOk {nt : Nat} {d : Option Tmp} (t : Nat) (hd : d = some t) (h : ∀ t, d = some t → t < nt) : t < nt := h t hd
theorem Rep.put_tm (R : Rep base X nt used ρ tm h a w) {d : Option Tmp} {y : Value} {av : Option AV} (hd : ∀ t, d = some t → t < nt) (hv : ∀ x, av = some x → RV w (okOf base w ρ h) ρ x y) :
    Rep base X nt used ρ (setTm tm d av) h (a.put d y) w := by
  refine R.step (Y := fun _ => False) (Upd.refl _ _) (fun _ h => h.elim) (Ext.rfl_ _) R.used (fun id blk hb => .inl ⟨hb, fun _ _ _ h => h⟩) R.inj (fun t x ht => ?_) (by rw [put_size', R.size]) (by rw [put_def', R.defers])
  by_cases e : some t = d
  · subst e
    rw [setTm, if_pos rfl] at ht
    exact .inr fun K => RV.mono K (Ext.rfl_ _) _ _ (by rw [put_eq y (by rw [R.size]; exact hd t rfl)]; exact hv x ht)
  · rw [setTm, if_neg e] at ht
    refine .inl ⟨ht, ?_⟩
    cases d with
    | none => rfl
    | some d => exact put_ne y fun h => e (by rw [h])
theorem Rep.upd_w (R : Rep base X nt used ρ tm h a w) (U : Upd (fun _ => False) w w') : Rep base X nt used ρ tm h a w' :=
  R.step U (fun _ h => h.elim) (Ext.rfl_ _) R.used (fun id blk hb => .inl ⟨hb, fun _ _ _ h => h⟩) R.inj (fun t x ht => .inl ⟨ht, rfl⟩) R.size R.defers
/-- To know less. -/
theorem Rep.weaken (R : Rep base X nt used ρ tm h a w) (ht : ∀ t av, tm' t = some av → tm t = some av) (hh : ∀ id b, h' id = some b → h id = some b) : Rep base X nt used ρ tm' h' a w :=
  R.step (Y := fun _ => False) (Upd.refl _ _) (fun _ h => h.elim) (Ext.rfl_ _) R.used (fun id blk hb => .inl ⟨hh id blk hb, fun _ _ _ h => h⟩)
    (fun i j b c c' ⟨x, hx⟩ ⟨y, hy⟩ => R.inj i j b c c' ⟨x, hh i x hx⟩ ⟨y, hh j y hy⟩) (fun t x hx => .inl ⟨ht t x hx, rfl⟩) R.size R.defers
end
theorem RT.one {w : World} {ok : Nat → Prop} : ∀ {x : T} {y : Value}, RT w ok x y → y.oneCell' = true
  | .v x, y, h => by rw [h.1]; exact h.2
  | .tree n sz f, y, ⟨q, c, e, _⟩ => by rw [e]; rfl
  | .eptr sz g sub, y, ⟨b, o, e, _⟩ => by rw [e]; rfl
  | .tst p, y, ⟨b, e, _⟩ => by rw [e]; rfl
theorem RC.one {w : World} {ok : Nat → Prop} {ρ : Ren} : ∀ {x : C} {y : Value}, RC w ok ρ x y → y.oneCell' = true
  | .t x, y, h => RT.one h
  | .ref id sz off len, y, ⟨l, h1, h2⟩ => by
    cases l with
    | nil => obtain ⟨_, _, q, e⟩ := h2; rw [e]; rfl
    | _ b cap => rcases h2 with ⟨e, _⟩ | ⟨_, q, e⟩ <;> (rw [e]; rfl)
  | .ptr id sz a sub, y, ⟨b, cap, h1, h2⟩ => by rw [h2]; rfl
end Vm
end Go.Proofs.Yteholdifeilkkaa
