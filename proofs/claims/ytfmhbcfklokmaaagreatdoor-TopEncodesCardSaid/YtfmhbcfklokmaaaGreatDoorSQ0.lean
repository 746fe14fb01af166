/- Lemmas for the statement TopEncodes: Go functions told as pure functions, and laws about these; texts joined and shortened by a program of mine; no condition. -/
import Derived.WalkKit
import Derived.Orders
import Derived.BigQuiet
import Derived.Laws.StructEq
import Derived.Deep.AppendSrc
import Derived.Lib.AppendZerosOnto
set_option linter.unusedVariables false
set_option linter.unusedSimpArgs false
set_option linter.defProp false
namespace Go.Proofs.YtfmhbcfklokmaaaGreatDoor
namespace Vm
def FI := @List.getD_eq_getElem?_getD
def FJ := @List.getElem?_eq_getElem
def FK := @List.getElem?_eq_none
def FL := @Option.some.injEq
def FM := @Int.toNat_natCast
def FN := @List.length_cons
def FO := @List.length_append
def FP := @List.length_nil
def FQ := @List.mem_singleton
def FR := @List.length_take
def FU := @List.length_drop
def Pq := @List.length_singleton
def FV := @Prod.mk.injEq
def FW := @List.size_toArray
def FX := @List.all_eq_true
def FY := @Bool.and_eq_true
def FZ := @List.mem_cons_self
def F0 := @List.mem_cons_of_mem
def F1 := @List.mem_cons
def F2 := @List.mem_append
def F3 := @List.getElem?_append_left
def F4 := @List.getElem?_append_right
def Pr := @List.not_mem_nil
def Ps := @List.length_map
def Pt := @List.length_replicate
def Pu := @decide_eq_true_eq
def Pv := @decide_eq_false
def Pw := @decide_eq_true
def F5 := @List.mem_of_getElem?
def F6 := @List.getElem?_map
def F7 := @List.append_assoc
def F8 := @Nat.mul_le_mul_right
def F9 := @Nat.le_refl
def Px := @Nat.not_lt_zero
def Ga := @Nat.le_trans
def Gb := @Nat.lt_of_lt_of_le
def Gc := @Array.getD_eq_getD_getElem?
def Py := @List.pairwise_cons
def Pz := @List.mem_map
def PC := @List.mem_flatMap
def PD := @List.mem_iff_getElem
def Gd := @List.length_set
def Ge := @List.take_append_drop
def PE := @List.append_nil
def Gf := @List.nil_append
def Gg := @Nat.zero_add
def PF := @List.take_length
def Gh := @List.getElem_mem
def Gi := @Nat.lt_or_ge
def Gj := @List.getElem?_set
def Gk := @List.take_of_length_le
def Gl := @Array.getElem?_eq_getElem
def Gm := @List.getElem?_toArray
def Gn := @Array.getElem?_toList
def PG := @List.foldl_append
def PH := @List.flatMap_append
def PI := @List.map_append
def Gp := @List.take_add_one
def Gq := @List.foldl_cons
def Gr := @List.map_cons
def PK := @List.sum_cons
inductive T where
 | v (x : Value)
 | tree (n sz : Nat) (f : Nat → Nat → T)
 | eptr (sz : Nat) (g : Nat → T) (sub : Nat)
 | tst (p : Prop)
 | mp (P : Program) (t : TypeId) (l : List (Int × Value))
inductive C where
 | t (x : T)
 | ref (id sz off len : Nat)
 | ptr (id sz e sub : Nat)
inductive S1 where
 | c (x : C)
 | agg (l : List C)
inductive AV where
 | c (x : C)
 | agg (l : List C)
 | fagg (n : Nat) (f : Nat → T)
 | tup (l : List AV)
 | clo (f : FuncId) (first cap : List S1)
def EZ : S1 → AV
 | .c x => .c x
 | .agg l => .agg l
inductive az where
 | box (ty : TypeId) (cs : List C)
 | row (ty : TypeId) (fro : Bool) (sz n : Nat) (f : Nat → Nat → T)
inductive dd where
 | nil
 | at (b cap : Nat)
def az.isRow : az → Bool
 | .box .. => false
 | .row .. => true
def az.mut : az → Bool
 | .box .. => true
 | .row _ fro .. => !fro
abbrev Ren := Nat → Option dd
def ap {α β : Type} (R : α → β → Prop) : List α → List β → Prop
 | [], [] => True
 | x :: xs, y :: ys => R x y ∧ ap R xs ys
 | _, _ => False
theorem ap.mono {α β : Type} {R S : α → β → Prop} (h : ∀ x y, R x y → S x y) : ∀ {l : List α} {k : List β}, ap R l k → ap S l k
 | [], [], _ => trivial
 | _ :: _, _ :: _, ⟨a, b⟩ => ⟨h _ _ a, ap.mono h b⟩
 | [], _ :: _, x => x.elim
 | _ :: _, [], x => x.elim
theorem ap.length {α β : Type} {R : α → β → Prop} : ∀ {l : List α} {k : List β}, ap R l k → l.length = k.length
 | [], [], _ => rfl
 | _ :: _, _ :: _, ⟨_, b⟩ => by simp [ap.length b]
 | [], _ :: _, x => x.elim
 | _ :: _, [], x => x.elim
theorem ap.get {α β : Type} {R : α → β → Prop} : ∀ {l : List α} {k : List β} {i : Nat} {x : α}, ap R l k → l[i]? = some x → ∃ y, k[i]? = some y ∧ R x y
 | [], _, _, _, _, h => by simp at h
 | a :: l, b :: k, 0, x, ⟨h1, _⟩, h => by simp at h; subst h; exact ⟨b, by simp, h1⟩
 | a :: l, b :: k, i + 1, x, ⟨_, h2⟩, h => by simp at h; obtain ⟨y, e, r⟩ := ap.get h2 h; exact ⟨y, by simpa using e, r⟩
 | _ :: _, [], _, _, x, _ => x.elim
theorem ap.set {α β : Type} {R : α → β → Prop} : ∀ {l : List α} {k : List β} {i : Nat} {x : α} {y : β}, ap R l k → R x y → ap R (l.set i x) (k.set i y)
 | [], [], _, _, _, _, _ => trivial
 | a :: l, b :: k, 0, x, y, ⟨h1, h2⟩, h => ⟨h, h2⟩
 | a :: l, b :: k, i + 1, x, y, ⟨h1, h2⟩, h => ⟨h1, ap.set h2 h⟩
 | [], _ :: _, _, _, _, x, _ => x.elim
 | _ :: _, [], _, _, _, x, _ => x.elim
theorem ap.append {α β : Type} {R : α → β → Prop} : ∀ {l : List α} {k : List β} {l' : List α} {k' : List β}, ap R l k → ap R l' k' → ap R (l ++ l') (k ++ k')
 | [], [], _, _, _, h => h
 | _ :: _, _ :: _, _, _, ⟨a, b⟩, h => ⟨a, ap.append b h⟩
 | [], _ :: _, _, _, x, _ => x.elim
 | _ :: _, [], _, _, x, _ => x.elim
theorem ap.drop {α β : Type} {R : α → β → Prop} : ∀ {l : List α} {k : List β} (n : Nat), ap R l k → ap R (l.drop n) (k.drop n)
 | _, _, 0, h => by simpa using h
 | [], [], n + 1, _ => trivial
 | _ :: _, _ :: _, n + 1, ⟨_, b⟩ => ap.drop n b
 | [], _ :: _, _, x => x.elim
 | _ :: _, [], _, x => x.elim
theorem ap.take {α β : Type} {R : α → β → Prop} : ∀ {l : List α} {k : List β} (n : Nat), ap R l k → ap R (l.take n) (k.take n)
 | _, _, 0, h => trivial
 | [], [], n + 1, _ => trivial
 | _ :: _, _ :: _, n + 1, ⟨a, b⟩ => ⟨a, ap.take n b⟩
 | [], _ :: _, _, x => x.elim
 | _ :: _, [], _, x => x.elim
theorem E0 {α β : Type} {R : α → β → Prop} : ∀ {l : List α} {k : List β}, l.length = k.length → (∀ (i : Nat) (x : α) (y : β), l[i]? = some x → k[i]? = some y → R x y) → ap R l k
 | [], [], _, _ => trivial
 | a :: l, b :: k, h, hr => ⟨hr 0 a b (by simp) (by simp), E0 (by simpa using h) fun i x y hx hy => hr (i + 1) x y (by simpa using hx) (by simpa using hy)⟩
 | [], _ :: _, h, _ => by simp at h
 | _ :: _, [], h, _ => by simp at h
def jO : List (Int × Value) → Int → Option Value
 | [], _ => none
 | (k, v) :: l, i => match Int.decEq k i with
  | .isTrue _ => some v
  | .isFalse _ => jO l i
def RT (w : World) (ok : Nat → Prop) : T → Value → Prop
 | .v x, y => y = x ∧ x.oneCell' = true
 | .tree n sz f, y => ∃ q c, y = .slice q n c ∧ n ≤ c ∧ ∀ i, i < n → ∀ j, j < sz → ∃ b o x, q = some ⟨b, o, none⟩ ∧ ok b ∧ w.cell? ⟨b, o + i * sz + j, none⟩ = some x ∧ RT w ok (f i j) x
 | .eptr sz g sub, y => ∃ b o, y = .pointer (some ⟨b, o + sub, none⟩) ∧ ok b ∧ ∀ j, j < sz → ∃ x, w.cell? ⟨b, o + j, none⟩ = some x ∧ RT w ok (g j) x
 | .tst p, y => ∃ b, y = .bool b ∧ (b = true → p)
 | .mp P t l, y => ∃ b o, y = .map (some b) ∧ ok b ∧ w.heap[b]? = some o ∧ ∀ W : World, W.heap[b]? = some o → ∀ k v, jO l k = some v → (Instr.lookup t (.map (some b)) (.int .i64 k) false).run P W = .ok v W
def RC (w : World) (ok : Nat → Prop) (ρ : Ren) : C → Value → Prop
 | .t x, y => RT w ok x y
 | .ref id sz off len, y => ∃ l, ρ id = some l ∧ match l with
  | .nil => off = 0 ∧ len = 0 ∧ ∃ q, y = .slice q 0 0
  | .at b cap => (∃ c, y = .slice (some ⟨b, off * sz, none⟩) len c ∧ len ≤ c ∧ off + c ≤ cap) ∨ (len = 0 ∧ ∃ q, y = .slice q 0 0)
 | .ptr id sz e sub, y => ∃ b cap, ρ id = some (.at b cap) ∧ y = .pointer (some ⟨b, e * sz + sub, none⟩)
def RS (w : World) (ok : Nat → Prop) (ρ : Ren) : S1 → Value → Prop
 | .c x, y => RC w ok ρ x y
 | .agg l, y => ∃ ys : Array Value, y = .agg ys ∧ ap (RC w ok ρ) l ys.toList
def R1 (w : World) (ok : Nat → Prop) (ρ : Ren) : AV → Value → Prop
 | .c x, y => RC w ok ρ x y
 | .agg l, y => ∃ ys : Array Value, y = .agg ys ∧ ap (RC w ok ρ) l ys.toList
 | .fagg n f, y => ∃ ys : Array Value, y = .agg ys ∧ ys.size = n ∧ ∀ i, i < n → ∃ x, ys[i]? = some x ∧ RT w ok (f i) x
 | .tup _, _ => False
 | .clo f a b, y => ∃ fs cs : Array Value, y = .func (.func f) fs cs ∧ ap (RS w ok ρ) a fs.toList ∧ ap (RS w ok ρ) b cs.toList
def RV (w : World) (ok : Nat → Prop) (ρ : Ren) : AV → Value → Prop
 | .tup l, y => ∃ ys : Array Value, y = .tuple ys ∧ ap (R1 w ok ρ) l ys.toList
 | x, y => R1 w ok ρ x y
def Fz (fz : Nat × Nat) (n : Nat) : Prop := fz.2 ≤ fz.1 ∨ n ≤ fz.1
theorem Fz.free {fz : Nat × Nat} {w : World} {b : Nat} {vs : Array Value} {t : TypeId} (h : Fz fz vs.size) (hw : w.heap[b]? = some (.cells vs t fz)) {o : Nat} (ho : o < vs.size) : w.frozen? ⟨b, o, none⟩ = false := by
 simp only [World.frozen?, hw]
 rcases h with h | h
 ·by_cases h1 : fz.1 ≤ o
  ·simp [h1]; omega
  ·simp [h1]
 ·simp [show ¬ fz.1 ≤ o by omega]
def RB (w : World) (ok : Nat → Prop) (ρ : Ren) : az → dd → Prop
 | .box ty cs, l => ∃ b vs, l = .at b 1 ∧ w.heap[b]? = some (.cells vs ty (0, 0)) ∧ ap (RC w ok ρ) cs vs.toList
 | .row ty fro sz n f, l => match l with
  | .nil => n = 0
  | .at b cap => n ≤ cap ∧ ∃ vs fz, w.heap[b]? = some (.cells vs ty fz) ∧ vs.size = cap * sz ∧ (fro = false → Fz fz vs.size ∧ cap ≤ maxLen) ∧ ∀ i, i < n → ∀ j, j < sz → ∃ x, vs[i * sz + j]? = some x ∧ RT w ok (f i j) x
structure cr (w w' : World) (ok ok' : Nat → Prop) : Prop where
 le : ∀ b, ok b → ok' b
 blk : ∀ b, ok b → w'.heap[b]? = w.heap[b]?
theorem cr.cell {w w' : World} {ok ok' : Nat → Prop} (k : cr w w' ok ok') {b : Nat} (h : ok b) (o : Nat) : w'.cell? ⟨b, o, none⟩ = w.cell? ⟨b, o, none⟩ := by
 simp [World.cell?, k.blk b h]
theorem RT.mono {w w' : World} {ok ok' : Nat → Prop} (k : cr w w' ok ok') : ∀ (x : T) (y : Value), RT w ok x y → RT w' ok' x y := by
 intro x
 induction x with
 | v x => exact fun y h => h
 | tree n sz f ih =>
  rintro y ⟨q, c, e, hn, h⟩
  refine ⟨q, c, e, hn, fun i hi j hj => ?_⟩
  obtain ⟨b, o, x, hq, hb, hc, hr⟩ := h i hi j hj
  exact ⟨b, o, x, hq, k.le b hb, by rw [k.cell hb]; exact hc, ih i j x hr⟩
 | eptr sz g sub ih =>
  rintro y ⟨b, o, e, hb, h⟩
  refine ⟨b, o, e, k.le b hb, fun j hj => ?_⟩
  obtain ⟨x, hc, hr⟩ := h j hj
  exact ⟨x, by rw [k.cell hb]; exact hc, ih j x hr⟩
 | tst p => exact fun y h => h
 | mp P t l =>
  rintro y ⟨b, o, e, hb, ho, h⟩
  exact ⟨b, o, e, k.le b hb, by rw [k.blk b hb]; exact ho, h⟩
def bA (ρ ρ' : Ren) : Prop := ∀ id l, ρ id = some l → ρ' id = some l
theorem E1 (ρ : Ren) : bA ρ ρ := fun _ _ h => h
theorem RC.mono {w w' : World} {ok ok' : Nat → Prop} {ρ ρ' : Ren} (k : cr w w' ok ok') (e : bA ρ ρ') : ∀ (x : C) (y : Value), RC w ok ρ x y → RC w' ok' ρ' x y
 | .t x, y, h => RT.mono k x y h
 | .ref id sz off len, y, ⟨l, h1, h2⟩ => ⟨l, e id l h1, h2⟩
 | .ptr id sz a sub, y, ⟨b, cap, h1, h2⟩ => ⟨b, cap, e id _ h1, h2⟩
theorem RS.mono {w w' : World} {ok ok' : Nat → Prop} {ρ ρ' : Ren} (k : cr w w' ok ok') (e : bA ρ ρ') : ∀ (x : S1) (y : Value), RS w ok ρ x y → RS w' ok' ρ' x y
 | .c x, y, h => RC.mono k e x y h
 | .agg l, y, ⟨ys, h1, h2⟩ => ⟨ys, h1, h2.mono (RC.mono k e)⟩
theorem R1.mono {w w' : World} {ok ok' : Nat → Prop} {ρ ρ' : Ren} (k : cr w w' ok ok') (e : bA ρ ρ') : ∀ (x : AV) (y : Value), R1 w ok ρ x y → R1 w' ok' ρ' x y
 | .c x, y, h => RC.mono k e x y h
 | .agg l, y, ⟨ys, h1, h2⟩ => ⟨ys, h1, h2.mono (RC.mono k e)⟩
 | .fagg n f, y, ⟨ys, h1, h2, h3⟩ => ⟨ys, h1, h2, fun i hi => let ⟨x, a, b⟩ := h3 i hi; ⟨x, a, RT.mono k _ _ b⟩⟩
 | .tup _, y, h => h
 | .clo f a b, y, ⟨fs, cs, h1, h2, h3⟩ => ⟨fs, cs, h1, h2.mono (RS.mono k e), h3.mono (RS.mono k e)⟩
theorem RV.mono {w w' : World} {ok ok' : Nat → Prop} {ρ ρ' : Ren} (k : cr w w' ok ok') (e : bA ρ ρ') : ∀ (x : AV) (y : Value), RV w ok ρ x y → RV w' ok' ρ' x y
 | .tup l, y, ⟨ys, h1, h2⟩ => ⟨ys, h1, h2.mono (R1.mono k e)⟩
 | .c x, y, h => RC.mono k e x y h
 | .agg l, y, h => R1.mono k e (.agg l) y h
 | .fagg n f, y, h => R1.mono k e (.fagg n f) y h
 | .clo f a b, y, h => R1.mono k e (.clo f a b) y h
theorem RB.mono {w w' : World} {ok ok' : Nat → Prop} {ρ ρ' : Ren} (k : cr w w' ok ok') (e : bA ρ ρ') : ∀ (x : az) (l : dd), (∀ b cap, l = .at b cap → w'.heap[b]? = w.heap[b]?) → RB w ok ρ x l → RB w' ok' ρ' x l
 | .box ty cs, l, hb, ⟨b, vs, h1, h2, h3⟩ => ⟨b, vs, h1, (hb b 1 h1).trans h2, h3.mono (RC.mono k e)⟩
 | .row ty fro sz n f, .nil, _, h => h
 | .row ty fro sz n f, .at b cap, hb, ⟨h0, vs, fz, h1, h2, h3, h4⟩ => ⟨h0, vs, fz, (hb b cap rfl).trans h1, h2, h3, fun i hi j hj => let ⟨x, a, r⟩ := h4 i hi j hj; ⟨x, a, RT.mono k _ _ r⟩⟩
structure bM (X : Nat → Prop) (w w' : World) : Prop where
 os : w'.os = w.os
 tape : w'.tape = w.tape
 output : w'.output = w.output
 size : w.heap.size ≤ w'.heap.size
 block : ∀ b, b < w.heap.size → ¬ X b → w'.heap[b]? = w.heap[b]?
theorem bM.refl (X : Nat → Prop) (w : World) : bM X w w := ⟨rfl, rfl, rfl, F9 _, fun _ _ _ => rfl⟩
theorem bM.trans {X Y : Nat → Prop} {w w' w'' : World} (h : bM X w w') (k : bM Y w' w'') (hy : ∀ b, b < w.heap.size → Y b → X b) : bM X w w'' :=
 ⟨k.os.trans h.os, k.tape.trans h.tape, k.output.trans h.output, Ga h.size k.size, fun b hb hx => (k.block b (Gb hb h.size) fun y => hx (hy b hb y)).trans (h.block b hb hx)⟩
theorem bM.drewN {X : Nat → Prop} {w w' : World} (h : bM X w w') (n : Nat) : bM X w { w' with drawn := w'.drawn + n } := ⟨h.os, h.tape, h.output, h.size, h.block⟩
theorem gS {w : World} {b : Nat} {o : Obj} (h : w.heap[b]? = some o) : b < w.heap.size := by
 rcases Gi b w.heap.size with h1 | h1
 ·exact h1
 ·rw [Array.getElem?_eq_none h1] at h; cases h
abbrev Tm := Nat → Option AV
abbrev Hp := Nat → Option az
structure cx where
 w : World
 ok : Nat → Prop
 ρ0 : Ren
def okOf (base : cx) (w : World) (ρ : Ren) (h : Hp) (b : Nat) : Prop := b < w.heap.size ∧ (base.w.heap.size ≤ b ∨ base.ok b ∨ ∃ id cap, base.ρ0 id = some (.at b cap)) ∧ ∀ id blk cap, h id = some blk → blk.mut = true → ρ id ≠ some (.at b cap)
structure aI (base : cx) (X : Nat → Prop) (nt : Nat) (used : Nat → Prop) (ρ : Ren) (tm : Tm) (h : Hp) (a : Act) (w : World) : Prop where
 tmp : ∀ t av, tm t = some av → RV w (okOf base w ρ h) ρ av (a.tmps.getD t undef)
 heap : ∀ id blk, h id = some blk → ∃ l, ρ id = some l ∧ RB w (okOf base w ρ h) ρ blk l ∧ ∀ b cap, l = .at b cap → b < w.heap.size ∧ (base.w.heap.size ≤ b ∨ X b)
 hX : ∀ b, X b → ∃ id cap, base.ρ0 id = some (.at b cap)
 inj : ∀ i j b c c' x y, h i = some x → h j = some y → (x.mut = true ∨ y.mut = true) → ρ i = some (.at b c) → ρ j = some (.at b c') → i = j
 used : ∀ id, ρ id ≠ none → used id
 upd : bM X base.w w
 ext0 : bA base.ρ0 ρ
 size : a.tmps.size = nt
 defers : a.defers = []
section
variable {base : cx} {X Y : Nat → Prop} {nt : Nat} {used used' : Nat → Prop} {ρ ρ' : Ren} {tm tm' : Tm} {h h' : Hp} {a a' : Act} {w w' : World}
def wJ (base : cx) (X : Nat → Prop) (ρ : Ren) (h : Hp) (w w' : World) (ρ' : Ren) (h' : Hp) (id : Nat) (blk : az) : Prop :=
 ∃ l, ρ' id = some l ∧ (cr w w' (okOf base w ρ h) (okOf base w' ρ' h') → RB w' (okOf base w' ρ' h') ρ' blk l) ∧
  ∀ b cap, l = .at b cap → b < w'.heap.size ∧ (base.w.heap.size ≤ b ∨ X b) ∧ (w.heap.size ≤ b ∨ ∃ id0 blk0 cap0, h id0 = some blk0 ∧ blk0.mut = true ∧ ρ id0 = some (.at b cap0))
theorem aI.step_keeps (R : aI base X nt used ρ tm h a w) (U : bM Y w w')
  (hY : ∀ b, Y b → b < w.heap.size → ∃ id blk cap, h id = some blk ∧ blk.mut = true ∧ ρ id = some (.at b cap)) (hρ : bA ρ ρ')
  (hh : ∀ id blk, h' id = some blk → (h id = some blk ∧ ∀ b cap, ρ id = some (.at b cap) → ¬ Y b) ∨ wJ base X ρ h w w' ρ' h' id blk) : cr w w' (okOf base w ρ h) (okOf base w' ρ' h') := by
 have nY : ∀ b, okOf base w ρ h b → ¬ Y b := fun b hb hy => by
  obtain ⟨id, blk, cap, h1, h2, h3⟩ := hY b hy hb.1
  exact hb.2.2 id blk cap h1 h2 h3
 refine ⟨fun b hb => ⟨Gb hb.1 U.size, hb.2.1, fun id blk cap h1 h2 h3 => ?_⟩, fun b hb => U.block b hb.1 (nY b hb)⟩
 rcases hh id blk h1 with ⟨k1, _⟩ | ⟨l, k1, _, k3⟩
 ·obtain ⟨l, m1, _, _⟩ := R.heap id blk k1
  have := hρ id l m1
  rw [h3] at this
  injection this with this
  exact hb.2.2 id blk cap k1 h2 (by rw [m1, ← this])
 ·rw [h3] at k1
  injection k1 with k1
  obtain ⟨_, _, k4⟩ := k3 b cap k1.symm
  rcases k4 with k4 | ⟨id0, blk0, cap0, k5, k6, k7⟩
  ·have := hb.1; omega
  ·exact hb.2.2 id0 blk0 cap0 k5 k6 k7
theorem aI.step (R : aI base X nt used ρ tm h a w) (U : bM Y w w')
  (hY : ∀ b, Y b → b < w.heap.size → ∃ id blk cap, h id = some blk ∧ blk.mut = true ∧ ρ id = some (.at b cap)) (hρ : bA ρ ρ') (hused : ∀ id, ρ' id ≠ none → used' id)
  (hh : ∀ id blk, h' id = some blk → (h id = some blk ∧ ∀ b cap, ρ id = some (.at b cap) → ¬ Y b) ∨ wJ base X ρ h w w' ρ' h' id blk)
  (hinj : ∀ i j b c c' x y, h' i = some x → h' j = some y → (x.mut = true ∨ y.mut = true) → ρ' i = some (.at b c) → ρ' j = some (.at b c') → i = j)
  (htm : ∀ t av, tm' t = some av → (tm t = some av ∧ a'.tmps.getD t undef = a.tmps.getD t undef) ∨ (cr w w' (okOf base w ρ h) (okOf base w' ρ' h') → RV w' (okOf base w' ρ' h') ρ' av (a'.tmps.getD t undef)))
  (hsize : a'.tmps.size = nt) (hdef : a'.defers = []) : aI base X nt used' ρ' tm' h' a' w' := by
 have K := R.step_keeps U hY hρ hh
 refine ⟨fun t av ht => ?_, fun id blk hid => ?_, R.hX, hinj, hused, R.upd.trans U fun b hb hy => ?_, fun id l hl => hρ id l (R.ext0 id l hl), hsize, hdef⟩
 ·rcases htm t av ht with ⟨h1, h2⟩ | h1
  ·rw [h2]; exact RV.mono K hρ _ _ (R.tmp t av h1)
  ·exact h1 K
 ·rcases hh id blk hid with ⟨k1, k2⟩ | ⟨l, k1, k2, k3⟩
  ·obtain ⟨l, m1, m2, m3⟩ := R.heap id blk k1
   refine ⟨l, hρ id l m1, RB.mono K hρ _ _ (fun b cap e => U.block b (m3 b cap e).1 (k2 b cap (by rw [m1, e]))) m2, fun b cap e => ⟨Gb (m3 b cap e).1 U.size, (m3 b cap e).2⟩⟩
  ·exact ⟨l, k1, k2 K, fun b cap e => ⟨(k3 b cap e).1, (k3 b cap e).2.1⟩⟩
 ·rcases Gi b w.heap.size with h1 | h1
  ·obtain ⟨id, blk, cap, k1, k2, k3⟩ := hY b hy h1
   obtain ⟨l, m1, _, m3⟩ := R.heap id blk k1
   rw [k3] at m1
   injection m1 with m1
   rcases (m3 b cap m1.symm).2 with h5 | h5
   ·omega
   ·exact h5
  ·have := R.upd.size; omega
theorem aI.mid (R : aI base X nt used ρ tm h a w) {id : Nat} {blk : az} {b cap : Nat} (h1 : h id = some blk) (h2 : ρ id = some (.at b cap)) : base.w.heap.size ≤ b ∨ base.ok b ∨ ∃ id cap, base.ρ0 id = some (.at b cap) := by
 obtain ⟨l, m1, _, m3⟩ := R.heap id blk h1
 rw [h2] at m1
 injection m1 with m1
 rcases (m3 b cap m1.symm).2 with h | h
 ·exact .inl h
 ·exact .inr (.inr (R.hX b h))
theorem dt (a : Act) (d : Option Tmp) (v : Value) : (a.put d v).tmps.size = a.tmps.size := by cases d <;> simp [Act.put]
theorem dA (a : Act) (d : Option Tmp) (v : Value) : (a.put d v).defers = a.defers := by cases d <;> rfl
theorem dB {a : Act} {d t : Nat} (v : Value) (h : t ≠ d) : (a.put (some d) v).tmps.getD t undef = a.tmps.getD t undef := by
 simp only [Act.put, Gc, Array.getElem?_setIfInBounds_ne (Ne.symm h)]
theorem dU {a : Act} {d : Nat} (v : Value) (h : d < a.tmps.size) : (a.put (some d) v).tmps.getD d undef = v := by
 simp [Act.put, h]
def bG (tm : Tm) (d : Option Tmp) (v : Option AV) : Tm := fun t => if some t = d then v else tm t
def aQ (h : Hp) (W : List (Nat × Option az)) : Hp := fun id => match W with
 | [] => h id
 | (k, b) :: W' => if k = id then b else aQ h W' id
theorem aI.put_tm (R : aI base X nt used ρ tm h a w) {d : Option Tmp} {y : Value} {av : Option AV} (hd : ∀ t, d = some t → t < nt) (hv : ∀ x, av = some x → RV w (okOf base w ρ h) ρ x y) :
  aI base X nt used ρ (bG tm d av) h (a.put d y) w := by
 refine R.step (Y := fun _ => False) (bM.refl _ _) (fun _ h => h.elim) (E1 _) R.used (fun id blk hb => .inl ⟨hb, fun _ _ _ h => h⟩) R.inj (fun t x ht => ?_) (by rw [dt, R.size]) (by rw [dA, R.defers])
 by_cases e : some t = d
 ·subst e
  rw [bG, if_pos rfl] at ht
  exact .inr fun K => RV.mono K (E1 _) _ _ (by rw [dU y (by rw [R.size]; exact hd t rfl)]; exact hv x ht)
 ·rw [bG, if_neg e] at ht
  refine .inl ⟨ht, ?_⟩
  cases d with
  | none => rfl
  | some d => exact dB y fun h => e (by rw [h])
theorem aI.upd_w (R : aI base X nt used ρ tm h a w) (U : bM (fun _ => False) w w') : aI base X nt used ρ tm h a w' :=
 R.step U (fun _ h => h.elim) (E1 _) R.used (fun id blk hb => .inl ⟨hb, fun _ _ _ h => h⟩) R.inj (fun t x ht => .inl ⟨ht, rfl⟩) R.size R.defers
theorem aI.weaken (R : aI base X nt used ρ tm h a w) (ht : ∀ t av, tm' t = some av → tm t = some av) (hh : ∀ id b, h' id = some b → h id = some b) : aI base X nt used ρ tm' h' a w :=
 R.step (Y := fun _ => False) (bM.refl _ _) (fun _ h => h.elim) (E1 _) R.used (fun id blk hb => .inl ⟨hh id blk hb, fun _ _ _ h => h⟩)
  (fun i j b c c' x y hx hy => R.inj i j b c c' x y (hh i x hx) (hh j y hy)) (fun t x hx => .inl ⟨ht t x hx, rfl⟩) R.size R.defers
end
theorem RT.one {w : World} {ok : Nat → Prop} : ∀ {x : T} {y : Value}, RT w ok x y → y.oneCell' = true
 | .v x, y, h => by rw [h.1]; exact h.2
 | .tree n sz f, y, ⟨q, c, e, _⟩ => by rw [e]; rfl
 | .eptr sz g sub, y, ⟨b, o, e, _⟩ => by rw [e]; rfl
 | .tst p, y, ⟨b, e, _⟩ => by rw [e]; rfl
 | .mp P t l, y, ⟨b, o, e, _⟩ => by rw [e]; rfl
theorem RC.one {w : World} {ok : Nat → Prop} {ρ : Ren} : ∀ {x : C} {y : Value}, RC w ok ρ x y → y.oneCell' = true
 | .t x, y, h => RT.one h
 | .ref id sz off len, y, ⟨l, h1, h2⟩ => by
  cases l with
  | nil => obtain ⟨_, _, q, e⟩ := h2; rw [e]; rfl
  | _ b cap => rcases h2 with ⟨_, e, _⟩ | ⟨_, q, e⟩ <;> (rw [e]; rfl)
 | .ptr id sz a sub, y, ⟨b, cap, h1, h2⟩ => by rw [h2]; rfl
inductive K where
 | int (k : IntKind)
 | bool
 | str
 | slice (e : TypeId)
 | struct (fs : List (TypeId × Nat))
 | arr (n : Nat) (e : TypeId)
 | ptr (e : TypeId)
 | other
def eT : TypeDesc → K
 | .int k => .int k
 | .bool => .bool
 | .string => .str
 | .slice e => .slice e
 | .struct fs => .struct (fs.toList.map fun f => (f.type, f.offset))
 | .array n e => .arr n e
 | .pointer e => .ptr e
 | _ => .other
structure TI where
 k : K
 size : Nat
 bytes : Nat
 zero : List Value
 eq : Bool := false
def K.agg : K → Bool
 | .struct _ | .arr .. => true
 | _ => false
abbrev TT := Nat → Option TI
def wQ (P : Program) (t : TypeId) : Bool := !P.stoodInHeld t && !P.eqGuardType P.depth t && (P.fieldsOf t).toList.all fun f => f.name != "_"
def ce (P : Program) (t : TypeId) (i : TI) : Prop :=
 (P.info? t).map (fun x => (x.size, x.bytes, x.zero.map fun v => v.cells.toList)) = some (i.size, i.bytes, some i.zero) ∧ (P.underlying t).map eT = some i.k ∧ (!i.eq || wQ P t) = true
def bb (P : Program) (tt : TT) : Prop := ∀ t i, tt t = some i → ce P t i
section
variable {P : Program} {t : TypeId} {i : TI}
theorem ce.info (h : ce P t i) : ∃ x z, P.info? t = some x ∧ x.size = i.size ∧ x.bytes = i.bytes ∧ x.zero = some z ∧ z.cells.toList = i.zero := by
 have h := h.1
 cases hx : P.info? t with
 | none => simp [hx] at h
 | some x =>
  simp only [hx, Option.map_some, FL, FV] at h
  obtain ⟨h1, h2, h3⟩ := h
  cases hz : x.zero with
  | none => simp [hz] at h3
  | some z => exact ⟨x, z, rfl, h1, h2, hz, by simpa [hz] using h3⟩
theorem ce.under (h : ce P t i) : ∃ d, P.underlying t = some d ∧ eT d = i.k := by
 have h := h.2.1
 cases hx : P.underlying t with
 | none => simp [hx] at h
 | some d => exact ⟨d, rfl, by simpa [hx] using h⟩
theorem ce.eqOk (h : ce P t i) (he : i.eq = true) : P.stoodInHeld t = false ∧ P.eqGuardType P.depth t = false ∧ ((P.fieldsOf t).toList.all fun f => f.name != "_") = true := by
 have h := h.2.2
 rw [he] at h
 simp only [Bool.not_true, Bool.false_or, wQ, FY, Bool.not_eq_true'] at h
 exact ⟨h.1.1, h.1.2, h.2⟩
theorem ce.slice (h : ce P t i) {e : TypeId} (hk : i.k = .slice e) : P.underlying t = some (.slice e) := by
 obtain ⟨d, h1, h2⟩ := h.under
 rw [hk] at h2
 cases d <;> simp [eT] at h2
 rw [h1, h2]
theorem ce.arr (h : ce P t i) {n : Nat} {e : TypeId} (hk : i.k = .arr n e) : P.underlying t = some (.array n e) := by
 obtain ⟨d, h1, h2⟩ := h.under
 rw [hk] at h2
 cases d <;> simp [eT] at h2
 rw [h1, h2.1, h2.2]
theorem ce.str (h : ce P t i) (hk : i.k = .str) : P.underlying t = some .string := by
 obtain ⟨d, h1, h2⟩ := h.under
 rw [hk] at h2
 cases d <;> simp [eT] at h2
 rw [h1]
theorem ce.int (h : ce P t i) {k : IntKind} (hk : i.k = .int k) : P.underlying t = some (.int k) := by
 obtain ⟨d, h1, h2⟩ := h.under
 rw [hk] at h2
 cases d <;> simp [eT] at h2
 rw [h1, h2]
theorem ce.bool (h : ce P t i) (hk : i.k = .bool) : P.underlying t = some .bool := by
 obtain ⟨d, h1, h2⟩ := h.under
 rw [hk] at h2
 cases d <;> simp [eT] at h2
 rw [h1]
theorem ce.struct (h : ce P t i) {fs : List (TypeId × Nat)} (hk : i.k = .struct fs) : ∃ fields, P.underlying t = some (.struct fields) ∧ fields.toList.map (fun f => (f.type, f.offset)) = fs := by
 obtain ⟨d, h1, h2⟩ := h.under
 rw [hk] at h2
 cases d <;> simp [eT] at h2
 exact ⟨_, h1, h2⟩
theorem ce.size (h : ce P t i) (w : World) : (sizeOf t).run P w = .ok i.size w := by
 obtain ⟨x, z, h1, h2, _⟩ := h.info
 simp [sizeOf, typeInfo, h1, h2]
theorem ce.isAgg (h : ce P t i) (w : World) : (isAgg t).run P w = .ok i.k.agg w := by
 obtain ⟨d, h1, h2⟩ := h.under
 unfold Go.isAgg
 rw [Sem.run_bind, run_underlying h1 w, ← h2]
 cases d <;> simp [eT, K.agg]
theorem ce.zero_ (h : ce P t i) (w : World) : ∃ z, (zeroValue t).run P w = .ok z w ∧ z.cells.toList = i.zero := by
 obtain ⟨x, z, h1, _, _, h3, h4⟩ := h.info
 exact ⟨z, by simp [zeroValue, typeInfo, h1, h3], h4⟩
end
def fm (P : Program) (G : Value → World → Prop) : Result Next → Prop
 | .ok (.value v) w => G v w
 | .ok .skip w => G undef w
 | .ok (.enter f args) w => Calls P f args w fun e w' => ∃ v, e = .returned v ∧ G v w'
 | _ => False
structure aT where
 val : Option AV
 W : List (Nat × Option az)
 chk : Prop
structure Cx where
 P : Program
 base : cx
 X : Nat → Prop
 nt : Nat
def ct (c : Cx) (used' : Nat → Prop) (tm : Tm) (h : Hp) (a : Act) (o : Oper) (val : Option AV) (W : List (Nat × Option az)) (r : Result Next) : Prop :=
 fm c.P (fun v w' => ∃ ρ', aI c.base c.X c.nt used' ρ' (bG tm o.dst val) (aQ h W) (a.put o.dst v) w') r
section
variable {c : Cx} {used used' : Nat → Prop} {ρ : Ren} {tm : Tm} {h : Hp} {a : Act} {w : World} {o : Oper} {nid : Nat}
theorem Lk (h : Hp) : aQ h [] = h := by funext id; rfl
theorem aI.used_mono {base : cx} {X : Nat → Prop} {nt : Nat} (R : aI base X nt used ρ tm h a w) (hu : ∀ id, used id → used' id) : aI base X nt used' ρ tm h a w :=
 ⟨R.tmp, R.heap, R.hX, R.inj, fun id hid => hu id (R.used id hid), R.upd, R.ext0, R.size, R.defers⟩
theorem b7 (R : aI c.base c.X c.nt used ρ tm h a w) (hu : ∀ id, used id → used' id) (hd : ∀ t, o.dst = some t → t < c.nt) {v : Value} {av : AV} (hv : RV w (okOf c.base w ρ h) ρ av v) {r : Result Next} (hr : r = .ok (.value v) w) :
  ct c used' tm h a o (some av) [] r := by
 subst hr
 exact ⟨ρ, by rw [Lk]; exact (R.used_mono hu).put_tm hd fun x hx => by injection hx with hx; subst hx; exact hv⟩
def ev (tm : Tm) : Operand → Option AV
 | .tmp t => tm t
 | .const v => if v.oneCell' then some (.c (.t (.v v))) else none
 | .func f => some (.c (.t (.v (.func (.func f) #[] #[]))))
 | .global _ => none
theorem bF {base : cx} {X : Nat → Prop} {nt : Nat} (R : aI base X nt used ρ tm h a w) {x : Operand} {av : AV} (hx : ev tm x = some av) : RV w (okOf base w ρ h) ρ av (a.eval x) := by
 cases x with
 | tmp t => exact R.tmp t av hx
 | const v =>
  simp only [ev] at hx
  split at hx
  ·injection hx with hx; subst hx; rename_i h1; exact ⟨rfl, h1⟩
  ·cases hx
 | func f => simp only [ev, FL] at hx; subst hx; exact ⟨rfl, rfl⟩
 | global g => cases hx
theorem bU {base : cx} {X : Nat → Prop} {nt : Nat} (R : aI base X nt used ρ tm h a w) {x : Operand} {v : Value} (hx : ev tm x = some (.c (.t (.v v)))) : a.eval x = v := (bF R hx).1
def cT (b : Bool) : Option Bool → AV × Prop
 | none => (.c (.t (.v (.bool b))), True)
 | some x => (.c (.t (.v (.bool x))), b = x)
theorem fO (b : Bool) (q : Option Bool) (hc : (cT b q).2) (w : World) (ok : Nat → Prop) (ρ : Ren) : RV w ok ρ (cT b q).1 (.bool b) := by
 cases q with
 | none => exact ⟨rfl, rfl⟩
 | some x => have : b = x := hc; subst this; exact ⟨rfl, rfl⟩
def sF (op : BinOp) (k : IntKind) (x y : Int) (q : Option Bool) : Option (AV × Prop) :=
 let i (n : Int) (p : Prop) : Option (AV × Prop) := some (.c (.t (.v (.int k n))), p)
 match op with
 | .add => i (k.wrap (x + y)) True
 | .sub => i (k.wrap (x - y)) True
 | .mul => i (k.wrap (x * y)) True
 | .quo => i (k.wrap (x.tdiv y)) (y ≠ 0)
 | .rem => i (x.tmod y) (y ≠ 0)
 | .and => i (k.wrap (BitVec.ofInt k.bits x &&& BitVec.ofInt k.bits y).toNat) True
 | .or => i (k.wrap (BitVec.ofInt k.bits x ||| BitVec.ofInt k.bits y).toNat) True
 | .xor => i (k.wrap (BitVec.ofInt k.bits x ^^^ BitVec.ofInt k.bits y).toNat) True
 | .andNot => i (k.wrap (BitVec.ofInt k.bits x &&& ~~~BitVec.ofInt k.bits y).toNat) True
 | .shl => i (k.wrap (x * 2 ^ min y.toNat k.bits)) (0 ≤ y)
 | .shr => i (x.fdiv (2 ^ min y.toNat k.bits)) (0 ≤ y)
 | .eql => some (cT (x == y) q)
 | .neq => some (cT (x != y) q)
 | .lss => some (cT (decide (x < y)) q)
 | .leq => some (cT (decide (x ≤ y)) q)
 | .gtr => some (cT (decide (x > y)) q)
 | .geq => some (cT (decide (x ≥ y)) q)
def bZ : Nat := 9223372036854775807
def sG (op : BinOp) (x y : ByteArray) (q : Option Bool) : Option (AV × Prop) :=
 match op with
 | .add => some (.c (.t (.v (.string (x ++ y)))), x.size + y.size ≤ bZ)
 | .eql => some (cT (x.toList == y.toList) q)
 | .neq => some (cT (!(x.toList == y.toList)) q)
 | .lss => some (cT (Op.bytesLess x.toList y.toList) q)
 | .leq => some (cT (Op.bytesLess x.toList y.toList || (x.toList == y.toList)) q)
 | .gtr => some (cT (!(Op.bytesLess x.toList y.toList || (x.toList == y.toList))) q)
 | .geq => some (cT (!(Op.bytesLess x.toList y.toList)) q)
 | _ => none
def sH (tt : TT) (op : BinOp) (t : TypeId) (x y : AV) (q : Option Bool) : Option (AV × Prop) :=
 match x, y with
 | .c (.t (.v (.int k m))), .c (.t (.v (.int k' n))) => if k = k' ∨ op = .shl ∨ op = .shr then sF op k m n q else none
 | .c (.t (.v (.string m))), .c (.t (.v (.string n))) => sG op m n q
 | .c (.t (.v (.bool m))), .c (.t (.v (.bool n))) => match tt t with
  | some { k := .bool, .. } => match op with
   | .eql => some (cT (m == n) q)
   | .neq => some (cT (!(m == n)) q)
   | _ => none
  | _ => none
 | .c (.t (.tree n sz f)), .c (.t (.v (.slice none 0 0))) => match tt t with
  | some { k := .slice _, .. } => match op with
   | .eql => some (.c (.t (.tst (n = 0))), sz ≠ 0)
   | _ => none
  | _ => none
 | _, _ => none
theorem zF {P : Program} {w : World} (op : BinOp) (t : TypeId) (x y : Operand) (k k' : IntKind) (m n : Int) : (eqGuard op t x y (.int k m) (.int k' n)).run P w = .ok () w := by
 unfold eqGuard; split <;> simp
theorem zG {P : Program} {w : World} (op : BinOp) (t : TypeId) (x y : Operand) (m n : ByteArray) : (eqGuard op t x y (.string m) (.string n)).run P w = .ok () w := by
 unfold eqGuard; split <;> simp
theorem uE {P : Program} {w : World} (op : BinOp) (t : TypeId) (x y : Operand) (m n : Bool) : (eqGuard op t x y (.bool m) (.bool n)).run P w = .ok () w := by
 unfold eqGuard; split <;> simp
theorem Bm {P : Program} {w : World} {op : BinOp} {t : TypeId} {k k' : IntKind} {m n : Int} {q : Option Bool} {r : AV × Prop} (hk : k = k' ∨ op = .shl ∨ op = .shr) (h : sF op k m n q = some r) (hc : r.2) (ok : Nat → Prop) (ρ : Ren) :
  ∃ v, (binOp op t (.int k m) (.int k' n)).run P w = .ok v w ∧ RV w ok ρ r.1 v := by
 have go : ∀ v, binOp op t (.int k m) (.int k' n) = pure v → (∃ z, (binOp op t (.int k m) (.int k' n)).run P w = .ok z w ∧ z = v) := fun v e => ⟨v, by rw [e]; rfl, rfl⟩
 cases op <;> simp only [sF, FL] at h <;> subst h <;> simp only [reduceCtorEq, or_false, or_true, or_self] at hk <;> try subst hk
 case add => exact ⟨_, by simp [binOp, Op.intArith], rfl, rfl⟩
 case sub => exact ⟨_, by simp [binOp, Op.intArith], rfl, rfl⟩
 case mul => exact ⟨_, by simp [binOp, Op.intArith], rfl, rfl⟩
 case quo => exact ⟨_, by simp only [binOp, Op.intDiv]; rw [if_neg (fun e => e rfl), if_neg hc]; rfl, rfl, rfl⟩
 case rem => exact ⟨_, by simp only [binOp, Op.intDiv]; rw [if_neg (fun e => e rfl), if_neg hc]; rfl, rfl, rfl⟩
 case and => exact ⟨_, by simp only [binOp, Op.intBits]; rw [if_neg (fun e => e rfl)]; rfl, rfl, rfl⟩
 case or => exact ⟨_, by simp only [binOp, Op.intBits]; rw [if_neg (fun e => e rfl)]; rfl, rfl, rfl⟩
 case xor => exact ⟨_, by simp only [binOp, Op.intBits]; rw [if_neg (fun e => e rfl)]; rfl, rfl, rfl⟩
 case andNot => exact ⟨_, by simp only [binOp, Op.intBits]; rw [if_neg (fun e => e rfl)]; rfl, rfl, rfl⟩
 case shl => exact ⟨_, by simp only [binOp, Op.shift]; rw [if_neg (Int.not_lt.2 hc)]; rfl, rfl, rfl⟩
 case shr => exact ⟨_, by simp only [binOp, Op.shift]; rw [if_neg (Int.not_lt.2 hc)]; rfl, rfl, rfl⟩
 all_goals exact ⟨_, by simp only [binOp, Op.intCmp]; rw [if_neg (fun e => e rfl)]; rfl, fO _ q hc _ _ _⟩
theorem Bn {P : Program} {w : World} {op : BinOp} {t : TypeId} {m n : ByteArray} {q : Option Bool} {r : AV × Prop} (h : sG op m n q = some r) (hc : r.2) (ok : Nat → Prop) (ρ : Ren) :
  ∃ v, (binOp op t (.string m) (.string n)).run P w = .ok v w ∧ RV w ok ρ r.1 v := by
 cases op <;> simp only [sG, FL, reduceCtorEq] at h <;> subst h
 case add => exact ⟨_, run_string_add_sum w m n hc, rfl, rfl⟩
 all_goals exact ⟨_, rfl, fO _ q hc _ _ _⟩
theorem Ch {P : Program} (w : World) (d : Nat) {t e : TypeId} {a : Option Addr} {l c : Nat} (h : P.underlying t = some (.slice e)) : (Op.equalIn (d + 1) t (.slice a l c) (.slice none 0 0)).run P w = .ok a.isNone w := by
 cases a <;> simp [Op.equalIn, run_underlying h]
theorem Bo {P : Program} {tt : TT} (hT : bb P tt) {w : World} {op : BinOp} {t : TypeId} {x y : Operand} {u v : AV} {q : Option Bool} {r : AV × Prop} (h : sH tt op t u v q = some r) (hc : r.2) (ok : Nat → Prop) (ρ : Ren) {m n : Value} (hm : RV w ok ρ u m) (hn : RV w ok ρ v n) :
  ∃ z, (do eqGuard op t x y m n; binOp op t m n : Sem Value).run P w = .ok z w ∧ RV w ok ρ r.1 z := by
 unfold sH at h
 split at h
 ·obtain ⟨rfl, _⟩ := hm
  obtain ⟨rfl, _⟩ := hn
  split at h
  ·rename_i hk
   obtain ⟨z, h1, h2⟩ := Bm (P := P) (t := t) hk h hc ok ρ
   exact ⟨z, by rw [Sem.run_bind, zF]; exact h1, h2⟩
  ·cases h
 ·obtain ⟨rfl, _⟩ := hm
  obtain ⟨rfl, _⟩ := hn
  obtain ⟨z, h1, h2⟩ := Bn (P := P) (t := t) h hc ok ρ
  exact ⟨z, by rw [Sem.run_bind, zG]; exact h1, h2⟩
 ·obtain ⟨rfl, _⟩ := hm
  obtain ⟨rfl, _⟩ := hn
  split at h
  ·rename_i i1 i2 i3 i4 hti
   have hb := (hT _ _ hti).bool rfl
   split at h
   ·injection h with h; subst h
    exact ⟨_, by rw [Sem.run_bind, uE]; exact run_eql_bool w t _ _ hb, fO _ q hc _ _ _⟩
   ·injection h with h; subst h
    exact ⟨_, by rw [Sem.run_bind, uE]; exact run_neq_bool w t _ _ hb, fO _ q hc _ _ _⟩
   ·cases h
  ·cases h
 ·obtain ⟨a, c, rfl, hle, hcell⟩ := hm
  obtain ⟨rfl, _⟩ := hn
  rename_i n' sz f hone
  split at h
  ·rename_i e i1 i2 i3 i4 hti
   have hb := (hT _ _ hti).slice rfl
   split at h
   ·injection h with h; subst h
    refine ⟨.bool a.isNone, ?_, a.isNone, rfl, fun ha => ?_⟩
    ·have hg : (eqGuard .eql t x y (.slice a n' c) (.slice none 0 0)).run P w = .ok () w := by
      unfold eqGuard; simp
     have he : (Op.equalIn (9999 + 1) t (.slice a n' c) (.slice none 0 0)).run P w = .ok a.isNone w := by
      exact Ch w 9999 hb
     rw [Sem.run_bind, hg]
     simp only [binOp]
     simp [Op.equal, Op.maxDepth, he]
    ·by_cases h0 : n' = 0
     ·exact h0
     ·obtain ⟨b, o, v, rfl, _⟩ := hcell 0 (by omega) 0 (Nat.pos_of_ne_zero hc)
      simp at ha
   ·cases h
  ·cases h
 ·cases h
def sS (op : UnOp) (x : AV) (q : Option Bool) : Option (AV × Prop) :=
 match op, x with
 | .neg, .c (.t (.v (.int k n))) => some (.c (.t (.v (.int k (k.wrap (0 - n))))), True)
 | .xor, .c (.t (.v (.int k n))) => some (.c (.t (.v (.int k (k.wrap (BitVec.ofInt k.bits (if k.signed then -1 else k.max) ^^^ BitVec.ofInt k.bits n).toNat)))), True)
 | .not, .c (.t (.v (.bool b))) => some (cT (!b) q)
 | _, _ => none
theorem BO {P : Program} {w : World} {op : UnOp} {x : AV} {q : Option Bool} {r : AV × Prop} (h : sS op x q = some r) (hc : r.2) (ok : Nat → Prop) (ρ : Ren) {m : Value} (hm : RV w ok ρ x m) :
  ∃ z, (Op.unary op m).run P w = .ok z w ∧ RV w ok ρ r.1 z := by
 unfold sS at h
 split at h
 ·obtain ⟨rfl, _⟩ := hm; injection h with h; subst h
  exact ⟨_, by simp [Op.unary, Op.intArith], rfl, rfl⟩
 ·obtain ⟨rfl, _⟩ := hm; injection h with h; subst h
  exact ⟨_, by simp [Op.unary, Op.intBits], rfl, rfl⟩
 ·obtain ⟨rfl, _⟩ := hm; injection h with h; subst h
  exact ⟨_, by simp [Op.unary], fO _ q hc _ _ _⟩
 ·cases h
end
def dh (h : Hp) (p : C) (j : Nat) : Option C :=
 match p with
 | .ptr id sz e sub => match h id with
  | some (.box _ cs) => cs[e * sz + sub + j]?
  | some (.row _ _ sz' n f) => if sz = sz' ∧ 0 < sz then some (.t (f (e + (sub + j) / sz) ((sub + j) % sz))) else none
  | none => none
 | .t (.eptr sz g sub) => if sub + j < sz then some (.t (g (sub + j))) else none
 | _ => none
def fQ (h : Hp) (p : C) (s : Nat) : Prop :=
 match p with
 | .ptr id sz e sub => match h id with
  | some (.row _ _ _ n _) => e + (sub + s - 1) / sz < n
  | _ => True
 | _ => True
def ff (h : Hp) (p : C) : Nat → Nat → Option (List C)
 | _, 0 => some []
 | j, s + 1 => match dh h p j with
  | some c => match ff h p (j + 1) s with
   | some l => some (c :: l)
   | none => none
  | none => none
section
variable {c : Cx} {used : Nat → Prop} {ρ : Ren} {tm : Tm} {h : Hp} {a : Act} {w : World} {base : cx} {X : Nat → Prop} {nt : Nat} {ok : Nat → Prop}
theorem LW {p : C} {y : Value} {s : Nat} (R : aI base X nt used ρ tm h a w) (hr : RC w (okOf base w ρ h) ρ p y) (hc : fQ h p s) (hs : 0 < s) (h0 : (dh h p 0).isSome = true) :
  ∃ b o, y = .pointer (some ⟨b, o, none⟩) ∧ ∀ j, j < s → ∀ c, dh h p j = some c → ∃ x, w.cell? ⟨b, o + j, none⟩ = some x ∧ RC w (okOf base w ρ h) ρ c x := by
 match p with
 | .ptr id sz e sub =>
  obtain ⟨b, cap, h1, h2⟩ := hr
  refine ⟨b, e * sz + sub, h2, fun j hj c hcell => ?_⟩
  cases hb : h id with
  | none => simp [dh, hb] at h0
  | some blk =>
   obtain ⟨l, l1, l2, _⟩ := R.heap id blk hb
   rw [h1] at l1
   injection l1 with l1
   subst l1
   cases blk with
   | box ty cs =>
    obtain ⟨b', vs, e1, e2, e3⟩ := l2
    injection e1 with e1 _
    subst e1
    simp only [dh, hb] at hcell
    obtain ⟨x, x1, x2⟩ := ap.get e3 hcell
    exact ⟨x, by rw [cell_of_row w _ _ vs ty (0, 0) e2]; simpa using x1, x2⟩
   | row ty fro sz' n f =>
    obtain ⟨e0, vs, fz, e1, e2, e3, e4⟩ := l2
    simp only [dh, hb] at hcell
    split at hcell
    ·rename_i hsz
     obtain ⟨rfl, hpos⟩ := hsz
     injection hcell with hcell
     subst hcell
     simp only [fQ, hb] at hc
     have hle : (sub + j) / sz ≤ (sub + s - 1) / sz := Nat.div_le_div_right (by omega)
     obtain ⟨x, x1, x2⟩ := e4 (e + (sub + j) / sz) (by omega) ((sub + j) % sz) (Nat.mod_lt _ hpos)
     refine ⟨x, ?_, x2⟩
     rw [cell_of_row w _ _ vs ty fz e1, ← x1]
     congr 1
     have := Nat.div_add_mod (sub + j) sz
     rw [Nat.add_mul, Nat.mul_comm ((sub + j) / sz) sz]
     omega
    ·cases hcell
 | .t (.eptr sz g sub) =>
  obtain ⟨b, o, h1, h2, h3⟩ := hr
  refine ⟨b, o + sub, h1, fun j hj c hcell => ?_⟩
  simp only [dh] at hcell
  split at hcell
  ·rename_i hlt
   injection hcell with hcell
   subst hcell
   obtain ⟨x, x1, x2⟩ := h3 (sub + j) hlt
   exact ⟨x, by rw [Nat.add_assoc]; exact x1, x2⟩
  ·cases hcell
 | .t (.v _) => simp [dh] at h0
 | .t (.tree ..) => simp [dh] at h0
 | .t (.tst _) => simp [dh] at h0
 | .t (.mp ..) => simp [dh] at h0
 | .ref .. => simp [dh] at h0
theorem qB {p : C} : ∀ {s j : Nat} {l : List C}, ff h p j s = some l → l.length = s ∧ ∀ i, i < s → ∃ c, dh h p (j + i) = some c ∧ l[i]? = some c
 | 0, j, l, e => by simp [ff] at e; subst e; exact ⟨rfl, fun i hi => by omega⟩
 | s + 1, j, l, e => by
  simp only [ff] at e
  split at e
  ·rename_i c hc
   split at e
   ·rename_i l' hl
    injection e with e
    subst e
    obtain ⟨h1, h2⟩ := qB hl
    refine ⟨by simp [h1], fun i hi => ?_⟩
    cases i with
    | zero => exact ⟨c, hc, by simp⟩
    | succ i =>
     obtain ⟨c', k1, k2⟩ := h2 i (by omega)
     exact ⟨c', by rw [← k1]; congr 1; omega, by simpa using k2⟩
   ·cases e
  ·cases e
def eJ (tt : TT) (t : TypeId) (h : Hp) (p : AV) : Option (AV × Prop) :=
 match p, tt t with
 | .c p, some i => match i.k.agg with
  | true => match i.size with
   | 0 => none
   | s + 1 => match ff h p 0 (s + 1) with
    | some l => some (.agg l, fQ h p (s + 1))
    | none => none
  | false => match dh h p 0 with
   | some c => some (.c c, fQ h p 1)
   | none => none
 | _, _ => none
theorem vw {P : Program} {tt : TT} (hT : bb P tt) {t : TypeId} {p : AV} {y : Value} {r : AV × Prop} (e : eJ tt t h p = some r) (hc : r.2) (R : aI base X nt used ρ tm h a w) (hr : RV w (okOf base w ρ h) ρ p y) :
  ∃ v, (Instr.loadAt t y).run P w = .ok v w ∧ RV w (okOf base w ρ h) ρ r.1 v := by
 unfold eJ at e
 split at e
 ·rename_i p i hti
  have ht := hT _ _ hti
  split at e
  ·rename_i hagg
   split at e
   ·cases e
   ·rename_i s hsz
    split at e
    ·rename_i l hl
     injection e with e
     subst e
     obtain ⟨h1, h2⟩ := qB hl
     obtain ⟨c0, c1, _⟩ := h2 0 (by omega)
     obtain ⟨b, o, rfl, hcell⟩ := LW R hr hc (by omega) (by simpa using congrArg Option.isSome c1)
     let f : Nat → Value := fun j => (w.cell? ⟨b, o + j, none⟩).getD undef
     have hf : ∀ j, j < s + 1 → ∃ c, l[j]? = some c ∧ w.cell? ⟨b, o + j, none⟩ = some (f j) ∧ RC w (okOf base w ρ h) ρ c (f j) := by
      intro j hj
      obtain ⟨c, k1, k2⟩ := h2 j hj
      obtain ⟨x, x1, x2⟩ := hcell j hj c (by simpa using k1)
      have : f j = x := by simp [f, x1]
      exact ⟨c, k2, by rw [this]; exact x1, by rw [this]; exact x2⟩
     have hl2 := run_loadCells (P := P) w ⟨b, o, none⟩ (s + 1) f (fun j hj => by obtain ⟨c, _, k, _⟩ := hf j hj; rw [Addr.add_lit]; exact k)
     refine ⟨.agg ((List.range (s + 1)).map f).toArray, ?_, _, rfl, ?_⟩
     ·simp [Instr.loadAt, Instr.sureAddr, loadVar, ht.isAgg, hagg, ht.size, hsz, hl2]
     ·refine E0 (by simp [h1]) fun i x y hx hy => ?_
      have hi : i < s + 1 := by
       rcases Gi i (s + 1) with h' | h'
       ·exact h'
       ·rw [FK (by omega)] at hx; cases hx
      obtain ⟨c, k1, _, k3⟩ := hf i hi
      rw [hx] at k1
      injection k1 with k1
      subst k1
      simp [hi] at hy
      subst hy
      exact k3
    ·cases e
  ·rename_i hagg
   split at e
   ·rename_i c hc0
    injection e with e
    subst e
    obtain ⟨b, o, rfl, hcell⟩ := LW R hr hc (by omega) (by simp [hc0])
    obtain ⟨x, x1, x2⟩ := hcell 0 (by omega) c hc0
    refine ⟨x, ?_, x2⟩
    simp only [Nat.add_zero] at x1
    simp [Instr.loadAt, Instr.sureAddr, loadVar, ht.isAgg, hagg, x1]
   ·cases e
 ·cases e
def qO (tt : TT) (s : TypeId) (p : AV) (fl : Nat) : Option (AV × Prop) :=
 match tt s with
 | some { k := .struct fs, .. } => match fs[fl]? with
  | some (ft, off) => match tt ft with
   | some i => if i.size = 0 then none else match p with
    | .c (.ptr id sz e sub) => some (.c (.ptr id sz e (sub + off)), True)
    | .c (.t (.eptr sz g sub)) => some (.c (.t (.eptr sz g (sub + off))), True)
    | _ => none
   | none => none
  | none => none
 | _ => none
theorem yV {P : Program} {tt : TT} (hT : bb P tt) {s : TypeId} {p : AV} {fl : Nat} {y : Value} {r : AV × Prop} (e : qO tt s p fl = some r) (hr : RV w ok ρ p y) :
  ∃ v, (Instr.fieldAt s y fl).run P w = .ok v w ∧ RV w ok ρ r.1 v := by
 unfold qO at e
 split at e
 ·rename_i i1 i2 i3 i4 fs hti
  obtain ⟨fields, hu, hfs⟩ := (hT _ _ hti).struct rfl
  split at e
  ·rename_i ft off hft
   rw [← hfs, F6] at hft
   cases hf : fields.toList[fl]? with
   | none => simp [hf] at hft
   | some f =>
    simp only [hf, Option.map_some, FL, FV] at hft
    obtain ⟨rfl, rfl⟩ := hft
    have hf' : fields[fl]? = some f := by simpa using hf
    split at e
    ·rename_i i hi
     have hsz := (hT _ _ hi).size w
     split at e
     ·cases e
     ·rename_i hne
      split at e
      ·injection e with e; subst e
       obtain ⟨b, cap, h1, rfl⟩ := hr
       exact ⟨.pointer (some ⟨b, _, none⟩), by simp [Instr.fieldAt, run_underlying hu, hf', Instr.sureAddr, fieldPlace, hsz, hne, Addr.add_lit]; rfl, b, cap, h1, by rw [Nat.add_assoc]⟩
      ·injection e with e; subst e
       obtain ⟨b, o, rfl, h2, h3⟩ := hr
       exact ⟨.pointer (some ⟨b, _, none⟩), by simp [Instr.fieldAt, run_underlying hu, hf', Instr.sureAddr, fieldPlace, hsz, hne, Addr.add_lit]; rfl, b, o, by rw [Nat.add_assoc], h2, h3⟩
      ·cases e
    ·cases e
  ·cases e
 ·cases e
def qP (tt : TT) (t : TypeId) (x ix : AV) : Option (AV × Prop) :=
 match ix with
 | .c (.t (.v (.int k i))) => match tt t with
  | some { k := .slice e, .. } => match tt e with
   | some ie => match x with
    | .c (.ref id sz off len) => if sz = ie.size ∧ 0 < sz then some (.c (.ptr id sz (off + i.toNat) 0), 0 ≤ i ∧ i < len) else none
    | .c (.t (.tree n sz f)) => if sz = ie.size ∧ 0 < sz then some (.c (.t (.eptr sz (f i.toNat) 0)), 0 ≤ i ∧ i < n) else none
    | _ => none
   | none => none
  | some { k := .arr n e, .. } => match tt e with
   | some ie => match x with
    | .c (.ptr id sz e0 sub) => if sz = ie.size ∧ sub = 0 then some (.c (.ptr id sz (e0 + i.toNat) 0), 0 ≤ i ∧ i < n) else none
    | _ => none
   | none => none
  | _ => none
 | _ => none
theorem yW {P : Program} {tt : TT} (hT : bb P tt) {t : TypeId} {x ix : AV} {y z : Value} {r : AV × Prop} (e : qP tt t x ix = some r) (hc : r.2) (hr : RV w ok ρ x y) (hi : RV w ok ρ ix z) :
  ∃ v, (Instr.indexAt t y z).run P w = .ok v w ∧ RV w ok ρ r.1 v := by
 unfold qP at e
 split at e
 ·rename_i k i
  obtain ⟨rfl, _⟩ := hi
  split at e
  ·rename_i i1 i2 i3 i4 el hti
   have hu := (hT _ _ hti).slice rfl
   split at e
   ·rename_i ie hie
    have hsz := (hT _ _ hie).size w
    split at e
    ·rename_i id sz off len
     split at e
     ·rename_i hs
      injection e with e
      subst e
      obtain ⟨h0, h1⟩ : 0 ≤ i ∧ i < len := hc
      obtain ⟨l, l1, l2⟩ := hr
      cases l with
      | nil => obtain ⟨_, h2, _⟩ := l2; omega
      | _ b cap =>
       rcases l2 with ⟨_, rfl, _⟩ | ⟨h2, _⟩
       ·refine ⟨.pointer (some ⟨b, _, none⟩), ?_, b, cap, l1, rfl⟩
        simp [Instr.indexAt, asIntOf, run_underlying hu, h0, h1, hsz, Addr.add_lit, hs.1, Nat.add_mul]
       ·omega
     ·cases e
    ·rename_i n sz f
     split at e
     ·rename_i hs
      injection e with e
      subst e
      obtain ⟨h0, h1⟩ : 0 ≤ i ∧ i < n := hc
      obtain ⟨q, cp, rfl, hnc, hcell⟩ := hr
      obtain ⟨b, o, x, hq, hb, hx, hrx⟩ := hcell i.toNat (by omega) 0 hs.2
      subst hq
      refine ⟨.pointer (some ⟨b, o + i.toNat * sz, none⟩), ?_, b, o + i.toNat * sz, rfl, hb, fun j hj => ?_⟩
      ·simp [Instr.indexAt, asIntOf, run_underlying hu, h0, h1, hsz, Addr.add_lit, hs.1]
      ·obtain ⟨b', o', x', hq', hb', hx', hr'⟩ := hcell i.toNat (by omega) j hj
       injection hq' with hq'
       injection hq' with e1 e2
       subst e1; subst e2
       exact ⟨x', hx', hr'⟩
     ·cases e
    ·cases e
   ·cases e
  ·rename_i n el i1 i2 i3 i4 hti
   have hu := (hT _ _ hti).arr rfl
   split at e
   ·rename_i ie hie
    have hsz := (hT _ _ hie).size w
    split at e
    ·rename_i id sz e0 sub
     split at e
     ·rename_i hs
      injection e with e
      subst e
      obtain ⟨h0, h1⟩ : 0 ≤ i ∧ i < n := hc
      obtain ⟨b, cap, l1, rfl⟩ := hr
      refine ⟨.pointer (some ⟨b, _, none⟩), ?_, b, cap, l1, rfl⟩
      simp [Instr.indexAt, asIntOf, run_underlying hu, h0, h1, hsz, Instr.sureAddr, Addr.add_lit, hs.1, hs.2, Nat.add_mul]
     ·cases e
    ·cases e
   ·cases e
  ·cases e
 ·cases e
def nd (i : TI) (l : List C) (off : Nat) : Option AV :=
 match i.k.agg with
 | true => if off + i.size ≤ l.length then some (.agg ((l.drop off).take i.size)) else none
 | false => match l[off]? with
  | some c => some (.c c)
  | none => none
theorem vx {P : Program} {t : TypeId} {i : TI} (ht : ce P t i) {l : List C} {off : Nat} {r : AV} (e : nd i l off = some r) {ys : Array Value} (hr : ap (RC w ok ρ) l ys.toList) :
  ∃ v, (part t ys off).run P w = .ok v w ∧ RV w ok ρ r v := by
 unfold nd at e
 split at e
 ·rename_i hagg
  split at e
  ·rename_i hle
   injection e with e
   subst e
   refine ⟨.agg (ys.extract off (off + i.size)), by simp [part, ht.isAgg, hagg, ht.size], _, rfl, ?_⟩
   have := (hr.drop off).take i.size
   have e1 : (ys.extract off (off + i.size)).toList = (ys.toList.drop off).take i.size := by simp [List.extract_eq_take_drop]
   rw [e1]; exact this
  ·cases e
 ·rename_i hagg
  split at e
  ·rename_i c hc0
   injection e with e
   subst e
   obtain ⟨x, x1, x2⟩ := ap.get hr hc0
   refine ⟨x, ?_, x2⟩
   have x1' : ys[off]? = some x := by simpa using x1
   simp [part, ht.isAgg, hagg, x1']
  ·cases e
def si (tt : TT) (t : TypeId) (x : AV) (fl : Nat) : Option (AV × Prop) :=
 match tt t with
 | some { k := .struct fs, .. } => match fs[fl]? with
  | some (ft, off) => match tt ft with
   | some i => match x with
    | .agg l => match nd i l off with
     | some v => some (v, True)
     | none => none
    | _ => none
   | none => none
  | none => none
 | _ => none
theorem zX {P : Program} {tt : TT} (hT : bb P tt) {s : TypeId} {x : AV} {fl : Nat} {y : Value} {r : AV × Prop} (e : si tt s x fl = some r) (hr : RV w ok ρ x y) :
  ∃ v, (Instr.field s y fl).run P w = .ok v w ∧ RV w ok ρ r.1 v := by
 unfold si at e
 split at e
 ·rename_i i1 i2 i3 i4 fs hti
  obtain ⟨fields, hu, hfs⟩ := (hT _ _ hti).struct rfl
  split at e
  ·rename_i ft off hft
   rw [← hfs, F6] at hft
   cases hf : fields.toList[fl]? with
   | none => simp [hf] at hft
   | some f =>
    simp only [hf, Option.map_some, FL, FV] at hft
    obtain ⟨rfl, rfl⟩ := hft
    have hf' : fields[fl]? = some f := by simpa using hf
    split at e
    ·rename_i i hi
     split at e
     ·rename_i l
      split at e
      ·rename_i v hv
       injection e with e
       subst e
       obtain ⟨ys, rfl, hys⟩ := hr
       obtain ⟨v, v1, v2⟩ := vx (hT _ _ hi) hv hys
       exact ⟨v, by simp [Instr.field, run_underlying hu, hf', asAgg, v1], v2⟩
      ·cases e
     ·cases e
    ·cases e
  ·cases e
 ·cases e
def sj (tt : TT) (t : TypeId) (x ix : AV) : Option (AV × Prop) :=
 match ix with
 | .c (.t (.v (.int k i))) => match tt t with
  | some { k := .str, .. } => match x with
   | .c (.t (.v (.string s))) => some (.c (.t (.v (.int .u8 (s.data.toList.getD i.toNat 0).toNat))), 0 ≤ i ∧ i < s.size)
   | _ => none
  | some { k := .arr n e, .. } => match tt e with
   | some ie => match x with
    | .fagg m f => if ie.k.agg = false ∧ ie.size = 1 ∧ n = m then some (.c (.t (f i.toNat)), 0 ≤ i ∧ i < n) else none
    | .agg l => match nd ie l (i.toNat * ie.size) with
     | some v => some (v, 0 ≤ i ∧ i < n)
     | none => none
    | _ => none
   | none => none
  | _ => none
 | _ => none
theorem zY {P : Program} {tt : TT} (hT : bb P tt) {t : TypeId} {x ix : AV} {y z : Value} {r : AV × Prop} (e : sj tt t x ix = some r) (hc : r.2) (hr : RV w ok ρ x y) (hi : RV w ok ρ ix z) :
  ∃ v, (Instr.index t y z).run P w = .ok v w ∧ RV w ok ρ r.1 v := by
 unfold sj at e
 split at e
 ·rename_i k i
  obtain ⟨rfl, _⟩ := hi
  split at e
  ·rename_i i1 i2 i3 i4 hti
   have hu := (hT _ _ hti).str rfl
   split at e
   ·rename_i s
    injection e with e
    subst e
    obtain ⟨rfl, _⟩ := hr
    obtain ⟨h0, h1⟩ : 0 ≤ i ∧ i < s.size := hc
    have hlt : i.toNat < s.size := by omega
    refine ⟨_, ?_, rfl, rfl⟩
    have hg : s[i.toNat]? = some s[i.toNat] := ByteArray.getElem?_lt' s _ hlt
    have hd : s.data.toList.getD i.toNat 0 = s[i.toNat] := by
     have h2 : i.toNat < s.data.size := hlt
     rw [FI, Gn, Gl h2]; rfl
    simp only [Instr.index, asIntOf, Sem.run_bind, Sem.run_pure, Result.andThen_ok, run_underlying hu, h0, if_true, hg, hd]
   ·cases e
  ·rename_i n el i1 i2 i3 i4 hti
   have hu := (hT _ _ hti).arr rfl
   split at e
   ·rename_i ie hie
    have hsz := (hT _ _ hie).size w
    split at e
    ·rename_i m f
     split at e
     ·rename_i hs
      injection e with e
      subst e
      obtain ⟨ys, rfl, hm, hys⟩ := hr
      obtain ⟨h0, h1⟩ : 0 ≤ i ∧ i < n := hc
      obtain ⟨x, x1, x2⟩ := hys i.toNat (by omega)
      refine ⟨x, ?_, x2⟩
      simp [Instr.index, asIntOf, run_underlying hu, h0, h1, hsz, part, (hT _ _ hie).isAgg, hs.1, hs.2.1, x1]
     ·cases e
    ·rename_i l
     split at e
     ·rename_i v hv
      injection e with e
      subst e
      obtain ⟨ys, rfl, hys⟩ := hr
      obtain ⟨h0, h1⟩ : 0 ≤ i ∧ i < n := hc
      obtain ⟨u, u1, u2⟩ := vx (hT _ _ hie) hv hys
      exact ⟨u, by simp [Instr.index, asIntOf, run_underlying hu, h0, h1, hsz, u1], u2⟩
     ·cases e
    ·cases e
   ·cases e
  ·cases e
 ·cases e
def rC (x : AV) (i : Nat) : Option (AV × Prop) :=
 match x with
 | .tup l => match l[i]? with
  | some (.tup _) => none
  | some v => some (v, True)
  | none => none
 | _ => none
theorem hZ {v : AV} {y : Value} (h : R1 w ok ρ v y) : RV w ok ρ v y := by
 cases v <;> first | exact h | exact h.elim
theorem zy {P : Program} {x : AV} {i : Nat} {y : Value} {r : AV × Prop} (e : rC x i = some r) (hr : RV w ok ρ x y) :
  ∃ v, (Instr.extract y i).run P w = .ok v w ∧ RV w ok ρ r.1 v := by
 unfold rC at e
 split at e
 ·rename_i l
  obtain ⟨ys, rfl, hys⟩ := hr
  split at e
  ·cases e
  ·rename_i v _ hv
   injection e with e
   subst e
   obtain ⟨u, u1, u2⟩ := ap.get hys hv
   have u1' : ys[i]? = some u := by simpa using u1
   exact ⟨u, by simp [Instr.extract, u1'], hZ u2⟩
  ·cases e
 ·cases e
def sI (tt : TT) (t : TypeId) (x : AV) : Option (AV × Prop) :=
 let r (n : Nat) : Option (AV × Prop) := some (.c (.t (.v (.int .i64 n))), True)
 match tt t with
 | some { k := .str, .. } => match x with
  | .c (.t (.v (.string s))) => r s.size
  | _ => none
 | some { k := .slice _, .. } => match x with
  | .c (.ref _ _ _ len) => r len
  | .c (.t (.tree n _ _)) => r n
  | .c (.t (.v (.slice _ n _))) => r n
  | _ => none
 | some { k := .arr n _, .. } => r n
 | _ => none
theorem Bp {P : Program} {tt : TT} (hT : bb P tt) {t ty : TypeId} {ts : Array TypeId} {x : AV} {y : Value} {r : AV × Prop} (e : sI tt t x = some r) (hts : ts[0]? = some t) (hr : RV w ok ρ x y) :
  ∃ v, (Builtin.len_ ts ty #[y]).run P w = .ok v w ∧ RV w ok ρ r.1 v := by
 unfold sI at e
 split at e
 ·rename_i i1 i2 i3 i4 hti
  have hu := (hT _ _ hti).str rfl
  split at e
  ·injection e with e; subst e
   obtain ⟨rfl, _⟩ := hr
   exact ⟨_, by simp [Builtin.len_, hts, run_underlying hu]; rfl, rfl, rfl⟩
  ·cases e
 ·rename_i i1 i2 i3 i4 el hti
  have hu := (hT _ _ hti).slice rfl
  split at e
  ·injection e with e; subst e
   obtain ⟨l, l1, l2⟩ := hr
   cases l with
   | nil => obtain ⟨_, rfl, q, rfl⟩ := l2; exact ⟨_, by simp [Builtin.len_, hts, run_underlying hu]; rfl, rfl, rfl⟩
   | _ b cap =>
    rcases l2 with ⟨_, rfl, _⟩ | ⟨rfl, q, rfl⟩
    ·exact ⟨_, by simp [Builtin.len_, hts, run_underlying hu]; rfl, rfl, rfl⟩
    ·exact ⟨_, by simp [Builtin.len_, hts, run_underlying hu]; rfl, rfl, rfl⟩
  ·injection e with e; subst e
   obtain ⟨q, cp, rfl, _⟩ := hr
   exact ⟨_, by simp [Builtin.len_, hts, run_underlying hu]; rfl, rfl, rfl⟩
  ·injection e with e; subst e
   obtain ⟨rfl, _⟩ := hr
   exact ⟨_, by simp [Builtin.len_, hts, run_underlying hu]; rfl, rfl, rfl⟩
  ·cases e
 ·rename_i n el i1 i2 i3 i4 hti
  have hu := (hT _ _ hti).arr rfl
  injection e with e; subst e
  exact ⟨_, by simp [Builtin.len_, hts, run_underlying hu]; rfl, rfl, rfl⟩
 ·cases e
end
structure bC where
 b : Option Bool := none
 row : Option (Nat × (Nat → Nat → T)) := none
 ints : Option (Nat → Int) := none
 frz : Bool := false
 keep : Bool := false
def aZ (x y : T) : Prop := ∀ (w : World) (ok : Nat → Prop) (v : Value), RT w ok x v → RT w ok y v
theorem aZ.refl (x : T) : aZ x x := fun _ _ _ h => h
theorem aZ.nil {n sz : Nat} {f : Nat → Nat → T} (hn : n = 0) : aZ (.v (.slice none 0 0)) (.tree n sz f) := fun w ok v h => by
 obtain ⟨rfl, _⟩ := h
 subst hn
 exact ⟨none, 0, rfl, F9 _, fun i hi => by omega⟩
def bI (ty : TypeId) (fro : Bool) (sz n : Nat) (f : Nat → Nat → T) : Option (Nat × (Nat → Nat → T)) → Nat × az × Prop
 | none => (n, .row ty fro sz n f, True)
 | some (m, g) => (m, .row ty fro sz m g, n = m ∧ ∀ i, i < m → ∀ j, j < sz → aZ (f i j) (g i j))
def Ren.set (ρ : Ren) (nid : Nat) (l : dd) : Ren := fun id => if id = nid then some l else ρ id
def de {α : Type} (f : Nat → α) : Nat → Nat → List α
 | _, 0 => []
 | s, n + 1 => f s :: de f (s + 1) n
theorem eh {α : Type} (f : Nat → α) : ∀ (s n : Nat), (de f s n).length = n
 | _, 0 => rfl
 | s, n + 1 => by simp [de, eh f (s + 1) n]
theorem fg {α : Type} (f : Nat → α) : ∀ (s n i : Nat), i < n → (de f s n)[i]? = some (f (s + i))
 | _, 0, _, h => by omega
 | s, n + 1, 0, h => by simp [de]
 | s, n + 1, i + 1, h => by simp only [de, List.getElem?_cons_succ]; rw [fg f (s + 1) n i (by omega)]; congr 2; omega
def fL : AV → Option (List C)
 | .c x => some [x]
 | .agg l => some l
 | .fagg n f => some (de (fun i => .t (f i)) 0 n)
 | .tup _ => none
 | .clo .. => none
def dq : List C → Option (List T)
 | [] => some []
 | .t x :: l => match dq l with
  | some r => some (x :: r)
  | none => none
 | _ :: _ => none
def cq (l : List T) (sz : Nat) : Nat → Nat → T := fun i j => l.getD (i * sz + j) (.v undef)
section
variable {c : Cx} {used used' : Nat → Prop} {ρ ρ' : Ren} {tm : Tm} {h h' : Hp} {a : Act} {w w' : World} {base : cx} {X : Nat → Prop} {nt : Nat} {ok : Nat → Prop} {o : Oper} {nid : Nat}
theorem qQ {x : AV} {l : List C} {y : Value} (e : fL x = some l) (hr : RV w ok ρ x y) : ap (RC w ok ρ) l y.cells.toList := by
 cases x with
 | c x =>
  simp only [fL, FL] at e
  subst e
  have h1 := RC.one (show RC w ok ρ x y from hr)
  have : y.cells = #[y] := by cases y <;> first | rfl | (simp [Value.oneCell'] at h1)
  rw [this]
  exact ⟨hr, trivial⟩
 | agg l' =>
  simp only [fL, FL] at e
  subst e
  obtain ⟨ys, rfl, h2⟩ := hr
  exact h2
 | fagg n f =>
  simp only [fL, FL] at e
  subst e
  obtain ⟨ys, rfl, h2, h3⟩ := hr
  refine E0 (by simp [eh, Value.cells, h2]) fun i x y hx hy => ?_
  have hi : i < n := by
   rcases Gi i n with h' | h'
   ·exact h'
   ·rw [FK (by rw [eh]; omega)] at hx; cases hx
  rw [fg _ _ _ _ hi] at hx
  injection hx with hx
  subst hx
  obtain ⟨x, x1, x2⟩ := h3 i hi
  have : ys[i]? = some y := by simpa [Value.cells] using hy
  rw [x1] at this
  injection this with this
  subst this
  rw [Gg]; exact x2
 | tup l => cases e
 | clo f a b => cases e
theorem eE : ∀ {l : List C} {r : List T} {vs : List Value}, dq l = some r → ap (RC w ok ρ) l vs → ap (RT w ok) r vs
 | [], _, [], e, _ => by simp [dq] at e; subst e; trivial
 | .t x :: l, r, v :: vs, e, h => by
  simp only [dq] at e
  split at e
  ·rename_i r' hr
   injection e with e
   subst e
   exact ⟨h.1, eE hr h.2⟩
  ·cases e
 | .ref .. :: _, _, _ :: _, e, _ => by simp [dq] at e
 | .ptr .. :: _, _, _ :: _, e, _ => by simp [dq] at e
 | [], _, _ :: _, _, h => h.elim
 | .t _ :: _, _, [], _, h => h.elim
 | .ref .. :: _, _, [], _, h => h.elim
 | .ptr .. :: _, _, [], _, h => h.elim
theorem mH {l : List T} {vs : Array Value} {sz n : Nat} (hl : l.length = n * sz) (hr : ap (RT w ok) l vs.toList) : ∀ i, i < n → ∀ j, j < sz → ∃ x, vs[i * sz + j]? = some x ∧ RT w ok (cq l sz i j) x := by
 intro i hi j hj
 have hlt : i * sz + j < l.length := by
  rw [hl]
  have : (i + 1) * sz ≤ n * sz := F8 _ hi
  rw [Nat.add_mul] at this
  omega
 obtain ⟨y, y1, y2⟩ := ap.get hr (FJ hlt)
 refine ⟨y, by simpa using y1, ?_⟩
 have : cq l sz i j = l[i * sz + j] := by simp [cq, List.getD, hlt]
 rw [this]; exact y2
theorem aI.add (R : aI base X nt used ρ tm h a w) (U : bM (fun _ => False) w w') (hfresh : ¬ used nid) (hu : ∀ id, used id → used' id) (hn : used' nid) {blk : az} {l : dd}
  (hl : ∀ b cap, l = .at b cap → w.heap.size ≤ b ∧ b < w'.heap.size)
  (hb : cr w w' (okOf base w ρ h) (okOf base w' (ρ.set nid l) (aQ h [(nid, some blk)])) → RB w' (okOf base w' (ρ.set nid l) (aQ h [(nid, some blk)])) (ρ.set nid l) blk l)
  (d : Option Tmp) (hd : ∀ t, d = some t → t < nt) (av : Option AV) (v : Value)
  (hv : cr w w' (okOf base w ρ h) (okOf base w' (ρ.set nid l) (aQ h [(nid, some blk)])) → ∀ x, av = some x → RV w' (okOf base w' (ρ.set nid l) (aQ h [(nid, some blk)])) (ρ.set nid l) x v) :
  aI base X nt used' (ρ.set nid l) (bG tm d av) (aQ h [(nid, some blk)]) (a.put d v) w' := by
 have hnone : ρ nid = none := by
  cases e : ρ nid with
  | none => rfl
  | some x => exact absurd (R.used nid (by rw [e]; simp)) hfresh
 have hext : bA ρ (ρ.set nid l) := fun id x hx => by
  unfold Ren.set
  rw [if_neg (fun e => by rw [e, hnone] at hx; cases hx)]
  exact hx
 refine R.step U (fun _ x => x.elim) hext (fun id hid => ?_) (fun id b hid => ?_) (fun i j b c c' x0 y0 hi hj hm h1 h2 => ?_) (fun t x ht => ?_) (by rw [dt, R.size]) (by rw [dA, R.defers])
 ·unfold Ren.set at hid
  split at hid
  ·rename_i e; rw [e]; exact hn
  ·exact hu id (R.used id hid)
 ·by_cases e : id = nid
  ·subst e
   simp only [aQ, if_true, FL] at hid
   subst hid
   exact .inr ⟨l, by simp [Ren.set], hb, fun b cap e => ⟨(hl b cap e).2, .inl (Ga R.upd.size (hl b cap e).1), .inl (hl b cap e).1⟩⟩
  ·simp only [aQ, if_neg (Ne.symm e)] at hid
   exact .inl ⟨hid, fun _ _ _ h => h⟩
 ·have key : ∀ k, k ≠ nid → ∀ x, aQ h [(nid, some blk)] k = some x → ∀ cc, (ρ.set nid l) k = some (.at b cc) → b < w.heap.size ∧ h k = some x ∧ ρ k = some (.at b cc) := by
   intro k hk x hx cc hc
   simp only [aQ, if_neg (Ne.symm hk)] at hx
   simp only [Ren.set, if_neg hk] at hc
   obtain ⟨l', e1, _, e3⟩ := R.heap k x hx
   rw [hc] at e1
   injection e1 with e1
   exact ⟨(e3 b cc e1.symm).1, hx, hc⟩
  by_cases ei : i = nid
  ·by_cases ej : j = nid
   ·rw [ei, ej]
   ·have := (key j ej y0 hj c' h2).1
    rw [ei] at h1
    simp only [Ren.set, if_true, FL] at h1
    have := (hl b c h1).1
    omega
  ·by_cases ej : j = nid
   ·have := (key i ei x0 hi c h1).1
    rw [ej] at h2
    simp only [Ren.set, if_true, FL] at h2
    have := (hl b c' h2).1
    omega
   ·obtain ⟨_, i1, i2⟩ := key i ei x0 hi c h1
    obtain ⟨_, j1, j2⟩ := key j ej y0 hj c' h2
    exact R.inj i j b c c' x0 y0 i1 j1 hm i2 j2
 ·by_cases e : some t = d
  ·rw [bG, if_pos e] at ht
   refine .inr fun K => ?_
   rw [← e, dU v (by rw [R.size]; exact hd t e.symm)]
   exact hv K x ht
  ·rw [bG, if_neg e] at ht
   refine .inl ⟨ht, ?_⟩
   cases d with
   | none => rfl
   | some d => exact dB v fun h => e (by rw [h])
theorem mI {X : Nat → Prop} (w : World) (o : Obj) : bM X w (w.alloc o) := ⟨rfl, rfl, rfl, by simp, fun b hb _ => heap_alloc_old _ _ hb⟩
theorem Hs {ty : TypeId} {fro : Bool} {sz n : Nat} {f : Nat → Nat → T} {q : Option (Nat × (Nat → Nat → T))} {l : dd} (hc : (bI ty fro sz n f q).2.2) (hb : RB w ok ρ (.row ty fro sz n f) l) : RB w ok ρ (bI ty fro sz n f q).2.1 l := by
 cases q with
 | none => exact hb
 | some p =>
  obtain ⟨m, g⟩ := p
  obtain ⟨rfl, hg⟩ : n = m ∧ ∀ i, i < m → ∀ j, j < sz → aZ (f i j) (g i j) := hc
  cases l with
  | nil => exact hb
  | _ b cap =>
   obtain ⟨h0, vs, fz, h1, h2, h3, h4⟩ := hb
   exact ⟨h0, vs, fz, h1, h2, h3, fun i hi j hj => let ⟨x, x1, x2⟩ := h4 i hi j hj; ⟨x, x1, hg i hi j hj _ _ _ x2⟩⟩
theorem dS {ty : TypeId} {fro : Bool} {sz n : Nat} {f : Nat → Nat → T} {q : Option (Nat × (Nat → Nat → T))} (hc : (bI ty fro sz n f q).2.2) : (bI ty fro sz n f q).1 = n := by
 cases q with
 | none => rfl
 | some p => exact hc.1.symm
def nm (tt : TT) (el : TypeId) (l : List C) (nid : Nat) (q : Option (Nat × (Nat → Nat → T))) : Option (AV × az × Prop) :=
 match tt el with
 | some { k := .arr n e, .. } => match tt e, dq l with
  | some ie, some r => if r.length = n * ie.size ∧ 0 < ie.size ∧ n ≤ maxLen then some (.c (.ptr nid ie.size 0 0), (bI el false ie.size n (cq r ie.size) q).2) else none
  | _, _ => none
 | some _ => some (.c (.ptr nid l.length 0 0), .box el l, True)
 | none => none
theorem vy (R : aI c.base c.X c.nt used ρ tm h a w) (hfresh : ¬ used nid) (hu : ∀ id, used id → used' id) (hn : used' nid) (hd : ∀ t, o.dst = some t → t < c.nt) {tt : TT} {el : TypeId} {l : List C} {q : Option (Nat × (Nat → Nat → T))} {r : AV × az × Prop}
  (e : nm tt el l nid q = some r) (hck : r.2.2) {vs : Array Value} (hl : ap (RC w (okOf c.base w ρ h) ρ) l vs.toList) {res : Result Next} (hr : res = .ok (.value (.pointer (some ⟨w.heap.size, 0, none⟩))) (w.alloc (.cells vs el (0, 0)))) :
  ct c used' tm h a o (some r.1) [(nid, some r.2.1)] res := by
 subst hr
 unfold nm at e
 split at e
 ·rename_i n el' i1 i2 i3 i4 hti
  split at e
  ·rename_i ie tl hie htl
   split at e
   ·rename_i hc
    injection e with e
    subst e
    have hlen : vs.size = n * ie.size := by
     have := (eE htl hl).length
     simp at this; omega
    refine ⟨ρ.set nid (.at w.heap.size n), R.add (mI w _) hfresh hu hn (fun b cap e => by injection e with e1 e2; subst e1; simp) (fun K => ?_) _ hd _ _ (fun K x hx => ?_)⟩
    ·refine Hs (l := .at w.heap.size n) hck ⟨F9 _, vs, (0, 0), heap_alloc_new w _, hlen, fun _ => ⟨.inl (F9 0), hc.2.2⟩, ?_⟩
     exact mH hc.1 ((eE htl hl).mono fun x y hx => RT.mono K x y hx)
    ·injection hx with hx; subst hx
     exact ⟨w.heap.size, n, by simp [Ren.set], by simp⟩
   ·cases e
  ·cases e
 ·rename_i ti hti
  injection e with e
  subst e
  refine ⟨ρ.set nid (.at w.heap.size 1), R.add (mI w _) hfresh hu hn (fun b cap e => by injection e with e1 e2; subst e1; simp) (fun K => ?_) _ hd _ _ (fun K x hx => ?_)⟩
  ·have hext : bA ρ (ρ.set nid (.at w.heap.size 1)) := fun id x hx => by
    unfold Ren.set
    rw [if_neg (fun e => by subst e; exact hfresh (R.used id (by rw [hx]; simp)))]
    exact hx
   exact ⟨w.heap.size, vs, rfl, heap_alloc_new w _, hl.mono (RC.mono K hext)⟩
  ·injection hx with hx; subst hx
   exact ⟨w.heap.size, 1, by simp [Ren.set], by simp⟩
 ·cases e
def np (l : List Value) : Option (List C) := if l.all (·.oneCell') then some (l.map fun v => .t (.v v)) else none
theorem wt {l : List Value} {r : List C} (e : np l = some r) : ap (RC w ok ρ) r l := by
 unfold np at e
 split at e
 ·rename_i h1
  injection e with e
  subst e
  refine E0 (by simp) fun i x y hx hy => ?_
  rw [F6, hy] at hx
  simp at hx
  subst hx
  have := FX.1 h1 y (F5 hy)
  exact ⟨rfl, this⟩
 ·cases e
def splice {α : Type} (l : List α) (off : Nat) (m : List α) : List α := l.take off ++ m ++ l.drop (off + m.length)
theorem HN {α : Type} {l : List α} {off : Nat} {m : List α} (h : off + m.length ≤ l.length) : (splice l off m).length = l.length := by simp [splice]; omega
theorem ap.splice {α β : Type} {R : α → β → Prop} {l m : List α} {k n : List β} (h : ap R l k) (h2 : ap R m n) (off : Nat) : ap R (splice l off m) (splice k off n) := by
 unfold Vm.splice
 rw [h2.length]
 exact ((h.take off).append h2).append (h.drop _)
def fR (place : Nat → Option (Nat × Nat)) (cells : List C) : List (Nat × List C) → Option (List C)
 | [] => some cells
 | (i, l) :: rest => match place i with
  | none => none
  | some (off, size) => if l.length ≠ size ∨ off + l.length > cells.length then none else fR place (splice cells off l) rest
theorem uF (off : Nat) : ∀ (vs : List Value) (k : Nat) (cs : Array Value), off + k + vs.length ≤ cs.size → ((vs.zipIdx k).foldl (fun cs (c, j) => cs.setIfInBounds (off + j) c) cs).toList = splice cs.toList (off + k) vs
 | [], k, cs, h => by simp [splice]
 | v :: vs, k, cs, h => by
  simp only [List.zipIdx_cons, Gq]
  rw [uF off vs (k + 1) (cs.setIfInBounds (off + k) v) (by simp at h ⊢; omega)]
  simp at h
  apply List.ext_getElem?
  intro i
  simp only [splice, Array.toList_setIfInBounds, List.getElem?_append, FR, Gd, Array.length_toList, List.getElem?_take, Gj, FO, FN, List.getElem?_drop, Nat.min_eq_left (show off + (k + 1) ≤ cs.size by omega), Nat.min_eq_left (show off + k ≤ cs.size by omega)]
  rcases Nat.lt_trichotomy i (off + k) with h1 | h1 | h1
  ·simp [show i < off + (k + 1) by omega, h1, show i < off + (k + 1) + vs.length by omega, show i < off + k + (vs.length + 1) by omega, show off + k ≠ i by omega]
  ·subst h1
   simp [show off + k < off + (k + 1) by omega, show off + k < off + (k + 1) + vs.length by omega, show off + k < cs.size by omega]
  ·by_cases h2 : i < off + k + (vs.length + 1)
   ·simp [show ¬ i < off + (k + 1) by omega, show i < off + (k + 1) + vs.length by omega, show ¬ i < off + k by omega, h2, show i - (off + k) = (i - (off + (k + 1))) + 1 by omega]
   ·simp [show ¬ i < off + (k + 1) + vs.length by omega, h2, show off + (k + 1) + vs.length + (i - (off + (k + 1) + vs.length)) = off + k + (vs.length + 1) + (i - (off + k + (vs.length + 1))) by omega, show off + k ≠ off + k + (vs.length + 1) + (i - (off + k + (vs.length + 1))) by omega]
theorem mJ {place : Nat → Option (Nat × Nat)} : ∀ {parts : List (Nat × List C)} {vparts : List (Nat × Value)} {cells : List C} {vs : Array Value} {r : List C}, fR place cells parts = some r → ap (RC w ok ρ) cells vs.toList →
  ap (fun p q => p.1 = q.1 ∧ ap (RC w ok ρ) p.2 q.2.cells.toList) parts vparts → ∃ us, Instr.fill place vs vparts = some us ∧ ap (RC w ok ρ) r us.toList
 | [], [], cells, vs, r, e, hc, _ => by simp [fR] at e; subst e; exact ⟨vs, rfl, hc⟩
 | (i, l) :: rest, (i', v) :: vrest, cells, vs, r, e, hc, ⟨⟨h1, h2⟩, h3⟩ => by
  simp only at h1 h2
  subst h1
  simp only [fR] at e
  split at e
  ·cases e
  ·rename_i off size hp
   split at e
   ·cases e
   ·rename_i hne
    have hlen := h2.length
    have hlc := hc.length
    simp only [Array.length_toList] at hlen hlc
    have := uF off v.cells.toList 0 vs (by simp; omega)
    simp only [Nat.add_zero] at this
    obtain ⟨us, u1, u2⟩ := mJ (vs := v.cells.zipIdx.foldl (fun cs (c, j) => cs.setIfInBounds (off + j) c) vs) e (by
     rw [← Array.foldl_toList, Array.toList_zipIdx, this]; exact hc.splice h2 off) h3
    refine ⟨us, ?_, u2⟩
    simp only [Instr.fill, hp]
    rw [if_neg (by simp; omega)]
    exact u1
 | [], _ :: _, _, _, _, _, _, h => h.elim
 | _ :: _, [], _, _, _, _, _, h => h.elim
def em (tm : Tm) : List (Nat × Operand) → Option (List (Nat × List C))
 | [] => some []
 | (i, x) :: l => match ev tm x with
  | some av => match fL av, em tm l with
   | some cs, some r => some ((i, cs) :: r)
   | _, _ => none
  | none => none
theorem mf (R : aI base X nt used ρ tm h a w) : ∀ {l : List (Nat × Operand)} {r : List (Nat × List C)}, em tm l = some r → ap (fun p q => p.1 = q.1 ∧ ap (RC w (okOf base w ρ h) ρ) p.2 q.2.cells.toList) r (l.map fun (i, x) => (i, a.eval x))
 | [], r, e => by simp [em] at e; subst e; trivial
 | (i, x) :: l, r, e => by
  simp only [em] at e
  split at e
  ·rename_i av hav
   split at e
   ·rename_i cs r' hcs hr
    injection e with e
    subst e
    exact ⟨⟨rfl, qQ hcs (bF R hav)⟩, mf R hr⟩
   ·cases e
  ·cases e
def jG (tt : TT) : List (TypeId × Nat) → Option (List (Nat × Nat))
 | [] => some []
 | (t, off) :: l => match tt t, jG tt l with
  | some i, some r => some ((off, i.size) :: r)
  | _, _ => none
theorem K8 {P : Program} {tt : TT} (hT : bb P tt) : ∀ {fs : List Field} {r : List (Nat × Nat)}, jG tt (fs.map fun f => (f.type, f.offset)) = some r → fs.mapM (fun f => (P.info? f.type).map fun i => (f.offset, i.size)) = some r
 | [], r, e => by simp [jG] at e; subst e; rfl
 | f :: fs, r, e => by
  simp only [Gr, jG] at e
  split at e
  ·rename_i i r' hi hr
   injection e with e
   subst e
   obtain ⟨x, z, h1, h2, _⟩ := (hT _ _ hi).info
   rw [List.mapM_cons]
   simp [h1, h2, K8 hT hr]
  ·cases e
def gW (tt : TT) (tm : Tm) (t : TypeId) (parts : List (Nat × Operand)) : Option (AV × Prop) :=
 match tt t, em tm parts with
 | some i, some ps => match np i.zero with
  | some z => match i.k with
   | .struct fs => match jG tt fs with
    | some pl => match fR (fun i => pl[i]?) z ps with
     | some r => some (.agg r, True)
     | none => none
    | none => none
   | .arr _ e => match tt e with
    | some ie => match fR (fun i => some (i * ie.size, ie.size)) z ps with
     | some r => some (.agg r, True)
     | none => none
    | none => none
   | _ => none
  | none => none
 | _, _ => none
theorem zZ {P : Program} {tt : TT} (hT : bb P tt) {t : TypeId} {parts : Array (Nat × Operand)} {r : AV × Prop} (e : gW tt tm t parts.toList = some r) (R : aI base X nt used ρ tm h a w) :
  ∃ v, (Instr.build t (parts.map fun (i, x) => (i, a.eval x))).run P w = .ok v w ∧ RV w (okOf base w ρ h) ρ r.1 v := by
 unfold gW at e
 split at e
 ·rename_i i ps hti hps
  have hp := mf R hps
  have ht := hT _ _ hti
  obtain ⟨x, z, h1, _, _, h4, h5⟩ := ht.info
  split at e
  ·rename_i zl hz
   have hzz : ap (RC w (okOf base w ρ h) ρ) zl z.cells.toList := by rw [h5]; exact wt hz
   have hmap : (parts.map fun (i, x) => (i, a.eval x)).toList = parts.toList.map fun (i, x) => (i, a.eval x) := by simp
   split at e
   ·rename_i fs hk
    obtain ⟨fields, hu, hfs⟩ := ht.struct hk
    split at e
    ·rename_i pl hpl
     split at e
     ·rename_i r' hr'
      injection e with e
      subst e
      obtain ⟨us, u1, u2⟩ := mJ hr' hzz hp
      rw [← hfs] at hpl
      refine ⟨.agg us, run_build w t _ us ?_, us, rfl, u2⟩
      simp only [Program.built, h1, hu, h4, K8 hT hpl, hmap]
      rw [← u1]; congr 1; funext j; simp
     ·cases e
    ·cases e
   ·rename_i n el hk
    have hu := ht.arr hk
    split at e
    ·rename_i ie hie
     split at e
     ·rename_i r' hr'
      injection e with e
      subst e
      obtain ⟨us, u1, u2⟩ := mJ hr' hzz hp
      obtain ⟨y, _, y1, y2, _⟩ := (hT _ _ hie).info
      refine ⟨.agg us, run_build w t _ us ?_, us, rfl, u2⟩
      simp only [Program.built, h1, hu, h4, y1, hmap, y2]
      exact u1
     ·cases e
    ·cases e
   ·cases e
  ·cases e
 ·cases e
end
section
variable {c : Cx} {used used' : Nat → Prop} {ρ ρ' : Ren} {tm : Tm} {h h' : Hp} {a : Act} {w w' : World} {base : cx} {X : Nat → Prop} {nt : Nat} {ok : Nat → Prop} {o : Oper} {nid : Nat}
theorem wu (R : aI base X nt used ρ tm h a w) (hfresh : ¬ used nid) (l : dd) : bA ρ (ρ.set nid l) := fun id x hx => by
 unfold Ren.set
 rw [if_neg (fun e => by subst e; exact hfresh (R.used id (by rw [hx]; simp)))]
 exact hx
theorem mK (R : aI c.base c.X c.nt used ρ tm h a w) (U : bM (fun _ => False) w w') (hfresh : ¬ used nid) (hu : ∀ id, used id → used' id) (hn : used' nid) (hd : ∀ t, o.dst = some t → t < c.nt)
  {ty : TypeId} {fro : Bool} {sz n : Nat} {f : Nat → Nat → T} {q : Option (Nat × (Nat → Nat → T))} (hc : (bI ty fro sz n f q).2.2) {vs : Array Value} {fz : Nat × Nat} {b cap : Nat} (hb : w.heap.size ≤ b) (hcap : n ≤ cap) (hw : w'.heap[b]? = some (.cells vs ty fz))
  (hs : vs.size = cap * sz) (hf : fro = false → Fz fz vs.size ∧ cap ≤ maxLen) (hcell : cr w w' (okOf c.base w ρ h) (okOf c.base w' (ρ.set nid (.at b cap)) (aQ h [(nid, some (bI ty fro sz n f q).2.1)])) → ∀ i, i < n → ∀ j, j < sz → ∃ x, vs[i * sz + j]? = some x ∧ RT w' (okOf c.base w' (ρ.set nid (.at b cap)) (aQ h [(nid, some (bI ty fro sz n f q).2.1)])) (f i j) x)
  {res : Result Next} (hr : res = .ok (.value (.slice (some ⟨b, 0, none⟩) n cap)) w') :
  ct c used' tm h a o (some (.c (.ref nid sz 0 (bI ty fro sz n f q).1))) [(nid, some (bI ty fro sz n f q).2.1)] res := by
 subst hr
 refine ⟨ρ.set nid (.at b cap), R.add U hfresh hu hn (fun b' cap' e => by injection e with e1 e2; subst e1; exact ⟨hb, gS hw⟩) (fun K => Hs (l := .at b cap) hc ⟨hcap, vs, fz, hw, hs, hf, hcell K⟩) _ hd _ _ (fun K x hx => ?_)⟩
 injection hx with hx; subst hx
 refine ⟨.at b cap, by simp [Ren.set], .inl ⟨cap, ?_, ?_, by omega⟩⟩
 ·rw [dS hc]; simp
 ·rw [dS hc]; omega
def sk (tt : TT) (el : TypeId) (nid : Nat) (hi : bC) : Option aT :=
 match tt el with
 | some i => match np i.zero with
  | some z => match nm tt el z nid hi.row with
   | some r => some ⟨some r.1, [(nid, some r.2.1)], r.2.2⟩
   | none => none
  | none => none
 | none => none
theorem zH (R : aI c.base c.X c.nt used ρ tm h a w) (hfresh : ¬ used nid) (hu : ∀ id, used id → used' id) (hn : used' nid) (hd : ∀ t, o.dst = some t → t < c.nt) {tt : TT} (hT : bb c.P tt) {el : TypeId} {hi : bC} {r : aT}
  (ho : o.op = .alloc el) (e : sk tt el nid hi = some r) (hc : r.chk) : ct c used' tm h a o r.val r.W ((execOp a.eval o).run c.P w) := by
 unfold sk at e
 split at e
 ·rename_i i hti
  split at e
  ·rename_i zl hz
   split at e
   ·rename_i r' hr'
    injection e with e
    subst e
    obtain ⟨z, z1, z2⟩ := (hT _ _ hti).zero_ w
    refine vy R hfresh hu hn hd hr' hc (vs := z.cells) (by rw [z2]; exact wt hz) ?_
    simp [execOp, ho, Instr.alloc, z1, newVar, newRow]
   ·cases e
  ·cases e
 ·cases e
def gX (tt : TT) (tm : Tm) (el : TypeId) (x : Operand) (nid : Nat) (hi : bC) : Option aT :=
 match ev tm x with
 | some av => match fL av with
  | some l => match nm tt el l nid hi.row with
   | some r => some ⟨some r.1, [(nid, some r.2.1)], r.2.2⟩
   | none => none
  | none => none
 | none => none
theorem zI (R : aI c.base c.X c.nt used ρ tm h a w) (hfresh : ¬ used nid) (hu : ∀ id, used id → used' id) (hn : used' nid) (hd : ∀ t, o.dst = some t → t < c.nt) {tt : TT} {el : TypeId} {x : Operand} {hi : bC} {r : aT}
  (ho : o.op = .box el x) (e : gX tt tm el x nid hi = some r) (hc : r.chk) : ct c used' tm h a o r.val r.W ((execOp a.eval o).run c.P w) := by
 unfold gX at e
 split at e
 ·rename_i av hav
  split at e
  ·rename_i l hl
   split at e
   ·rename_i r' hr'
    injection e with e
    subst e
    refine vy R hfresh hu hn hd hr' hc (vs := (a.eval x).cells) (qQ hl (bF R hav)) ?_
    simp [execOp, ho, Instr.box, newVar, newRow]
   ·cases e
  ·cases e
 ·cases e
def rU (tt : TT) (t : TypeId) (x ix : AV) (q : Nat × (Nat → Nat → T)) : Option (AV × Prop) :=
 match ix with
 | .c (.t (.v (.int k i))) => match tt t with
  | some { k := .arr n e, .. } => match tt e with
   | some ie => match x with
    | .agg l => match dq l with
     | some r => if ie.k.agg = false ∧ ie.size = 1 ∧ r.length = n then some (.c (.t (q.2 i.toNat 0)), (0 ≤ i ∧ i < n) ∧ n = q.1 ∧ ∀ a, a < q.1 → ∀ j, j < 1 → cq r 1 a j = q.2 a j) else none
     | none => none
    | _ => none
   | none => none
  | _ => none
 | _ => none
theorem zJ {P : Program} {tt : TT} (hT : bb P tt) {t : TypeId} {x ix : AV} {y z : Value} {q : Nat × (Nat → Nat → T)} {r : AV × Prop} (e : rU tt t x ix q = some r) (hc : r.2) (hr : RV w ok ρ x y) (hi : RV w ok ρ ix z) :
  ∃ v, (Instr.index t y z).run P w = .ok v w ∧ RV w ok ρ r.1 v := by
 unfold rU at e
 split at e
 ·rename_i k i
  obtain ⟨rfl, _⟩ := hi
  split at e
  ·rename_i n el i1 i2 i3 i4 hti
   have hu := (hT _ _ hti).arr rfl
   split at e
   ·rename_i ie hie
    have hsz := (hT _ _ hie).size w
    split at e
    ·rename_i l
     split at e
     ·rename_i tl htl
      split at e
      ·rename_i hs
       injection e with e
       subst e
       obtain ⟨⟨h0, h1⟩, h2, h3⟩ := hc
       obtain ⟨ys, rfl, hys⟩ := hr
       obtain ⟨v, v1, v2⟩ := mH (n := n) (sz := 1) (by omega) (eE htl hys) i.toNat (by omega) 0 (by omega)
       rw [h3 i.toNat (by omega) 0 (by omega)] at v2
       simp only [Nat.mul_one, Nat.add_zero] at v1
       refine ⟨v, ?_, v2⟩
       simp [Instr.index, asIntOf, run_underlying hu, h0, h1, hsz, part, (hT _ _ hie).isAgg, hs.1, hs.2.1, v1]
      ·cases e
     ·cases e
    ·cases e
   ·cases e
  ·cases e
 ·cases e
def lT (tt : TT) (ps : List (Nat × List C)) (t : TypeId) (len : Nat) (nid : Nat) (hi : bC) : Option aT :=
 match tt t with
 | some { k := .slice e, .. } => match tt e with
  | some ie => if 0 < ie.size ∧ ie.zero.length = ie.size ∧ len * ie.size ≤ 16777216 ∧ ie.zero.all (·.oneCell') then
    match fR (fun i => some (i * ie.size, ie.size)) (de (fun k => .t (.v (ie.zero.getD (k % ie.size) undef))) 0 (len * ie.size)) ps with
    | some r => match dq r with
     | some tl => if tl.length = len * ie.size then
       some ⟨some (.c (.ref nid ie.size 0 (bI e false ie.size len (cq tl ie.size) hi.row).1)), [(nid, some (bI e false ie.size len (cq tl ie.size) hi.row).2.1)], (bI e false ie.size len (cq tl ie.size) hi.row).2.2⟩
      else none
     | none => none
    | none => none
   else none
  | none => none
 | _ => none
def gB (tt : TT) (tm : Tm) (t : TypeId) (len : Nat) (parts : List (Nat × Operand)) (nid : Nat) (hi : bC) : Option aT :=
 match em tm parts with
 | some ps => lT tt ps t len nid hi
 | none => none
theorem tK (R : aI c.base c.X c.nt used ρ tm h a w) (hfresh : ¬ used nid) (hu : ∀ id, used id → used' id) (hn : used' nid) (hd : ∀ t, o.dst = some t → t < c.nt) {tt : TT} (hT : bb c.P tt) {t : TypeId} {len : Nat} {parts : Array (Nat × Operand)} {hi : bC} {r : aT} {ps : List (Nat × List C)} (hp : ap (fun p q => p.1 = q.1 ∧ ap (RC w (okOf c.base w ρ h) ρ) p.2 q.2.cells.toList) ps (parts.toList.map fun (i, x) => (i, a.eval x)))
  (ho : o.op = .buildSlice t len parts) (e : lT tt ps t len nid hi = some r) (hc : r.chk) : ct c used' tm h a o r.val r.W ((execOp a.eval o).run c.P w) := by
 unfold lT at e
 split at e
 ·rename_i el i1 i2 i3 i4 hti
  have hu' := (hT _ _ hti).slice rfl
  split at e
  ·rename_i ie hie
   split at e
   ·rename_i hs
    obtain ⟨s1, s2, s3, s4⟩ := hs
    split at e
    ·rename_i rl hrl
     split at e
     ·rename_i tl htl
      split at e
      ·rename_i hlen
       injection e with e
       subst e
       obtain ⟨z, z1, z2⟩ := (hT _ _ hie).zero_ w
       have hzs : z.cells.size = ie.size := by rw [← s2, ← z2]; simp
       have h0 : ap (RC w (okOf c.base w ρ h) ρ) (de (fun k => C.t (.v (ie.zero.getD (k % ie.size) undef))) 0 (len * ie.size)) ((Array.range (len * ie.size)).map fun k => z.cells[k % z.cells.size]!).toList := by
        refine E0 (by simp [eh]) fun i x y hx hy => ?_
        have hi' : i < len * ie.size := by
         rcases Gi i (len * ie.size) with h' | h'
         ·exact h'
         ·rw [FK (by rw [eh]; exact h')] at hx; cases hx
        rw [fg _ _ _ _ hi'] at hx
        injection hx with hx
        subst hx
        have hm : i % ie.size < ie.size := Nat.mod_lt _ s1
        have hz' : ie.zero.getD (i % ie.size) undef = z.cells[i % z.cells.size]! := by
         rw [hzs, ← z2]
         simp [List.getD, hzs, hm]
        simp [hi'] at hy
        subst hy
        rw [Gg]
        refine ⟨by simpa using hz'.symm, ?_⟩
        rw [FI, FJ (by omega)]
        exact FX.1 s4 _ (Gh _)
       obtain ⟨us, u1, u2⟩ := mJ hrl h0 hp
       have hul : us.size = len * ie.size := by have := (eE htl u2).length; simp at this; omega
       have hml : len ≤ maxLen := by unfold maxLen; have := Nat.le_mul_of_pos_right len s1; omega
       refine mK R (mI w (.cells us el)) hfresh hu hn hd hc (vs := us) (fz := (0, 0)) (cap := len) (F9 _) (F9 _) (heap_alloc_new w _) hul (fun _ => ⟨.inl (F9 0), hml⟩) (fun K => mH hlen ((eE htl u2).mono fun x y hx => RT.mono K x y hx)) ?_
       have hsz := (hT _ _ hie).size w
       by_cases h0' : len * ie.size = 0
       ·have hl0 : len = 0 := by rcases Nat.mul_eq_zero.1 h0' with h | h <;> omega
        subst hl0
        have u1' : Instr.fill (fun i => some (i * ie.size, ie.size)) #[] (parts.toList.map fun (i, x) => (i, a.eval x)) = some us := by rw [← u1]; congr 1; simp
        simp [execOp, ho, Instr.buildSlice, run_underlying hu', hsz, newRow, u1', Array.range_zero']
       ·simp [execOp, ho, Instr.buildSlice, run_underlying hu', hsz, newRow, z1, show ¬ 16777216 < len * ie.size by omega, h0', u1]
      ·cases e
     ·cases e
    ·cases e
   ·cases e
  ·cases e
 ·cases e
theorem yB (R : aI c.base c.X c.nt used ρ tm h a w) (hfresh : ¬ used nid) (hu : ∀ id, used id → used' id) (hn : used' nid) (hd : ∀ t, o.dst = some t → t < c.nt) {tt : TT} (hT : bb c.P tt) {t : TypeId} {len : Nat} {parts : Array (Nat × Operand)} {hi : bC} {r : aT}
  (ho : o.op = .buildSlice t len parts) (e : gB tt tm t len parts.toList nid hi = some r) (hc : r.chk) : ct c used' tm h a o r.val r.W ((execOp a.eval o).run c.P w) := by
 unfold gB at e
 split at e
 ·rename_i ps hps
  exact tK R hfresh hu hn hd hT (mf R hps) ho e hc
 ·cases e
def su (tt : TT) (t : TypeId) (l cp : AV) (nid : Nat) (hi : bC) : Option aT :=
 match tt t, l, cp with
 | some { k := .slice e, .. }, .c (.t (.v (.int _ n))), .c (.t (.v (.int _ m))) => match tt e with
  | some ie => if 0 < ie.size ∧ ie.zero.length = ie.size ∧ ie.zero.all (·.oneCell') then
    some ⟨some (.c (.ref nid ie.size 0 (bI e false ie.size n.toNat (fun _ j => .v (ie.zero.getD j undef)) hi.row).1)), [(nid, some (bI e false ie.size n.toNat (fun _ j => .v (ie.zero.getD j undef)) hi.row).2.1)],
     (0 ≤ n ∧ n ≤ m ∧ m ≤ 1099511627776 ∧ ie.bytes ≤ 128) ∧ (bI e false ie.size n.toNat (fun _ j => .v (ie.zero.getD j undef)) hi.row).2.2⟩
   else none
  | none => none
 | _, _, _ => none
theorem z8 (R : aI c.base c.X c.nt used ρ tm h a w) (hfresh : ¬ used nid) (hu : ∀ id, used id → used' id) (hn : used' nid) (hd : ∀ t, o.dst = some t → t < c.nt) {tt : TT} (hT : bb c.P tt) {t : TypeId} {l cp : Operand} {hi : bC} {r : aT} {lv cv : AV}
  (ho : o.op = .makeSlice t l cp) (hl : ev tm l = some lv) (hcp : ev tm cp = some cv) (e : su tt t lv cv nid hi = some r) (hc : r.chk) : ct c used' tm h a o r.val r.W ((execOp a.eval o).run c.P w) := by
 unfold su at e
 split at e
 ·rename_i el i1 i2 i3 i4 k1 n k2 m hti
  have hu' := (hT _ _ hti).slice rfl
  have hl' := bU R hl
  have hc' := bU R hcp
  split at e
  ·rename_i ie hie
   split at e
   ·rename_i hs
    obtain ⟨s1, s2, s4⟩ := hs
    injection e with e
    subst e
    obtain ⟨⟨c1, c2, c3, c4⟩, c5⟩ := hc
    obtain ⟨x, z, x1, x2, x3, x4, x5⟩ := (hT _ _ hie).info
    have hzs : z.cells.size = ie.size := by rw [← s2, ← x5]; simp
    have hrun := run_make (P := c.P) w t el x z hu' x1 x4 k1 k2 n m c1 c2 (by
     rw [x3]
     have h1 : (ie.bytes : Int) ≤ 128 := by omega
     have : (ie.bytes : Int) * m ≤ 128 * m := Int.mul_le_mul_of_nonneg_right h1 (by omega)
     omega) (by omega)
    refine mK R (mI w _) hfresh hu hn hd c5 (fz := (0, 0)) (cap := m.toNat) (F9 _) (by omega) (heap_alloc_new w (.cells (madeCells z.cells (m.toNat * x.size)) el)) (by rw [size_madeCells, x2]) (fun _ => ⟨.inl (F9 0), by unfold maxLen; omega⟩) (fun K i hi j hj => ?_) (by simp only [execOp, ho, hl', hc', Sem.run_bind, hrun]; rfl)
    have hlt : i * ie.size + j < m.toNat * x.size := by
     rw [x2]
     have : (i + 1) * ie.size ≤ m.toNat * ie.size := F8 _ (by omega)
     rw [Nat.add_mul] at this
     omega
    have hget : ie.zero.getD j undef = z.cells[j]! := by
     rw [← x5]; simp [List.getD, hzs, hj]
    have hmod : (i * ie.size + j) % ie.size = j := Nat.mul_add_mod_of_lt hj
    refine ⟨z.cells[j]!, by simp only [madeCells, hzs]; rw [Array.getElem?_map, Array.getElem?_range, if_pos hlt, Option.map_some, hmod], ?_, ?_⟩
    ·exact hget.symm
    ·rw [FI, FJ (by omega)]
     exact FX.1 s4 _ (Gh _)
   ·cases e
  ·cases e
 ·cases e
end
theorem fG (b : Nat) (t : TypeId) (fz : Nat × Nat) : ∀ (vs : List Value) (o : Nat) (cur : Array Value) (w : World), w.heap[b]? = some (.cells cur t fz) → o + vs.length ≤ cur.size →
  (w.setCells b o vs).heap[b]? = some (.cells (splice cur.toList o vs).toArray t fz)
 | [], o, cur, w, h, _ => by simp [World.setCells, splice, h]
 | v :: vs, o, cur, w, h, hl => by
  simp only [World.setCells]
  have h1 : (w.setCell ⟨b, o, none⟩ v).heap[b]? = some (.cells (cur.setIfInBounds o v) t fz) := by simp [World.setCell, Array.getElem?_modify, h]
  rw [fG b t fz vs (o + 1) _ _ h1 (by simp at hl ⊢; omega)]
  congr 3
  simp at hl
  apply List.ext_getElem?
  intro i
  simp only [splice, Array.toList_setIfInBounds, List.getElem?_append, FR, Gd, Array.length_toList, List.getElem?_take, Gj, FO, FN, List.getElem?_drop, Nat.min_eq_left (show o + 1 ≤ cur.size by omega), Nat.min_eq_left (show o ≤ cur.size by omega)]
  rcases Nat.lt_trichotomy i o with h1 | h1 | h1
  ·simp [show i < o + 1 by omega, h1, show i < o + 1 + vs.length by omega, show i < o + (vs.length + 1) by omega, show o ≠ i by omega]
  ·subst h1
   simp [show i < i + 1 + vs.length by omega, show i < cur.size by omega]
  ·by_cases h2 : i < o + (vs.length + 1)
   ·simp [show ¬ i < o + 1 by omega, show i < o + 1 + vs.length by omega, show ¬ i < o by omega, h2, show i - o = (i - (o + 1)) + 1 by omega]
   ·simp [show ¬ i < o + 1 + vs.length by omega, h2, show o + 1 + vs.length + (i - (o + 1 + vs.length)) = o + (vs.length + 1) + (i - (o + (vs.length + 1))) by omega, show o ≠ o + (vs.length + 1) + (i - (o + (vs.length + 1))) by omega]
theorem eZ (b : Nat) : ∀ (vs : List Value) (o : Nat) (w : World), bM (fun x => x = b) w (w.setCells b o vs)
 | [], o, w => bM.refl _ _
 | v :: vs, o, w => by
  have h1 : bM (fun x => x = b) w (w.setCell ⟨b, o, none⟩ v) := ⟨rfl, rfl, rfl, by simp, fun k hk hne => by rw [heap_setCell_other]; exact hne⟩
  exact h1.trans (eZ b vs (o + 1) _) fun _ _ h => h
theorem o6 {P : Program} (b o : Nat) (t : TypeId) (vs : List Value) (cur : Array Value) (w : World) {fz : Nat × Nat} (hz : Fz fz cur.size) (h : w.heap[b]? = some (.cells cur t fz)) (hl : o + vs.length ≤ cur.size) (h1 : ∀ v ∈ vs, v.oneCell' = true) :
  (storeCells ⟨b, o, none⟩ vs).run P w = .ok () (w.setCells b o vs) := by
 have := run_storeCells_cells (P := P) b o vs 0 w (fun j hj => by rw [cell_of_row w _ _ cur t fz h]; simp; omega) (fun j hj => hz.free h (by omega)) h1
 simpa using this
theorem mw {α : Type} {l m : List α} {off i : Nat} (h : off + m.length ≤ l.length) (hi : i < m.length) : (splice l off m)[off + i]? = m[i]? := by
 simp only [splice, F7, List.getElem?_append, FR]
 rw [if_neg (by omega), if_pos (by omega)]
 congr 1; omega
theorem mg {α : Type} {l m : List α} {off i : Nat} (h : off + m.length ≤ l.length) (hi : i < off ∨ off + m.length ≤ i) : (splice l off m)[i]? = l[i]? := by
 simp only [splice, F7, List.getElem?_append, FR]
 rcases hi with g | g
 ·rw [if_pos (by omega), List.getElem?_take, if_pos g]
 ·rw [if_neg (by omega), if_neg (by omega), List.getElem?_drop]
  congr 1; omega
section
variable {c : Cx} {used used' : Nat → Prop} {ρ ρ' : Ren} {tm : Tm} {h h' : Hp} {a : Act} {w w' : World} {base : cx} {X Y : Nat → Prop} {nt : Nat} {ok : Nat → Prop} {o : Oper} {nid : Nat}
theorem E2 (R : aI base X nt used ρ tm h a w) {id b cap : Nat} {blk blk' : az} (hid : h id = some blk) (hm : blk.mut = true) (hrow : blk'.isRow = true → blk.isRow = true) (hρ : ρ id = some (.at b cap)) (U : bM (fun x => x = b) w w')
  (hb : cr w w' (okOf base w ρ h) (okOf base w' ρ (aQ h [(id, some blk')])) → RB w' (okOf base w' ρ (aQ h [(id, some blk')])) ρ blk' (.at b cap)) (d : Option Tmp) (hd : ∀ t, d = some t → t < nt) :
  aI base X nt used ρ (bG tm d none) (aQ h [(id, some blk')]) (a.put d undef) w' := by
 have hy : ∀ x, x = b → x < w.heap.size → ∃ id blk cap, h id = some blk ∧ blk.mut = true ∧ ρ id = some (.at x cap) := fun x e _ => ⟨id, blk, cap, hid, hm, by rw [e]; exact hρ⟩
 have hex : ∀ k x, aQ h [(id, some blk')] k = some x → ∃ y, h k = some y ∧ (x.mut = true → y.mut = true) := fun k x hx => by
  by_cases e : id = k
  ·subst e; exact ⟨blk, hid, fun _ => hm⟩
  ·simp only [aQ, if_neg e] at hx; exact ⟨x, hx, fun q => q⟩
 refine R.step U hy (E1 _) R.used (fun k bk hk => ?_) (fun i j b c c' x y hi hj hk h1 h2 => by
  obtain ⟨x', a1, a2⟩ := hex i x hi
  obtain ⟨y', b1, b2⟩ := hex j y hj
  exact R.inj i j b c c' x' y' a1 b1 (hk.imp a2 b2) h1 h2) (fun t x ht => ?_) (by rw [dt, R.size]) (by rw [dA, R.defers])
 ·by_cases e : id = k
  ·subst e
   simp only [aQ, if_true, FL] at hk
   subst hk
   obtain ⟨l, l1, _, l3⟩ := R.heap id blk hid
   rw [hρ] at l1
   injection l1 with l1
   subst l1
   obtain ⟨m1, m2⟩ := l3 b cap rfl
   exact .inr ⟨.at b cap, hρ, hb, fun b' cap' e => by injection e with e1 e2; subst e1; exact ⟨Gb m1 U.size, m2, .inr ⟨id, blk, cap, hid, hm, hρ⟩⟩⟩
  ·simp only [aQ, if_neg e] at hk
   exact .inl ⟨hk, fun b' cap' e1 e2 => e (R.inj id k b cap cap' blk bk hid hk (.inl hm) hρ (by rw [← e2]; exact e1))⟩
 ·by_cases e : some t = d
  ·rw [bG, if_pos e] at ht; cases ht
  ·rw [bG, if_neg e] at ht
   refine .inl ⟨ht, ?_⟩
   cases d with
   | none => rfl
   | some d => exact dB _ fun h => e (by rw [h])
def Hu (f : Nat → Nat → T) (e sub : Nat) (tl : List T) : Nat → Nat → T := fun i j => if i = e ∧ sub ≤ j ∧ j < sub + tl.length then tl.getD (j - sub) (.v undef) else f i j
def gY (tt : TT) (tm : Tm) (h : Hp) (t : TypeId) (p x : AV) (hi : bC) : Option aT :=
 match tt t, fL x with
 | some i, some l => if l.length = i.size then match p with
  | .c (.ptr id sz e sub) => match h id with
   | some (.box ty cs) => if e * sz + sub + l.length ≤ cs.length then some ⟨none, [(id, some (.box ty (splice cs (e * sz + sub) l)))], True⟩ else none
   | some (.row ty false sz' n f) => match dq l with
    | some tl => if sz = sz' ∧ sub + tl.length ≤ sz then
      some ⟨none, [(id, some (bI ty false sz n (Hu f e sub tl) hi.row).2.1)], e < n ∧ (bI ty false sz n (Hu f e sub tl) hi.row).2.2⟩
     else if sz = sz' ∧ e = 0 ∧ sub = 0 ∧ tl.length = n * sz then some ⟨none, [(id, some (bI ty false sz n (cq tl sz) hi.row).2.1)], (bI ty false sz n (cq tl sz) hi.row).2.2⟩ else none
    | none => none
   | _ => none
  | _ => none else none
 | _, _ => none
theorem zK (R : aI c.base c.X c.nt used ρ tm h a w) (hu : ∀ id, used id → used' id) (hd : ∀ t, o.dst = some t → t < c.nt) {tt : TT} (hT : bb c.P tt) {t : TypeId} {p x : Operand} {pv xv : AV} {hi : bC} {r : aT}
  (ho : o.op = .store t p x) (hp : ev tm p = some pv) (hx : ev tm x = some xv) (e : gY tt tm h t pv xv hi = some r) (hc : r.chk) : ct c used' tm h a o r.val r.W ((execOp a.eval o).run c.P w) := by
 unfold gY at e
 split at e
 ·rename_i i l hti hl
  have hcells := qQ hl (bF R hx)
  have hsz := (hT _ _ hti).size w
  have hone : ∀ v ∈ (a.eval x).cells.toList, v.oneCell' = true := fun v hv => by
   obtain ⟨k, hk⟩ := List.mem_iff_getElem?.1 hv
   have hlen := hcells.length
   obtain ⟨hk1, _⟩ := List.getElem?_eq_some_iff.1 hk
   obtain ⟨y, y1, y2⟩ := ap.get hcells (FJ (by omega : k < l.length))
   rw [hk] at y1
   injection y1 with y1
   rw [y1]; exact RC.one y2
  split at e
  ·rename_i hls
   have hvl : (a.eval x).cells.toList.length = i.size := by rw [← hcells.length]; exact hls
   split at e
   ·rename_i id sz e0 sub
    obtain ⟨b, cap, p1, p2⟩ := bF R hp
    split at e
    ·rename_i ty cs hid
     split at e
     ·rename_i hle
      injection e with e
      subst e
      obtain ⟨loc, l1, l2, _⟩ := R.heap id _ hid
      rw [p1] at l1
      injection l1 with l1
      subst l1
      obtain ⟨b', vs, e1, e2, e3⟩ := l2
      injection e1 with e1 ecap
      subst e1; subst ecap
      have hfit : e0 * sz + sub + (a.eval x).cells.toList.length ≤ vs.size := by have := e3.length; simp only [Array.length_toList] at this hvl ⊢; omega
      have hrun := o6 (P := c.P) b (e0 * sz + sub) ty _ vs w (.inl (F9 0)) e2 hfit hone
      have hres : (execOp a.eval o).run c.P w = .ok .skip (w.setCells b (e0 * sz + sub) (a.eval x).cells.toList) := by
       simp only [execOp, ho, p2, Instr.storeAt, Instr.sureAddr, storeVar, Sem.run_bind, Sem.run_pure, Result.andThen_ok, hsz]
       rw [if_neg (by simpa using hvl)]
       simp [hrun]
      rw [hres]
      refine ⟨ρ, (E2 R hid rfl (fun h => by first | exact h | rfl) p1 (eZ b _ _ w) (fun K => ?_) _ hd).used_mono hu⟩
      refine ⟨b, _, rfl, fG b ty (0, 0) _ _ vs w e2 hfit, ?_⟩
      exact (e3.mono (RC.mono K (E1 _))).splice (hcells.mono (RC.mono K (E1 _))) _
     ·cases e
    ·rename_i ty sz' n f hid
     split at e
     ·rename_i tl htl
      split at e
      ·rename_i hle
       obtain ⟨rfl, hle⟩ := hle
       injection e with e
       subst e
       obtain ⟨c1, c2⟩ := hc
       obtain ⟨loc, l1, l2, _⟩ := R.heap id _ hid
       rw [p1] at l1
       injection l1 with l1
       subst l1
       obtain ⟨e0', vs, fz, e1, e2, e3, e4⟩ := l2
       obtain ⟨hfz, hcm⟩ := e3 rfl
       have htl' := eE htl hcells
       have htll := htl'.length
       have hbound : (e0 + 1) * sz ≤ cap * sz := F8 _ (by omega)
       rw [Nat.add_mul] at hbound
       have hfit : e0 * sz + sub + (a.eval x).cells.toList.length ≤ vs.size := by omega
       have hrun := o6 (P := c.P) b (e0 * sz + sub) ty _ vs w hfz e1 hfit hone
       have hres : (execOp a.eval o).run c.P w = .ok .skip (w.setCells b (e0 * sz + sub) (a.eval x).cells.toList) := by
        simp only [execOp, ho, p2, Instr.storeAt, Instr.sureAddr, storeVar, Sem.run_bind, Sem.run_pure, Result.andThen_ok, hsz]
        rw [if_neg (by simpa using hvl)]
        simp [hrun]
       rw [hres]
       refine ⟨ρ, (E2 R hid rfl (fun h => by first | exact h | rfl) p1 (eZ b _ _ w) (fun K => ?_) _ hd).used_mono hu⟩
       refine Hs (l := .at b cap) c2 ⟨by omega, _, fz, fG b ty fz _ _ vs w e1 hfit, ?_, fun _ => ⟨by rw [FW, HN (by simpa using hfit)]; simpa using hfz, hcm⟩, fun i' hi' j hj => ?_⟩
       ·rw [FW, HN (by simpa using hfit)]; simpa using e2
       ·have hlen : i' * sz + j < vs.size := by
         have : (i' + 1) * sz ≤ cap * sz := F8 _ (by omega)
         rw [Nat.add_mul] at this
         omega
        by_cases hin : i' = e0 ∧ sub ≤ j ∧ j < sub + tl.length
        ·obtain ⟨rfl, j1, j2⟩ := hin
         obtain ⟨y, y1, y2⟩ := ap.get htl' (FJ (by omega : j - sub < tl.length))
         refine ⟨y, ?_, ?_⟩
         ·have hfit' : i' * sz + sub + (a.eval x).cells.toList.length ≤ vs.toList.length := by simpa using hfit
          have := mw (i := j - sub) hfit' (by omega)
          rw [Gm, ← y1, ← this]
          congr 1; omega
         ·have : Hu f i' sub tl i' j = tl[j - sub]'(by omega) := by simp [Hu, j1, j2, List.getD, show j - sub < tl.length by omega]
          rw [this]; exact RT.mono K _ _ y2
        ·obtain ⟨y, y1, y2⟩ := e4 i' hi' j hj
         refine ⟨y, ?_, ?_⟩
         ·rw [← y1]
          have hne : i' * sz + j < e0 * sz + sub ∨ e0 * sz + sub + (a.eval x).cells.toList.length ≤ i' * sz + j := by
           rcases Nat.lt_trichotomy i' e0 with g | g | g
           ·have : (i' + 1) * sz ≤ e0 * sz := F8 _ g
            rw [Nat.add_mul] at this
            left; omega
           ·subst g
            have : ¬ (sub ≤ j ∧ j < sub + tl.length) := fun hh => hin ⟨rfl, hh⟩
            omega
           ·have : (e0 + 1) * sz ≤ i' * sz := F8 _ g
            rw [Nat.add_mul] at this
            right; omega
          have hfit' : e0 * sz + sub + (a.eval x).cells.toList.length ≤ vs.toList.length := by simpa using hfit
          rw [Gm, mg hfit' hne, Gn]
         ·have : Hu f e0 sub tl i' j = f i' j := by simp only [Hu]; rw [if_neg hin]
          rw [this]; exact RT.mono K _ _ y2
      ·split at e
       ·rename_i hle
        obtain ⟨rfl, he0, hsb, hle⟩ := hle
        injection e with e
        subst e
        have h00 : e0 * sz + sub = 0 := by rw [he0, hsb]; simp
        obtain ⟨loc, l1, l2, _⟩ := R.heap id _ hid
        rw [p1] at l1
        injection l1 with l1
        subst l1
        obtain ⟨e0', vs, fz, e1, e2, e3, e4⟩ := l2
        obtain ⟨hfz, hcm⟩ := e3 rfl
        have htl' := eE htl hcells
        have htll := htl'.length
        have hbound : n * sz ≤ cap * sz := F8 _ e0'
        have hfit : e0 * sz + sub + (a.eval x).cells.toList.length ≤ vs.size := by omega
        have hrun := o6 (P := c.P) b (e0 * sz + sub) ty _ vs w hfz e1 hfit hone
        have hres : (execOp a.eval o).run c.P w = .ok .skip (w.setCells b (e0 * sz + sub) (a.eval x).cells.toList) := by
         simp only [execOp, ho, p2, Instr.storeAt, Instr.sureAddr, storeVar, Sem.run_bind, Sem.run_pure, Result.andThen_ok, hsz]
         rw [if_neg (by simpa using hvl)]
         simp [hrun]
        rw [hres]
        refine ⟨ρ, (E2 R hid rfl (fun h => by first | exact h | rfl) p1 (eZ b _ _ w) (fun K => ?_) _ hd).used_mono hu⟩
        refine Hs (l := .at b cap) hc ⟨e0', _, fz, fG b ty fz _ _ vs w e1 hfit, ?_, fun _ => ⟨by rw [FW, HN (by simpa using hfit)]; simpa using hfz, hcm⟩, fun i' hi' j hj => ?_⟩
        ·rw [FW, HN (by simpa using hfit)]; simpa using e2
        ·obtain ⟨y, y1, y2⟩ := mH hle htl' i' hi' j hj
         refine ⟨y, ?_, RT.mono K _ _ y2⟩
         have hfit' : e0 * sz + sub + (a.eval x).cells.toList.length ≤ vs.toList.length := by simpa using hfit
         obtain ⟨hy, _⟩ := Array.getElem?_eq_some_iff.1 y1
         have := mw (i := i' * sz + j) hfit' (by simpa using hy)
         rw [Gm]
         rw [h00, Gg] at this
         rw [h00, this, ← y1, Gn]
       ·cases e
     ·cases e
    ·cases e
   ·cases e
  ·cases e
 ·cases e
end
def dN : Option Nat → List (Nat × Option az)
 | none => []
 | some k => [(k, none)]
section
variable {c : Cx} {used used' : Nat → Prop} {ρ ρ' : Ren} {tm : Tm} {h h' : Hp} {a : Act} {w w' : World} {base : cx} {X Y : Nat → Prop} {nt : Nat} {ok : Nat → Prop} {o : Oper} {nid : Nat}
theorem aI.change (R : aI base X nt used ρ tm h a w) (kid : Option Nat) (hk : ∀ k, kid = some k → ∃ blk, h k = some blk ∧ blk.mut = true ∧ blk.isRow = true) (U : bM Y w w') (hY : ∀ b, Y b → ∃ k cap, kid = some k ∧ ρ k = some (.at b cap))
  (hfresh : ¬ used nid) (hu : ∀ id, used id → used' id) (hn : used' nid) {blk : az} {l : dd}
  (hl : ∀ b cap, l = .at b cap → b < w'.heap.size ∧ (w.heap.size ≤ b ∨ ∃ k cap0, kid = some k ∧ ρ k = some (.at b cap0)))
  (hb : cr w w' (okOf base w ρ h) (okOf base w' (ρ.set nid l) (aQ h ((nid, some blk) :: dN kid))) → RB w' (okOf base w' (ρ.set nid l) (aQ h ((nid, some blk) :: dN kid))) (ρ.set nid l) blk l)
  (d : Option Tmp) (hd : ∀ t, d = some t → t < nt) (av : Option AV) (v : Value)
  (hv : cr w w' (okOf base w ρ h) (okOf base w' (ρ.set nid l) (aQ h ((nid, some blk) :: dN kid))) → ∀ x, av = some x → RV w' (okOf base w' (ρ.set nid l) (aQ h ((nid, some blk) :: dN kid))) (ρ.set nid l) x v) :
  aI base X nt used' (ρ.set nid l) (bG tm d av) (aQ h ((nid, some blk) :: dN kid)) (a.put d v) w' := by
 have hnone : ρ nid = none := by
  cases e : ρ nid with
  | none => rfl
  | some x => exact absurd (R.used nid (by rw [e]; simp)) hfresh
 have hext := wu R hfresh l
 have hold : ∀ id b, aQ h (dN kid) id = some b → h id = some b ∧ kid ≠ some id := fun id b hb => by
  cases kid with
  | none => exact ⟨hb, by simp⟩
  | some k =>
   simp only [dN, aQ] at hb
   split at hb
   ·cases hb
   ·rename_i hne; exact ⟨hb, fun e => hne (by injection e)⟩
 have hsplit : ∀ id b, aQ h ((nid, some blk) :: dN kid) id = some b → (id = nid ∧ b = blk) ∨ (id ≠ nid ∧ h id = some b ∧ kid ≠ some id) := fun id b hb => by
  simp only [aQ] at hb
  split at hb
  ·rename_i e; injection hb with hb; exact .inl ⟨e.symm, hb.symm⟩
  ·rename_i e; obtain ⟨k1, k2⟩ := hold id b hb; exact .inr ⟨fun x => e x.symm, k1, k2⟩
 have hnY : ∀ id b, h id = some b → kid ≠ some id → ∀ x cap, ρ id = some (.at x cap) → ¬ Y x := fun id b hb hk' x cap hx hy => by
  obtain ⟨k, cap', e1, e2⟩ := hY x hy
  obtain ⟨bk, k1, k2, _⟩ := hk k e1
  have := R.inj id k x cap cap' b bk hb k1 (.inr k2) hx e2
  exact hk' (by rw [e1, this])
 refine R.step U (fun b hy _ => ?_) hext (fun id hid => ?_) (fun id b hid => ?_) (fun i j b c c' x0 y0 hi hj hm h1 h2 => ?_) (fun t x ht => ?_) (by rw [dt, R.size]) (by rw [dA, R.defers])
 ·obtain ⟨k, cap, e1, e2⟩ := hY b hy
  obtain ⟨bk, k1, k2, k2r⟩ := hk k e1
  exact ⟨k, bk, cap, k1, k2, e2⟩
 ·unfold Ren.set at hid
  split at hid
  ·rename_i e; rw [e]; exact hn
  ·exact hu id (R.used id hid)
 ·rcases hsplit id b hid with ⟨rfl, rfl⟩ | ⟨e1, e2, e3⟩
  ·refine .inr ⟨l, by simp [Ren.set], hb, fun b cap e => ?_⟩
   obtain ⟨g1, g2⟩ := hl b cap e
   refine ⟨g1, ?_, ?_⟩
   ·rcases g2 with g2 | ⟨k, cap0, e1, e2⟩
    ·exact .inl (Ga R.upd.size g2)
    ·obtain ⟨bk, k1, k2, k2r⟩ := hk k e1
     obtain ⟨l', m1, _, m3⟩ := R.heap k bk k1
     rw [e2] at m1
     injection m1 with m1
     exact (m3 b cap0 m1.symm).2
   ·rcases g2 with g2 | ⟨k, cap0, e1, e2⟩
    ·exact .inl g2
    ·obtain ⟨bk, k1, k2, k2r⟩ := hk k e1
     exact .inr ⟨k, bk, cap0, k1, k2, e2⟩
  ·exact .inl ⟨e2, hnY id b e2 e3⟩
 ·have key : ∀ k, k ≠ nid → ∀ x, aQ h ((nid, some blk) :: dN kid) k = some x → ∀ cc, (ρ.set nid l) k = some (.at b cc) → b < w.heap.size ∧ h k = some x ∧ ρ k = some (.at b cc) ∧ kid ≠ some k := by
   intro k hk' x hx cc hc
   rcases hsplit k x hx with ⟨e, _⟩ | ⟨_, e2, e3⟩
   ·exact absurd e hk'
   ·simp only [Ren.set, if_neg hk'] at hc
    obtain ⟨l', m1, _, m3⟩ := R.heap k x e2
    rw [hc] at m1
    injection m1 with m1
    exact ⟨(m3 b cc m1.symm).1, e2, hc, e3⟩
  have new : ∀ cc, (ρ.set nid l) nid = some (.at b cc) → ∀ k, k ≠ nid → ∀ x, aQ h ((nid, some blk) :: dN kid) k = some x → ∀ c2, (ρ.set nid l) k = some (.at b c2) → False := by
   intro cc hc k hk' x hx c2 hc2
   simp only [Ren.set, if_true, FL] at hc
   obtain ⟨k1, k2, k3, k4⟩ := key k hk' x hx c2 hc2
   rcases (hl b cc hc).2 with g | ⟨k', cap0, e1, e2⟩
   ·omega
   ·obtain ⟨bk, q1, q2, _⟩ := hk k' e1
    have := R.inj k k' b c2 cap0 x bk k2 q1 (.inr q2) k3 e2
    exact k4 (by rw [e1, this])
  by_cases ei : i = nid
  ·by_cases ej : j = nid
   ·rw [ei, ej]
   ·rw [ei] at h1; exact (new c h1 j ej y0 hj c' h2).elim
  ·by_cases ej : j = nid
   ·rw [ej] at h2; exact (new c' h2 i ei x0 hi c h1).elim
   ·obtain ⟨_, i1, i2, _⟩ := key i ei x0 hi c h1
    obtain ⟨_, j1, j2, _⟩ := key j ej y0 hj c' h2
    exact R.inj i j b c c' x0 y0 i1 j1 hm i2 j2
 ·by_cases e : some t = d
  ·rw [bG, if_pos e] at ht
   refine .inr fun K => ?_
   rw [← e, dU v (by rw [R.size]; exact hd t e.symm)]
   exact hv K x ht
  ·rw [bG, if_neg e] at ht
   refine .inl ⟨ht, ?_⟩
   cases d with
   | none => rfl
   | some d => exact dB v fun h => e (by rw [h])
def eO (h : Hp) (sz : Nat) : AV → Option (Nat × (Nat → Nat → T) × Prop)
 | .c (.t (.v (.string s))) => if sz = 1 then some (s.size, fun i _ => .v (.int .u8 (s.data.toList.getD i 0).toNat), True) else none
 | .c (.t (.v (.slice none 0 _))) => some (0, fun _ _ => .v undef, True)
 | .c (.t (.tree m sz' f)) => if sz' = sz then some (m, f, True) else none
 | .c (.ref id sz' off m) => if sz' = sz then match h id with
  | some (.row _ _ sz'' n f) => if sz'' = sz then some (m, fun i j => f (off + i) j, off + m ≤ n) else none
  | _ => none else none
 | _ => none
def fM (tt : TT) (tx : TypeId) (x : AV) : Bool := match tt tx with
 | some { k := .str, .. } => match x with
  | .c (.t (.v (.string _))) => true
  | _ => false
 | some { k := .slice _, .. } => match x with
  | .c (.t (.v (.string _))) => false
  | _ => true
 | _ => false
theorem rV {P : Program} {tt : TT} (hT : bb P tt) (R : aI base X nt used ρ tm h a w) {sz : Nat} (hsz : 0 < sz) {tx : TypeId} {x : AV} {y : Value} {r : Nat × (Nat → Nat → T) × Prop} (hk : fM tt tx x = true) (e : eO h sz x = some r) (hc : r.2.2)
  (hr : RV w (okOf base w ρ h) ρ x y) : ∃ news, Src P sz tx y r.1 news w ∧ ∀ i, i < r.1 → ∀ j, j < sz → ∃ v, news[i * sz + j]? = some v ∧ RT w (okOf base w ρ h) (r.2.1 i j) v := by
 have slice : (∀ s, x ≠ .c (.t (.v (.string s)))) → ∃ e', P.underlying tx = some (.slice e') := by
  intro hx
  unfold fM at hk
  split at hk
  ·split at hk
   ·exact absurd rfl (hx _)
   ·cases hk
  ·rename_i hti; exact ⟨_, (hT _ _ hti).slice rfl⟩
  ·cases hk
 have cells : ∀ (q : Option Addr) (m cp : Nat) (f : Nat → Nat → T), (∃ e', P.underlying tx = some (.slice e')) → y = .slice q m cp → (∀ i, i < m → ∀ j, j < sz → ∃ b o v, q = some ⟨b, o, none⟩ ∧ w.cell? ⟨b, o + i * sz + j, none⟩ = some v ∧ RT w (okOf base w ρ h) (f i j) v) →
   ∃ news, Src P sz tx y m news w ∧ ∀ i, i < m → ∀ j, j < sz → ∃ v, news[i * sz + j]? = some v ∧ RT w (okOf base w ρ h) (f i j) v := by
  rintro q m cp f ⟨e', he'⟩ rfl hcell
  by_cases hm : m = 0
  ·subst hm
   refine ⟨[], ?_, fun i hi => by omega⟩
   cases q with
   | none => exact Src.ofNil w he' cp
   | some ad => exact Src.ofSlice w he' ad 0 cp [] (by simp) (fun j u hu => by simp at hu) (fun u hu => by cases hu)
  ·obtain ⟨b, o, _, rfl, _⟩ := hcell 0 (by omega) 0 hsz
   have hcell' : ∀ i, i < m → ∀ j, j < sz → ∃ v, w.cell? ⟨b, o + i * sz + j, none⟩ = some v ∧ RT w (okOf base w ρ h) (f i j) v := fun i hi j hj => by
    obtain ⟨b', o', v, e1, e2, e3⟩ := hcell i hi j hj
    injection e1 with e1
    injection e1 with e4 e5
    subst e4; subst e5
    exact ⟨v, e2, e3⟩
   let g : Nat → Value := fun k => (w.cell? ⟨b, o + k, none⟩).getD undef
   have hg : ∀ i, i < m → ∀ j, j < sz → w.cell? ⟨b, o + (i * sz + j), none⟩ = some (g (i * sz + j)) ∧ RT w (okOf base w ρ h) (f i j) (g (i * sz + j)) := fun i hi j hj => by
    obtain ⟨v, e1, e2⟩ := hcell' i hi j hj
    rw [Nat.add_assoc] at e1
    have : g (i * sz + j) = v := by simp [g, e1]
    exact ⟨by rw [this]; exact e1, by rw [this]; exact e2⟩
   have hk' : ∀ k, k < m * sz → w.cell? ⟨b, o + k, none⟩ = some (g k) ∧ (g k).oneCell' = true := fun k hk => by
    have h1 := hg (k / sz) ((Nat.div_lt_iff_lt_mul hsz).2 hk) (k % sz) (Nat.mod_lt _ hsz)
    rw [Nat.mul_comm, Nat.div_add_mod] at h1
    exact ⟨h1.1, RT.one h1.2⟩
   refine ⟨de g 0 (m * sz), Src.ofSlice w he' ⟨b, o, none⟩ m cp _ (eh _ _ _) (fun j u hu => ?_) (fun u hu => ?_), fun i hi j hj => ?_⟩
   ·have hj : j < m * sz := by
     rcases Gi j (m * sz) with h' | h'
     ·exact h'
     ·rw [FK (by rw [eh]; exact h')] at hu; cases hu
    rw [fg _ _ _ _ hj, Gg] at hu
    injection hu with hu
    rw [Addr.add_lit, (hk' j hj).1, hu]
   ·obtain ⟨k, hk⟩ := List.mem_iff_getElem?.1 hu
    have hj : k < m * sz := by
     rcases Gi k (m * sz) with h' | h'
     ·exact h'
     ·rw [FK (by rw [eh]; exact h')] at hk; cases hk
    rw [fg _ _ _ _ hj, Gg] at hk
    injection hk with hk
    rw [← hk]; exact (hk' k hj).2
   ·have hlt : i * sz + j < m * sz := by
     have : (i + 1) * sz ≤ m * sz := F8 _ hi
     rw [Nat.add_mul] at this
     omega
    exact ⟨_, by rw [fg _ _ _ _ hlt, Gg], (hg i hi j hj).2⟩
 unfold eO at e
 split at e
 ·rename_i s
  split at e
  ·rename_i h1
   injection e with e
   subst e
   subst h1
   obtain ⟨rfl, _⟩ := hr
   have hst : P.underlying tx = some .string := by
    unfold fM at hk
    split at hk
    ·rename_i hti; exact (hT _ _ hti).str rfl
    ·cases hk
    ·cases hk
   refine ⟨byteCells s, Src.ofString w hst s, fun i hi j hj => ?_⟩
   obtain rfl : j = 0 := by omega
   have hi' : i < s.data.toList.length := by rw [Array.length_toList]; exact hi
   refine ⟨.int .u8 (s.data.toList[i]).toNat, ?_, ?_, rfl⟩
   ·show (s.data.toList.map fun b => Value.int .u8 b.toNat)[i * 1 + 0]? = _
    rw [Nat.mul_one, Nat.add_zero, F6, FJ hi']; rfl
   ·rw [FI, FJ hi']; rfl
  ·cases e
 ·rename_i cp
  injection e with e
  subst e
  obtain ⟨rfl, _⟩ := hr
  exact cells none 0 cp _ (slice (fun s hs => by simp at hs)) rfl (fun i hi => by omega)
 ·rename_i m sz' f
  split at e
  ·rename_i h1
   injection e with e
   subst e
   subst h1
   obtain ⟨q, cp, rfl, _, hcell⟩ := hr
   exact cells q m cp f (slice (fun s hs => by simp at hs)) rfl fun i hi j hj => let ⟨b, o, v, e1, _, e3, e4⟩ := hcell i hi j hj; ⟨b, o, v, e1, e3, e4⟩
  ·cases e
 ·rename_i id sz' off m
  split at e
  ·rename_i h1
   split at e
   ·rename_i ty fro sz'' n f hid
    split at e
    ·rename_i h2
     injection e with e
     subst e
     subst h1
     subst h2
     have hsl := slice (fun s hs => by simp at hs)
     obtain ⟨l, l1, l2⟩ := hr
     obtain ⟨l', m1, m2, _⟩ := R.heap id _ hid
     rw [l1] at m1
     injection m1 with m1
     subst m1
     cases l with
     | nil =>
      obtain ⟨_, rfl, q, rfl⟩ := l2
      exact cells q 0 0 _ hsl rfl (fun i hi => by omega)
     | _ b cap =>
      rcases l2 with ⟨_, rfl, _, hle⟩ | ⟨rfl, q, rfl⟩
      ·obtain ⟨_, vs, fz, v1, v2, _, v4⟩ := m2
       refine cells _ m _ _ hsl rfl fun i hi j hj => ?_
       have hc' : off + m ≤ n := hc
       obtain ⟨x, x1, x2⟩ := v4 (off + i) (by omega) j hj
       refine ⟨b, off * sz'', x, rfl, ?_, x2⟩
       rw [cell_of_row w _ _ vs ty fz v1, ← x1, Nat.add_mul]
      ·exact cells q 0 0 _ hsl rfl (fun i hi => by omega)
    ·cases e
   ·cases e
  ·cases e
 ·cases e
def ck (n : Nat) (f g : Nat → Nat → T) : Nat → Nat → T := fun i j => if i < n then f i j else g (i - n) j
def jZ (h : Hp) (el : TypeId) (sz : Nat) : AV → Option (Nat × (Nat → Nat → T) × Option Nat × Prop)
 | .c (.t (.v (.slice none 0 0))) => some (0, fun _ _ => .v undef, none, True)
 | .c (.ref id sz' off n) => if sz' = sz ∧ off = 0 then match h id with
  | some (.row ty false sz'' n' f) => if sz'' = sz ∧ ty = el then some (n, f, some id, n = n') else none
  | _ => none else none
 | _ => none
def gT (tt : TT) (h : Hp) (t tx : TypeId) (s x : AV) (nid : Nat) (hi : bC) : Option aT :=
 match tt t with
 | some { k := .slice e, .. } => match tt e with
  | some ie => if 0 < ie.size ∧ ie.zero.length = ie.size ∧ fM tt tx x then match jZ h e ie.size s, eO h ie.size x with
   | some (n, f, kid, dc), some (m, g, sc) =>
    some ⟨some (.c (.ref nid ie.size 0 (bI e false ie.size (n + m) (ck n f g) hi.row).1)), (nid, some (bI e false ie.size (n + m) (ck n f g) hi.row).2.1) :: dN kid,
     dc ∧ sc ∧ (n + m ≤ 1099511627776 ∧ ie.bytes ≤ 128) ∧ (bI e false ie.size (n + m) (ck n f g) hi.row).2.2⟩
   | _, _ => none else none
  | none => none
 | _ => none
theorem kZ (z : Array Value) (n : Nat) : (Builtin.zeroCells z n).size = n * z.size := by simp [Builtin.zeroCells]
theorem zz (R : aI c.base c.X c.nt used ρ tm h a w) (hfresh : ¬ used nid) (hu : ∀ id, used id → used' id) (hn : used' nid) (hd : ∀ t, o.dst = some t → t < c.nt) {tt : TT} (hT : bb c.P tt) {t tx : TypeId} {s x : AV} {hi : bC} {r : aT} {sv xv : Value}
  (e : gT tt h t tx s x nid hi = some r) (hc : r.chk) (hs : RV w (okOf c.base w ρ h) ρ s sv) (hx : RV w (okOf c.base w ρ h) ρ x xv) {ty : TypeId} {res : Result Next}
  (hr : ∀ v w', (Builtin.append_ #[t, tx] ty #[sv, xv]).run c.P w = .ok v w' → res = .ok (.value v) w') : ct c used' tm h a o r.val r.W res := by
 unfold gT at e
 split at e
 ·rename_i el i1 i2 i3 i4 hti
  have hut := (hT _ _ hti).slice rfl
  split at e
  ·rename_i ie hie
   obtain ⟨it, z, t1, t2, t3, t4, t5⟩ := (hT _ _ hie).info
   split at e
   ·rename_i hcond
    obtain ⟨s1, s2, s3⟩ := hcond
    split at e
    ·rename_i n f kid dc m g sc hdst hsrc
     injection e with e
     subst e
     obtain ⟨c1, c2, ⟨c3, c4⟩, c5⟩ := hc
     obtain ⟨news, n1, n2⟩ := rV hT R s1 s3 hsrc c2 hx
     rw [← t2] at n1
     have hzs : z.cells.size = ie.size := by rw [← s2, ← t5]; simp
     have hnl : news.length = m * ie.size := by rw [n1.newsLen, t2]
     have grow : ∀ (q : Option Addr) (cap : Nat) (olds : List Value), sv = .slice q n cap → cap < n + m → olds.length = n * ie.size → (Builtin.firstCells it.size n (.slice q n cap)).run c.P w.drew = .ok olds.toArray w.drew →
       (∀ i, i < n → ∀ j, j < ie.size → ∃ v, olds[i * ie.size + j]? = some v ∧ RT w (okOf c.base w ρ h) (f i j) v) → (∀ k, kid = some k → ∃ blk, h k = some blk ∧ blk.mut = true ∧ blk.isRow = true) →
       ct c used' tm h a o (some (.c (.ref nid ie.size 0 (bI el false ie.size (n + m) (ck n f g) hi.row).1))) ((nid, some (bI el false ie.size (n + m) (ck n f g) hi.row).2.1) :: dN kid) res := by
      intro q cap olds hsv hcap hol hold hcell hkid
      have hb : (n + m) * it.bytes ≤ 140737488355328 := by
       rw [t3]
       have : (n + m) * ie.bytes ≤ 1099511627776 * 128 := Nat.mul_le_mul c3 c4
       omega
      have hrun := run_append_grow_src (P := c.P) w t tx ty el it z hut t1 t4 q n cap olds hold xv m news n1 hcap (by omega) (growslice_fits hcap hb)
      rw [← hsv] at hrun
      rw [hr _ _ hrun]
      have hge := grownCap_ge w (n + m) cap el
      have hle := grownCap_le_maxLen w (n + m) cap el (by unfold maxLen; omega)
      have hsize : ((olds ++ news).toArray ++ Builtin.zeroCells z.cells (grownCap w (n + m) cap el - (n + m))).size = grownCap w (n + m) cap el * ie.size := by
       simp only [Array.size_append, FW, FO, kZ, hzs, hol, hnl, ← Nat.add_mul]
       congr 1; omega
      have U : bM (fun _ => False) w (w.drew.alloc (.cells ((olds ++ news).toArray ++ Builtin.zeroCells z.cells (grownCap w (n + m) cap el - (n + m))) el)) := ⟨rfl, rfl, rfl, by simp, fun b hb _ => heap_alloc_old w.drew _ hb⟩
      refine ⟨ρ.set nid (.at w.heap.size (grownCap w (n + m) cap el)), R.change kid hkid U (fun _ x => x.elim) hfresh hu hn (fun b cp e => by injection e with e1 e2; subst e1; exact ⟨by simp, .inl (F9 _)⟩) (fun K => ?_) _ hd _ _ (fun K x hx' => ?_)⟩
      ·refine Hs (l := .at _ _) c5 ⟨hge, _, (0, 0), heap_alloc_new w.drew _, hsize, fun _ => ⟨.inl (F9 0), hle⟩, fun i hi j hj => ?_⟩
       have hij : i * ie.size + j < (n + m) * ie.size := by
        have : (i + 1) * ie.size ≤ (n + m) * ie.size := F8 _ hi
        rw [Nat.add_mul] at this
        omega
       rw [Nat.add_mul] at hij
       by_cases hin : i < n
       ·obtain ⟨v, v1, v2⟩ := hcell i hin j hj
        have hlo : i * ie.size + j < olds.length := by
         rw [hol]
         have : (i + 1) * ie.size ≤ n * ie.size := F8 _ hin
         rw [Nat.add_mul] at this
         omega
        refine ⟨v, ?_, by simp only [ck, if_pos hin]; exact RT.mono K _ _ v2⟩
        rw [Array.getElem?_append_left (by simp; omega)]
        simp [F3 hlo, v1]
       ·obtain ⟨v, v1, v2⟩ := n2 (i - n) (by omega) j hj
        have hi2 : i * ie.size = n * ie.size + (i - n) * ie.size := by rw [← Nat.add_mul]; congr 1; omega
        refine ⟨v, ?_, by simp only [ck, if_neg hin]; exact RT.mono K _ _ v2⟩
        rw [Array.getElem?_append_left (by simp; omega)]
        rw [Gm, F4 (by rw [hol, hi2]; omega), ← v1]
        congr 1; rw [hol, hi2]; omega
      ·injection hx' with hx'; subst hx'
       refine ⟨.at w.heap.size (grownCap w (n + m) cap el), by simp [Ren.set], .inl ⟨grownCap w (n + m) cap el, ?_, ?_, by omega⟩⟩
       ·rw [dS c5]; simp
       ·rw [dS c5]; omega
     have none_ : ∀ (q : Option Addr), sv = .slice q 0 0 → n = 0 → (∀ k, kid = some k → ∃ blk, h k = some blk ∧ blk.mut = true ∧ blk.isRow = true) → m = 0 →
       ct c used' tm h a o (some (.c (.ref nid ie.size 0 (bI el false ie.size (n + m) (ck n f g) hi.row).1))) ((nid, some (bI el false ie.size (n + m) (ck n f g) hi.row).2.1) :: dN kid) res := by
      intro q hsv hn0 hkid hm0
      subst hn0
      subst hm0
      have hnews : news = [] := List.eq_nil_of_length_eq_zero (by simpa using hnl)
      subst hnews
      have hrun : (Builtin.append_ #[t, tx] ty #[sv, xv]).run c.P w = .ok (.slice q 0 0) w := by
       have hl := n1.len w
       have hf := n1.cells
       rw [hsv]
       rcases n1.kind with ⟨e', hk⟩ | hk <;> cases q <;> simp [Builtin.append_, run_underlying hut, run_underlying hk, sizeOf, typeInfo, t1, hl, hf, storeCells]
      rw [hr _ _ hrun]
      refine ⟨ρ.set nid .nil, R.change kid hkid (bM.refl (fun _ => False) w) (fun _ x => x.elim) hfresh hu hn (fun b cp e => by cases e) (fun K => Hs (l := .nil) c5 rfl) _ hd _ _ (fun K x hx' => ?_)⟩
      injection hx' with hx'; subst hx'
      exact ⟨.nil, by simp [Ren.set], rfl, by rw [dS c5], q, rfl⟩
     unfold jZ at hdst
     split at hdst
     ·injection hdst with hdst
      injection hdst with d1 d2
      injection d2 with d2 d3
      injection d3 with d3 d4
      subst d1; subst d3
      obtain ⟨rfl, _⟩ := hs
      by_cases hm : m = 0
      ·exact none_ none rfl rfl (fun k hk => by cases hk) hm
      ·refine grow none 0 [] rfl (by omega) (by simp) (run_firstCells_none w.drew it.size 0 0 0) (fun i hi => by omega) (fun k hk => by cases hk)
     ·rename_i id sz' off n0
      split at hdst
      ·rename_i h1
       split at hdst
       ·rename_i ty0 sz'' n' f0 hid
        split at hdst
        ·rename_i h2
         injection hdst with hdst
         injection hdst with d1 d2
         injection d2 with d2 d3
         injection d3 with d3 d4
         subst d1; subst d2; subst d3; subst d4
         obtain ⟨rfl, rfl⟩ := h1
         obtain ⟨rfl, rfl⟩ := h2
         have c1' : n0 = n' := c1
         subst c1'
         have hkid : ∀ k, some id = some k → ∃ blk, h k = some blk ∧ blk.mut = true ∧ blk.isRow = true := fun k hk => by injection hk with hk; subst hk; exact ⟨_, hid, rfl, rfl⟩
         obtain ⟨l, l1, l2⟩ := hs
         obtain ⟨l', m1, m2, m3⟩ := R.heap id _ hid
         rw [l1] at m1
         injection m1 with m1
         subst m1
         cases l with
         | nil =>
          obtain ⟨_, rfl, q, rfl⟩ := l2
          by_cases hm : m = 0
          ·exact none_ q rfl rfl hkid hm
          ·refine grow q 0 [] rfl (by omega) (by simp) ?_ (fun i hi => by omega) hkid
           cases q with
           | none => exact run_firstCells_none w.drew it.size 0 0 0
           | some ad => exact run_firstCells_some w.drew it.size 0 ad 0 0 [] (by simp) (fun j v hv => by simp at hv)
         | _ b cap =>
          obtain ⟨v0, vs, fz, v1, v2, v3, v4⟩ := m2
          obtain ⟨hfz, hcm⟩ := v3 rfl
          rcases l2 with ⟨cc, rfl, hle1, hle⟩ | ⟨rfl, q, rfl⟩
          ·simp only [Nat.zero_mul] at hr grow
           by_cases hroom : n0 + m ≤ cc
           ·have hroom' : n0 + m ≤ cap := by omega
            have hfit : n0 * ie.size + news.length ≤ vs.size := by
             rw [hnl, v2, ← Nat.add_mul]; exact F8 _ hroom'
            have hrun := run_append_room_src (P := c.P) w t tx ty ty0 it hut t1 b 0 n0 cc xv m news n1 hroom
             (fun j hj => by rw [cell_of_row w _ _ vs ty0 fz v1, t2]; simp; omega) (fun j hj => hfz.free v1 (by rw [t2]; omega))
            rw [hr _ _ hrun, t2, Gg]
            refine ⟨ρ.set nid (.at b cap), R.change (some id) hkid (eZ b _ _ w) (fun x hx => ⟨id, cap, rfl, by rw [hx]; exact l1⟩) hfresh hu hn (fun b' cp e => by injection e with e1 e2; subst e1; exact ⟨Gb (m3 b cap rfl).1 (eZ b _ _ w).size, .inr ⟨id, cap, rfl, l1⟩⟩) (fun K => ?_) _ hd _ _ (fun K x hx' => ?_)⟩
            ·have hfit' : n0 * ie.size + news.length ≤ vs.toList.length := by simpa using hfit
             refine Hs (l := .at _ _) c5 ⟨hroom', _, fz, fG b ty0 fz news (n0 * ie.size) vs w v1 hfit, ?_, fun _ => ⟨by rw [FW, HN hfit']; simpa using hfz, hcm⟩, fun i hi j hj => ?_⟩
             ·rw [FW, HN hfit']; simpa using v2
             ·by_cases hin : i < n0
              ·obtain ⟨v, x1, x2⟩ := v4 i hin j hj
               have hlo : i * ie.size + j < n0 * ie.size := by
                have : (i + 1) * ie.size ≤ n0 * ie.size := F8 _ hin
                rw [Nat.add_mul] at this
                omega
               refine ⟨v, ?_, by simp only [ck, if_pos hin]; exact RT.mono K _ _ x2⟩
               rw [Gm, mg hfit' (.inl hlo), Gn, x1]
              ·obtain ⟨v, x1, x2⟩ := n2 (i - n0) (by omega) j hj
               have hi2 : i * ie.size = n0 * ie.size + (i - n0) * ie.size := by rw [← Nat.add_mul]; congr 1; omega
               have hlt : (i - n0) * ie.size + j < news.length := by
                rcases Gi ((i - n0) * ie.size + j) news.length with h' | h'
                ·exact h'
                ·rw [FK h'] at x1; cases x1
               refine ⟨v, ?_, by simp only [ck, if_neg hin]; exact RT.mono K _ _ x2⟩
               rw [Gm, hi2, Nat.add_assoc, mw hfit' hlt, x1]
            ·injection hx' with hx'; subst hx'
             refine ⟨.at b cap, by simp [Ren.set], .inl ⟨cc, ?_, ?_, by omega⟩⟩
             ·rw [dS c5]; simp
             ·rw [dS c5]; omega
           ·let gg : Nat → Value := fun k => vs.getD k undef
            have hlen : n0 * ie.size ≤ vs.size := by rw [v2]; exact F8 _ v0
            refine grow (some ⟨b, 0, none⟩) cc (vs.toList.take (n0 * ie.size)) rfl (by omega) (by simp; omega) ?_ (fun i hi j hj => ?_) hkid
            ·refine run_firstCells_some w.drew it.size n0 ⟨b, 0, none⟩ n0 cc _ (by rw [t2]; simp; omega) (fun j v hv => ?_)
             rw [Addr.add_lit, Gg, World.cell?_drew, cell_of_row w _ _ vs ty0 fz v1]
             rw [List.getElem?_take] at hv
             split at hv
             ·simpa using hv
             ·cases hv
            ·obtain ⟨v, x1, x2⟩ := v4 i hi j hj
             have hlo : i * ie.size + j < n0 * ie.size := by
              have : (i + 1) * ie.size ≤ n0 * ie.size := F8 _ hi
              rw [Nat.add_mul] at this
              omega
             exact ⟨v, by rw [List.getElem?_take, if_pos hlo]; simpa using x1, x2⟩
          ·by_cases hm : m = 0
           ·exact none_ q rfl rfl hkid hm
           ·refine grow q 0 [] rfl (by omega) (by simp) ?_ (fun i hi => by omega) hkid
            cases q with
            | none => exact run_firstCells_none w.drew it.size 0 0 0
            | some ad => exact run_firstCells_some w.drew it.size 0 ad 0 0 [] (by simp) (fun j v hv => by simp at hv)
        ·cases hdst
       ·cases hdst
      ·cases hdst
     ·cases hdst
    ·cases e
   ·cases e
  ·cases e
 ·cases e
end
section
variable {c : Cx} {used used' : Nat → Prop} {ρ ρ' : Ren} {tm : Tm} {h h' : Hp} {a : Act} {w w' : World} {base : cx} {X Y : Nat → Prop} {nt : Nat} {ok : Nat → Prop} {o : Oper} {nid : Nat}
theorem aI.keepK (R : aI base X nt used ρ tm h a w) {k : Nat} {blk0 old blk : az} (hk : h k = some blk0) (hk0 : blk0.mut = true) (hold : old.mut = false) (hbm : blk.mut = false) (U : bM Y w w') (hY : ∀ b, Y b → ∃ cap, ρ k = some (.at b cap))
  (hfresh : ¬ used nid) (hu : ∀ id, used id → used' id) (hn : used' nid) {l : dd}
  (hl : ∀ b cap, l = .at b cap → b < w'.heap.size ∧ (w.heap.size ≤ b ∨ ∃ cap0, ρ k = some (.at b cap0)))
  (hb : cr w w' (okOf base w ρ h) (okOf base w' (ρ.set nid l) (aQ h [(nid, some blk), (k, some old)])) → RB w' (okOf base w' (ρ.set nid l) (aQ h [(nid, some blk), (k, some old)])) (ρ.set nid l) blk l)
  (hob : cr w w' (okOf base w ρ h) (okOf base w' (ρ.set nid l) (aQ h [(nid, some blk), (k, some old)])) → ∀ lk, ρ k = some lk → RB w' (okOf base w' (ρ.set nid l) (aQ h [(nid, some blk), (k, some old)])) (ρ.set nid l) old lk)
  (d : Option Tmp) (hd : ∀ t, d = some t → t < nt) (av : Option AV) (v : Value)
  (hv : cr w w' (okOf base w ρ h) (okOf base w' (ρ.set nid l) (aQ h [(nid, some blk), (k, some old)])) → ∀ x, av = some x → RV w' (okOf base w' (ρ.set nid l) (aQ h [(nid, some blk), (k, some old)])) (ρ.set nid l) x v) :
  aI base X nt used' (ρ.set nid l) (bG tm d av) (aQ h [(nid, some blk), (k, some old)]) (a.put d v) w' := by
 have hnone : ρ nid = none := by
  cases e : ρ nid with
  | none => rfl
  | some x => exact absurd (R.used nid (by rw [e]; simp)) hfresh
 have hkn : k ≠ nid := fun e => by
  obtain ⟨l', e1, _⟩ := R.heap k blk0 hk
  rw [e, hnone] at e1; cases e1
 have hext := wu R hfresh l
 have hsplit : ∀ id b, (aQ h [(nid, some blk), (k, some old)]) id = some b → (id = nid ∧ b = blk) ∨ (id = k ∧ b = old) ∨ (id ≠ nid ∧ id ≠ k ∧ h id = some b) := fun id b hb => by
  simp only [aQ] at hb
  split at hb
  ·rename_i e; injection hb with hb; exact .inl ⟨e.symm, hb.symm⟩
  ·rename_i e1
   split at hb
   ·rename_i e; injection hb with hb; exact .inr (.inl ⟨e.symm, hb.symm⟩)
   ·rename_i e2; exact .inr (.inr ⟨fun x => e1 x.symm, fun x => e2 x.symm, hb⟩)
 have hset : ∀ id, id ≠ nid → (ρ.set nid l) id = ρ id := fun id e => by simp only [Ren.set, if_neg e]
 have hnY : ∀ id b, h id = some b → id ≠ k → ∀ x cap, ρ id = some (.at x cap) → ¬ Y x := fun id b hb hne x cap hx hy => by
  obtain ⟨cap', e2⟩ := hY x hy
  exact hne (R.inj id k x cap cap' b blk0 hb hk (.inr hk0) hx e2)
 have far : ∀ b cc j y cj, (ρ.set nid l) nid = some (.at b cc) → h j = some y → j ≠ k → ρ j = some (.at b cj) → False := fun b cc j y cj h1 h2 h3 h4 => by
  simp only [Ren.set, if_true, FL] at h1
  rcases (hl b cc h1).2 with g | ⟨cap0, g⟩
  ·obtain ⟨l', m1, _, m3⟩ := R.heap j y h2
   rw [h4] at m1
   injection m1 with m1
   have := (m3 b cj m1.symm).1
   omega
  ·exact h3 (R.inj j k b cj cap0 y blk0 h2 hk (.inr hk0) h4 g)
 refine R.step U (fun b hy _ => ?_) hext (fun id hid => ?_) (fun id b hid => ?_) (fun i j b c c' x0 y0 hi hj hm h1 h2 => ?_) (fun t x ht => ?_) (by rw [dt, R.size]) (by rw [dA, R.defers])
 ·obtain ⟨cap, e2⟩ := hY b hy
  exact ⟨k, blk0, cap, hk, hk0, e2⟩
 ·unfold Ren.set at hid
  split at hid
  ·rename_i e; rw [e]; exact hn
  ·exact hu id (R.used id hid)
 ·rcases hsplit id b hid with ⟨e1, e2⟩ | ⟨e1, e2⟩ | ⟨e1, e2, e3⟩
  ·rw [e1, e2]
   refine .inr ⟨l, by simp [Ren.set], hb, fun b cap e => ?_⟩
   obtain ⟨g1, g2⟩ := hl b cap e
   refine ⟨g1, ?_, ?_⟩
   ·rcases g2 with g2 | ⟨cap0, g2⟩
    ·exact .inl (Ga R.upd.size g2)
    ·obtain ⟨l', m1, _, m3⟩ := R.heap k blk0 hk
     rw [g2] at m1
     injection m1 with m1
     exact (m3 b cap0 m1.symm).2
   ·rcases g2 with g2 | ⟨cap0, g2⟩
    ·exact .inl g2
    ·exact .inr ⟨k, blk0, cap0, hk, hk0, g2⟩
  ·rw [e1, e2]
   obtain ⟨l', m1, m2, m3⟩ := R.heap k blk0 hk
   exact .inr ⟨l', by rw [hset _ hkn]; exact m1, fun K => hob K l' m1, fun b cap e => ⟨Gb (m3 b cap e).1 U.size, (m3 b cap e).2, .inr ⟨k, blk0, cap, hk, hk0, by rw [m1, e]⟩⟩⟩
  ·exact .inl ⟨e3, hnY id b e3 e2⟩
 ·rcases hsplit i x0 hi with ⟨ei, ex⟩ | ⟨ei, ex⟩ | ⟨i1, i2, i3⟩
  ·rcases hsplit j y0 hj with ⟨ej, ey⟩ | ⟨ej, ey⟩ | ⟨j1, j2, j3⟩
   ·rw [ei, ej]
   ·rw [ex, ey, hbm, hold] at hm; exact absurd hm (by decide)
   ·rw [ei] at h1; rw [hset j j1] at h2; exact (far b c j y0 c' h1 j3 j2 h2).elim
  ·rcases hsplit j y0 hj with ⟨ej, ey⟩ | ⟨ej, ey⟩ | ⟨j1, j2, j3⟩
   ·rw [ex, ey, hbm, hold] at hm; exact absurd hm (by decide)
   ·rw [ei, ej]
   ·rw [ei, hset k hkn] at h1; rw [hset j j1] at h2
    exact (j2 (R.inj k j b c c' blk0 y0 hk j3 (.inl hk0) h1 h2).symm).elim
  ·rw [hset i i1] at h1
   rcases hsplit j y0 hj with ⟨ej, ey⟩ | ⟨ej, ey⟩ | ⟨j1, j2, j3⟩
   ·rw [ej] at h2; exact (far b c' i x0 c h2 i3 i2 h1).elim
   ·rw [ej, hset k hkn] at h2
    exact (i2 (R.inj i k b c c' x0 blk0 i3 hk (.inr hk0) h1 h2)).elim
   ·rw [hset j j1] at h2
    exact R.inj i j b c c' x0 y0 i3 j3 hm h1 h2
 ·by_cases e : some t = d
  ·rw [bG, if_pos e] at ht
   refine .inr fun K => ?_
   rw [← e, dU v (by rw [R.size]; exact hd t e.symm)]
   exact hv K x ht
  ·rw [bG, if_neg e] at ht
   refine .inl ⟨ht, ?_⟩
   cases d with
   | none => rfl
   | some d => exact dB v fun h => e (by rw [h])
theorem q5 {e : TypeId} {sz n : Nat} {f : Nat → Nat → T} {q : Option (Nat × (Nat → Nat → T))} : (bI e true sz n f q).2.1.mut = false := by
 cases q with
 | none => rfl
 | some p => rfl
def gM (tt : TT) (h : Hp) (t tx : TypeId) (s x : AV) (nid : Nat) (hi : bC) : Option aT :=
 match tt t with
 | some { k := .slice e, .. } => match tt e with
  | some ie => if 0 < ie.size ∧ ie.zero.length = ie.size ∧ fM tt tx x then match s, eO h ie.size x with
   | .c (.ref id sz' off n), some (m, g, sc) => if sz' = ie.size ∧ off = 0 then match h id with
    | some (.row ty0 false sz'' n' f) => if sz'' = ie.size ∧ ty0 = e then
      some ⟨some (.c (.ref nid ie.size 0 (bI ty0 true ie.size (n + m) (ck n f g) hi.row).1)), [(nid, some (bI ty0 true ie.size (n + m) (ck n f g) hi.row).2.1), (id, some (.row ty0 true ie.size n' f))],
       n = n' ∧ sc ∧ (n + m ≤ 1099511627776 ∧ ie.bytes ≤ 128) ∧ (bI ty0 true ie.size (n + m) (ck n f g) hi.row).2.2⟩ else none
    | _ => none else none
   | _, _ => none else none
  | none => none
 | _ => none
theorem zj (R : aI c.base c.X c.nt used ρ tm h a w) (hfresh : ¬ used nid) (hu : ∀ id, used id → used' id) (hn : used' nid) (hd : ∀ t, o.dst = some t → t < c.nt) {tt : TT} (hT : bb c.P tt) {t tx : TypeId} {s x : AV} {hi : bC} {r : aT} {sv xv : Value}
  (e : gM tt h t tx s x nid hi = some r) (hc : r.chk) (hs : RV w (okOf c.base w ρ h) ρ s sv) (hx : RV w (okOf c.base w ρ h) ρ x xv) {ty : TypeId} {res : Result Next}
  (hr : ∀ v w', (Builtin.append_ #[t, tx] ty #[sv, xv]).run c.P w = .ok v w' → res = .ok (.value v) w') : ct c used' tm h a o r.val r.W res := by
 unfold gM at e
 split at e
 ·rename_i el i1 i2 i3 i4 hti
  have hut := (hT _ _ hti).slice rfl
  split at e
  ·rename_i ie hie
   obtain ⟨it, z, t1, t2, t3, t4, t5⟩ := (hT _ _ hie).info
   split at e
   ·rename_i hcond
    obtain ⟨s1, s2, s3⟩ := hcond
    split at e
    ·rename_i id sz' off n m g sc hsrc
     split at e
     ·rename_i h1
      split at e
      ·rename_i ty0 sz'' n' f hid
       split at e
       ·rename_i h2
        injection e with e
        subst e
        obtain ⟨rfl, rfl⟩ := h1
        obtain ⟨rfl, rfl⟩ := h2
        obtain ⟨c1, c2, ⟨c3, c4⟩, c5⟩ := hc
        have c1' : n = n' := c1
        subst c1'
        obtain ⟨news, n1, n2⟩ := rV hT R s1 s3 hsrc c2 hx
        rw [← t2] at n1
        have hzs : z.cells.size = ie.size := by rw [← s2, ← t5]; simp
        have hnl : news.length = m * ie.size := by rw [n1.newsLen, t2]
        have oldSame : ∀ {w' : World}, (∀ b cap, ρ id = some (.at b cap) → w'.heap[b]? = w.heap[b]?) → ∀ (okN : Nat → Prop) (ρN : Ren), cr w w' (okOf c.base w ρ h) okN → ∀ lk, ρ id = some lk → RB w' okN ρN (.row ty0 true ie.size n f) lk := fun hb okN ρN K lk hlk => by
         obtain ⟨l', m1, m2, _⟩ := R.heap id _ hid
         rw [hlk] at m1
         injection m1 with m1
         subst m1
         cases lk with
         | nil => exact m2
         | _ b cap =>
          obtain ⟨v0, vs, fz, v1, v2, _, v4⟩ := m2
          exact ⟨v0, vs, fz, (hb b cap hlk).trans v1, v2, fun e => (by cases e), fun i hi j hj => let ⟨x, x1, x2⟩ := v4 i hi j hj; ⟨x, x1, RT.mono K _ _ x2⟩⟩
        have grow : ∀ (q : Option Addr) (cap : Nat) (olds : List Value), sv = .slice q n cap → cap < n + m → olds.length = n * ie.size → (Builtin.firstCells it.size n (.slice q n cap)).run c.P w.drew = .ok olds.toArray w.drew →
          (∀ i, i < n → ∀ j, j < ie.size → ∃ v, olds[i * ie.size + j]? = some v ∧ RT w (okOf c.base w ρ h) (f i j) v) → ct c used' tm h a o (some (.c (.ref nid ie.size 0 (bI ty0 true ie.size (n + m) (ck n f g) hi.row).1))) ([(nid, some (bI ty0 true ie.size (n + m) (ck n f g) hi.row).2.1), (id, some (.row ty0 true ie.size n f))]) res := by
         intro q cap olds hsv hcap hol hold hcell
         have hb : (n + m) * it.bytes ≤ 140737488355328 := by
          rw [t3]
          have : (n + m) * ie.bytes ≤ 1099511627776 * 128 := Nat.mul_le_mul c3 c4
          omega
         have hrun := run_append_grow_src (P := c.P) w t tx ty ty0 it z hut t1 t4 q n cap olds hold xv m news n1 hcap (by omega) (growslice_fits hcap hb)
         rw [← hsv] at hrun
         rw [hr _ _ hrun]
         have hge := grownCap_ge w (n + m) cap ty0
         have hle := grownCap_le_maxLen w (n + m) cap ty0 (by unfold maxLen; omega)
         have hsize : ((olds ++ news).toArray ++ Builtin.zeroCells z.cells (grownCap w (n + m) cap ty0 - (n + m))).size = grownCap w (n + m) cap ty0 * ie.size := by
          simp only [Array.size_append, FW, FO, kZ, hzs, hol, hnl, ← Nat.add_mul]
          congr 1; omega
         have U : bM (fun _ => False) w (w.drew.alloc (.cells ((olds ++ news).toArray ++ Builtin.zeroCells z.cells (grownCap w (n + m) cap ty0 - (n + m))) ty0)) := ⟨rfl, rfl, rfl, by simp, fun b hb _ => heap_alloc_old w.drew _ hb⟩
         refine ⟨ρ.set nid (.at w.heap.size (grownCap w (n + m) cap ty0)), R.keepK hid rfl rfl q5 U (fun _ x => x.elim) hfresh hu hn (fun b cp e => by injection e with e1 e2; subst e1; exact ⟨by simp, .inl (F9 _)⟩) (fun K => ?_) (fun K lk hlk => oldSame (fun b cap e => by obtain ⟨l', m1, _, m3⟩ := R.heap id _ hid; rw [e] at m1; injection m1 with m1; exact heap_alloc_old w.drew _ (m3 b cap m1.symm).1) _ _ K lk hlk) _ hd _ _ (fun K x hx' => ?_)⟩
         ·refine Hs (l := .at _ _) c5 ⟨hge, _, (0, 0), heap_alloc_new w.drew _, hsize, fun e => (by cases e), fun i hi j hj => ?_⟩
          have hij : i * ie.size + j < (n + m) * ie.size := by
           have : (i + 1) * ie.size ≤ (n + m) * ie.size := F8 _ hi
           rw [Nat.add_mul] at this
           omega
          rw [Nat.add_mul] at hij
          by_cases hin : i < n
          ·obtain ⟨v, v1, v2⟩ := hcell i hin j hj
           have hlo : i * ie.size + j < olds.length := by
            rw [hol]
            have : (i + 1) * ie.size ≤ n * ie.size := F8 _ hin
            rw [Nat.add_mul] at this
            omega
           refine ⟨v, ?_, by simp only [ck, if_pos hin]; exact RT.mono K _ _ v2⟩
           rw [Array.getElem?_append_left (by simp; omega)]
           simp [F3 hlo, v1]
          ·obtain ⟨v, v1, v2⟩ := n2 (i - n) (by omega) j hj
           have hi2 : i * ie.size = n * ie.size + (i - n) * ie.size := by rw [← Nat.add_mul]; congr 1; omega
           refine ⟨v, ?_, by simp only [ck, if_neg hin]; exact RT.mono K _ _ v2⟩
           rw [Array.getElem?_append_left (by simp; omega)]
           rw [Gm, F4 (by rw [hol, hi2]; omega), ← v1]
           congr 1; rw [hol, hi2]; omega
         ·injection hx' with hx'; subst hx'
          refine ⟨.at w.heap.size (grownCap w (n + m) cap ty0), by simp [Ren.set], .inl ⟨grownCap w (n + m) cap ty0, ?_, ?_, by omega⟩⟩
          ·rw [dS c5]; simp
          ·rw [dS c5]; omega
        have none_ : ∀ (q : Option Addr), sv = .slice q 0 0 → n = 0 → m = 0 →
          ct c used' tm h a o (some (.c (.ref nid ie.size 0 (bI ty0 true ie.size (n + m) (ck n f g) hi.row).1))) ([(nid, some (bI ty0 true ie.size (n + m) (ck n f g) hi.row).2.1), (id, some (.row ty0 true ie.size n f))]) res := by
         intro q hsv hn0 hm0
         subst hn0
         subst hm0
         have hnews : news = [] := List.eq_nil_of_length_eq_zero (by simpa using hnl)
         subst hnews
         have hrun : (Builtin.append_ #[t, tx] ty #[sv, xv]).run c.P w = .ok (.slice q 0 0) w := by
          have hl := n1.len w
          have hf := n1.cells
          rw [hsv]
          rcases n1.kind with ⟨e', hk⟩ | hk <;> cases q <;> simp [Builtin.append_, run_underlying hut, run_underlying hk, sizeOf, typeInfo, t1, hl, hf, storeCells]
         rw [hr _ _ hrun]
         refine ⟨ρ.set nid .nil, R.keepK hid rfl rfl q5 (bM.refl (fun _ => False) w) (fun _ x => x.elim) hfresh hu hn (fun b cp e => by cases e) (fun K => Hs (l := .nil) c5 rfl) (fun K lk hlk => oldSame (fun _ _ _ => rfl) _ _ K lk hlk) _ hd _ _ (fun K x hx' => ?_)⟩
         injection hx' with hx'; subst hx'
         exact ⟨.nil, by simp [Ren.set], rfl, by rw [dS c5], q, rfl⟩
        obtain ⟨l, l1, l2⟩ := hs
        obtain ⟨l', m1, m2, m3⟩ := R.heap id _ hid
        rw [l1] at m1
        injection m1 with m1
        subst m1
        cases l with
        | nil =>
         obtain ⟨_, rfl, q, rfl⟩ := l2
         by_cases hm : m = 0
         ·exact none_ q rfl rfl hm
         ·refine grow q 0 [] rfl (by omega) (by simp) ?_ (fun i hi => by omega)
          cases q with
          | none => exact run_firstCells_none w.drew it.size 0 0 0
          | some ad => exact run_firstCells_some w.drew it.size 0 ad 0 0 [] (by simp) (fun j v hv => by simp at hv)
        | _ b cap =>
         obtain ⟨v0, vs, fz, v1, v2, v3, v4⟩ := m2
         obtain ⟨hfz, hcm⟩ := v3 rfl
         rcases l2 with ⟨cc, rfl, hle1, hle⟩ | ⟨rfl, q, rfl⟩
         ·simp only [Nat.zero_mul] at hr grow
          by_cases hroom : n + m ≤ cc
          ·have hroom' : n + m ≤ cap := by omega
           have hfit : n * ie.size + news.length ≤ vs.size := by
            rw [hnl, v2, ← Nat.add_mul]; exact F8 _ hroom'
           have hrun := run_append_room_src (P := c.P) w t tx ty ty0 it hut t1 b 0 n cc xv m news n1 hroom
            (fun j hj => by rw [cell_of_row w _ _ vs ty0 fz v1, t2]; simp; omega) (fun j hj => hfz.free v1 (by rw [t2]; omega))
           rw [hr _ _ hrun, t2, Gg]
           refine ⟨ρ.set nid (.at b cap), R.keepK hid rfl rfl q5 (eZ b _ _ w) (fun x hx => ⟨cap, by rw [hx]; exact l1⟩) hfresh hu hn (fun b' cp e => by injection e with e1 e2; subst e1; exact ⟨Gb (m3 b cap rfl).1 (eZ b _ _ w).size, .inr ⟨cap, l1⟩⟩) (fun K => ?_) (fun K lk hlk => ?_) _ hd _ _ (fun K x hx' => ?_)⟩
           rotate_left
           ·rw [l1] at hlk
            injection hlk with hlk
            subst hlk
            have hfit' : n * ie.size + news.length ≤ vs.toList.length := by simpa using hfit
            refine ⟨v0, _, fz, fG b ty0 fz news (n * ie.size) vs w v1 hfit, ?_, fun e => (by cases e), fun i hi j hj => ?_⟩
            ·rw [FW, HN hfit']; simpa using v2
            ·obtain ⟨v, x1, x2⟩ := v4 i hi j hj
             have hlo : i * ie.size + j < n * ie.size := by
              have : (i + 1) * ie.size ≤ n * ie.size := F8 _ hi
              rw [Nat.add_mul] at this
              omega
             refine ⟨v, ?_, RT.mono K _ _ x2⟩
             rw [Gm, mg hfit' (.inl hlo), Gn, x1]
           rotate_right
           ·have hfit' : n * ie.size + news.length ≤ vs.toList.length := by simpa using hfit
            refine Hs (l := .at _ _) c5 ⟨hroom', _, fz, fG b ty0 fz news (n * ie.size) vs w v1 hfit, ?_, fun e => (by cases e), fun i hi j hj => ?_⟩
            ·rw [FW, HN hfit']; simpa using v2
            ·by_cases hin : i < n
             ·obtain ⟨v, x1, x2⟩ := v4 i hin j hj
              have hlo : i * ie.size + j < n * ie.size := by
               have : (i + 1) * ie.size ≤ n * ie.size := F8 _ hin
               rw [Nat.add_mul] at this
               omega
              refine ⟨v, ?_, by simp only [ck, if_pos hin]; exact RT.mono K _ _ x2⟩
              rw [Gm, mg hfit' (.inl hlo), Gn, x1]
             ·obtain ⟨v, x1, x2⟩ := n2 (i - n) (by omega) j hj
              have hi2 : i * ie.size = n * ie.size + (i - n) * ie.size := by rw [← Nat.add_mul]; congr 1; omega
              have hlt : (i - n) * ie.size + j < news.length := by
               rcases Gi ((i - n) * ie.size + j) news.length with h' | h'
               ·exact h'
               ·rw [FK h'] at x1; cases x1
              refine ⟨v, ?_, by simp only [ck, if_neg hin]; exact RT.mono K _ _ x2⟩
              rw [Gm, hi2, Nat.add_assoc, mw hfit' hlt, x1]
           ·injection hx' with hx'; subst hx'
            refine ⟨.at b cap, by simp [Ren.set], .inl ⟨cc, ?_, ?_, by omega⟩⟩
            ·rw [dS c5]; simp
            ·rw [dS c5]; omega
          ·let gg : Nat → Value := fun k => vs.getD k undef
           have hlen : n * ie.size ≤ vs.size := by rw [v2]; exact F8 _ v0
           refine grow (some ⟨b, 0, none⟩) cc (vs.toList.take (n * ie.size)) rfl (by omega) (by simp; omega) ?_ (fun i hi j hj => ?_)
           ·refine run_firstCells_some w.drew it.size n ⟨b, 0, none⟩ n cc _ (by rw [t2]; simp; omega) (fun j v hv => ?_)
            rw [Addr.add_lit, Gg, World.cell?_drew, cell_of_row w _ _ vs ty0 fz v1]
            rw [List.getElem?_take] at hv
            split at hv
            ·simpa using hv
            ·cases hv
           ·obtain ⟨v, x1, x2⟩ := v4 i hi j hj
            have hlo : i * ie.size + j < n * ie.size := by
             have : (i + 1) * ie.size ≤ n * ie.size := F8 _ hi
             rw [Nat.add_mul] at this
             omega
            exact ⟨v, by rw [List.getElem?_take, if_pos hlo]; simpa using x1, x2⟩
         ·by_cases hm : m = 0
          ·exact none_ q rfl rfl hm
          ·refine grow q 0 [] rfl (by omega) (by simp) ?_ (fun i hi => by omega)
           cases q with
           | none => exact run_firstCells_none w.drew it.size 0 0 0
           | some ad => exact run_firstCells_some w.drew it.size 0 ad 0 0 [] (by simp) (fun j v hv => by simp at hv)
       ·cases e
      ·cases e
     ·cases e
    ·cases e
   ·cases e
  ·cases e
 ·cases e
theorem AB (R : aI base X nt used ρ tm h a w) {id sz n m : Nat} {ty : TypeId} {f : Nat → Nat → T} (hid : h id = some (.row ty true sz m f)) (hle : n ≤ m) {v : Value} (k : RC w (okOf base w ρ h) ρ (.ref id sz 0 n) v) : RC w (okOf base w ρ h) ρ (.t (.tree n sz f)) v := by
 obtain ⟨l, h1, h2⟩ := k
 obtain ⟨l', m1, m2, m3⟩ := R.heap id _ hid
 rw [h1] at m1
 injection m1 with m1
 subst m1
 cases l with
 | nil => obtain ⟨_, rfl, q, rfl⟩ := h2; exact ⟨q, 0, rfl, F9 _, fun i hi => by omega⟩
 | _ b cap =>
  rcases h2 with ⟨_, rfl, hlc, hle2⟩ | ⟨rfl, q, rfl⟩
  ·obtain ⟨_, vs, fz, v1, v2, _, v4⟩ := m2
   refine ⟨_, _, rfl, by omega, fun i hi j hj => ?_⟩
   obtain ⟨x, x1, x2⟩ := v4 i (by omega) j hj
   refine ⟨b, 0 * sz, x, rfl, ⟨(m3 b cap rfl).1, R.mid hid h1, fun id2 blk2 cap2 k1 k2 k3 => ?_⟩, ?_, x2⟩
   ·have := R.inj id2 id b cap2 cap _ _ k1 hid (.inl k2) k3 h1
    subst this
    rw [hid] at k1
    injection k1 with k1
    subst k1
    cases k2
   ·rw [cell_of_row w _ _ vs ty fz v1, ← x1]; congr 1; omega
  ·exact ⟨q, 0, rfl, F9 _, fun i hi => by omega⟩
def dC (h : Hp) : List C → Option (List C × Prop)
 | [] => some ([], True)
 | .ref id sz 0 n :: l => match h id, dC h l with
  | some (.row _ true sz' m f), some (r, p) => if sz' = sz then some (.t (.tree n sz f) :: r, n ≤ m ∧ p) else none
  | _, _ => none
 | .t x :: l => match dC h l with
  | some (r, p) => some (.t x :: r, p)
  | none => none
 | _ :: _ => none
theorem q6 (R : aI base X nt used ρ tm h a w) : ∀ {l r : List C} {p : Prop} {vs : List Value}, dC h l = some (r, p) → p → ap (RC w (okOf base w ρ h) ρ) l vs → ap (RC w (okOf base w ρ h) ρ) r vs
 | [], r, p, vs, e, _, k => by simp only [dC, FL, FV] at e; obtain ⟨rfl, _⟩ := e; exact k
 | .ref id sz 0 n :: l, r, p, [], e, _, k => k.elim
 | .ref id sz 0 n :: l, r, p, v :: vs, e, hp, k => by
  simp only [dC] at e
  split at e
  ·rename_i ty sz' m f r' p' hid hr
   split at e
   ·rename_i hs
    subst hs
    simp only [FL, FV] at e
    obtain ⟨rfl, rfl⟩ := e
    exact ⟨AB R hid hp.1 k.1, q6 R hr hp.2 k.2⟩
   ·cases e
  ·cases e
 | .ref id sz (_ + 1) n :: l, r, p, vs, e, _, k => by simp only [dC] at e; cases e
 | .ptr .. :: l, r, p, vs, e, _, k => by simp only [dC] at e; cases e
 | .t x :: l, r, p, [], e, _, k => k.elim
 | .t x :: l, r, p, v :: vs, e, hp, k => by
  simp only [dC] at e
  split at e
  ·rename_i r' p' hr
   simp only [FL, FV] at e
   obtain ⟨rfl, rfl⟩ := e
   exact ⟨k.1, q6 R hr hp k.2⟩
  ·cases e
def fo (h : Hp) : List (Nat × List C) → Option (List (Nat × List C) × Prop)
 | [] => some ([], True)
 | (i, l) :: q => match dC h l, fo h q with
  | some (r, p), some (s, p') => some ((i, r) :: s, p ∧ p')
  | _, _ => none
theorem vz (R : aI base X nt used ρ tm h a w) : ∀ {q r : List (Nat × List C)} {p : Prop} {vs : List (Nat × Value)}, fo h q = some (r, p) → p → ap (fun p q => p.1 = q.1 ∧ ap (RC w (okOf base w ρ h) ρ) p.2 q.2.cells.toList) q vs → ap (fun p q => p.1 = q.1 ∧ ap (RC w (okOf base w ρ h) ρ) p.2 q.2.cells.toList) r vs
 | [], r, p, vs, e, _, k => by simp only [fo, FL, FV] at e; obtain ⟨rfl, _⟩ := e; exact k
 | (i, l) :: q, r, p, [], e, _, k => k.elim
 | (i, l) :: q, r, p, v :: vs, e, hp, k => by
  simp only [fo] at e
  split at e
  ·rename_i r' p' s p2 h1 h2
   simp only [FL, FV] at e
   obtain ⟨rfl, rfl⟩ := e
   exact ⟨⟨k.1.1, q6 R h1 hp.1 k.1.2⟩, vz R h2 hp.2 k.2⟩
  ·cases e
def II (tt : TT) (tm : Tm) (h : Hp) (t : TypeId) (len : Nat) (parts : List (Nat × Operand)) (nid : Nat) (hi : bC) : Option aT :=
 match em tm parts with
 | some ps => match fo h ps with
  | some (qs, p) => match lT tt qs t len nid hi with
   | some r => some ⟨r.val, r.W, p ∧ r.chk⟩
   | none => none
  | none => none
 | none => none
theorem yo (R : aI c.base c.X c.nt used ρ tm h a w) (hfresh : ¬ used nid) (hu : ∀ id, used id → used' id) (hn : used' nid) (hd : ∀ t, o.dst = some t → t < c.nt) {tt : TT} (hT : bb c.P tt) {t : TypeId} {len : Nat} {parts : Array (Nat × Operand)} {hi : bC} {r : aT}
  (ho : o.op = .buildSlice t len parts) (e : II tt tm h t len parts.toList nid hi = some r) (hc : r.chk) : ct c used' tm h a o r.val r.W ((execOp a.eval o).run c.P w) := by
 unfold II at e
 split at e
 ·rename_i ps hps
  split at e
  ·rename_i qs p hq
   split at e
   ·rename_i r' hr
    injection e with e
    subst e
    exact tK (r := r') R hfresh hu hn hd hT (vz R hq hc.1 (mf R hps)) ho hr hc.2
   ·cases e
  ·cases e
 ·cases e
end
def cJ (d : Nat) : Option AV → Option (Nat × Prop)
 | none => some (d, True)
 | some (.c (.t (.v (.int _ i)))) => some (i.toNat, 0 ≤ i)
 | _ => none
def sw (lo : Option AV) (off l : Nat) : Nat := match lo with
 | none => off
 | some _ => off + l
def sU (lo : Option AV) (f : Nat → Nat → T) (l : Nat) : Nat → Nat → T := match lo with
 | none => f
 | some _ => fun i j => f (l + i) j
def nf (lo : Option AV) (n l : Nat) : Nat := match lo with
 | none => n
 | some _ => n - l
def sJ (tt : TT) (t : TypeId) (x : AV) (lo hi : Option AV) : Option (AV × Prop) :=
 match tt t with
 | some { k := .str, .. } => match x with
  | .c (.t (.v (.string s))) => match cJ 0 lo, cJ s.size hi with
   | some (l, lp), some (m, mp) => some (.c (.t (.v (.string (s.extract l m)))), lp ∧ mp ∧ l ≤ m ∧ m ≤ s.size)
   | _, _ => none
  | _ => none
 | some { k := .slice e, .. } => match tt e with
  | some ie => match x with
   | .c (.ref id sz off n) => if sz = ie.size then match cJ 0 lo, cJ n hi with
    | some (l, lp), some (m, mp) => some (.c (.ref id sz (sw lo off l) (nf lo m l)), lp ∧ mp ∧ l ≤ m ∧ m ≤ n)
    | _, _ => none else none
   | .c (.t (.tree n sz f)) => if sz = ie.size then match cJ 0 lo, cJ n hi with
    | some (l, lp), some (m, mp) => some (.c (.t (.tree (nf lo m l) sz (sU lo f l))), lp ∧ mp ∧ l ≤ m ∧ m ≤ n)
    | _, _ => none else none
   | .c (.t (.v (.slice none 0 0))) => match cJ 0 lo, cJ 0 hi with
    | some (l, lp), some (m, mp) => some (.c (.t (.v (.slice none 0 0))), lp ∧ mp ∧ l ≤ m ∧ m ≤ 0)
    | _, _ => none
   | _ => none
  | none => none
 | _ => none
section
variable {c : Cx} {used used' : Nat → Prop} {ρ ρ' : Ren} {tm : Tm} {h h' : Hp} {a : Act} {w w' : World} {base : cx} {X Y : Nat → Prop} {nt : Nat} {ok : Nat → Prop} {o : Oper} {nid : Nat}
theorem Ci {P : Program} {lo : Option AV} {vlo : Option Value} {l : Nat} {lp : Prop} (e : cJ 0 lo = some (l, lp)) (hp : lp) (hr : ∀ av, lo = some av → ∃ v, vlo = some v ∧ RV w ok ρ av v) (hn : lo = none → vlo = none) {m : Nat} (hle : l ≤ m) (cd : BoundsCode) :
  (lo = none ∧ vlo = none ∧ l = 0) ∨ ∃ k i av, lo = some av ∧ vlo = some (.int k i) ∧ i.toNat = l ∧ (Instr.sliceBound (.int k i) m cd).run P w = .ok l w := by
 cases lo with
 | none =>
  simp only [cJ, FL, FV] at e
  exact .inl ⟨rfl, hn rfl, e.1.symm⟩
 | some av =>
  unfold cJ at e
  split at e
  ·rename_i h; cases h
  ·rename_i k i h
   injection h with h
   subst h
   simp only [FL, FV] at e
   obtain ⟨e1, e2⟩ := e
   subst e1; subst e2
   obtain ⟨v, v1, v2⟩ := hr _ rfl
   obtain ⟨rfl, _⟩ := v2
   exact .inr ⟨k, i, _, rfl, v1, rfl, run_sliceBound w k i m cd hp (by omega)⟩
  ·cases e
theorem Cj {P : Program} {hi : Option AV} {vhi : Option Value} {d m : Nat} {mp : Prop} (e : cJ d hi = some (m, mp)) (hp : mp) (hr : ∀ av, hi = some av → ∃ v, vhi = some v ∧ RV w ok ρ av v) (hn : hi = none → vhi = none) {n : Nat} (hle : m ≤ n) (cd : BoundsCode) :
  (vhi = none ∧ m = d) ∨ ∃ k i, vhi = some (.int k i) ∧ (Instr.sliceBound (.int k i) n cd).run P w = .ok m w := by
 cases hi with
 | none =>
  simp only [cJ, FL, FV] at e
  exact .inl ⟨hn rfl, e.1.symm⟩
 | some av =>
  unfold cJ at e
  split at e
  ·rename_i h; cases h
  ·rename_i k i h
   injection h with h
   subst h
   simp only [FL, FV] at e
   obtain ⟨e1, e2⟩ := e
   subst e1; subst e2
   obtain ⟨v, v1, v2⟩ := hr _ rfl
   obtain ⟨rfl, _⟩ := v2
   exact .inr ⟨k, i, v1, run_sliceBound w k i n cd hp (by omega)⟩
  ·cases e
theorem gE {P : Program} {lo hi : Option AV} {vlo vhi : Option Value} {isS : Bool} {n cap l m : Nat} {lp mp : Prop} (e1 : cJ 0 lo = some (l, lp)) (e2 : cJ n hi = some (m, mp)) (p1 : lp) (p2 : mp) (hlm : l ≤ m) (hmn : m ≤ n) (hnc : n ≤ cap)
  (r1 : ∀ av, lo = some av → ∃ v, vlo = some v ∧ RV w ok ρ av v) (n1 : lo = none → vlo = none) (r2 : ∀ av, hi = some av → ∃ v, vhi = some v ∧ RV w ok ρ av v) (n2 : hi = none → vhi = none) :
  (Instr.sliceBounds isS n cap vlo vhi none).run P w = .ok (l, m, cap) w := by
 rcases Cj (P := P) e2 p2 r2 n2 (Ga hmn hnc) (if isS then .sliceAcap else .sliceAlen) with ⟨rfl, rfl⟩ | ⟨k, i, rfl, g⟩ <;>
  rcases Ci (P := P) e1 p1 r1 n1 hlm .sliceB with ⟨_, rfl, rfl⟩ | ⟨k', i', av, _, rfl, _, g'⟩
 ·simp [Instr.sliceBounds]
 ·simp [Instr.sliceBounds, g']
 ·simp [Instr.sliceBounds, g]
 ·simp [Instr.sliceBounds, g, g']
theorem rD {lo : Option AV} {l : Nat} {lp : Prop} (e1 : cJ 0 lo = some (l, lp)) : (lo = none ∧ l = 0) ∨ ∃ av, lo = some av := by
 cases lo with
 | none => simp only [cJ, FL, FV] at e1; exact .inl ⟨rfl, e1.1.symm⟩
 | some av => exact .inr ⟨av, rfl⟩
theorem fe {lo : Option AV} {l : Nat} {lp : Prop} (e1 : cJ 0 lo = some (l, lp)) (m : Nat) : nf lo m l = m - l := by
 rcases rD e1 with ⟨rfl, rfl⟩ | ⟨av, rfl⟩ <;> simp [nf]
theorem rE {lo : Option AV} {l : Nat} {lp : Prop} (e1 : cJ 0 lo = some (l, lp)) (off : Nat) : sw lo off l = off + l := by
 rcases rD e1 with ⟨rfl, rfl⟩ | ⟨av, rfl⟩ <;> simp [sw]
theorem Cb {lo : Option AV} {l : Nat} {lp : Prop} (e1 : cJ 0 lo = some (l, lp)) (f : Nat → Nat → T) (i j : Nat) : sU lo f l i j = f (l + i) j := by
 rcases rD e1 with ⟨rfl, rfl⟩ | ⟨av, rfl⟩ <;> simp [sU]
theorem Bq {P : Program} {tt : TT} (hT : bb P tt) {t : TypeId} {x : AV} {y : Value} {lo hi : Option AV} {vlo vhi : Option Value} {r : AV × Prop} (e : sJ tt t x lo hi = some r) (hc : r.2) (hx : RV w ok ρ x y)
  (r1 : ∀ av, lo = some av → ∃ v, vlo = some v ∧ RV w ok ρ av v) (n1 : lo = none → vlo = none) (r2 : ∀ av, hi = some av → ∃ v, vhi = some v ∧ RV w ok ρ av v) (n2 : hi = none → vhi = none) :
  ∃ v, (Instr.sliceAt t y vlo vhi none).run P w = .ok v w ∧ RV w ok ρ r.1 v := by
 unfold sJ at e
 split at e
 ·rename_i i1 i2 i3 i4 hti
  have hu := (hT _ _ hti).str rfl
  split at e
  ·rename_i s
   obtain ⟨rfl, _⟩ := hx
   split at e
   ·rename_i l lp m mp e1 e2
    injection e with e
    subst e
    obtain ⟨p1, p2, p3, p4⟩ := hc
    have hb := gE (P := P) (isS := false) e1 e2 p1 p2 p3 p4 (F9 _) r1 n1 r2 n2
    refine ⟨_, ?_, rfl, rfl⟩
    simp [Instr.sliceAt, Instr.slice, run_underlying hu, hb]
   ·cases e
  ·cases e
 ·rename_i el i1 i2 i3 i4 hti
  have hu := (hT _ _ hti).slice rfl
  split at e
  ·rename_i ie hie
   have hsz := (hT _ _ hie).size w
   split at e
   ·rename_i id sz off n
    split at e
    ·rename_i hs
     subst hs
     split at e
     ·rename_i l lp m mp e1 e2
      injection e with e
      subst e
      obtain ⟨p1, p2, p3, p4⟩ := hc
      obtain ⟨loc, l1, l2⟩ := hx
      cases loc with
      | nil =>
       obtain ⟨rfl, rfl, q, rfl⟩ := l2
       have hb := gE (P := P) (isS := true) (cap := 0) e1 e2 p1 p2 p3 p4 (F9 _) r1 n1 r2 n2
       have hm : m = 0 := by omega
       have hl : l = 0 := by omega
       subst hm; subst hl
       refine ⟨.slice q 0 0, by simp [Instr.sliceAt, Instr.slice, run_underlying hu, hb, hsz], .nil, l1, by rw [rE e1], by rw [fe e1], q, rfl⟩
      | _ b cap =>
       rcases l2 with ⟨cc, rfl, hle1, hle⟩ | ⟨rfl, q, rfl⟩
       ·have hb := gE (P := P) (isS := true) (cap := cc) e1 e2 p1 p2 p3 p4 (by omega) r1 n1 r2 n2
        by_cases hcl : cc = l
        ·subst hcl
         refine ⟨.slice (some ⟨b, off * ie.size, none⟩) (m - cc) 0, by simp [Instr.sliceAt, Instr.slice, run_underlying hu, hb, hsz], .at b cap, l1, ?_⟩
         have hm : m - cc = 0 := by omega
         exact .inr ⟨by rw [fe e1, hm], _, by rw [hm]⟩
        ·refine ⟨.slice (some ⟨b, off * ie.size + l * ie.size, none⟩) (m - l) (cc - l), by simp [Instr.sliceAt, Instr.slice, run_underlying hu, hb, hsz, hcl, Addr.add_lit], .at b cap, l1, .inl ⟨cc - l, ?_, ?_, ?_⟩⟩
         ·rw [fe e1, rE e1, Nat.add_mul]
         ·rw [fe e1]; omega
         ·rw [rE e1]; omega
       ·have hb := gE (P := P) (isS := true) (cap := 0) e1 e2 p1 p2 p3 p4 (F9 _) r1 n1 r2 n2
        have hm : m = 0 := by omega
        have hl : l = 0 := by omega
        subst hm; subst hl
        exact ⟨.slice q 0 0, by simp [Instr.sliceAt, Instr.slice, run_underlying hu, hb, hsz], .at b cap, l1, .inr ⟨by rw [fe e1], q, rfl⟩⟩
     ·cases e
    ·cases e
   ·rename_i n sz f
    split at e
    ·rename_i hs
     subst hs
     split at e
     ·rename_i l lp m mp e1 e2
      injection e with e
      subst e
      obtain ⟨p1, p2, p3, p4⟩ := hc
      obtain ⟨q, cp, rfl, hnc, hcell⟩ := hx
      have hb := gE (P := P) (isS := true) (cap := cp) e1 e2 p1 p2 p3 p4 hnc r1 n1 r2 n2
      refine ⟨.slice (if cp = l then q else q.map (·.add (l * ie.size))) (m - l) (cp - l), by simp [Instr.sliceAt, Instr.slice, run_underlying hu, hb, hsz], _, cp - l, by rw [fe e1], by rw [fe e1]; omega, fun i hi j hj => ?_⟩
      rw [fe e1] at hi
      obtain ⟨b, o, v, rfl, c2, c3, c4⟩ := hcell (l + i) (by omega) j hj
      refine ⟨b, o + l * ie.size, v, ?_, c2, ?_, ?_⟩
      ·rw [if_neg (by omega)]; simp [Addr.add_lit]
      ·rw [← c3]; congr 2; rw [Nat.add_mul]; omega
      ·rw [Cb e1]; exact c4
     ·cases e
    ·cases e
   ·split at e
    ·rename_i l lp m mp e1 e2
     injection e with e
     subst e
     obtain ⟨p1, p2, p3, p4⟩ := hc
     obtain ⟨rfl, _⟩ := hx
     have hb := gE (P := P) (isS := true) (cap := 0) e1 e2 p1 p2 p3 p4 (F9 _) r1 n1 r2 n2
     have hm : m = 0 := by omega
     have hl : l = 0 := by omega
     subst hm; subst hl
     exact ⟨.slice none 0 0, by simp [Instr.sliceAt, Instr.slice, run_underlying hu, hb, hsz], rfl, rfl⟩
    ·cases e
   ·cases e
  ·cases e
 ·cases e
def fN (n : Nat) (bs : Nat → Int) : ByteArray := ⟨(de (fun i => UInt8.ofNat (bs i).toNat) 0 n).toArray⟩
def j0 : AV → Bool
 | .c (.t (.v _)) => false
 | _ => true
theorem Aa {tt : TT} {tx e : TypeId} {j1 j2 : Nat} {j3 : List Value} {j4 : Bool} {x : AV} (h : tt tx = some { k := .slice e, size := j1, bytes := j2, zero := j3, eq := j4 }) (hn : j0 x = true) : fM tt tx x = true := by
 simp only [fM, h]
 split
 ·simp [j0] at hn
 ·rfl
def gZ (tt : TT) (dst : TypeId) (h : Hp) (src : TypeId) (x : AV) (hi : bC) : Option (AV × Prop) :=
 match tt dst with
 | some { k := .int k, .. } => match x with
  | .c (.t (.v (.int _ n))) => some (.c (.t (.v (.int k (k.wrap n)))), True)
  | _ => none
 | some { k := .str, .. } => match x with
  | .c (.t (.v (.string s))) => some (.c (.t (.v (.string s))), True)
  | _ => match tt src with
   | some { k := .slice e, .. } => match tt e, hi.ints, eO h 1 x with
    | some { k := .int .u8, .. }, some bs, some (n, f, p) => if j0 x = true then some (.c (.t (.v (.string (fN n bs)))), p ∧ ∀ i, i < n → f i 0 = .v (.int .u8 (bs i))) else none
    | _, _, _ => none
   | _ => none
 | _ => none
theorem uf (bs : Nat → Int) : ∀ (n s : Nat) (r : ByteArray), (de bs s n).foldl (fun r n => r.push (UInt8.ofNat n.toNat)) r = ⟨r.data ++ (de (fun i => UInt8.ofNat (bs i).toNat) s n).toArray⟩
 | 0, s, r => by simp [de]
 | n + 1, s, r => by
  simp only [de, Gq]
  rw [uf bs n (s + 1)]
  congr 1
  apply Array.ext'
  simp [ByteArray.push]
theorem Ac {P : Program} {tt : TT} (hT : bb P tt) (R : aI base X nt used ρ tm h a w) {src dst : TypeId} {x : AV} {y : Value} {hi : bC} {r : AV × Prop} (e : gZ tt dst h src x hi = some r) (hc : r.2) (hx : RV w (okOf base w ρ h) ρ x y) (hus : ∃ d, P.underlying src = some d) :
  ∃ v, (convert src dst y).run P w = .ok v w ∧ RV w (okOf base w ρ h) ρ r.1 v := by
 obtain ⟨ds, hus⟩ := hus
 unfold gZ at e
 split at e
 ·rename_i k i1 i2 i3 i4 hti
  have hu := (hT _ _ hti).int rfl
  split at e
  ·injection e with e
   subst e
   obtain ⟨rfl, _⟩ := hx
   refine ⟨_, ?_, rfl, rfl⟩
   unfold convert
   simp only [Sem.run_bind, run_underlying hus, run_underlying hu, Result.andThen_ok]
   rfl
  ·cases e
 ·rename_i i1 i2 i3 i4 hti
  have hu := (hT _ _ hti).str rfl
  split at e
  ·injection e with e
   subst e
   obtain ⟨rfl, _⟩ := hx
   refine ⟨_, ?_, rfl, rfl⟩
   unfold convert
   simp only [Sem.run_bind, run_underlying hus, run_underlying hu, Result.andThen_ok]
   rfl
  ·split at e
   ·rename_i el j1 j2 j3 j4 hsi
    have hs := (hT _ _ hsi).slice rfl
    split at e
    ·rename_i m1 m2 m3 m4 bs n f p hel hint hsrc
     have he := (hT _ _ hel).int rfl
     split at e
     ·rename_i hnotv
      injection e with e
      subst e
      obtain ⟨c1, c2⟩ := hc
      have hk := Aa hsi hnotv
      obtain ⟨news, n1, n2⟩ := rV hT R (by omega) hk hsrc c1 hx
      have hsl : ∃ q cp, y = .slice q n cp := by
       unfold eO at hsrc
       split at hsrc
       ·simp [j0] at hnotv
       ·simp [j0] at hnotv
       ·split at hsrc
        ·injection hsrc with hsrc; injection hsrc with e1 e2; subst e1
         obtain ⟨q, cp, rfl, _⟩ := hx; exact ⟨q, cp, rfl⟩
        ·cases hsrc
       ·split at hsrc
        ·split at hsrc
         ·split at hsrc
          ·injection hsrc with hsrc; injection hsrc with e1 e2; subst e1
           obtain ⟨l, l1, l2⟩ := hx
           cases l with
           | nil => obtain ⟨_, rfl, q, rfl⟩ := l2; exact ⟨q, 0, rfl⟩
           | _ b cap =>
            rcases l2 with ⟨_, rfl, _⟩ | ⟨rfl, q, rfl⟩
            ·exact ⟨_, _, rfl⟩
            ·exact ⟨q, 0, rfl⟩
          ·cases hsrc
         ·cases hsrc
        ·cases hsrc
       ·cases hsrc
      obtain ⟨q, cp, rfl⟩ := hsl
      have hnl := n1.newsLen
      have hnews : news = (de bs 0 n).map (Value.int .u8) := by
       apply List.ext_getElem?
       intro i
       by_cases hi : i < n
       ·obtain ⟨v, v1, v2⟩ := n2 i hi 0 (by omega)
        rw [show i * 1 + 0 = i by omega] at v1
        have c3 : f i 0 = .v (.int .u8 (bs i)) := c2 i hi
        simp only [c3] at v2
        rw [v1, F6, fg _ _ _ _ hi, Gg, v2.1]; rfl
       ·rw [FK (by omega), FK (by simp [eh]; omega)]
      refine ⟨.string (fN n bs), ?_, rfl, rfl⟩
      rw [run_convert_bytes_string w src dst el q n cp hs he hu]
      cases q with
      | none =>
       have h0 := n1.cells
       rw [run_firstCells_none] at h0
       injection h0 with h0
       have : news = [] := by have := congrArg Array.toList h0; simpa using this.symm
       have hn0 : n = 0 := by rw [this] at hnl; simp at hnl; omega
       subst hn0
       simp [Conv.bytesToString, fN, de]
       rfl
      | some ad =>
       have h0 := n1.cells
       simp only [Builtin.firstCells, Nat.mul_one] at h0
       rw [run_bytesToString w ad n cp (de bs 0 n) (by rw [h0, hnews]), uf]
       simp [fN]
     ·cases e
    ·cases e
   ·cases e
 ·cases e
def IT (s : ByteArray) : Nat → Nat → T := fun i _ => .v (.int .u8 (s.data.toList.getD i 0).toNat)
def sl (tt : TT) (src dst : TypeId) (x : AV) (nid : Nat) (hi : bC) : Option aT :=
 match tt src, tt dst, x with
 | some { k := .str, .. }, some { k := .slice e, .. }, .c (.t (.v (.string s))) => match tt e with
  | some { k := .int .u8, .. } => some ⟨some (.c (.ref nid 1 0 (bI e false 1 s.size (IT s) hi.row).1)), [(nid, some (bI e false 1 s.size (IT s) hi.row).2.1)], s.size ≤ maxLen ∧ (bI e false 1 s.size (IT s) hi.row).2.2⟩
  | _ => none
 | _, _, _ => none
theorem zL (R : aI c.base c.X c.nt used ρ tm h a w) (hfresh : ¬ used nid) (hu : ∀ id, used id → used' id) (hn : used' nid) (hd : ∀ t, o.dst = some t → t < c.nt) {tt : TT} (hT : bb c.P tt) {src dst : TypeId} {x : Operand} {xv : AV} {hi : bC} {r : aT}
  (ho : o.op = .convert src dst x) (hx : ev tm x = some xv) (e : sl tt src dst xv nid hi = some r) (hc : r.chk) : ct c used' tm h a o r.val r.W ((execOp a.eval o).run c.P w) := by
 unfold sl at e
 split at e
 ·rename_i i1 i2 i3 i4 el i5 i6 i7 i0 s hsi hdi
  have hs := (hT _ _ hsi).str rfl
  have hdd := (hT _ _ hdi).slice rfl
  have hx' := bU R hx
  split at e
  ·rename_i i7 i8 i9 i10 hel
   have he := (hT _ _ hel).int rfl
   injection e with e
   subst e
   obtain ⟨c1, c2⟩ := hc
   have hge := grownCap_ge w s.size 0 el
   have hle := grownCap_le_maxLen w s.size 0 el c1
   have hrun := run_bytes_of_string (P := c.P) w src dst el s hs hdd he
   have hbs : (bytesRow s (grownCap w s.size 0 el)).size = grownCap w s.size 0 el * 1 := by
    simp only [bytesRow, Array.size_append, Array.size_map, Array.size_replicate]
    have : s.data.size = s.size := rfl
    omega
   have U : bM (fun _ => False) w (w.drew.alloc (.cells (bytesRow s (grownCap w s.size 0 el)) el ((bytesRow s (grownCap w s.size 0 el)).size, (bytesRow s (grownCap w s.size 0 el)).size + 1))) := ⟨rfl, rfl, rfl, by simp, fun b hb _ => heap_alloc_old w.drew _ hb⟩
   refine mK R U hfresh hu hn hd c2 (F9 _) hge (heap_alloc_new w.drew _) hbs (fun _ => ⟨.inr (F9 _), hle⟩) (fun K i hi j hj => ?_) (by simp only [execOp, ho, hx', Sem.run_bind, hrun]; rfl)
   obtain rfl : j = 0 := by omega
   have hi' : i < s.data.size := hi
   refine ⟨_, by rw [show i * 1 + 0 = i by omega]; exact bytesRow_at s _ i hi', ?_, rfl⟩
   have hi2 : i < s.data.toList.length := by simpa using hi'
   rw [FI, FJ hi2]; rfl
  ·cases e
 ·cases e
def J2 (b : Builtin) (x y : AV) : Option (AV × Prop) :=
 match b, x, y with
 | .min, .c (.t (.v (.int k m))), .c (.t (.v (.int k' n))) => some (.c (.t (.v (.int k (if n < m then n else m)))), True)
 | .max, .c (.t (.v (.int k m))), .c (.t (.v (.int k' n))) => some (.c (.t (.v (.int k (if n > m then n else m)))), True)
 | _, _, _ => none
end
def fv {α : Type} (g : α → Option Bool) : List α → Option Bool
 | [] => some true
 | x :: l => match g x, fv g l with
  | some a, some b => some (a && b)
  | _, _ => none
def gf (tt : TT) : Nat → TypeId → List C → List C → Option Bool
 | 0, _, _, _ => none
 | d + 1, t, X, Y => match tt t with
  | some i => match i.k with
   | .int _ => match X, Y with
    | [.t (.v (.int k a))], [.t (.v (.int k' b))] => if k = k' then some (a == b) else none
    | _, _ => none
   | .bool => match X, Y with
    | [.t (.v (.bool a))], [.t (.v (.bool b))] => some (a == b)
    | _, _ => none
   | .str => match X, Y with
    | [.t (.v (.string a))], [.t (.v (.string b))] => some (a.toList == b.toList)
    | _, _ => none
   | .struct fs => match i.eq with
    | true => fv (fun f => match tt f.1 with
     | some fi => gf tt d f.1 ((X.drop f.2).take fi.size) ((Y.drop f.2).take fi.size)
     | none => none) fs
    | false => none
   | .arr n e => match tt e with
    | some ei => fv (fun j => gf tt d e ((X.drop (j * ei.size)).take ei.size) ((Y.drop (j * ei.size)).take ei.size)) (List.range n)
    | none => none
   | _ => none
  | none => none
def sK (w : World) (ok : Nat → Prop) (ρ : Ren) (agg : Bool) (X : List C) (v : Value) : Prop := match agg with
 | true => ∃ xs : Array Value, v = .agg xs ∧ ap (RC w ok ρ) X xs.toList
 | false => ∃ c, X = [c] ∧ RC w ok ρ c v
section
variable {P : Program} {w : World} {ok : Nat → Prop} {ρ : Ren}
theorem mL {t : TypeId} {i : TI} (hi : ce P t i) {X : List C} {xs : Array Value} {off : Nat} (hX : ap (RC w ok ρ) X xs.toList) (h1 : i.k.agg = true ∨ ∃ c, (X.drop off).take i.size = [c]) :
  ∃ v, (part t xs off).run P w = .ok v w ∧ sK w ok ρ i.k.agg ((X.drop off).take i.size) v := by
 cases ha : i.k.agg with
 | true =>
  refine ⟨.agg (xs.extract off (off + i.size)), by simp [part, hi.isAgg, ha, hi.size], _, rfl, ?_⟩
  rw [Array.toList_extract, List.extract_eq_take_drop, Nat.add_sub_cancel_left]
  exact (hX.drop off).take i.size
 | false =>
  rw [ha] at h1
  rcases h1 with h1 | ⟨c, h1⟩
  ·cases h1
  ·have hc : X[off]? = some c := by
    have h2 : ((X.drop off).take i.size)[0]? = some c := by rw [h1]; rfl
    rw [List.getElem?_take] at h2
    split at h2
    ·rw [List.getElem?_drop] at h2; simpa using h2
    ·cases h2
   obtain ⟨v, v1, v2⟩ := ap.get hX hc
   have v1' : xs[off]? = some v := by simpa using v1
   exact ⟨v, by simp [part, hi.isAgg, ha, v1'], c, h1, v2⟩
theorem wv {tt : TT} {d : Nat} {t : TypeId} {i : TI} (hti : tt t = some i) {X Y : List C} {b : Bool} (e : gf tt d t X Y = some b) : (i.k.agg = true ∨ ∃ c, X = [c]) ∧ (i.k.agg = true ∨ ∃ c, Y = [c]) := by
 cases d with
 | zero => cases e
 | succ d =>
  simp only [gf, hti] at e
  split at e
  ·split at e
   ·exact ⟨.inr ⟨_, rfl⟩, .inr ⟨_, rfl⟩⟩
   ·cases e
  ·split at e
   ·exact ⟨.inr ⟨_, rfl⟩, .inr ⟨_, rfl⟩⟩
   ·cases e
  ·split at e
   ·exact ⟨.inr ⟨_, rfl⟩, .inr ⟨_, rfl⟩⟩
   ·cases e
  ·rename_i hk; rw [hk]; exact ⟨.inl rfl, .inl rfl⟩
  ·rename_i hk; rw [hk]; exact ⟨.inl rfl, .inl rfl⟩
  ·cases e
theorem vA {α : Type} {g : α → Option Bool} {x : α} {l : List α} {b : Bool} (e : fv g (x :: l) = some b) : ∃ p q, g x = some p ∧ fv g l = some q ∧ b = (p && q) := by
 simp only [fv] at e
 split at e
 ·rename_i p q h1 h2
  injection e with e
  exact ⟨p, q, h1, h2, e.symm⟩
 ·cases e
theorem ww {tt : TT} (hT : bb P tt) : ∀ (d D : Nat) (t : TypeId) (i : TI) (X Y : List C) (x y : Value) (b : Bool), tt t = some i → gf tt d t X Y = some b → sK w ok ρ i.k.agg X x → sK w ok ρ i.k.agg Y y →
  (Op.equalIn (D + d) t x y).run P w = .ok b w
 | 0, D, t, i, X, Y, x, y, b, hti, e, hx, hy => by cases e
 | d + 1, D, t, i, X, Y, x, y, b, hti, e, hx, hy => by
  have hi := hT _ _ hti
  have ih := ww hT d D
  simp only [gf, hti] at e
  show (Op.equalIn ((D + d) + 1) t x y).run P w = .ok b w
  split at e
  ·rename_i k0 hk
   split at e
   ·split at e
    ·rename_i hkk
     injection e with e
     subst hkk; subst e
     rw [hk] at hx hy
     obtain ⟨c, h1, h2⟩ := hx
     obtain ⟨c', h1', h2'⟩ := hy
     simp only [List.cons.injEq, and_true] at h1 h1'
     subst h1; subst h1'
     obtain ⟨rfl, _⟩ := h2
     obtain ⟨rfl, _⟩ := h2'
     exact run_equalIn_int w _ t _ k0 _ _ (hi.int hk)
    ·cases e
   ·cases e
  ·rename_i hk
   split at e
   ·injection e with e
    subst e
    rw [hk] at hx hy
    obtain ⟨c, h1, h2⟩ := hx
    obtain ⟨c', h1', h2'⟩ := hy
    simp only [List.cons.injEq, and_true] at h1 h1'
    subst h1; subst h1'
    obtain ⟨rfl, _⟩ := h2
    obtain ⟨rfl, _⟩ := h2'
    exact run_equalIn_bool' w _ t _ _ (hi.bool hk)
   ·cases e
  ·rename_i hk
   split at e
   ·injection e with e
    subst e
    rw [hk] at hx hy
    obtain ⟨c, h1, h2⟩ := hx
    obtain ⟨c', h1', h2'⟩ := hy
    simp only [List.cons.injEq, and_true] at h1 h1'
    subst h1; subst h1'
    obtain ⟨rfl, _⟩ := h2
    obtain ⟨rfl, _⟩ := h2'
    exact run_equalIn_string w _ t _ _ (hi.str hk)
   ·cases e
  ·rename_i fs hk
   split at e
   ·rename_i heq
    rw [hk] at hx hy
    obtain ⟨xs, rfl, hx⟩ := hx
    obtain ⟨ys, rfl, hy⟩ := hy
    obtain ⟨hp, hg, hn⟩ := hi.eqOk heq
    obtain ⟨fields, hu, hf⟩ := hi.struct hk
    have hS : P.underlying t = some (.struct (P.fieldsOf t)) := by rw [Program.fieldsOf, hu]
    have hfo : P.fieldsOf t = fields := by rw [Program.fieldsOf, hu]
    rw [run_equalIn_agg w _ t xs ys hS hp]
    rw [hfo] at hn ⊢
    rw [← hf] at e
    clear hf hu hS hfo hk
    generalize fields.toList = l at e hn ⊢
    induction l generalizing b with
    | nil => simp only [List.map_nil, fv, FL] at e; subst e; simp [Op.eqFields]
    | cons f l ihl =>
     obtain ⟨p, q, e1, e2, rfl⟩ := vA e
     simp only [List.all_cons, FY, bne_iff_ne] at hn
     simp only at e1
     split at e1
     ·rename_i fi hfi
      obtain ⟨o1, o2⟩ := wv hfi e1
      obtain ⟨u, u1, u2⟩ := mL (hT _ _ hfi) (off := f.offset) hx o1
      obtain ⟨v, v1, v2⟩ := mL (hT _ _ hfi) (off := f.offset) hy o2
      have h3 := ih f.type fi _ _ u v p hfi e1 u2 v2
      simp only [Op.eqFields, if_pos hn.1, Sem.run_bind, u1, v1, h3, Result.andThen_ok]
      cases p with
      | true => simp only [Bool.not_true, Bool.false_eq_true, if_false, Bool.true_and]; exact ihl q e2 hn.2
      | false => simp
     ·cases e1
   ·cases e
  ·rename_i n el hk
   rw [hk] at hx hy
   obtain ⟨xs, rfl, hx⟩ := hx
   obtain ⟨ys, rfl, hy⟩ := hy
   split at e
   ·rename_i ei hei
    have hsz := (hT _ _ hei).size
    rw [Op.equalIn]
    simp only [Sem.run_bind, run_underlying (hi.arr hk), Result.andThen_ok, hsz, Std.Legacy.Range.forIn_eq_forIn_range', Std.Legacy.Range.size, Nat.sub_zero, Nat.add_sub_cancel, Nat.div_one]
    rw [List.range_eq_range'] at e
    generalize List.range' 0 n 1 = l at e ⊢
    induction l generalizing b with
    | nil => simp only [fv, FL] at e; subst e; simp
    | cons j l ihl =>
     obtain ⟨p, q, e1, e2, rfl⟩ := vA e
     obtain ⟨o1, o2⟩ := wv hei e1
     obtain ⟨u, u1, u2⟩ := mL (hT _ _ hei) (off := j * ei.size) hx o1
     obtain ⟨v, v1, v2⟩ := mL (hT _ _ hei) (off := j * ei.size) hy o2
     have h3 := ih el ei _ _ u v p hei e1 u2 v2
     simp only [List.forIn_cons, Sem.run_bind, u1, v1, h3, Result.andThen_ok]
     cases p with
     | true => simp only [Bool.not_true, Bool.false_eq_true, if_false, Sem.run_pure, Result.andThen_ok, Bool.true_and]; exact ihl q e2
     | false => simp
   ·cases e
  ·cases e
def sL (tt : TT) (op : BinOp) (t : TypeId) (x y : AV) (q : Option Bool) : Option (AV × Prop) :=
 match x, y with
 | .agg X, .agg Y => match tt t with
  | some i => match i.eq, i.k.agg with
   | true, true => match gf tt 8 t X Y with
    | some b => match op with
     | .eql => some (cT b q)
     | .neq => some (cT (!b) q)
     | _ => none
    | none => none
   | _, _ => none
  | none => none
 | _, _ => none
theorem Br {tt : TT} (hT : bb P tt) {op : BinOp} {t : TypeId} {x y : Operand} {u v : AV} {q : Option Bool} {r : AV × Prop} (h : sL tt op t u v q = some r) (hc : r.2) {m n : Value} (hm : RV w ok ρ u m) (hn : RV w ok ρ v n) :
  ∃ z, (do eqGuard op t x y m n; binOp op t m n : Sem Value).run P w = .ok z w ∧ RV w ok ρ r.1 z := by
 unfold sL at h
 split at h
 ·rename_i X Y
  obtain ⟨xs, rfl, hx⟩ := hm
  obtain ⟨ys, rfl, hy⟩ := hn
  split at h
  ·rename_i i hti
   split at h
   ·rename_i heq hagg
    obtain ⟨hp, hg, _⟩ := (hT _ _ hti).eqOk heq
    split at h
    ·rename_i b hb
     have hrun := ww hT 8 9992 t i X Y (.agg xs) (.agg ys) b hti hb (by rw [hagg]; exact ⟨xs, rfl, hx⟩) (by rw [hagg]; exact ⟨ys, rfl, hy⟩)
     split at h
     ·injection h with h; subst h
      refine ⟨.bool b, ?_, fO _ q hc _ _ _⟩
      rw [Sem.run_bind, run_eqGuard_agg w _ t x y xs ys hg]
      simp only [Result.andThen_ok]
      rw [run_eql_struct]
      show ((Op.equalIn (9992 + 8) t (.agg xs) (.agg ys)).run P w).andThen _ = _
      rw [hrun]; rfl
     ·injection h with h; subst h
      refine ⟨.bool (!b), ?_, fO _ q hc _ _ _⟩
      rw [Sem.run_bind, run_eqGuard_agg w _ t x y xs ys hg]
      simp only [Result.andThen_ok]
      rw [run_neq_struct]
      show ((Op.equalIn (9992 + 8) t (.agg xs) (.agg ys)).run P w).andThen _ = _
      rw [hrun]; rfl
     ·cases h
    ·cases h
   ·cases h
  ·cases h
 ·cases h
end
def cO : Option (AV × Prop) → Option aT
 | some r => some ⟨some r.1, [], r.2⟩
 | none => none
def fC (tm : Tm) : Option Operand → Option (Option AV)
 | none => some none
 | some x => match ev tm x with
  | some v => some (some v)
  | none => none
def sM : AV → Bool
 | .c (.ref _ _ _ _) => true
 | .c (.t (.tree _ _ _)) => true
 | .c (.t (.v (.slice none 0 0))) => true
 | _ => false
def f0 (hn : bC) : Nat → Nat → T := match hn.row with
 | some p => p.2
 | none => fun _ _ => .v undef
def IY (tt : TT) (tm : Tm) (t : TypeId) (x : Operand) (lo hi : Option Operand) (m : Operand) (nid : Nat) (hn : bC) : Option aT :=
 match lo, hi with
 | none, some hh => match ev tm hh, ev tm m with
  | some (.c (.t (.v (.int .i64 0)))), some (.c (.t (.v (.int .i64 0)))) => match tt t with
   | some { k := .slice e, .. } => match tt e, ev tm x with
    | some ie, some xv => if sM xv = true then some ⟨some (.c (.ref nid ie.size 0 0)), [(nid, some (.row e false ie.size 0 (f0 hn)))], True⟩ else none
    | _, _ => none
   | _ => none
  | _, _ => none
 | _, _ => none
def ia (tt : TT) (tm : Tm) (t : TypeId) (x lo hi m : Operand) : Option (AV × Prop) :=
 match tt t with
 | some { k := .slice e, .. } => match tt e, ev tm x with
  | some ie, some (.c (.ref id sz off n)) => match ev tm lo, ev tm hi, ev tm m with
   | some (.c (.t (.v (.int _ l)))), some (.c (.t (.v (.int _ h)))), some (.c (.t (.v (.int _ q)))) => if sz = ie.size then some (.c (.ref id sz (off + l.toNat) (h.toNat - l.toNat)), 0 ≤ l ∧ l ≤ h ∧ h ≤ q ∧ q ≤ n) else none
   | _, _, _ => none
  | _, _ => none
 | _ => none
def dV (tm : Tm) (mx : Bool) : List Operand → Int → Option Int
 | [], m => some m
 | x :: l, m => match ev tm x with
  | some (.c (.t (.v (.int _ n)))) => dV tm mx l (match mx with
   | true => if n > m then n else m
   | false => if n < m then n else m)
  | _ => none
def jP (tm : Tm) (b : Builtin) (x : Operand) (l : List Operand) : Option aT :=
 match ev tm x with
 | some (.c (.t (.v (.int k m)))) => match b with
  | .min => match dV tm false l m with
   | some r => some ⟨some (.c (.t (.v (.int k r)))), [], True⟩
   | none => none
  | .max => match dV tm true l m with
   | some r => some ⟨some (.c (.t (.v (.int k r)))), [], True⟩
   | none => none
  | _ => none
 | _ => none
def sN (tt : TT) (t : TypeId) (x : AV) : Option (AV × Prop) := match tt t, x with
 | some { k := .slice _, .. }, .c (.t (.v (.slice none 0 0))) => some (.c (.t (.v (.int .i64 0))), True)
 | _, _ => none
def rF (tt : TT) (t tx : TypeId) (s x : AV) (nid : Nat) (hi : bC) : Option aT := match tt t, tt tx, s, x with
 | some { k := .slice e, .. }, some { k := .int _, .. }, .c (.t (.v (.slice none 0 0))), .c (.t (.v (.int _ n))) => match tt e with
  | some ie => if 0 < ie.size ∧ ie.zero.length = ie.size ∧ ie.zero.all (·.oneCell') then
    some ⟨some (.c (.ref nid ie.size 0 (bI e false ie.size n.toNat (fun _ j => .v (ie.zero.getD j undef)) hi.row).1)), [(nid, some (bI e false ie.size n.toNat (fun _ j => .v (ie.zero.getD j undef)) hi.row).2.1)],
     (0 < n ∧ n ≤ 1099511627776 ∧ ie.bytes ≤ 128) ∧ (bI e false ie.size n.toNat (fun _ j => .v (ie.zero.getD j undef)) hi.row).2.2⟩
   else none
  | none => none
 | _, _, _, _ => none
def gN (tt : TT) (tm : Tm) (h : Hp) (b : Builtin) (args : List Operand) (ts : List TypeId) (nid : Nat) (hi : bC) : Option aT :=
 match args with
 | [x] => match ev tm x with
  | some xv => match b, ts with
   | .len, [t] => cO (sI tt t xv)
   | .cap, [t] => cO (sN tt t xv)
   | _, _ => none
  | none => none
 | [x, y] => match ev tm x, ev tm y with
  | some xv, some yv => match b, ts with
   | .append, [t, tx] => match hi.keep with
    | true => gM tt h t tx xv yv nid hi
    | false => match rF tt t tx xv yv nid hi with
     | some r => some r
     | none => gT tt h t tx xv yv nid hi
   | .min, _ => cO (J2 .min xv yv)
   | .max, _ => cO (J2 .max xv yv)
   | _, _ => none
  | _, _ => none
 | x :: y :: z :: l => jP tm b x (y :: z :: l)
 | _ => none
def sO : AV → Option S1
 | .c x => some (.c x)
 | .agg l => some (.agg l)
 | _ => none
def eP (tm : Tm) : List Operand → Option (List S1)
 | [] => some []
 | x :: l => match ev tm x with
  | some v => match sO v, eP tm l with
   | some s, some r => some (s :: r)
   | _, _ => none
  | none => none
def ij (tm : Tm) (f : FuncId) (a b : List Operand) : Option aT := match eP tm a, eP tm b with
 | some a, some b => some ⟨some (.clo f a b), [], True⟩
 | _, _ => none
def eQ (tt : TT) (tm : Tm) (h : Hp) (o : Oper) (nid : Nat) (hi : bC) : Option aT :=
 match o.op with
 | .move x => match ev tm x with
  | some v => some ⟨some v, [], True⟩
  | none => none
 | .assign x => match ev tm x with
  | some v => some ⟨some v, [], True⟩
  | none => none
 | .pick c a b => match ev tm c with
  | some (.c (.t (.v (.bool true)))) => match ev tm a with
   | some v => some ⟨some v, [], True⟩
   | none => none
  | some (.c (.t (.v (.bool false)))) => match ev tm b with
   | some v => some ⟨some v, [], True⟩
   | none => none
  | _ => none
 | .alloc el => sk tt el nid hi
 | .box el x => gX tt tm el x nid hi
 | .build t parts => cO (gW tt tm t parts.toList)
 | .buildSlice t len parts => match hi.keep with
  | true => II tt tm h t len parts.toList nid hi
  | false => gB tt tm t len parts.toList nid hi
 | .load t p => match ev tm p with
  | some pv => cO (eJ tt t h pv)
  | none => none
 | .store t p x => match ev tm p, ev tm x with
  | some pv, some xv => gY tt tm h t pv xv hi
  | _, _ => none
 | .nilCheck x => match ev tm x with
  | some (.c (.ptr id sz e sub)) => some ⟨some (.c (.ptr id sz e sub)), [], True⟩
  | some (.c (.t (.eptr sz g sub))) => some ⟨some (.c (.t (.eptr sz g sub))), [], True⟩
  | _ => none
 | .binOp op t x y _ => match ev tm x, ev tm y with
  | some xv, some yv => match sL tt op t xv yv hi.b with
   | some r => cO (some r)
   | none => cO (sH tt op t xv yv hi.b)
  | _, _ => none
 | .unOp op _ x => match ev tm x with
  | some xv => cO (sS op xv hi.b)
  | none => none
 | .convert src dst x => match ev tm x, tt src with
  | some xv, some _ => match sl tt src dst xv nid hi with
   | some r => some r
   | none => cO (gZ tt dst h src xv hi)
  | _, _ => none
 | .makeSlice t l cp => match ev tm l, ev tm cp with
  | some lv, some cv => su tt t lv cv nid hi
  | _, _ => none
 | .slice t x lo hi' mx => match mx with
  | none => match ev tm x, fC tm lo, fC tm hi' with
   | some xv, some lv, some hv => cO (sJ tt t xv lv hv)
   | _, _, _ => none
  | some m => match lo, hi' with
   | some l, some hh => cO (ia tt tm t x l hh m)
   | _, _ => IY tt tm t x lo hi' m nid hi
 | .fieldAddr s x f => match ev tm x with
  | some xv => cO (qO tt s xv f)
  | none => none
 | .field t x f => match ev tm x with
  | some xv => cO (si tt t xv f)
  | none => none
 | .indexAddr t x ix => match ev tm x, ev tm ix with
  | some xv, some iv => cO (qP tt t xv iv)
  | _, _ => none
 | .index t x ix => match ev tm x, ev tm ix with
  | some xv, some iv => match hi.row with
   | some q => cO (rU tt t xv iv q)
   | none => cO (sj tt t xv iv)
  | _, _ => none
 | .extract x i => match ev tm x with
  | some xv => cO (rC xv i)
  | none => none
 | .call cl => match cl.callee with
  | .builtin b => gN tt tm h b cl.args.toList cl.argTypes.toList nid hi
  | _ => none
 | .makeFunc (.func f) first cap => ij tm f first.toList cap.toList
 | _ => none
section
variable {c : Cx} {used used' : Nat → Prop} {ρ ρ' : Ren} {tm tm' : Tm} {h h' : Hp} {a : Act} {w w' : World} {base : cx} {X Y : Nat → Prop} {nt : Nat} {ok : Nat → Prop} {o : Oper} {nid : Nat}
theorem cD {q : Option (AV × Prop)} {r : aT} (e : cO q = some r) : ∃ p, q = some p ∧ r = ⟨some p.1, [], p.2⟩ := by
 cases q with
 | none => cases e
 | some p => simp only [cO, FL] at e; exact ⟨p, rfl, e.symm⟩
theorem wK (R : aI base X nt used ρ tm h a w) {x : Option Operand} {r : Option AV} (e : fC tm x = some r) : (∀ av, r = some av → ∃ v, x.map a.eval = some v ∧ RV w (okOf base w ρ h) ρ av v) ∧ (r = none → x.map a.eval = none) := by
 cases x with
 | none => simp only [fC, FL] at e; subst e; exact ⟨(fun av h => by cases h), fun _ => rfl⟩
 | some x =>
  simp only [fC] at e
  split at e
  ·rename_i v hv
   injection e with e
   subst e
   exact ⟨fun av h => by injection h with h; subst h; exact ⟨_, rfl, bF R hv⟩, (fun h => by cases h)⟩
  ·cases e
theorem Bs {ok : Nat → Prop} {xv : AV} {y : Value} (h : sM xv = true) (hx : RV w ok ρ xv y) : ∃ q n cp, y = .slice q n cp := by
 unfold sM at h
 split at h
 ·obtain ⟨l, _, l2⟩ := hx
  cases l with
  | nil => obtain ⟨_, _, q, rfl⟩ := l2; exact ⟨_, _, _, rfl⟩
  | _ b cap =>
   rcases l2 with ⟨_, rfl, _⟩ | ⟨_, q, rfl⟩
   ·exact ⟨_, _, _, rfl⟩
   ·exact ⟨_, _, _, rfl⟩
 ·obtain ⟨q, cp, rfl, _⟩ := hx
  exact ⟨_, _, _, rfl⟩
 ·obtain ⟨rfl, _⟩ := hx
  exact ⟨_, _, _, rfl⟩
 ·cases h
theorem Ad (R : aI c.base c.X c.nt used ρ tm h a w) (hfresh : ¬ used nid) (hu : ∀ id, used id → used' id) (hn : used' nid) (hd : ∀ t, o.dst = some t → t < c.nt) {tt : TT} (hT : bb c.P tt) {t : TypeId} {x m : Operand} {lo hi : Option Operand} {hq : bC} {r : aT}
  (ho : o.op = .slice t x lo hi (some m)) (e : IY tt tm t x lo hi m nid hq = some r) : ct c used' tm h a o r.val r.W ((execOp a.eval o).run c.P w) := by
 unfold IY at e
 split at e
 ·rename_i hh
  split at e
  ·rename_i h1 h2
   split at e
   ·rename_i el i1 i2 i3 i4 hti
    split at e
    ·rename_i ie xv hie hx
     split at e
     ·rename_i hs
      injection e with e
      subst e
      have hus := (hT _ _ hti).slice rfl
      have hsz := (hT _ _ hie).size w
      obtain ⟨q, n, cp, hy⟩ := Bs hs (bF R hx)
      have v1 := bU R h1
      have v2 := bU R h2
      have b1 := run_sliceBound (P := c.P) w .i64 0 cp .slice3Acap (by decide) (by omega)
      have b2 := run_sliceBound (P := c.P) w .i64 0 0 .slice3B (by decide) (by omega)
      have hrun : (execOp a.eval o).run c.P w = .ok (.value (.slice (if (0:Int).toNat = 0 then q else q.map (·.add (0 * ie.size))) 0 0)) w := by
       simp [execOp, ho, Instr.sliceAt, Instr.slice, Instr.sliceBounds, hy, v1, v2, run_underlying hus, hsz, b1, b2]
      rw [hrun]
      refine ⟨ρ.set nid .nil, R.add (bM.refl _ _) hfresh hu hn (blk := .row el false ie.size 0 (f0 hq)) (l := .nil) (fun b cap e => by cases e) (fun _ => rfl) _ hd _ _ (fun _ x hx => ?_)⟩
      injection hx with hx
      subst hx
      exact ⟨.nil, by simp [Ren.set], rfl, rfl, _, rfl⟩
     ·cases e
    ·cases e
   ·cases e
  ·cases e
 ·cases e
theorem AC {P : Program} {tt : TT} (hT : bb P tt) (R : aI base X nt used ρ tm h a w) {t : TypeId} {x lo hi m : Operand} {r : AV × Prop} (e : ia tt tm t x lo hi m = some r) (hc : r.2) :
  ∃ v, (Instr.sliceAt t (a.eval x) (some (a.eval lo)) (some (a.eval hi)) (some (a.eval m))).run P w = .ok v w ∧ RV w (okOf base w ρ h) ρ r.1 v := by
 unfold ia at e
 split at e
 ·rename_i el i1 i2 i3 i4 hti
  split at e
  ·rename_i ie id sz off n hie hx
   split at e
   ·rename_i k1 l k2 hh k3 q hl hhi hm
    split at e
    ·rename_i hs
     injection e with e
     subst e
     subst hs
     obtain ⟨c1, c2, c3, c4⟩ := hc
     have hus := (hT _ _ hti).slice rfl
     have hsz := (hT _ _ hie).size w
     have v1 := bU R hl
     have v2 := bU R hhi
     have v3 := bU R hm
     obtain ⟨loc, l1, l2⟩ := bF R hx
     have core : ∀ (p : Option Addr) (cp : Nat), a.eval x = .slice p n cp → n ≤ cp → (Instr.sliceAt t (a.eval x) (some (a.eval lo)) (some (a.eval hi)) (some (a.eval m))).run P w = .ok (.slice (if q.toNat = l.toNat then p else p.map (·.add (l.toNat * ie.size))) (hh.toNat - l.toNat) (q.toNat - l.toNat)) w := by
      intro p cp hp hn
      have b1 := run_sliceBound (P := P) w k3 q cp .slice3Acap (by omega) (by omega)
      have b2 := run_sliceBound (P := P) w k2 hh q.toNat .slice3B (by omega) (by omega)
      have b3 := run_sliceBound (P := P) w k1 l hh.toNat .slice3C (by omega) (by omega)
      simp [Instr.sliceAt, Instr.slice, Instr.sliceBounds, hp, v1, v2, v3, run_underlying hus, hsz, b1, b2, b3]
     cases loc with
     | nil =>
      obtain ⟨rfl, rfl, p, hy⟩ := l2
      have e1 : l.toNat = 0 := by omega
      have e2 : hh.toNat = 0 := by omega
      have e3 : q.toNat = 0 := by omega
      refine ⟨_, core p 0 hy (F9 _), .nil, l1, by omega, by omega, p, by rw [e1, e2, e3]; simp⟩
     | _ b cap =>
      rcases l2 with ⟨cc, hy, h1, h2⟩ | ⟨rfl, p, hy⟩
      ·refine ⟨_, core _ cc hy h1, .at b cap, l1, ?_⟩
       by_cases g : q.toNat = l.toNat
       ·right
        refine ⟨by omega, some ⟨b, off * ie.size, none⟩, ?_⟩
        rw [if_pos g, show hh.toNat - l.toNat = 0 by omega, show q.toNat - l.toNat = 0 by omega]
       ·left
        refine ⟨q.toNat - l.toNat, ?_, by omega, by omega⟩
        rw [if_neg g]
        simp [Addr.add_lit, Nat.add_mul]
      ·have e1 : l.toNat = 0 := by omega
       have e2 : hh.toNat = 0 := by omega
       have e3 : q.toNat = 0 := by omega
       exact ⟨_, core p 0 hy (F9 _), .at b cap, l1, .inr ⟨by omega, p, by rw [e1, e2, e3]; simp⟩⟩
    ·cases e
   ·cases e
  ·cases e
 ·cases e
theorem vR (R : aI base X nt used ρ tm h a w) {P : Program} {k : IntKind} : ∀ {l : List Operand} {m r : Int}, dV tm false l m = some r → ((l.map a.eval).foldlM Builtin.min2 (.int k m)).run P w = .ok (.int k r) w
 | [], m, r, e => by simp only [dV, FL] at e; subst e; rfl
 | x :: l, m, r, e => by
  simp only [dV] at e
  split at e
  ·rename_i k' n hx
   rw [Gr, List.foldlM_cons, bU R hx, Sem.run_bind]
   exact vR R e
  ·cases e
theorem vS (R : aI base X nt used ρ tm h a w) {P : Program} {k : IntKind} : ∀ {l : List Operand} {m r : Int}, dV tm true l m = some r → ((l.map a.eval).foldlM Builtin.max2 (.int k m)).run P w = .ok (.int k r) w
 | [], m, r, e => by simp only [dV, FL] at e; subst e; rfl
 | x :: l, m, r, e => by
  simp only [dV] at e
  split at e
  ·rename_i k' n hx
   rw [Gr, List.foldlM_cons, bU R hx, Sem.run_bind]
   exact vS R e
  ·cases e
theorem Bt {P : Program} {tt : TT} (hT : bb P tt) {ok : Nat → Prop} {t ty : TypeId} {ts : Array TypeId} {x : AV} {y : Value} {r : AV × Prop} (e : sN tt t x = some r) (hts : ts[0]? = some t) (hr : RV w ok ρ x y) :
  ∃ v, (Builtin.cap_ ts ty #[y]).run P w = .ok v w ∧ RV w ok ρ r.1 v := by
 unfold sN at e
 split at e
 ·rename_i i1 i2 i3 i4 el hti
  have hu := (hT _ _ hti).slice rfl
  injection e with e; subst e
  obtain ⟨rfl, _⟩ := hr
  exact ⟨.int .i64 0, by simp [Builtin.cap_, hts, run_underlying hu]; rfl, rfl, rfl⟩
 ·cases e
theorem zk (R : aI c.base c.X c.nt used ρ tm h a w) (hfresh : ¬ used nid) (hu : ∀ id, used id → used' id) (hn : used' nid) (hd : ∀ t, o.dst = some t → t < c.nt) {tt : TT} (hT : bb c.P tt) {t tx : TypeId} {s x : AV} {sv xv : Value} {hi : bC} {r : aT}
  (e : rF tt t tx s x nid hi = some r) (hc : r.chk) (hs : RV w (okOf c.base w ρ h) ρ s sv) (hx : RV w (okOf c.base w ρ h) ρ x xv) {ty : TypeId} {res : Result Next}
  (hr : ∀ v w', (Builtin.append_ #[t, tx] ty #[sv, xv]).run c.P w = .ok v w' → res = .ok (.value v) w') : ct c used' tm h a o r.val r.W res := by
 unfold rF at e
 split at e
 ·rename_i el i1 i2 i3 i4 kn j1 j2 j3 j4 kq n hti htx
  have hu1 := (hT _ _ hti).slice rfl
  have hu2 := (hT _ _ htx).int rfl
  obtain ⟨rfl, _⟩ := hs
  obtain ⟨rfl, _⟩ := hx
  split at e
  ·rename_i ie hie
   split at e
   ·rename_i hs
    obtain ⟨s1, s2, s4⟩ := hs
    injection e with e
    subst e
    obtain ⟨⟨c1, c2, c3⟩, c5⟩ := hc
    obtain ⟨it, z, t1, t2, t3, t4, t5⟩ := (hT _ _ hie).info
    have hzs : z.cells.size = ie.size := by rw [← s2, ← t5]; simp
    obtain ⟨m, rfl⟩ := Int.eq_ofNat_of_zero_le (Int.le_of_lt c1)
    simp only [FM] at c5 ⊢
    have hb : (0 + m) * it.bytes ≤ 140737488355328 := by
     rw [t3, Gg]
     have : m * ie.bytes ≤ 1099511627776 * 128 := Nat.mul_le_mul (by omega) c3
     omega
    have hm : 0 < m := by omega
    have hrun := Go.Lib.run_append_grow_zeros (P := c.P) w t tx ty el it z kq kn hu1 hu2 t1 t4 none 0 0 [] (run_firstCells_none w.drew it.size 0 0 0) m hm (by rw [t2]; exact s1) (by omega) (by omega) (by rw [Gg] at hb; omega) (growslice_fits (by omega) hb)
    have hge := grownCap_ge w (0 + m) 0 el
    have hle := grownCap_le_maxLen w (0 + m) 0 el (by unfold maxLen; omega)
    have hres := hr _ _ hrun
    simp only [Gg] at hge hle hres
    have U : bM (fun _ => False) w (w.drew.alloc (.cells (([] : List Value).toArray ++ Builtin.zeroCells z.cells m ++ Builtin.zeroCells z.cells (grownCap w m 0 el - m)) el)) := ⟨rfl, rfl, rfl, by simp, fun b hb _ => heap_alloc_old w.drew _ hb⟩
    have hsize : (([] : List Value).toArray ++ Builtin.zeroCells z.cells m ++ Builtin.zeroCells z.cells (grownCap w m 0 el - m)).size = grownCap w m 0 el * ie.size := by
     simp only [Array.size_append, FW, FP, kZ, hzs, Gg, ← Nat.add_mul]
     congr 1; omega
    refine mK R U hfresh hu hn hd c5 (fz := (0, 0)) (F9 _) hge (heap_alloc_new w.drew _) hsize (fun _ => ⟨.inl (F9 0), hle⟩) (fun K i hi j hj => ?_) hres
    have hlt : i * ie.size + j < m * ie.size := by
     have : (i + 1) * ie.size ≤ m * ie.size := F8 _ (by omega)
     rw [Nat.add_mul] at this
     omega
    have hget : ie.zero.getD j undef = z.cells[j]! := by
     rw [← t5]; simp [List.getD, hzs, hj]
    have hmod : (i * ie.size + j) % ie.size = j := Nat.mul_add_mod_of_lt hj
    refine ⟨z.cells[j]!, ?_, ?_, ?_⟩
    ·rw [Array.getElem?_append_left (by simp [kZ, hzs]; omega)]
     simp [Builtin.zeroCells, hzs, hlt, hmod]
    ·exact hget.symm
    ·rw [FI, FJ (by omega)]
     exact FX.1 s4 _ (Gh _)
   ·cases e
  ·cases e
 ·cases e
theorem zm (R : aI c.base c.X c.nt used ρ tm h a w) (hfresh : ¬ used nid) (hu : ∀ id, used id → used' id) (hn : used' nid) (hd : ∀ t, o.dst = some t → t < c.nt) {tt : TT} (hT : bb c.P tt) {cl : Call} {b : Builtin} {hi : bC} {r : aT}
  (ho : o.op = .call cl) (hb : cl.callee = .builtin b) (e : gN tt tm h b cl.args.toList cl.argTypes.toList nid hi = some r) (hc : r.chk) : ct c used' tm h a o r.val r.W ((execOp a.eval o).run c.P w) := by
 have hex : execOp a.eval o = builtin b cl.argTypes o.type (cl.args.map fun | .const _ => true | _ => false) (cl.args.map a.eval) := by
  simp only [execOp, ho, resolve, hb]
  rfl
 unfold gN at e
 split at e
 ·rename_i x hargs
  have hargs' : cl.args.map a.eval = #[a.eval x] := by apply Array.ext'; simp [hargs]
  split at e
  ·rename_i xv hx
   split at e
   ·rename_i t hts
    obtain ⟨p, hp, rfl⟩ := cD e
    have hts' : cl.argTypes[0]? = some t := by rw [← Gn, hts]; rfl
    obtain ⟨v, v1, v2⟩ := Bp (P := c.P) (ty := o.type) (w := w) hT hp hts' (bF R hx)
    exact b7 R hu hd v2 (by rw [hex, hargs']; simp [builtin, v1])
   ·rename_i t hts
    obtain ⟨p, hp, rfl⟩ := cD e
    have hts' : cl.argTypes[0]? = some t := by rw [← Gn, hts]; rfl
    obtain ⟨v, v1, v2⟩ := Bt (P := c.P) (ty := o.type) (w := w) hT hp hts' (bF R hx)
    exact b7 R hu hd v2 (by rw [hex, hargs']; simp [builtin, v1])
   ·cases e
  ·cases e
 ·rename_i x y hargs
  have hargs' : cl.args.map a.eval = #[a.eval x, a.eval y] := by apply Array.ext'; simp [hargs]
  split at e
  ·rename_i xv yv hx hy
   split at e
   ·rename_i t tx hts
    have hts' : cl.argTypes = #[t, tx] := by apply Array.ext'; simpa using hts
    split at e
    ·exact zj R hfresh hu hn hd hT e hc (bF R hx) (bF R hy) (ty := o.type) (fun v w' hrun => by rw [hex, hargs', hts']; simp [builtin, hrun])
    ·split at e
     ·rename_i q hq
      injection e with e
      subst e
      exact zk R hfresh hu hn hd hT hq hc (bF R hx) (bF R hy) (ty := o.type) (fun v w' hrun => by rw [hex, hargs', hts']; simp [builtin, hrun])
     ·exact zz R hfresh hu hn hd hT e hc (bF R hx) (bF R hy) (ty := o.type) (fun v w' hrun => by rw [hex, hargs', hts']; simp [builtin, hrun])
   ·obtain ⟨p, hp, rfl⟩ := cD e
    unfold J2 at hp
    split at hp
    ·rename_i k m k' n _
     injection hp with hp
     subst hp
     have h1 := bU R hx
     have h2 := bU R hy
     exact b7 R hu hd (v := .int k (if n < m then n else m)) (av := .c (.t (.v (.int k (if n < m then n else m))))) ⟨rfl, rfl⟩ (by rw [hex, hargs', h1, h2]; simp [builtin, run_min_int2])
    ·rename_i hh; cases hh
    ·cases hp
   ·obtain ⟨p, hp, rfl⟩ := cD e
    unfold J2 at hp
    split at hp
    ·rename_i hh; cases hh
    ·rename_i k m k' n _
     injection hp with hp
     subst hp
     have h1 := bU R hx
     have h2 := bU R hy
     exact b7 R hu hd (v := .int k (if n > m then n else m)) (av := .c (.t (.v (.int k (if n > m then n else m))))) ⟨rfl, rfl⟩ (by rw [hex, hargs', h1, h2]; simp [builtin, run_max_int2])
    ·cases hp
   ·cases e
  ·cases e
 ·rename_i x y z l hargs
  have hargs' : cl.args.map a.eval = (a.eval x :: (y :: z :: l).map a.eval).toArray := by apply Array.ext'; simp [hargs]
  unfold jP at e
  split at e
  ·rename_i k m hx
   have h1 := bU R hx
   split at e
   ·split at e
    ·rename_i r hr
     injection e with e
     subst e
     refine b7 R hu hd (v := .int k r) (av := .c (.t (.v (.int k r)))) ⟨rfl, rfl⟩ ?_
     rw [hex, hargs', h1]
     simp only [builtin, Builtin.min_, Sem.run_bind]
     rw [vR R hr]; rfl
    ·cases e
   ·split at e
    ·rename_i r hr
     injection e with e
     subst e
     refine b7 R hu hd (v := .int k r) (av := .c (.t (.v (.int k r)))) ⟨rfl, rfl⟩ ?_
     rw [hex, hargs', h1]
     simp only [builtin, Builtin.max_, Sem.run_bind]
     rw [vS R hr]; rfl
    ·cases e
   ·cases e
  ·cases e
 ·cases e
theorem BP {x : AV} {s : S1} {ok : Nat → Prop} {v : Value} (e : sO x = some s) (hr : RV w ok ρ x v) : RS w ok ρ s v := by
 cases x <;> simp only [sO, FL, reduceCtorEq] at e <;> subst e <;> exact hr
theorem rW (R : aI base X nt used ρ tm h a w) : ∀ {l : List Operand} {r : List S1}, eP tm l = some r → ap (RS w (okOf base w ρ h) ρ) r (l.map a.eval)
 | [], r, e => by simp only [eP, FL] at e; subst e; trivial
 | x :: l, r, e => by
  simp only [eP] at e
  split at e
  ·rename_i v hv
   split at e
   ·rename_i s r' hs hr
    injection e with e
    subst e
    exact ⟨BP hs (bF R hv), rW R hr⟩
   ·cases e
  ·cases e
theorem AD (R : aI c.base c.X c.nt used ρ tm h a w) (hu : ∀ id, used id → used' id) (hd : ∀ t, o.dst = some t → t < c.nt) {f : FuncId} {first cap : Array Operand} {r : aT} (ho : o.op = .makeFunc (.func f) first cap) (e : ij tm f first.toList cap.toList = some r) :
  ct c used' tm h a o r.val r.W ((execOp a.eval o).run c.P w) := by
 unfold ij at e
 split at e
 ·rename_i fs cs h1 h2
  injection e with e
  subst e
  exact b7 R hu hd (v := .func (.func f) (first.map a.eval) (cap.map a.eval)) (av := .clo f fs cs) ⟨_, _, rfl, by simpa using rW R h1, by simpa using rW R h2⟩ (by simp [execOp, ho, Instr.makeFunc])
 ·cases e
theorem my (R : aI c.base c.X c.nt used ρ tm h a w) (hfresh : ¬ used nid) (hu : ∀ id, used id → used' id) (hn : used' nid) (hd : ∀ t, o.dst = some t → t < c.nt) {tt : TT} (hT : bb c.P tt) {hi : bC} {r : aT}
  (e : eQ tt tm h o nid hi = some r) (hc : r.chk) : ct c used' tm h a o r.val r.W ((execOp a.eval o).run c.P w) := by
 unfold eQ at e
 split at e
 case h_1 x ho =>
  split at e
  ·rename_i v hv; injection e with e; subst e; exact b7 R hu hd (bF R hv) (by simp [execOp, ho])
  ·cases e
 case h_2 x ho =>
  split at e
  ·rename_i v hv; injection e with e; subst e; exact b7 R hu hd (bF R hv) (by simp [execOp, ho])
  ·cases e
 case h_3 cc x y ho =>
  split at e
  ·rename_i hcc
   split at e
   ·rename_i v hv; injection e with e; subst e; exact b7 R hu hd (bF R hv) (by simp [execOp, ho, bU R hcc, asBool])
   ·cases e
  ·rename_i hcc
   split at e
   ·rename_i v hv; injection e with e; subst e; exact b7 R hu hd (bF R hv) (by simp [execOp, ho, bU R hcc, asBool])
   ·cases e
  ·cases e
 case h_4 el ho => exact zH R hfresh hu hn hd hT ho e hc
 case h_5 el x ho => exact zI R hfresh hu hn hd ho e hc
 case h_6 t parts ho =>
  obtain ⟨p, hp, rfl⟩ := cD e
  obtain ⟨v, v1, v2⟩ := zZ hT hp R
  exact b7 R hu hd v2 (by simp only [execOp, ho, Sem.run_bind, v1]; rfl)
 case h_7 t len parts ho =>
  split at e
  ·exact yo R hfresh hu hn hd hT ho e hc
  ·exact yB R hfresh hu hn hd hT ho e hc
 case h_8 t p ho =>
  split at e
  ·rename_i pv hpv
   obtain ⟨q, hq, rfl⟩ := cD e
   obtain ⟨v, v1, v2⟩ := vw hT hq hc R (bF R hpv)
   exact b7 R hu hd v2 (by simp [execOp, ho, v1])
  ·cases e
 case h_9 t p x ho =>
  split at e
  ·rename_i pv xv hp hx
   exact zK R hu hd hT ho hp hx e hc
  ·cases e
 case h_10 x ho =>
  split at e
  ·rename_i id sz e0 sub hx
   injection e with e; subst e
   have hr := bF R hx
   obtain ⟨b, cap, h1, h2⟩ := hr
   exact b7 R hu hd (bF R hx) (by simp [execOp, ho, h2])
  ·rename_i sz g sub hx
   injection e with e; subst e
   have hr := bF R hx
   obtain ⟨b, o', h1, h2⟩ := hr
   exact b7 R hu hd (bF R hx) (by simp [execOp, ho, h1])
  ·cases e
 case h_11 op t x y yt ho =>
  split at e
  ·rename_i xv yv hx hy
   split at e
   ·rename_i hes
    obtain ⟨q, hq, rfl⟩ := cD e
    injection hq with hq
    subst hq
    obtain ⟨v, v1, v2⟩ := Br hT (x := x) (y := y) hes hc (bF R hx) (bF R hy)
    exact b7 R hu hd v2 (by
     have v1' := v1
     rw [Sem.run_bind] at v1'
     simp only [execOp, ho, Sem.run_bind]
     rw [v1']; rfl)
   ·obtain ⟨q, hq, rfl⟩ := cD e
    obtain ⟨v, v1, v2⟩ := Bo hT (x := x) (y := y) hq hc _ _ (bF R hx) (bF R hy)
    exact b7 R hu hd v2 (by
     have v1' := v1
     rw [Sem.run_bind] at v1'
     simp only [execOp, ho, Sem.run_bind]
     rw [v1']; rfl)
  ·cases e
 case h_12 op t x ho =>
  split at e
  ·rename_i xv hx
   obtain ⟨q, hq, rfl⟩ := cD e
   obtain ⟨v, v1, v2⟩ := BO (P := c.P) hq hc _ _ (bF R hx)
   exact b7 R hu hd v2 (by simp [execOp, ho, v1])
  ·cases e
 case h_13 src dst x ho =>
  split at e
  ·rename_i xv ti hx hti
   split at e
   ·rename_i r' hr'
    injection e with e
    subst e
    exact zL R hfresh hu hn hd hT ho hx hr' hc
   ·obtain ⟨q, hq, rfl⟩ := cD e
    obtain ⟨d, hd', _⟩ := (hT _ _ hti).under
    obtain ⟨v, v1, v2⟩ := Ac hT R hq hc (bF R hx) ⟨d, hd'⟩
    exact b7 R hu hd v2 (by simp [execOp, ho, v1])
  ·cases e
 case h_14 t l cp ho =>
  split at e
  ·rename_i lv cv hl hcp
   exact z8 R hfresh hu hn hd hT ho hl hcp e hc
  ·cases e
 case h_15 t x lo hi' mx ho =>
  split at e
  ·split at e
   ·rename_i xv lv hv hx hlo hhi
    obtain ⟨q, hq, rfl⟩ := cD e
    obtain ⟨l1, l2⟩ := wK R hlo
    obtain ⟨h1, h2⟩ := wK R hhi
    obtain ⟨v, v1, v2⟩ := Bq hT hq hc (bF R hx) l1 l2 h1 h2
    exact b7 R hu hd v2 (by simp [execOp, ho, v1])
   ·cases e
  ·split at e
   ·obtain ⟨q, hq, rfl⟩ := cD e
    obtain ⟨v, v1, v2⟩ := AC hT R hq hc
    exact b7 R hu hd v2 (by simp [execOp, ho, v1])
   ·exact Ad R hfresh hu hn hd hT ho e
 case h_16 s x f ho =>
  split at e
  ·rename_i xv hx
   obtain ⟨q, hq, rfl⟩ := cD e
   obtain ⟨v, v1, v2⟩ := yV hT hq (bF R hx)
   exact b7 R hu hd v2 (by simp [execOp, ho, v1])
  ·cases e
 case h_17 t x f ho =>
  split at e
  ·rename_i xv hx
   obtain ⟨q, hq, rfl⟩ := cD e
   obtain ⟨v, v1, v2⟩ := zX hT hq (bF R hx)
   exact b7 R hu hd v2 (by simp [execOp, ho, v1])
  ·cases e
 case h_18 t x ix ho =>
  split at e
  ·rename_i xv iv hx hix
   obtain ⟨q, hq, rfl⟩ := cD e
   obtain ⟨v, v1, v2⟩ := yW hT hq hc (bF R hx) (bF R hix)
   exact b7 R hu hd v2 (by simp [execOp, ho, v1])
  ·cases e
 case h_19 t x ix ho =>
  split at e
  ·rename_i xv iv hx hix
   split at e
   ·obtain ⟨q, hq, rfl⟩ := cD e
    obtain ⟨v, v1, v2⟩ := zJ hT hq hc (bF R hx) (bF R hix)
    exact b7 R hu hd v2 (by simp [execOp, ho, v1])
   ·obtain ⟨q, hq, rfl⟩ := cD e
    obtain ⟨v, v1, v2⟩ := zY hT hq hc (bF R hx) (bF R hix)
    exact b7 R hu hd v2 (by simp [execOp, ho, v1])
  ·cases e
 case h_20 x i ho =>
  split at e
  ·rename_i xv hx
   obtain ⟨q, hq, rfl⟩ := cD e
   obtain ⟨v, v1, v2⟩ := zy (P := c.P) hq (bF R hx)
   exact b7 R hu hd v2 (by simp [execOp, ho, v1])
  ·cases e
 case h_21 cl ho =>
  split at e
  ·rename_i b hb
   exact zm R hfresh hu hn hd hT ho hb e hc
  ·cases e
 case h_22 f first cap ho => exact AD R hu hd ho e
 case h_23 => cases e
def sn : Option aT → Option aT
 | some ⟨some (.c (.ref id sz 0 n)), (k, some (.row ty false sz' m f)) :: W, chk⟩ => if id = k ∧ sz = sz' then some ⟨some (.c (.t (.tree n sz f))), (k, some (.row ty true sz' m f)) :: W, chk ∧ n ≤ m⟩ else none
 | _ => none
def xd : Op → Bool
 | .load _ _ => true
 | .index _ _ _ => true
 | .field _ _ _ => true
 | _ => false
def rY (q : Bool) : Option aT → Option aT
 | some ⟨some (.c (.t (.v (.bool e)))), W, chk⟩ => some ⟨some (.c (.t (.v (.bool q)))), W, chk ∧ e = q⟩
 | _ => none
def BQ (o : Oper) (hi : bC) : Option Bool := match xd o.op with
 | true => hi.b
 | false => none
def so (q : Int) : Option aT → Option aT
 | some ⟨some (.c (.t (.v (.int k e)))), W, chk⟩ => some ⟨some (.c (.t (.v (.int k q)))), W, chk ∧ e = q⟩
 | _ => none
def Ck (o : Oper) (hi : bC) : Option (Nat → Int) := match xd o.op with
 | true => hi.ints
 | false => none
theorem uP {b : Int} {q : Option aT} {r : aT} (e : so b q = some r) : ∃ k x W chk, q = some ⟨some (.c (.t (.v (.int k x)))), W, chk⟩ ∧ r = ⟨some (.c (.t (.v (.int k b)))), W, chk ∧ x = b⟩ := by
 unfold so at e
 split at e
 ·injection e with e
  exact ⟨_, _, _, _, rfl, e.symm⟩
 ·cases e
def sP (tt : TT) (tm : Tm) (h : Hp) (o : Oper) (nid : Nat) (hi : bC) : Option aT := match BQ o hi with
 | some q => rY q (eQ tt tm h o nid hi)
 | none => match Ck o hi with
  | some g => so (g 0) (eQ tt tm h o nid hi)
  | none => eQ tt tm h o nid hi
theorem uG {b : Bool} {q : Option aT} {r : aT} (e : rY b q = some r) : ∃ x W chk, q = some ⟨some (.c (.t (.v (.bool x)))), W, chk⟩ ∧ r = ⟨some (.c (.t (.v (.bool b)))), W, chk ∧ x = b⟩ := by
 unfold rY at e
 split at e
 ·injection e with e
  exact ⟨_, _, _, rfl, e.symm⟩
 ·cases e
def iq (tt : TT) (tm : Tm) (h : Hp) (o : Oper) (nid : Nat) (hi : bC) : Option aT := match hi.frz with
 | true => sn (eQ tt tm h o nid hi)
 | false => sP tt tm h o nid hi
theorem uQ {q : Option aT} {r : aT} (e : sn q = some r) : ∃ id sz n ty m f W chk, q = some ⟨some (.c (.ref id sz 0 n)), (id, some (.row ty false sz m f)) :: W, chk⟩ ∧ r = ⟨some (.c (.t (.tree n sz f))), (id, some (.row ty true sz m f)) :: W, chk ∧ n ≤ m⟩ := by
 unfold sn at e
 split at e
 ·split at e
  ·rename_i hc
   obtain ⟨rfl, rfl⟩ := hc
   injection e with e
   exact ⟨_, _, _, _, _, _, _, _, rfl, e.symm⟩
  ·cases e
 ·cases e
theorem fm.mono {P : Program} {G G' : Value → World → Prop} (hG : ∀ v w, G v w → G' v w) : ∀ {r : Result Next}, fm P G r → fm P G' r := by
 intro r hr
 cases r with
 | ok x w =>
  cases x <;> simp only [fm] at hr ⊢
  case value v => exact hG _ _ hr
  case skip => exact hG _ _ hr
  case enter f args => exact Calls.mono hr fun e w' ⟨v, e1, e2⟩ => ⟨v, e1, hG _ _ e2⟩
 | _ => exact hr.elim
theorem E3 {d : Option Tmp} {id sz n m : Nat} {ty : TypeId} {f : Nat → Nat → T} {W : List (Nat × Option az)} (hnm : n ≤ m) (R : aI base X nt used ρ (bG tm d (some (.c (.ref id sz 0 n)))) (aQ h ((id, some (.row ty false sz m f)) :: W)) a w) :
  aI base X nt used ρ (bG tm d (some (.c (.t (.tree n sz f))))) (aQ h ((id, some (.row ty true sz m f)) :: W)) a w := by
 have hid : aQ h ((id, some (.row ty false sz m f)) :: W) id = some (.row ty false sz m f) := by simp [aQ]
 have hid2 : aQ h ((id, some (.row ty true sz m f)) :: W) id = some (.row ty true sz m f) := by simp [aQ]
 have hother : ∀ k, k ≠ id → aQ h ((id, some (.row ty true sz m f)) :: W) k = aQ h ((id, some (.row ty false sz m f)) :: W) k := fun k hk => by simp [aQ, Ne.symm hk]
 have hex : ∀ k x, aQ h ((id, some (.row ty true sz m f)) :: W) k = some x → ∃ y, aQ h ((id, some (.row ty false sz m f)) :: W) k = some y ∧ (x.mut = true → y.mut = true) := fun k x hx => by
  by_cases e : k = id
  ·subst e; exact ⟨_, hid, fun _ => rfl⟩
  ·rw [hother k e] at hx; exact ⟨x, hx, fun q => q⟩
 have hok : ∀ b, okOf base w ρ (aQ h ((id, some (.row ty false sz m f)) :: W)) b → okOf base w ρ (aQ h ((id, some (.row ty true sz m f)) :: W)) b := fun b ⟨o1, o2, o3⟩ => ⟨o1, o2, fun k blk cap h1 h2 h3 => by
  by_cases e : k = id
  ·subst e; rw [hid2] at h1; injection h1 with h1; subst h1; cases h2
  ·rw [hother k e] at h1; exact o3 k blk cap h1 h2 h3⟩
 refine ⟨fun t av ht => ?_, fun k blk hk => ?_, R.hX, fun i j b c1 c2 x y hi hj hk h1 h2 => by
  obtain ⟨x', a1, a2⟩ := hex i x hi
  obtain ⟨y', b1, b2⟩ := hex j y hj
  exact R.inj i j b c1 c2 x' y' a1 b1 (hk.imp a2 b2) h1 h2, R.used, R.upd, R.ext0, R.size, R.defers⟩
 ·by_cases e : some t = d
  ·have h0 := R.tmp t (.c (.ref id sz 0 n)) (by simp only [bG]; rw [if_pos e])
   simp only [bG] at ht
   rw [if_pos e] at ht
   injection ht with ht
   subst ht
   obtain ⟨l, h1, h2⟩ := h0
   obtain ⟨l', m1, m2, m3⟩ := R.heap id _ hid
   rw [h1] at m1
   injection m1 with m1
   subst m1
   cases l with
   | nil => obtain ⟨_, rfl, q, e1⟩ := h2; rw [e1]; exact ⟨q, 0, rfl, F9 _, fun i hi => by omega⟩
   | _ b cap =>
    rcases h2 with ⟨cc, e1, hlc, hle2⟩ | ⟨rfl, q, e1⟩
    ·obtain ⟨_, vs, fz, v1, v2, _, v4⟩ := m2
     rw [e1]
     refine ⟨_, _, rfl, by omega, fun i hi j hj => ?_⟩
     obtain ⟨x, x1, x2⟩ := v4 i (by omega) j hj
     refine ⟨b, 0 * sz, x, rfl, ⟨(m3 b cap rfl).1, R.mid hid h1, fun id2 blk2 cap2 k1 k2 k3 => ?_⟩, ?_, RT.mono ⟨hok, fun _ _ => rfl⟩ _ _ x2⟩
     ·by_cases e2 : id2 = id
      ·subst e2; rw [hid2] at k1; injection k1 with k1; subst k1; cases k2
      ·rw [hother id2 e2] at k1
       exact e2 (R.inj id2 id b cap2 cap _ _ k1 hid (.inr rfl) k3 h1)
     ·rw [cell_of_row w _ _ vs ty fz v1, ← x1]; congr 1; omega
    ·rw [e1]; exact ⟨q, 0, rfl, F9 _, fun i hi => by omega⟩
  ·have h0 := R.tmp t av (by simp only [bG] at ht ⊢; rw [if_neg e] at ht ⊢; exact ht)
   exact RV.mono ⟨hok, fun _ _ => rfl⟩ (E1 _) _ _ h0
 ·by_cases e : k = id
  ·subst e
   rw [hid2] at hk
   injection hk with hk
   subst hk
   obtain ⟨l, l1, l2, l3⟩ := R.heap k _ hid
   refine ⟨l, l1, ?_, l3⟩
   cases l with
   | nil => exact l2
   | _ b cap =>
    obtain ⟨v0, vs, fz, v1, v2, v3, v4⟩ := l2
    exact ⟨v0, vs, fz, v1, v2, (fun h => by cases h), fun i hi j hj => let ⟨x, x1, x2⟩ := v4 i hi j hj; ⟨x, x1, RT.mono ⟨hok, fun _ _ => rfl⟩ _ _ x2⟩⟩
  ·rw [hother k e] at hk
   obtain ⟨l, l1, l2, l3⟩ := R.heap k blk hk
   exact ⟨l, l1, RB.mono ⟨hok, fun _ _ => rfl⟩ (E1 _) _ _ (fun _ _ _ => rfl) l2, l3⟩
theorem Bu (R : aI c.base c.X c.nt used ρ tm h a w) (hfresh : ¬ used nid) (hu : ∀ id, used id → used' id) (hn : used' nid) (hd : ∀ t, o.dst = some t → t < c.nt) {tt : TT} (hT : bb c.P tt) {hi : bC} {r : aT}
  (e : iq tt tm h o nid hi = some r) (hc : r.chk) : ct c used' tm h a o r.val r.W ((execOp a.eval o).run c.P w) := by
 unfold iq at e
 split at e
 ·obtain ⟨id, sz, n, ty, m, f, W, chk, e1, rfl⟩ := uQ e
  exact fm.mono (fun v w' ⟨ρ', R'⟩ => ⟨ρ', E3 hc.2 R'⟩) (my R hfresh hu hn hd hT e1 hc.1)
 ·unfold sP at e
  split at e
  ·rename_i b _
   obtain ⟨x, W, chk, e1, rfl⟩ := uG e
   obtain ⟨h1, h2⟩ := hc
   subst h2
   have g := my R hfresh hu hn hd hT e1 h1
   exact g
  ·split at e
   ·obtain ⟨k, x, W, chk, e1, rfl⟩ := uP e
    obtain ⟨h1, h2⟩ := hc
    subst h2
    have g := my R hfresh hu hn hd hT e1 h1
    exact g
   ·exact my R hfresh hu hn hd hT e hc
structure Le (tm tm' : Tm) (h h' : Hp) : Prop where
 tm : ∀ t v, tm t = some v → tm' t = some v
 hp : ∀ id b, h id = some b → h' id = some b
theorem bE (L : Le tm tm' h h') {x : Operand} {v : AV} (e : ev tm x = some v) : ev tm' x = some v := by
 cases x with
 | tmp t => exact L.tm t v e
 | const v => exact e
 | func f => exact e
 | global g => exact e
theorem vT (L : Le tm tm' h h') {x : Option Operand} {v : Option AV} (e : fC tm x = some v) : fC tm' x = some v := by
 cases x with
 | none => exact e
 | some x =>
  simp only [fC] at e ⊢
  split at e
  ·rename_i v' hv; rw [bE L hv]; exact e
  ·cases e
theorem lU (L : Le tm tm' h h') : ∀ {l : List (Nat × Operand)} {r : List (Nat × List C)}, em tm l = some r → em tm' l = some r
 | [], r, e => e
 | (i, x) :: l, r, e => by
  simp only [em] at e ⊢
  split at e
  ·rename_i av hav
   rw [bE L hav]
   split at e
   ·rename_i cs r' hcs hr
    simp only [hcs, lU L hr]; exact e
   ·cases e
  ·cases e
theorem qC (L : Le tm tm' h h') {p : C} {j : Nat} {x : C} (e : dh h p j = some x) : dh h' p j = some x ∧ ∀ s, fQ h' p s = fQ h p s := by
 match p with
 | .ptr id sz e0 sub =>
  simp only [dh] at e ⊢
  cases hb : h id with
  | none => simp [hb] at e
  | some b =>
   rw [hb] at e
   rw [L.hp id b hb]
   exact ⟨e, fun s => by simp only [fQ, hb, L.hp id b hb]⟩
 | .t (.eptr sz g sub) => exact ⟨e, fun s => rfl⟩
 | .t (.v _) => cases e
 | .t (.tree ..) => cases e
 | .t (.tst _) => cases e
 | .t (.mp ..) => cases e
 | .ref .. => cases e
theorem uH (L : Le tm tm' h h') {p : C} : ∀ {s j : Nat} {l : List C}, ff h p j s = some l → ff h' p j s = some l
 | 0, j, l, e => e
 | s + 1, j, l, e => by
  simp only [ff] at e ⊢
  split at e
  ·rename_i x hx
   rw [(qC L hx).1]
   split at e
   ·rename_i l' hl
    simp only [uH L hl]; exact e
   ·cases e
  ·cases e
theorem Ae (L : Le tm tm' h h') {tt : TT} {t : TypeId} {p : AV} {r : AV × Prop} (e : eJ tt t h p = some r) : eJ tt t h' p = some r := by
 unfold eJ at e ⊢
 split at e
 ·rename_i p i hti
  split at e
  ·rename_i hagg
   try simp only [hti, hagg]
   split at e
   ·cases e
   ·rename_i s hs
    split at e
    ·rename_i l hl
     have hc := qB hl
     obtain ⟨c0, c1, _⟩ := hc.2 0 (by omega)
     simp only [uH L hl]
     rw [← e, (qC L c1).2]
    ·cases e
  ·rename_i hagg
   try simp only [hti, hagg]
   split at e
   ·rename_i x hx
    obtain ⟨h1, h2⟩ := qC L hx
    simp only [h1, h2]; exact e
   ·cases e
 ·cases e
theorem q7 (L : Le tm tm' h h') {sz : Nat} {x : AV} {r : Nat × (Nat → Nat → T) × Prop} (e : eO h sz x = some r) : eO h' sz x = some r := by
 unfold eO at e ⊢
 split at e
 ·exact e
 ·exact e
 ·exact e
 ·rename_i id sz' off m
  split at e
  ·rename_i h1
   rw [if_pos h1]
   split at e
   ·rename_i hid
    simp only [L.hp _ _ hid]; exact e
   ·cases e
  ·cases e
 ·cases e
theorem AE (L : Le tm tm' h h') {el : TypeId} {sz : Nat} {x : AV} {r : Nat × (Nat → Nat → T) × Option Nat × Prop} (e : jZ h el sz x = some r) : jZ h' el sz x = some r := by
 unfold jZ at e ⊢
 split at e
 ·exact e
 ·rename_i id sz' off m
  split at e
  ·rename_i h1
   rw [if_pos h1]
   split at e
   ·rename_i hid
    simp only [L.hp _ _ hid]; exact e
   ·cases e
  ·cases e
 ·cases e
theorem zA (L : Le tm tm' h h') {tt : TT} {t tx : TypeId} {s x : AV} {hi : bC} {r : aT} (e : gT tt h t tx s x nid hi = some r) : gT tt h' t tx s x nid hi = some r := by
 unfold gT at e ⊢
 split at e
 ·rename_i hti
  try simp only [hti]
  split at e
  ·rename_i hie
   try simp only [hie]
   split at e
   ·rename_i hc
    rw [if_pos hc]
    split at e
    ·rename_i h1 h2
     simp only [AE L h1, q7 L h2]; exact e
    ·cases e
   ·cases e
  ·cases e
 ·cases e
theorem zn (L : Le tm tm' h h') {tt : TT} {t tx : TypeId} {s x : AV} {hi : bC} {r : aT} (e : gM tt h t tx s x nid hi = some r) : gM tt h' t tx s x nid hi = some r := by
 unfold gM at e ⊢
 split at e
 ·rename_i hti
  try simp only [hti]
  split at e
  ·rename_i hie
   try simp only [hie]
   split at e
   ·rename_i hc
    rw [if_pos hc]
    split at e
    ·rename_i h2
     simp only [q7 L h2]
     split at e
     ·rename_i h3
      rw [if_pos h3]
      split at e
      ·rename_i h4
       simp only [L.hp _ _ h4]; exact e
      ·cases e
     ·cases e
    ·cases e
   ·cases e
  ·cases e
 ·cases e
theorem zM (L : Le tm tm' h h') {tt : TT} {t : TypeId} {p x : AV} {hi : bC} {r : aT} (e : gY tt tm h t p x hi = some r) : gY tt tm' h' t p x hi = some r := by
 unfold gY at e ⊢
 split at e
 ·rename_i i l hti hl
  try simp only [hti, hl]
  split at e
  ·rename_i hls
   rw [if_pos hls]
   split at e
   ·rename_i id sz e0 sub
    split at e
    ·rename_i hid; simp only [L.hp _ _ hid]; exact e
    ·rename_i hid; simp only [L.hp _ _ hid]; exact e
    ·cases e
   ·cases e
  ·cases e
 ·cases e
theorem zN (L : Le tm tm' h h') {tt : TT} {src dst : TypeId} {x : AV} {hi : bC} {r : AV × Prop} (e : gZ tt dst h src x hi = some r) : gZ tt dst h' src x hi = some r := by
 unfold gZ at e ⊢
 split at e
 ·rename_i hti; (try simp only [hti]); exact e
 ·rename_i hti
  try simp only [hti]
  split at e
  ·exact e
  ·split at e
   ·rename_i hsi
    try simp only [hsi]
    split at e
    ·rename_i h1 h2 h3
     simp only [h1, h2, q7 L h3]; exact e
    ·cases e
   ·cases e
 ·cases e
theorem zO (L : Le tm tm' h h') {tt : TT} {t : TypeId} {l : List (Nat × Operand)} {r : AV × Prop} (e : gW tt tm t l = some r) : gW tt tm' t l = some r := by
 unfold gW at e ⊢
 split at e
 ·rename_i h1 h2; simp only [h1, lU L h2]; exact e
 ·cases e
theorem yC (L : Le tm tm' h h') {tt : TT} {t : TypeId} {len : Nat} {l : List (Nat × Operand)} {hi : bC} {r : aT} (e : gB tt tm t len l nid hi = some r) : gB tt tm' t len l nid hi = some r := by
 unfold gB at e ⊢
 split at e
 ·rename_i h2; simp only [lU L h2]; exact e
 ·cases e
theorem qD (L : Le tm tm' h h') : ∀ {l r : List C} {p : Prop}, dC h l = some (r, p) → dC h' l = some (r, p)
 | [], r, p, e => e
 | .ref id sz 0 n :: l, r, p, e => by
  simp only [dC] at e ⊢
  split at e
  ·rename_i hid hr
   simp only [L.hp _ _ hid, qD L hr]; exact e
  ·cases e
 | .ref id sz (_ + 1) n :: l, r, p, e => by simp only [dC] at e; cases e
 | .ptr .. :: l, r, p, e => by simp only [dC] at e; cases e
 | .t x :: l, r, p, e => by
  simp only [dC] at e ⊢
  split at e
  ·rename_i hr
   simp only [qD L hr]; exact e
  ·cases e
theorem uR (L : Le tm tm' h h') : ∀ {q r : List (Nat × List C)} {p : Prop}, fo h q = some (r, p) → fo h' q = some (r, p)
 | [], r, p, e => e
 | (i, l) :: q, r, p, e => by
  simp only [fo] at e ⊢
  split at e
  ·rename_i h1 h2
   simp only [qD L h1, uR L h2]; exact e
  ·cases e
theorem yp (L : Le tm tm' h h') {tt : TT} {t : TypeId} {len : Nat} {l : List (Nat × Operand)} {hi : bC} {r : aT} (e : II tt tm h t len l nid hi = some r) : II tt tm' h' t len l nid hi = some r := by
 unfold II at e ⊢
 split at e
 ·rename_i h1
  simp only [lU L h1]
  split at e
  ·rename_i h2
   simp only [uR L h2]; exact e
  ·cases e
 ·cases e
theorem zP (L : Le tm tm' h h') {tt : TT} {el : TypeId} {x : Operand} {hi : bC} {r : aT} (e : gX tt tm el x nid hi = some r) : gX tt tm' el x nid hi = some r := by
 unfold gX at e ⊢
 split at e
 ·rename_i h1; simp only [bE L h1]; exact e
 ·cases e
theorem q8 (L : Le tm tm' h h') {mx : Bool} : ∀ {l : List Operand} {m r : Int}, dV tm mx l m = some r → dV tm' mx l m = some r
 | [], m, r, e => e
 | x :: l, m, r, e => by
  simp only [dV] at e ⊢
  split at e
  ·rename_i hx; simp only [bE L hx]; exact q8 L e
  ·cases e
theorem Af (L : Le tm tm' h h') {b : Builtin} {x : Operand} {l : List Operand} {r : aT} (e : jP tm b x l = some r) : jP tm' b x l = some r := by
 unfold jP at e ⊢
 split at e
 ·rename_i hx
  simp only [bE L hx]
  split at e
  ·split at e
   ·rename_i hr; simp only [q8 L hr]; exact e
   ·cases e
  ·split at e
   ·rename_i hr; simp only [q8 L hr]; exact e
   ·cases e
  ·cases e
 ·cases e
theorem zo (L : Le tm tm' h h') {tt : TT} {b : Builtin} {args : List Operand} {ts : List TypeId} {hi : bC} {r : aT} (e : gN tt tm h b args ts nid hi = some r) : gN tt tm' h' b args ts nid hi = some r := by
 unfold gN at e ⊢
 split at e
 ·split at e
  ·rename_i h1; simp only [bE L h1]; exact e
  ·cases e
 ·split at e
  ·rename_i h1 h2
   simp only [bE L h1, bE L h2]
   split at e
   ·split at e
    ·rename_i hk
     try simp only [hk]
     exact zn L e
    ·rename_i hk
     try simp only [hk]
     split at e
     ·exact e
     ·exact zA L e
   ·exact e
   ·exact e
   ·cases e
  ·cases e
 ·exact Af L e
 ·cases e
theorem Ag (L : Le tm tm' h h') {tt : TT} {t : TypeId} {x m : Operand} {lo hi : Option Operand} {hq : bC} {r : aT} (e : IY tt tm t x lo hi m nid hq = some r) : IY tt tm' t x lo hi m nid hq = some r := by
 unfold IY at e ⊢
 split at e
 ·split at e
  ·rename_i h1 h2
   simp only [bE L h1, bE L h2]
   split at e
   ·rename_i hti
    split at e
    ·rename_i hie hx
     simp only [hie, bE L hx]
     exact e
    ·cases e
   ·cases e
  ·cases e
 ·cases e
theorem Ah (L : Le tm tm' h h') {tt : TT} {t : TypeId} {x m lo hi : Operand} {r : AV × Prop} (e : ia tt tm t x lo hi m = some r) : ia tt tm' t x lo hi m = some r := by
 unfold ia at e ⊢
 split at e
 ·rename_i hti
  split at e
  ·rename_i hie hx
   simp only [hie, bE L hx]
   split at e
   ·rename_i h1 h2 h3
    simp only [bE L h1, bE L h2, bE L h3]
    exact e
   ·cases e
  ·cases e
 ·cases e
theorem q9 (L : Le tm tm' h h') : ∀ {l : List Operand} {r : List S1}, eP tm l = some r → eP tm' l = some r
 | [], r, e => e
 | x :: l, r, e => by
  simp only [eP] at e ⊢
  split at e
  ·rename_i v hv
   simp only [bE L hv]
   split at e
   ·rename_i h1 h2; simp only [h1, q9 L h2]; exact e
   ·cases e
  ·cases e
theorem AF (L : Le tm tm' h h') {f : FuncId} {x y : List Operand} {r : aT} (e : ij tm f x y = some r) : ij tm' f x y = some r := by
 unfold ij at e ⊢
 split at e
 ·rename_i h1 h2; simp only [q9 L h1, q9 L h2]; exact e
 ·cases e
theorem mz (L : Le tm tm' h h') {tt : TT} {hi : bC} {r : aT} (e : eQ tt tm h o nid hi = some r) : eQ tt tm' h' o nid hi = some r := by
 unfold eQ at e ⊢
 split at e
 case h_1 x ho =>
  split at e
  ·rename_i h1; simp only [bE L h1]; exact e
  ·cases e
 case h_2 x ho =>
  split at e
  ·rename_i h1; simp only [bE L h1]; exact e
  ·cases e
 case h_3 cc x y ho =>
  split at e
  ·rename_i h1
   simp only [bE L h1]
   split at e
   ·rename_i h2; simp only [bE L h2]; exact e
   ·cases e
  ·rename_i h1
   simp only [bE L h1]
   split at e
   ·rename_i h2; simp only [bE L h2]; exact e
   ·cases e
  ·cases e
 case h_4 el ho => exact e
 case h_5 el x ho => exact zP L e
 case h_6 t parts ho =>
  obtain ⟨p, hp, rfl⟩ := cD e
  rw [zO L hp]; rfl
 case h_7 t len parts ho =>
  split at e
  ·rename_i hk; try simp only [hk]
   exact yp L e
  ·rename_i hk; try simp only [hk]
   exact yC L e
 case h_8 t p ho =>
  split at e
  ·rename_i h1
   simp only [bE L h1]
   obtain ⟨p, hp, rfl⟩ := cD e
   rw [Ae L hp]; rfl
  ·cases e
 case h_9 t p x ho =>
  split at e
  ·rename_i h1 h2; simp only [bE L h1, bE L h2]; exact zM L e
  ·cases e
 case h_10 x ho =>
  split at e
  ·rename_i h1; simp only [bE L h1]; exact e
  ·rename_i h1; simp only [bE L h1]; exact e
  ·cases e
 case h_11 op t x y yt ho =>
  split at e
  ·rename_i h1 h2; simp only [bE L h1, bE L h2]; exact e
  ·cases e
 case h_12 op t x ho =>
  split at e
  ·rename_i h1; simp only [bE L h1]; exact e
  ·cases e
 case h_13 src dst x ho =>
  split at e
  ·rename_i h1 h2
   simp only [bE L h1, h2]
   split at e
   ·exact e
   ·obtain ⟨p, hp, rfl⟩ := cD e
    rw [zN L hp]; rfl
  ·cases e
 case h_14 t l cp ho =>
  split at e
  ·rename_i h1 h2; simp only [bE L h1, bE L h2]; exact e
  ·cases e
 case h_15 t x lo hi' mx ho =>
  split at e
  ·split at e
   ·rename_i h1 h2 h3; simp only [bE L h1, vT L h2, vT L h3]; exact e
   ·cases e
  ·split at e
   ·obtain ⟨q, hq, rfl⟩ := cD e
    rw [Ah L hq]; rfl
   ·exact Ag L e
 case h_16 s x f ho =>
  split at e
  ·rename_i h1; simp only [bE L h1]; exact e
  ·cases e
 case h_17 t x f ho =>
  split at e
  ·rename_i h1; simp only [bE L h1]; exact e
  ·cases e
 case h_18 t x ix ho =>
  split at e
  ·rename_i h1 h2; simp only [bE L h1, bE L h2]; exact e
  ·cases e
 case h_19 t x ix ho =>
  split at e
  ·rename_i h1 h2; simp only [bE L h1, bE L h2]; exact e
  ·cases e
 case h_20 x i ho =>
  split at e
  ·rename_i h1; simp only [bE L h1]; exact e
  ·cases e
 case h_21 cl ho =>
  split at e
  ·exact zo L e
  ·cases e
 case h_22 f first cap ho => exact AF L e
 case h_23 => cases e
theorem Bv (L : Le tm tm' h h') {tt : TT} {hi : bC} {r : aT} (e : iq tt tm h o nid hi = some r) : iq tt tm' h' o nid hi = some r := by
 unfold iq at e ⊢
 split at e
 ·obtain ⟨id, sz, n, ty, m, f, W, chk, e1, rfl⟩ := uQ e
  rw [mz L e1] at *
  rw [← e, e1]
 ·unfold sP at e ⊢
  split at e
  ·obtain ⟨x, W, chk, e1, rfl⟩ := uG e
   rw [mz L e1] at *
   rw [← e, e1]
  ·split at e
   ·obtain ⟨k, x, W, chk, e1, rfl⟩ := uP e
    rw [mz L e1] at *
    rw [← e, e1]
   ·exact mz L e
end
def look {α : Type} : List (Nat × α) → Nat → Option α
 | [], _ => none
 | (k, v) :: l, i => bif Nat.beq k i then some v else look l i
theorem bo {α : Type} (k : Nat) (v : α) (l : List (Nat × α)) (i : Nat) : look ((k, v) :: l) i = if k = i then some v else look l i := by
 simp only [look]
 by_cases h : k = i
 ·simp [h]
 ·have : Nat.beq k i = false := by simpa [← Nat.beq_eq] using h
  simp [this, h]
def Cs (P : Program) (f : FuncId) (args : List AV) (inb : List (Nat × az)) (out : AV) (outb : List (Nat × az)) : Prop :=
 ∀ (w : World) (okA : Nat → Prop) (ρ : Ren) (vs : Array Value), (∀ b, okA b → b < w.heap.size) → (∀ id, ρ id ≠ none → ∃ b, look inb id = some b) →
  (∀ id blk, look inb id = some blk → ∃ l, ρ id = some l ∧ RB w okA ρ blk l ∧ ∀ b cap, l = .at b cap → b < w.heap.size ∧ ¬ okA b) →
  (∀ i j b c c', ρ i = some (.at b c) → ρ j = some (.at b c') → i = j) → ap (RV w okA ρ) args vs.toList →
  Calls P f vs w fun e w' => ∃ v ρ', e = .returned v ∧ bA ρ ρ' ∧ bM (fun b => ∃ id cap, ρ id = some (.at b cap)) w w' ∧ RV w' (okOf ⟨w, okA, ρ⟩ w' ρ' (look outb)) ρ' out v ∧
   (∀ id blk, look outb id = some blk → ∃ l, ρ' id = some l ∧ RB w' (okOf ⟨w, okA, ρ⟩ w' ρ' (look outb)) ρ' blk l ∧ ∀ b cap, l = .at b cap → b < w'.heap.size ∧ (w.heap.size ≤ b ∨ ∃ id cap, ρ id = some (.at b cap))) ∧
   (∀ i j b c c' x y, look outb i = some x → look outb j = some y → (x.mut = true ∨ y.mut = true) → ρ' i = some (.at b c) → ρ' j = some (.at b c') → i = j)
def eF (P : Program) (f : FuncId) : Prop := ∃ fn, P.funcs[f]? = some fn ∧ (fn.name == "runtime.NumGoroutine") = false ∧ fn.body.isNone = false
def cz (P : Program) (f : FuncId) (args : List AV) (inb : List (Nat × az)) (out : AV) (outb : List (Nat × az)) : Prop := eF P f ∧ Cs P f args inb out outb
theorem eF.run {P : Program} {f : FuncId} (h : eF P f) (w : World) (args : Array Value) : (callFunc f args).run P w = .ok (.enter f args) w := by
 obtain ⟨fn, h1, h2, h3⟩ := h
 simp only [callFunc, Sem.run_bind, run_program, Result.andThen_ok, h1]
 rw [h2, h3]
 rfl
def C.ren (σ : Nat → Nat) : C → C
 | .t x => .t x
 | .ref id sz off n => .ref (σ id) sz off n
 | .ptr id sz e sub => .ptr (σ id) sz e sub
def j5 (σ : Nat → Nat) : List C → List C
 | [] => []
 | x :: l => x.ren σ :: j5 σ l
def S1.ren (σ : Nat → Nat) : S1 → S1
 | .c x => .c (x.ren σ)
 | .agg l => .agg (j5 σ l)
def ng (σ : Nat → Nat) : List S1 → List S1
 | [] => []
 | x :: l => x.ren σ :: ng σ l
def AV.ren1 (σ : Nat → Nat) : AV → AV
 | .c x => .c (x.ren σ)
 | .agg l => .agg (j5 σ l)
 | .fagg n f => .fagg n f
 | .tup l => .tup l
 | .clo f a b => .clo f (ng σ a) (ng σ b)
def sx (σ : Nat → Nat) : List AV → List AV
 | [] => []
 | x :: l => x.ren1 σ :: sx σ l
def AV.ren (σ : Nat → Nat) : AV → AV
 | .tup l => .tup (sx σ l)
 | x => x.ren1 σ
def az.ren (σ : Nat → Nat) : az → az
 | .box ty cs => .box ty (j5 σ cs)
 | .row ty fro sz n f => .row ty fro sz n f
def C.ids : C → List Nat
 | .t _ => []
 | .ref id .. => [id]
 | .ptr id .. => [id]
def fZ : List C → List Nat
 | [] => []
 | x :: l => x.ids ++ fZ l
def S1.ids : S1 → List Nat
 | .c x => x.ids
 | .agg l => fZ l
def ib : List S1 → List Nat
 | [] => []
 | x :: l => x.ids ++ ib l
def AV.ids1 : AV → List Nat
 | .c x => x.ids
 | .agg l => fZ l
 | .clo _ a b => ib a ++ ib b
 | _ => []
def jQ : List AV → List Nat
 | [] => []
 | x :: l => x.ids1 ++ jQ l
def AV.ids : AV → List Nat
 | .tup l => jQ l
 | x => x.ids1
def az.ids : az → List Nat
 | .box _ cs => fZ cs
 | .row .. => []
def C.flat : C → Bool
 | .t (.v _) => true
 | .t _ => false
 | _ => true
def fS : List C → Bool
 | [] => true
 | x :: l => x.flat && fS l
def S1.flat : S1 → Bool
 | .c x => x.flat
 | .agg l => fS l
def IU : List S1 → Bool
 | [] => true
 | x :: l => x.flat && IU l
def AV.flat1 : AV → Bool
 | .c x => x.flat
 | .agg l => fS l
 | .clo _ a b => IU a && IU b
 | _ => false
def jH : List AV → Bool
 | [] => true
 | x :: l => x.flat1 && jH l
def AV.flat : AV → Bool
 | .tup l => jH l
 | x => x.flat1
def j8 : T → Prop
 | .v _ => True
 | _ => False
def az.flat : az → Prop
 | .box _ cs => fS cs = true
 | .row _ _ sz n f => ∀ i, i < n → ∀ j, j < sz → j8 (f i j)
def flatB : List (Nat × az) → Prop
 | [] => True
 | (_, b) :: l => b.flat ∧ flatB l
section
variable {w : World} {ok ok' : Nat → Prop} {ρ ρ' : Ren} {σ : Nat → Nat}
theorem RC.ren_ {x : C} {y : Value} (hok : x.flat = true ∨ ∀ b, ok b → ok' b) (hid : ∀ j ∈ x.ids, ∀ l, ρ j = some l → ρ' (σ j) = some l) (h : RC w ok ρ x y) : RC w ok' ρ' (x.ren σ) y := by
 cases x with
 | t x =>
  rcases hok with hok | hok
  ·cases x with
   | v v => exact h
   | tree n sz f => simp [C.flat] at hok
   | eptr sz g sub => simp [C.flat] at hok
   | tst p => simp [C.flat] at hok
   | mp P t l => simp [C.flat] at hok
  ·exact RT.mono ⟨hok, fun _ _ => rfl⟩ _ _ h
 | ref id sz off n => obtain ⟨l, h1, h2⟩ := h; exact ⟨l, hid id (by simp [C.ids]) l h1, h2⟩
 | ptr id sz e sub => obtain ⟨b, cap, h1, h2⟩ := h; exact ⟨b, cap, hid id (by simp [C.ids]) _ h1, h2⟩
theorem mX : ∀ {l : List C} {ys : List Value}, (fS l = true ∨ ∀ b, ok b → ok' b) → (∀ j ∈ fZ l, ∀ x, ρ j = some x → ρ' (σ j) = some x) → ap (RC w ok ρ) l ys → ap (RC w ok' ρ') (j5 σ l) ys
 | [], [], _, _, _ => trivial
 | x :: l, y :: ys, hok, hid, ⟨h1, h2⟩ => ⟨RC.ren_ (hok.imp (fun h => by simp [fS] at h; exact h.1) id) (fun j hj => hid j (by simp [fZ, hj])) h1,
   mX (hok.imp (fun h => by simp [fS] at h; exact h.2) id) (fun j hj => hid j (by simp [fZ, hj])) h2⟩
 | [], _ :: _, _, _, h => h.elim
 | _ :: _, [], _, _, h => h.elim
theorem RS.ren_ {x : S1} {y : Value} (hok : x.flat = true ∨ ∀ b, ok b → ok' b) (hid : ∀ j ∈ x.ids, ∀ l, ρ j = some l → ρ' (σ j) = some l) (h : RS w ok ρ x y) : RS w ok' ρ' (x.ren σ) y := by
 cases x with
 | c x => exact RC.ren_ hok hid h
 | agg l => obtain ⟨ys, h1, h2⟩ := h; exact ⟨ys, h1, mX hok hid h2⟩
theorem rG : ∀ {l : List S1} {ys : List Value}, (IU l = true ∨ ∀ b, ok b → ok' b) → (∀ j ∈ ib l, ∀ x, ρ j = some x → ρ' (σ j) = some x) → ap (RS w ok ρ) l ys → ap (RS w ok' ρ') (ng σ l) ys
 | [], [], _, _, _ => trivial
 | x :: l, y :: ys, hok, hid, ⟨h1, h2⟩ => ⟨RS.ren_ (hok.imp (fun h => by simp [IU] at h; exact h.1) id) (fun j hj => hid j (by simp [ib, hj])) h1,
   rG (hok.imp (fun h => by simp [IU] at h; exact h.2) id) (fun j hj => hid j (by simp [ib, hj])) h2⟩
 | [], _ :: _, _, _, h => h.elim
 | _ :: _, [], _, _, h => h.elim
theorem R1.ren_ {x : AV} {y : Value} (hok : x.flat1 = true ∨ ∀ b, ok b → ok' b) (hid : ∀ j ∈ x.ids1, ∀ l, ρ j = some l → ρ' (σ j) = some l) (h : R1 w ok ρ x y) : R1 w ok' ρ' (x.ren1 σ) y := by
 cases x with
 | c x => exact RC.ren_ hok hid h
 | agg l => obtain ⟨ys, h1, h2⟩ := h; exact ⟨ys, h1, mX hok hid h2⟩
 | fagg n f =>
  rcases hok with hok | hok
  ·simp [AV.flat1] at hok
  ·exact R1.mono ⟨hok, fun _ _ => rfl⟩ (ρ := fun _ => none) (ρ' := ρ') (fun _ _ h => by cases h) (.fagg n f) y h
 | tup l => exact h.elim
 | clo f a b => obtain ⟨fs, cs, h1, h2, h3⟩ := h; exact ⟨fs, cs, h1, rG (hok.imp (fun h => by simp [AV.flat1] at h; exact h.1) id) (fun j hj => hid j (by simp [AV.ids1, hj])) h2, rG (hok.imp (fun h => by simp [AV.flat1] at h; exact h.2) id) (fun j hj => hid j (by simp [AV.ids1, hj])) h3⟩
theorem vU : ∀ {l : List AV} {ys : List Value}, (jH l = true ∨ ∀ b, ok b → ok' b) → (∀ j ∈ jQ l, ∀ x, ρ j = some x → ρ' (σ j) = some x) → ap (R1 w ok ρ) l ys → ap (R1 w ok' ρ') (sx σ l) ys
 | [], [], _, _, _ => trivial
 | x :: l, y :: ys, hok, hid, ⟨h1, h2⟩ => ⟨R1.ren_ (hok.imp (fun h => by simp [jH] at h; exact h.1) id) (fun j hj => hid j (by simp [jQ, hj])) h1,
   vU (hok.imp (fun h => by simp [jH] at h; exact h.2) id) (fun j hj => hid j (by simp [jQ, hj])) h2⟩
 | [], _ :: _, _, _, h => h.elim
 | _ :: _, [], _, _, h => h.elim
theorem RV.ren_ {x : AV} {y : Value} (hok : x.flat = true ∨ ∀ b, ok b → ok' b) (hid : ∀ j ∈ x.ids, ∀ l, ρ j = some l → ρ' (σ j) = some l) (h : RV w ok ρ x y) : RV w ok' ρ' (x.ren σ) y := by
 cases x with
 | c x => exact R1.ren_ (x := .c x) hok hid h
 | agg l => exact R1.ren_ (x := .agg l) hok hid h
 | fagg n f => exact R1.ren_ (x := .fagg n f) hok hid h
 | clo f a b => exact R1.ren_ (x := .clo f a b) hok hid h
 | tup l => obtain ⟨ys, h1, h2⟩ := h; exact ⟨ys, h1, vU hok hid h2⟩
theorem Cc {x : T} {y : Value} (h : j8 x) (hr : RT w ok x y) : RT w ok' x y := by
 cases x with
 | v v => exact hr
 | tree n sz f => exact h.elim
 | eptr sz g sub => exact h.elim
 | tst p => exact h.elim
 | mp P t l => exact h.elim
theorem RB.ren_ {x : az} {l : dd} (hok : x.flat ∨ ∀ b, ok b → ok' b) (hid : ∀ j ∈ x.ids, ∀ l, ρ j = some l → ρ' (σ j) = some l) (h : RB w ok ρ x l) : RB w ok' ρ' (x.ren σ) l := by
 cases x with
 | box ty cs => obtain ⟨b, vs, h1, h2, h3⟩ := h; exact ⟨b, vs, h1, h2, mX hok hid h3⟩
 | row ty fro sz n f =>
  cases l with
  | nil => exact h
  | _ b cap =>
   obtain ⟨h0, vs, fz, h1, h2, h3, h4⟩ := h
   refine ⟨h0, vs, fz, h1, h2, h3, fun i hi j hj => ?_⟩
   obtain ⟨v, v1, v2⟩ := h4 i hi j hj
   refine ⟨v, v1, ?_⟩
   rcases hok with hok | hok
   ·exact Cc (hok i hi j hj) v2
   ·exact RT.mono ⟨hok, fun _ _ => rfl⟩ _ _ v2
end
def fT (ids : List Nat) (id : Nat) : Option Nat := match ids with
 | [] => none
 | k :: l => bif Nat.beq k id then some 0 else match fT l id with
  | some i => some (i + 1)
  | none => none
theorem qR : ∀ {ids : List Nat} {id i : Nat}, fT ids id = some i → ids[i]? = some id
 | k :: l, id, i, h => by
  simp only [fT] at h
  by_cases e : k = id
  ·subst e; simp at h; subst h; simp
  ·have e' : Nat.beq k id = false := by simpa [← Nat.beq_eq] using e
   simp only [e', cond_false] at h
   split at h
   ·rename_i j hj
    injection h with h
    subst h
    simpa using qR hj
   ·cases h
 | [], _, _, h => by cases h
theorem u4 : ∀ {ids : List Nat} {id : Nat}, fT ids id = none → id ∉ ids
 | k :: l, id, h => by
  simp only [fT] at h
  by_cases e : k = id
  ·subst e; simp at h
  ·have e' : Nat.beq k id = false := by simpa [← Nat.beq_eq] using e
   simp only [e', cond_false] at h
   split at h
   ·cases h
   ·rename_i hj
    simp only [F1, not_or]
    exact ⟨fun x => e x.symm, u4 hj⟩
 | [], _, _ => by simp
structure CI where
 ids : List Nat := []
 frz : List Nat := []
 flat : Bool := true
 cnt : Nat := 0
 args : List AV
 out : AV
 outb : List (Nat × az) := []
def j6 (off : Nat) (f : Nat → Nat → T) : Nat → Nat → T := match off with
 | 0 => f
 | _ => fun i j => f (off + i) j
theorem rZ (off : Nat) (f : Nat → Nat → T) (i j : Nat) : j6 off f i j = f (off + i) j := by
 cases off with
 | zero => simp [j6]
 | succ n => rfl
def Hw (h : Hp) (ci : CI) : C → Option (C × Prop)
 | .t x => some (.t x, True)
 | .ref id sz off n => match fT ci.ids id with
  | some i => some (.ref i sz off n, True)
  | none => match h id with
   | some (.row _ fro sz' m f) => if sz = sz' ∧ (fro || ci.flat || ci.frz.contains id) then some (.t (.tree n sz (j6 off f)), off + n ≤ m) else none
   | _ => none
 | .ptr id sz e sub => match fT ci.ids id with
  | some i => some (.ptr i sz e sub, True)
  | none => none
def eR (h : Hp) (ci : CI) : List C → Option (List C × Prop)
 | [] => some ([], True)
 | x :: l => match Hw h ci x, eR h ci l with
  | some (y, p), some (r, q) => some (y :: r, p ∧ q)
  | _, _ => none
def fx (h : Hp) (ci : CI) : S1 → Option (S1 × Prop)
 | .c x => match Hw h ci x with
  | some (y, p) => some (.c y, p)
  | none => none
 | .agg l => match eR h ci l with
  | some (r, p) => some (.agg r, p)
  | none => none
def eK (h : Hp) (ci : CI) : List S1 → Option (List S1 × Prop)
 | [] => some ([], True)
 | x :: l => match fx h ci x, eK h ci l with
  | some (y, p), some (r, q) => some (y :: r, p ∧ q)
  | _, _ => none
def d7 (h : Hp) (ci : CI) : AV → Option (AV × Prop)
 | .c x => match Hw h ci x with
  | some (y, p) => some (.c y, p)
  | none => none
 | .agg l => match eR h ci l with
  | some (r, p) => some (.agg r, p)
  | none => none
 | .fagg n f => some (.fagg n f, True)
 | .tup _ => none
 | .clo f a b => match eK h ci a, eK h ci b with
  | some (a', p), some (b', q) => some (.clo f a' b', p ∧ q)
  | _, _ => none
def fD (tm : Tm) : List Operand → Option (List AV)
 | [] => some []
 | x :: l => match ev tm x, fD tm l with
  | some v, some r => some (v :: r)
  | _, _ => none
def fq (h : Hp) (ci : CI) : List AV → Option (List AV × Prop)
 | [] => some ([], True)
 | v :: l => match d7 h ci v, fq h ci l with
  | some (y, p), some (r, q) => some (y :: r, p ∧ q)
  | _, _ => none
def IV (tm : Tm) (h : Hp) (ci : CI) (a b : List S1) (l : List Operand) : Option (List AV × Prop) := match fD tm l with
 | some vs => fq h ci (a.map EZ ++ (vs ++ b.map EZ))
 | none => none
def aR (x y : AV) : Prop := ∀ (w : World) (ok : Nat → Prop) (ρ : Ren) (v : Value), RV w ok ρ x v → RV w ok ρ y v
theorem aR.refl (x : AV) : aR x x := fun _ _ _ _ h => h
theorem Kj {x : List AV} : ap aR x x := by
 induction x with
 | nil => trivial
 | cons a l ih => exact ⟨aR.refl a, ih⟩
theorem uS {P : List AV} {w : World} {ok : Nat → Prop} {ρ : Ren} : ∀ {l m : List AV} {vs : List Value}, ap aR l m → ap (RV w ok ρ) l vs → ap (RV w ok ρ) m vs
 | [], [], [], _, _ => trivial
 | _ :: _, _ :: _, _ :: _, ⟨a, b⟩, ⟨c, d⟩ => ⟨a _ _ _ _ c, uS (P := P) b d⟩
 | [], _ :: _, _, h, _ => h.elim
 | _ :: _, [], _, h, _ => h.elim
 | _ :: _, _ :: _, [], _, h => h.elim
 | [], [], _ :: _, _, h => h.elim
def xe (l : List C) : Bool := match dq l with
 | some _ => true
 | none => false
def ew (h : Hp) : List Nat → Nat → Option (List (Nat × az))
 | [], _ => some []
 | id :: l, i => match h id, ew h l (i + 1) with
  | some (.box ty cs), some r => if xe cs then some ((i, .box ty cs) :: r) else none
  | some (.row ty false sz n f), some r => some ((i, .row ty false sz n f) :: r)
  | _, _ => none
def cZ (ids : List Nat) (k nid : Nat) (j : Nat) : Nat := match ids[j]? with
 | some id => id
 | none => nid + (j - k)
def fr (ids : List Nat) (outb : List (Nat × az)) (σ : Nat → Nat) : Nat → List (Nat × Option az)
 | i => match ids with
  | [] => []
  | id :: l => (id, match look outb i with
   | some b => some (b.ren σ)
   | none => none) :: fr l outb σ (i + 1)
def eS (k : Nat) (σ : Nat → Nat) : List (Nat × az) → List (Nat × Option az)
 | [] => []
 | (j, b) :: l => bif Nat.blt j k then eS k σ l else (σ j, some (b.ren σ)) :: eS k σ l
def fy (h : Hp) : List Nat → Option (List (Nat × Option az))
 | [] => some []
 | id :: l => match h id, fy h l with
  | some (.row ty _ sz n f), some r => some ((id, some (.row ty true sz n f)) :: r)
  | _, _ => none
def wL (outb : List (Nat × az)) (k top : Nat) (l : List Nat) : Bool := l.all fun j => (look outb j).isSome || Nat.blt j k
def jI : List (Nat × az) → List Nat
 | [] => []
 | (_, b) :: l => b.ids ++ jI l
def Ct (l m : List Nat) : Bool := l.all fun x => !m.contains x
def bT : List Nat → Bool
 | [] => true
 | x :: l => !l.contains x && bT l
def fU (P : Program) (tm : Tm) (h : Hp) (f : FuncId) (a b : List S1) (args : List Operand) (nid : Nat) (ci : CI) : Option aT :=
 let k := ci.ids.length
 let σ := cZ ci.ids k nid
 match IV tm h ci a b args, ew h ci.ids 0, fy h ci.frz with
 | some (as, p), some inb, some fw =>
  if bT ci.ids ∧ Ct ci.frz ci.ids ∧ wL ci.outb k (k + ci.cnt) ci.out.ids ∧ wL ci.outb k (k + ci.cnt) (jI ci.outb) ∧ (ci.outb.all fun p => Nat.blt p.1 (k + ci.cnt)) ∧ (ci.flat = false ∨ ci.out.flat = true) then
   some ⟨some (ci.out.ren σ), fr ci.ids ci.outb σ 0 ++ eS k σ ci.outb ++ fw, p ∧ ap aR as ci.args ∧ (ci.flat = true → flatB ci.outb) ∧ cz P f ci.args inb ci.out ci.outb⟩
  else none
 | _, _, _ => none
theorem BR (σ : Nat → Nat) (b : az) : (b.ren σ).mut = b.mut := by cases b <;> rfl
theorem u5 : ∀ {l : List Nat} {i j x : Nat}, bT l = true → l[i]? = some x → l[j]? = some x → i = j
 | [], i, j, x, _, h, _ => by simp at h
 | y :: l, 0, 0, x, _, _, _ => rfl
 | y :: l, 0, j + 1, x, hn, h1, h2 => by
  simp [bT] at hn
  simp at h1 h2
  subst h1
  exact absurd (F5 h2) hn.1
 | y :: l, i + 1, 0, x, hn, h1, h2 => by
  simp [bT] at hn
  simp at h1 h2
  subst h2
  exact absurd (F5 h1) hn.1
 | y :: l, i + 1, j + 1, x, hn, h1, h2 => by
  simp [bT] at hn
  simp at h1 h2
  rw [u5 hn.2 h1 h2]
section
variable {c : Cx} {used used' : Nat → Prop} {ρ ρ' : Ren} {tm : Tm} {h h' : Hp} {a : Act} {w w' : World} {base : cx} {X Y : Nat → Prop} {nt : Nat} {ok ok' : Nat → Prop} {o : Oper} {nid : Nat}
theorem wR : ∀ {l : List C} {r : List T} {ys : List Value}, dq l = some r → (∀ b, ok b → ok' b) → ap (RC w ok ρ) l ys → ap (RC w ok' ρ') l ys
 | [], _, [], _, _, _ => trivial
 | .t x :: l, r, y :: ys, e, hok, ⟨h1, h2⟩ => by
  simp only [dq] at e
  split at e
  ·rename_i r' hr; exact ⟨RT.mono ⟨hok, fun _ _ => rfl⟩ x y h1, wR hr hok h2⟩
  ·cases e
 | .ref .. :: _, _, _ :: _, e, _, _ => by simp [dq] at e
 | .ptr .. :: _, _, _ :: _, e, _, _ => by simp [dq] at e
 | [], _, _ :: _, _, _, h => h.elim
 | .t _ :: _, _, [], _, _, h => h.elim
 | .ref .. :: _, _, [], _, _, h => h.elim
 | .ptr .. :: _, _, [], _, _, h => h.elim
theorem rH : ∀ {ids : List Nat} {s : Nat} {inb : List (Nat × az)}, ew h ids s = some inb → ∀ m id, ids[m]? = some id → ∃ blk, look inb (s + m) = some blk ∧ h id = some blk ∧ blk.mut = true
 | [], s, inb, _, m, id, hm => by simp at hm
 | k :: l, s, inb, e, m, id, hm => by
  simp only [ew] at e
  split at e
  ·rename_i ty cs r hk hr
   split at e
   ·injection e with e
    subst e
    cases m with
    | zero => simp at hm; subst hm; exact ⟨_, by rw [bo, if_pos (by omega)], hk, rfl⟩
    | succ m =>
     obtain ⟨b, b1, b2⟩ := rH hr m id (by simpa using hm)
     exact ⟨b, by rw [bo, if_neg (by omega)]; rw [← b1]; congr 1; omega, b2⟩
   ·cases e
  ·rename_i ty sz n f r hk hr
   injection e with e
   subst e
   cases m with
   | zero => simp at hm; subst hm; exact ⟨_, by rw [bo, if_pos (by omega)], hk, rfl⟩
   | succ m =>
    obtain ⟨b, b1, b2⟩ := rH hr m id (by simpa using hm)
    exact ⟨b, by rw [bo, if_neg (by omega)]; rw [← b1]; congr 1; omega, b2⟩
  ·cases e
theorem Kk : ∀ {ids : List Nat} {s : Nat} {inb : List (Nat × az)}, ew h ids s = some inb → ∀ j blk, look inb j = some blk → ∃ m id, j = s + m ∧ ids[m]? = some id ∧ h id = some blk ∧ (∀ ty cs, blk = .box ty cs → ∃ r, dq cs = some r)
 | [], s, inb, e, j, blk, hj => by simp [ew] at e; subst e; cases hj
 | k :: l, s, inb, e, j, blk, hj => by
  simp only [ew] at e
  split at e
  ·rename_i ty cs r hk hr
   split at e
   ·rename_i hm
    injection e with e
    subst e
    rw [bo] at hj
    split at hj
    ·rename_i e1
     injection hj with hj
     subst hj
     refine ⟨0, k, by omega, by simp, hk, fun ty' cs' e2 => ?_⟩
     injection e2 with _ e2
     subst e2
     unfold xe at hm
     split at hm
     ·rename_i r' hr'; exact ⟨r', hr'⟩
     ·cases hm
    ·obtain ⟨m, id, e1, e2, e3⟩ := Kk hr j blk hj
     exact ⟨m + 1, id, by omega, by simpa using e2, e3⟩
   ·cases e
  ·rename_i ty sz n f r hk hr
   injection e with e
   subst e
   rw [bo] at hj
   split at hj
   ·injection hj with hj
    subst hj
    exact ⟨0, k, by omega, by simp, hk, fun ty' cs' e2 => by cases e2⟩
   ·obtain ⟨m, id, e1, e2, e3⟩ := Kk hr j blk hj
    exact ⟨m + 1, id, by omega, by simpa using e2, e3⟩
  ·cases e
theorem u6 {outb : List (Nat × az)} {σ : Nat → Nat} {V : List (Nat × Option az)} {blk : az} {id : Nat} : ∀ {ids : List Nat} {s : Nat}, aQ h (fr ids outb σ s ++ V) id = some blk →
  (∃ m b, ids[m]? = some id ∧ look outb (s + m) = some b ∧ blk = b.ren σ) ∨ (id ∉ ids ∧ aQ h V id = some blk)
 | [], s, e => .inr ⟨by simp, by simpa [fr] using e⟩
 | k :: l, s, e => by
  simp only [fr, List.cons_append, aQ] at e
  split at e
  ·rename_i hk
   split at e
   ·rename_i b hb
    injection e with e
    exact .inl ⟨0, b, by simp [hk], by simpa using hb, e.symm⟩
   ·cases e
  ·rename_i hk
   rcases u6 e with ⟨m, b, e1, e2, e3⟩ | ⟨e1, e2⟩
   ·exact .inl ⟨m + 1, b, by simpa using e1, by rw [← e2]; congr 1; omega, e3⟩
   ·exact .inr ⟨by simp only [F1, not_or]; exact ⟨fun x => hk x.symm, e1⟩, e2⟩
theorem re {σ : Nat → Nat} {V : List (Nat × Option az)} {blk : az} {id k : Nat} (hσ : ∀ i j, k ≤ i → k ≤ j → σ i = σ j → i = j) : ∀ {outb : List (Nat × az)}, aQ h (eS k σ outb ++ V) id = some blk →
  (∃ j b, k ≤ j ∧ look outb j = some b ∧ id = σ j ∧ blk = b.ren σ) ∨ aQ h V id = some blk
 | [], e => .inr (by simpa [eS] using e)
 | (j, b) :: l, e => by
  simp only [eS] at e
  by_cases hj : j < k
  ·have : Nat.blt j k = true := by simpa using hj
   simp only [this, cond_true] at e
   rcases re hσ e with ⟨i, b', e1, e2, e3⟩ | e1
   ·exact .inl ⟨i, b', e1, by rw [bo, if_neg (by omega)]; exact e2, e3⟩
   ·exact .inr e1
  ·have : Nat.blt j k = false := by
    cases e1 : Nat.blt j k with
    | false => rfl
    | true => exact absurd (by simpa using e1) hj
   simp only [this, cond_false, List.cons_append, aQ] at e
   split at e
   ·rename_i hid
    injection e with e
    exact .inl ⟨j, b, by omega, by rw [bo, if_pos rfl], hid.symm, e.symm⟩
   ·rename_i hid
    rcases re hσ e with ⟨i, b', e1, e2, e3, e4⟩ | e1
    ·refine .inl ⟨i, b', e1, ?_, e3, e4⟩
     rw [bo, if_neg (fun x => hid (by rw [x, e3]))]; exact e2
    ·exact .inr e1
theorem vB {id : Nat} {blk : az} : ∀ {frz : List Nat} {fw : List (Nat × Option az)}, fy h frz = some fw → aQ h fw id = some blk →
  (id ∈ frz ∧ ∃ ty fro sz n f, h id = some (.row ty fro sz n f) ∧ blk = .row ty true sz n f) ∨ (id ∉ frz ∧ h id = some blk)
 | [], fw, e, hb => by simp [fy] at e; subst e; exact .inr ⟨by simp, hb⟩
 | k :: l, fw, e, hb => by
  simp only [fy] at e
  split at e
  ·rename_i ty fro sz n f r hk hr
   injection e with e
   subst e
   simp only [aQ] at hb
   split at hb
   ·rename_i hid
    injection hb with hb
    exact .inl ⟨by simp [hid], ty, fro, sz, n, f, by rw [← hid]; exact hk, hb.symm⟩
   ·rename_i hid
    rcases vB hr hb with ⟨e1, e2⟩ | ⟨e1, e2⟩
    ·exact .inl ⟨by simp [e1], e2⟩
    ·exact .inr ⟨by simp only [F1, not_or]; exact ⟨fun x => hid x.symm, e1⟩, e2⟩
  ·cases e
def eG (base : cx) (w : World) (ρ : Ren) (h : Hp) (ci : CI) (b : Nat) : Prop :=
 okOf base w ρ h b ∨ ∃ id ty fro sz n f cap, h id = some (.row ty fro sz n f) ∧ id ∉ ci.ids ∧ (fro = true ∨ ci.flat = true ∨ id ∈ ci.frz) ∧ ρ id = some (.at b cap) ∧ b < w.heap.size
def cY (ρ : Ren) (ids : List Nat) : Ren := fun i => match ids[i]? with
 | some id => ρ id
 | none => none
theorem Kv (R : aI base X nt used ρ tm h a w) {ci : CI} {x y : C} {p : Prop} {v : Value} (e : Hw h ci x = some (y, p)) (hp : p) (hr : RC w (okOf base w ρ h) ρ x v) : RC w (eG base w ρ h ci) (cY ρ ci.ids) y v := by
 cases x with
 | t x =>
  simp only [Hw, FL, FV] at e
  obtain ⟨rfl, rfl⟩ := e
  exact RT.mono ⟨fun b hb => .inl hb, fun _ _ => rfl⟩ x v hr
 | ref id sz off n =>
  simp only [Hw] at e
  split at e
  ·rename_i i hi
   simp only [FL, FV] at e
   obtain ⟨rfl, rfl⟩ := e
   obtain ⟨l, h1, h2⟩ := hr
   exact ⟨l, by simp only [cY, qR hi]; exact h1, h2⟩
  ·rename_i hni
   split at e
   ·rename_i ty fro sz' m f hid
    split at e
    ·rename_i hc
     simp only [FL, FV] at e
     obtain ⟨rfl, rfl⟩ := e
     obtain ⟨rfl, hc⟩ := hc
     have hc' : fro = true ∨ ci.flat = true ∨ id ∈ ci.frz := by simpa [or_assoc] using hc
     obtain ⟨l, h1, h2⟩ := hr
     obtain ⟨l', m1, m2, m3⟩ := R.heap id _ hid
     rw [h1] at m1
     injection m1 with m1
     subst m1
     cases l with
     | nil => obtain ⟨_, rfl, q, rfl⟩ := h2; exact ⟨q, 0, rfl, F9 _, fun i hi => by omega⟩
     | _ b cap =>
      rcases h2 with ⟨_, rfl, hlc, hle⟩ | ⟨rfl, q, rfl⟩
      ·obtain ⟨_, vs, fz, v1, v2, _, v4⟩ := m2
       refine ⟨_, _, rfl, by omega, fun i hi j hj => ?_⟩
       obtain ⟨x, x1, x2⟩ := v4 (off + i) (by omega) j hj
       refine ⟨b, off * sz, x, rfl, .inr ⟨id, ty, fro, sz, m, f, cap, hid, u4 hni, hc', h1, (m3 b cap rfl).1⟩, ?_, ?_⟩
       ·rw [cell_of_row w _ _ vs ty fz v1, ← x1, Nat.add_mul]
       ·rw [rZ]; exact RT.mono ⟨fun b hb => .inl hb, fun _ _ => rfl⟩ _ _ x2
      ·exact ⟨q, 0, rfl, F9 _, fun i hi => by omega⟩
    ·cases e
   ·cases e
 | ptr id sz e0 sub =>
  simp only [Hw] at e
  split at e
  ·rename_i i hi
   simp only [FL, FV] at e
   obtain ⟨rfl, rfl⟩ := e
   obtain ⟨b, cap, h1, h2⟩ := hr
   exact ⟨b, cap, by simp only [cY, qR hi]; exact h1, h2⟩
  ·cases e
theorem r5 (R : aI base X nt used ρ tm h a w) {ci : CI} : ∀ {x y : List C} {p : Prop} {vs : List Value}, eR h ci x = some (y, p) → p → ap (RC w (okOf base w ρ h) ρ) x vs → ap (RC w (eG base w ρ h ci) (cY ρ ci.ids)) y vs
 | [], y, p, [], e, _, _ => by simp only [eR, FL, FV] at e; obtain ⟨rfl, rfl⟩ := e; trivial
 | x :: l, y, p, v :: vs, e, hp, ⟨h1, h2⟩ => by
  simp only [eR] at e
  split at e
  ·rename_i y' p' r q hy hr
   simp only [FL, FV] at e
   obtain ⟨rfl, rfl⟩ := e
   exact ⟨Kv R hy hp.1 h1, r5 R hr hp.2 h2⟩
  ·cases e
 | [], _, _, _ :: _, _, _, h => h.elim
 | _ :: _, _, _, [], _, _, h => h.elim
theorem BS (R : aI base X nt used ρ tm h a w) {ci : CI} {x y : S1} {p : Prop} {v : Value} (e : fx h ci x = some (y, p)) (hp : p) (hr : RS w (okOf base w ρ h) ρ x v) : RS w (eG base w ρ h ci) (cY ρ ci.ids) y v := by
 cases x with
 | c x =>
  simp only [fx] at e
  split at e
  ·rename_i y' p' hy
   simp only [FL, FV] at e
   obtain ⟨rfl, rfl⟩ := e
   exact Kv R hy hp hr
  ·cases e
 | agg l =>
  simp only [fx] at e
  split at e
  ·rename_i y' p' hy
   simp only [FL, FV] at e
   obtain ⟨rfl, rfl⟩ := e
   obtain ⟨ys, h1, h2⟩ := hr
   exact ⟨ys, h1, r5 R hy hp h2⟩
  ·cases e
theorem rI (R : aI base X nt used ρ tm h a w) {ci : CI} : ∀ {x y : List S1} {p : Prop} {vs : List Value}, eK h ci x = some (y, p) → p → ap (RS w (okOf base w ρ h) ρ) x vs → ap (RS w (eG base w ρ h ci) (cY ρ ci.ids)) y vs
 | [], y, p, [], e, _, _ => by simp only [eK, FL, FV] at e; obtain ⟨rfl, rfl⟩ := e; trivial
 | x :: l, y, p, v :: vs, e, hp, ⟨h1, h2⟩ => by
  simp only [eK] at e
  split at e
  ·rename_i y' p' r q hy hr
   simp only [FL, FV] at e
   obtain ⟨rfl, rfl⟩ := e
   exact ⟨BS R hy hp.1 h1, rI R hr hp.2 h2⟩
  ·cases e
 | [], _, _, _ :: _, _, _, h => h.elim
 | _ :: _, _, _, [], _, _, h => h.elim
theorem BU (R : aI base X nt used ρ tm h a w) {ci : CI} {x y : AV} {p : Prop} {v : Value} (e : d7 h ci x = some (y, p)) (hp : p) (hr : RV w (okOf base w ρ h) ρ x v) : RV w (eG base w ρ h ci) (cY ρ ci.ids) y v := by
 cases x with
 | c x =>
  simp only [d7] at e
  split at e
  ·rename_i y' p' hy
   simp only [FL, FV] at e
   obtain ⟨rfl, rfl⟩ := e
   exact Kv R hy hp hr
  ·cases e
 | agg l =>
  simp only [d7] at e
  split at e
  ·rename_i y' p' hy
   simp only [FL, FV] at e
   obtain ⟨rfl, rfl⟩ := e
   obtain ⟨ys, h1, h2⟩ := hr
   exact ⟨ys, h1, r5 R hy hp h2⟩
  ·cases e
 | fagg n f =>
  simp only [d7, FL, FV] at e
  obtain ⟨rfl, rfl⟩ := e
  obtain ⟨ys, h1, h2, h3⟩ := hr
  exact ⟨ys, h1, h2, fun i hi => let ⟨x, a, b⟩ := h3 i hi; ⟨x, a, RT.mono ⟨fun b hb => .inl hb, fun _ _ => rfl⟩ _ _ b⟩⟩
 | tup l => cases e
 | clo f a b =>
  simp only [d7] at e
  split at e
  ·rename_i a' p' b' q' ha hb
   simp only [FL, FV] at e
   obtain ⟨rfl, rfl⟩ := e
   obtain ⟨fs, cs, h1, h2, h3⟩ := hr
   exact ⟨fs, cs, h1, rI R ha hp.1 h2, rI R hb hp.2 h3⟩
  ·cases e
theorem wM (R : aI base X nt used ρ tm h a w) : ∀ {x : List Operand} {y : List AV}, fD tm x = some y → ap (RV w (okOf base w ρ h) ρ) y (x.map a.eval)
 | [], y, e => by simp only [fD, FL] at e; subst e; trivial
 | x :: l, y, e => by
  simp only [fD] at e
  split at e
  ·rename_i v r hv hr
   injection e with e
   subst e
   exact ⟨bF R hv, wM R hr⟩
  ·cases e
theorem vV (R : aI base X nt used ρ tm h a w) {ci : CI} : ∀ {x y : List AV} {p : Prop} {vs : List Value}, fq h ci x = some (y, p) → p → ap (RV w (okOf base w ρ h) ρ) x vs → ap (RV w (eG base w ρ h ci) (cY ρ ci.ids)) y vs
 | [], y, p, [], e, _, _ => by simp only [fq, FL, FV] at e; obtain ⟨rfl, rfl⟩ := e; trivial
 | x :: l, y, p, v :: vs, e, hp, ⟨h1, h2⟩ => by
  simp only [fq] at e
  split at e
  ·rename_i y' p' r q hy hr
   simp only [FL, FV] at e
   obtain ⟨rfl, rfl⟩ := e
   exact ⟨BU R hy hp.1 h1, vV R hr hp.2 h2⟩
  ·cases e
 | [], _, _, _ :: _, _, _, h => h.elim
 | _ :: _, _, _, [], _, _, h => h.elim
theorem E4 {ok : Nat → Prop} : ∀ {l : List S1} {vs : List Value}, ap (RS w ok ρ) l vs → ap (RV w ok ρ) (l.map EZ) vs
 | [], [], _ => trivial
 | .c _ :: _, _ :: _, ⟨h1, h2⟩ => ⟨h1, E4 h2⟩
 | .agg _ :: _, _ :: _, ⟨h1, h2⟩ => ⟨h1, E4 h2⟩
 | [], _ :: _, h => h.elim
 | .c _ :: _, [], h => h.elim
 | .agg _ :: _, [], h => h.elim
theorem AG (R : aI base X nt used ρ tm h a w) {ci : CI} {s1 s2 : List S1} {fs cs : List Value} {x : List Operand} {y : List AV} {p : Prop} (e : IV tm h ci s1 s2 x = some (y, p)) (hp : p) (h1 : ap (RS w (okOf base w ρ h) ρ) s1 fs) (h2 : ap (RS w (okOf base w ρ h) ρ) s2 cs) :
  ap (RV w (eG base w ρ h ci) (cY ρ ci.ids)) y (fs ++ (x.map a.eval ++ cs)) := by
 unfold IV at e
 split at e
 ·rename_i vs hvs
  exact vV R e hp (ap.append (E4 h1) (ap.append (wM R hvs) (E4 h2)))
 ·cases e
theorem vW {ids : List Nat} {k nid j id : Nat} (h : ids[j]? = some id) : cZ ids k nid j = id := by simp [cZ, h]
theorem rJ {ids : List Nat} {k nid j : Nat} (h : ids.length ≤ j) : cZ ids k nid j = nid + (j - k) := by simp [cZ, FK h]
def eH (ρ ρ' : Ren) (outb : List (Nat × az)) (k nid cnt : Nat) : Ren := fun id => match ρ id with
 | some l => some l
 | none => if nid ≤ id ∧ id < nid + cnt ∧ (look outb (id - nid + k)).isSome = true then ρ' (id - nid + k) else none
theorem mM {α : Type} : ∀ {l : List (Nat × α)} {j : Nat} {b : α}, look l j = some b → (j, b) ∈ l
 | [], _, _, h => by cases h
 | (k, v) :: l, j, b, h => by
  rw [bo] at h
  split at h
  ·rename_i e; injection h with h; subst e; subst h; simp
  ·exact F0 _ (mM h)
theorem u7 : ∀ {l : List (Nat × az)} {j : Nat} {b : az}, look l j = some b → ∀ i ∈ b.ids, i ∈ jI l
 | [], _, _, h, _, _ => by cases h
 | (k, v) :: l, j, b, h, i, hi => by
  rw [bo] at h
  simp only [jI, F2]
  split at h
  ·injection h with h; subst h; exact .inl hi
  ·exact .inr (u7 h i hi)
theorem u9 : ∀ {l : List (Nat × az)} {j : Nat} {b : az}, flatB l → look l j = some b → b.flat
 | [], _, _, _, h => by cases h
 | (k, v) :: l, j, b, hf, h => by
  rw [bo] at h
  split at h
  ·injection h with h; subst h; exact hf.1
  ·exact u9 hf.2 h
set_option maxHeartbeats 1000000 in
theorem Ai (R : aI c.base c.X c.nt used ρ tm h a w) {ci : CI} (hfresh : ∀ id, nid ≤ id → id < nid + ci.cnt → ¬ used id) (hu : ∀ id, used id → used' id) (hn : ∀ id, nid ≤ id → id < nid + ci.cnt → used' id) (hd : ∀ t, o.dst = some t → t < c.nt)
  {f : FuncId} {s1 s2 : List S1} {args : List Operand} {r : aT} (e : fU c.P tm h f s1 s2 args nid ci = some r) (hc : r.chk) {vs : Array Value} {fs cs : List Value} (hs1 : ap (RS w (okOf c.base w ρ h) ρ) s1 fs) (hs2 : ap (RS w (okOf c.base w ρ h) ρ) s2 cs) (hvs : vs.toList = fs ++ (args.map a.eval ++ cs)) {res : Result Next} (hres : res = .ok (.enter f vs) w) :
  ct c used' tm h a o r.val r.W res := by
 subst hres
 unfold fU at e
 simp only at e
 split at e
 ·rename_i as p inb fw has hin hfw
  split at e
  ·rename_i hcond
   obtain ⟨d1, d2, d3, d4, d5, d6⟩ := hcond
   injection e with e
   subst e
   obtain ⟨q1, q2, q3, q4⟩ := hc
   have hargs := uS (P := []) q2 (AG R has q1 hs1 hs2)
   have hblk : ∀ m id, ci.ids[m]? = some id → ∃ blk l, look inb m = some blk ∧ h id = some blk ∧ blk.mut = true ∧ ρ id = some l ∧ cY ρ ci.ids m = some l := fun m id hm => by
    obtain ⟨blk, b1, b2, b3⟩ := rH hin m id hm
    obtain ⟨l, l1, _⟩ := R.heap id blk b2
    exact ⟨blk, l, by simpa using b1, b2, b3, l1, by simp only [cY, hm]; exact l1⟩
   have hρ0 : ∀ i l, cY ρ ci.ids i = some l → ∃ id, ci.ids[i]? = some id ∧ ρ id = some l := fun i l hl => by
    unfold cY at hl
    split at hl
    ·rename_i id hid; exact ⟨id, hid, hl⟩
    ·cases hl
   have hcalls := q4.2 w (eG c.base w ρ h ci) (cY ρ ci.ids) vs
    (fun b hb => by
     rcases hb with hb | ⟨_, _, _, _, _, _, _, _, _, _, _, hb⟩
     ·exact hb.1
     ·exact hb)
    (fun i hi => by
     cases hl : cY ρ ci.ids i with
     | none => exact absurd hl hi
     | some l =>
      obtain ⟨id, h1, _⟩ := hρ0 i l hl
      obtain ⟨blk, _, b1, _⟩ := hblk i id h1
      exact ⟨blk, b1⟩)
    (fun j blk hj => by
     obtain ⟨m, id, rfl, e2, e3, e4⟩ := Kk hin j blk hj
     rw [Gg] at hj ⊢
     obtain ⟨l, l1, l2, l3⟩ := R.heap id blk e3
     obtain ⟨_, l', _, _, bm, k1, k2⟩ := hblk m id e2
     rw [l1] at k1
     injection k1 with k1
     subst k1
     refine ⟨l, k2, ?_, fun b cap hb => ⟨(l3 b cap hb).1, fun hok => ?_⟩⟩
     ·cases blk with
      | box ty cs =>
       obtain ⟨b, vs', v1, v2, v3⟩ := l2
       obtain ⟨rr, hrr⟩ := e4 ty cs rfl
       exact ⟨b, vs', v1, v2, wR hrr (fun b hb => .inl hb) v3⟩
      | row ty fro sz n f =>
       cases l with
       | nil => exact l2
       | _ b cap =>
        obtain ⟨v0, vs', fz, v1, v2, v3, v4⟩ := l2
        exact ⟨v0, vs', fz, v1, v2, v3, fun i hi j hj => let ⟨x, x1, x2⟩ := v4 i hi j hj; ⟨x, x1, RT.mono ⟨fun b hb => .inl hb, fun _ _ => rfl⟩ _ _ x2⟩⟩
     ·subst hb
      obtain ⟨blk2, _, _, c2, c3, c4, _⟩ := hblk m id e2
      rcases hok with hok | ⟨id', ty, fro, sz, n, f, cap', g1, g2, g3, g4, g5⟩
      ·exact hok.2.2 id blk2 cap c2 c3 l1
      ·have := R.inj id' id b cap' cap _ _ g1 c2 (.inr c3) g4 l1
       subst this
       exact g2 (F5 e2))
    (fun i j b cc cc' hi hj => by
     obtain ⟨idi, i1, i2⟩ := hρ0 i _ hi
     obtain ⟨idj, j1, j2⟩ := hρ0 j _ hj
     obtain ⟨bi, _, _, bi2, bi3, _⟩ := hblk i idi i1
     obtain ⟨bj, _, _, bj2, _⟩ := hblk j idj j1
     have := R.inj idi idj b cc cc' _ _ bi2 bj2 (.inl bi3) i2 j2
     subst this
     exact u5 d1 i1 j1)
    (by rw [hvs]; exact hargs)
   refine Calls.mono hcalls ?_
   rintro en w' ⟨v, ρ', rfl, hext, hU, hv, hbs, hinj⟩
   refine ⟨v, rfl, eH ρ ρ' ci.outb ci.ids.length nid ci.cnt, ?_⟩
   have hnone : ∀ id, nid ≤ id → id < nid + ci.cnt → ρ id = none := fun id h1 h2 => by
    cases hl : ρ id with
    | none => rfl
    | some l => exact absurd (R.used id (by rw [hl]; simp)) (hfresh id h1 h2)
   have hback : bA ρ (eH ρ ρ' ci.outb ci.ids.length nid ci.cnt) := fun id l hl => by simp only [eH, hl]
   have htop : ∀ j b, look ci.outb j = some b → j < ci.ids.length + ci.cnt := fun j b hb => by
    have := FX.1 d5 (j, b) (mM hb)
    simpa using this
   have hσ : ∀ j, (j < ci.ids.length ∨ (look ci.outb j).isSome = true) → ∀ l, ρ' j = some l → eH ρ ρ' ci.outb ci.ids.length nid ci.cnt (cZ ci.ids ci.ids.length nid j) = some l := fun j hj l hl => by
    by_cases hlt : j < ci.ids.length
    ·have hid : ci.ids[j]? = some ci.ids[j] := FJ hlt
     rw [vW hid]
     obtain ⟨blk, l', _, _, _, k1, k2⟩ := hblk j _ hid
     have := hext j l' k2
     rw [hl] at this
     injection this with this
     subst this
     exact hback _ _ k1
    ·have hj' : (look ci.outb j).isSome = true := by rcases hj with hj | hj; exact absurd hj hlt; exact hj
     rw [rJ (by omega)]
     have hjt : j < ci.ids.length + ci.cnt := by
      cases hb : look ci.outb j with
      | none => rw [hb] at hj'; cases hj'
      | some b => exact htop j b hb
     have e1 : nid + (j - ci.ids.length) - nid + ci.ids.length = j := by omega
     unfold eH
     rw [hnone _ (by omega) (by omega)]
     simp only
     rw [e1, if_pos ⟨by omega, by omega, hj'⟩]
     exact hl
   have hσinj : ∀ i j, ci.ids.length ≤ i → ci.ids.length ≤ j → cZ ci.ids ci.ids.length nid i = cZ ci.ids ci.ids.length nid j → i = j := fun i j hi hj he => by
    rw [rJ hi, rJ hj] at he; omega
   have hcase : ∀ id blk, aQ h (fr ci.ids ci.outb (cZ ci.ids ci.ids.length nid) 0 ++ eS ci.ids.length (cZ ci.ids ci.ids.length nid) ci.outb ++ fw) id = some blk →
     (∃ j b, look ci.outb j = some b ∧ id = cZ ci.ids ci.ids.length nid j ∧ blk = b.ren (cZ ci.ids ci.ids.length nid)) ∨
     (id ∉ ci.ids ∧ ((id ∈ ci.frz ∧ ∃ ty fro sz n f, h id = some (.row ty fro sz n f) ∧ blk = .row ty true sz n f) ∨ (id ∉ ci.frz ∧ h id = some blk))) := fun id blk hb => by
    rw [F7] at hb
    rcases u6 hb with ⟨m, b, e1, e2, e3⟩ | ⟨e1, e2⟩
    ·exact .inl ⟨m, b, by simpa using e2, (vW e1).symm, e3⟩
    ·rcases re hσinj e2 with ⟨j, b, f1, f2, f3, f4⟩ | f1
     ·exact .inl ⟨j, b, f2, f3, f4⟩
     ·exact .inr ⟨e1, vB hfw f1⟩
   have hold : ∀ id blk, h id = some blk → id ∉ ci.ids → ∀ b cap, ρ id = some (.at b cap) → ¬ ∃ i cap', cY ρ ci.ids i = some (.at b cap') := fun id blk hb hni b cap hl ⟨i, cap', hi⟩ => by
    obtain ⟨id', i1, i2⟩ := hρ0 i _ hi
    obtain ⟨b2, _, _, b22, b23, _⟩ := hblk i id' i1
    have := R.inj id id' b cap cap' _ _ hb b22 (.inr b23) hl i2
    subst this
    exact hni (F5 i1)
   have hout : ∀ j b, look ci.outb j = some b → ∃ l, ρ' j = some l ∧ eH ρ ρ' ci.outb ci.ids.length nid ci.cnt (cZ ci.ids ci.ids.length nid j) = some l := fun j b hb => by
    obtain ⟨l, l1, _⟩ := hbs j b hb
    exact ⟨l, l1, hσ j (.inr (by rw [hb]; rfl)) l l1⟩
   have hok : ci.flat = false → ∀ b, okOf ⟨w, eG c.base w ρ h ci, cY ρ ci.ids⟩ w' ρ' (look ci.outb) b →
     okOf c.base w' (eH ρ ρ' ci.outb ci.ids.length nid ci.cnt) (aQ h (fr ci.ids ci.outb (cZ ci.ids ci.ids.length nid) 0 ++ eS ci.ids.length (cZ ci.ids ci.ids.length nid) ci.outb ++ fw)) b := fun hfl b hb => by
    obtain ⟨o1, o2, o3⟩ := hb
    refine ⟨o1, ?_, fun id blk cap hid hmut hl => ?_⟩
    ·rcases o2 with o2 | o2
     ·exact .inl (Ga R.upd.size o2)
     ·rcases o2 with o2 | ⟨i, cap', o2⟩
      ·rcases o2 with o2 | ⟨id', ty, fro, sz, n, f, cap', g1, g2, g3, g4, g5⟩
       ·exact o2.2.1
       ·exact R.mid g1 g4
      ·obtain ⟨id0, i1, i2⟩ := hρ0 i _ o2
       obtain ⟨blk0, l0, _, b2, b3, b4, _⟩ := hblk i id0 i1
       exact R.mid b2 i2
    ·rcases hcase id blk hid with ⟨j, b0, e1, rfl, rfl⟩ | ⟨e1, e2⟩
     ·rw [BR] at hmut
      obtain ⟨l, l1, l2⟩ := hout j b0 e1
      rw [hl] at l2
      injection l2 with l2
      exact o3 j b0 cap e1 hmut (by rw [l1, ← l2])
     ·rcases e2 with ⟨e2, ty, fro, sz, n, f, e3, rfl⟩ | ⟨e2, e3⟩
      ·simp [az.mut] at hmut
      ·obtain ⟨l, l1, _, l3⟩ := R.heap id blk e3
       have := hback id l l1
       rw [hl] at this
       injection this with this
       subst this
       have hlt := (l3 b cap rfl).1
       rcases o2 with o2 | o2 | ⟨i, cap', o2⟩
       ·simp only at o2; omega
       ·rcases o2 with o2 | ⟨id', ty, fro, sz, n, f, cap', g1, g2, g3, g4, g5⟩
        ·exact o2.2.2 id blk cap e3 hmut l1
        ·have := R.inj id id' b cap cap' _ _ e3 g1 (.inl hmut) l1 g4
         subst this
         rw [e3] at g1
         injection g1 with g1
         subst g1
         rcases g3 with g3 | g3 | g3
         ·simp [az.mut, g3] at hmut
         ·rw [hfl] at g3; cases g3
         ·exact e2 g3
       ·exact hold id blk e3 e1 b cap l1 ⟨i, cap', o2⟩
   have hids : ∀ i, i ∈ ci.out.ids → i < ci.ids.length ∨ (look ci.outb i).isSome = true := fun i hi => by
    have := FX.1 d3 i hi
    simp at this
    rcases this with h' | h'
    ·exact .inr h'
    ·exact .inl h'
   have hbids : ∀ i, i ∈ jI ci.outb → i < ci.ids.length ∨ (look ci.outb i).isSome = true := fun i hi => by
    have := FX.1 d4 i hi
    simp at this
    rcases this with h' | h'
    ·exact .inr h'
    ·exact .inl h'
   refine R.step hU (fun b hb hlt => ?_) hback (fun id hid => ?_) (fun id blk hid => ?_) (fun i j b cc cc' x0 y0 hi hj hmm h1 h2 => ?_) (fun t x ht => ?_) (by rw [dt, R.size]) (by rw [dA, R.defers])
   ·obtain ⟨i, cap, hi⟩ := hb
    obtain ⟨id, i1, i2⟩ := hρ0 i _ hi
    obtain ⟨blk, l, _, b2, b3, b4, _⟩ := hblk i id i1
    exact ⟨id, blk, cap, b2, b3, i2⟩
   ·unfold eH at hid
    split at hid
    ·rename_i l hl; exact hu id (R.used id (by rw [hl]; simp))
    ·split at hid
     ·rename_i hh; exact hn id hh.1 hh.2.1
     ·exact absurd rfl hid
   ·rcases hcase id blk hid with ⟨j, b0, e1, rfl, rfl⟩ | ⟨e1, e2⟩
    ·obtain ⟨l, l1, l2, l3⟩ := hbs j b0 e1
     refine .inr ⟨l, hσ j (.inr (by rw [e1]; rfl)) l l1, fun _ => ?_, fun b cap hb => ?_⟩
     ·refine RB.ren_ ?_ (fun i hi l hl => hσ i (hbids i (u7 e1 i hi)) l hl) l2
      cases hfl : ci.flat with
      | true => exact .inl (u9 (q3 hfl) e1)
      | false => exact .inr (hok hfl)
     ·obtain ⟨m1, m2⟩ := l3 b cap hb
      have key : ∀ i cap', cY ρ ci.ids i = some (.at b cap') → ∃ id0 blk0 cap0, h id0 = some blk0 ∧ blk0.mut = true ∧ ρ id0 = some (.at b cap0) ∧ (c.base.w.heap.size ≤ b ∨ c.X b) := fun i cap' hi => by
       obtain ⟨id0, i1, i2⟩ := hρ0 i _ hi
       obtain ⟨blk0, l0, _, b2, b3, b4, _⟩ := hblk i id0 i1
       obtain ⟨l4, n1, _, n3⟩ := R.heap id0 blk0 b2
       rw [i2] at n1
       injection n1 with n1
       exact ⟨id0, blk0, cap', b2, b3, i2, (n3 b cap' n1.symm).2⟩
      refine ⟨m1, ?_, ?_⟩
      ·rcases m2 with m2 | ⟨i, cap', hi⟩
       ·exact .inl (Ga R.upd.size m2)
       ·obtain ⟨_, _, _, _, _, _, k⟩ := key i cap' hi; exact k
      ·rcases m2 with m2 | ⟨i, cap', hi⟩
       ·exact .inl m2
       ·obtain ⟨id0, blk0, cap0, k1, k2, k3, _⟩ := key i cap' hi; exact .inr ⟨id0, blk0, cap0, k1, k2, k3⟩
    ·rcases e2 with ⟨e2, ty, fro, sz, n, f, e3, rfl⟩ | ⟨e2, e3⟩
     ·cases fro with
      | true => exact .inl ⟨e3, fun b cap hl hy => hold id _ e3 e1 b cap hl hy⟩
      | false =>
       obtain ⟨l, l1, l2, l3⟩ := R.heap id _ e3
       refine .inr ⟨l, hback id l l1, fun K => ?_, fun b cap hb => ⟨Gb (l3 b cap hb).1 hU.size, (l3 b cap hb).2, .inr ⟨id, _, cap, e3, rfl, by rw [l1, hb]⟩⟩⟩
       cases l with
       | nil => exact l2
       | _ b cap =>
        obtain ⟨v0, vs', fz, v1, v2, v3, v4⟩ := l2
        refine ⟨v0, vs', fz, ?_, v2, fun x => (by cases x), fun i hi j hj => let ⟨x, x1, x2⟩ := v4 i hi j hj; ⟨x, x1, RT.mono K _ _ x2⟩⟩
        rw [hU.block b (l3 b cap rfl).1 (hold id _ e3 e1 b cap l1)]
        exact v1
     ·exact .inl ⟨e3, fun b cap hl hy => hold id _ e3 e1 b cap hl hy⟩
   ·have place : ∀ i x, aQ h (fr ci.ids ci.outb (cZ ci.ids ci.ids.length nid) 0 ++ eS ci.ids.length (cZ ci.ids ci.ids.length nid) ci.outb ++ fw) i = some x → ∀ c1, eH ρ ρ' ci.outb ci.ids.length nid ci.cnt i = some (.at b c1) →
      (∃ j b0, look ci.outb j = some b0 ∧ i = cZ ci.ids ci.ids.length nid j ∧ ρ' j = some (.at b c1) ∧ (x.mut = true → b0.mut = true)) ∨ (i ∉ ci.ids ∧ (∃ y, h i = some y ∧ (x.mut = true → y.mut = true)) ∧ ρ i = some (.at b c1)) := fun i x hx c1 hl => by
     rcases hcase i x hx with ⟨j, b0, e1, rfl, rfl⟩ | ⟨e1, e2⟩
     ·obtain ⟨l, l1, l2⟩ := hout j b0 e1
      rw [hl] at l2
      injection l2 with l2
      exact .inl ⟨j, b0, e1, rfl, by rw [l1, l2], fun q => by cases b0 <;> exact q⟩
     ·have hx' : ∃ y, h i = some y ∧ (x.mut = true → y.mut = true) := by
       rcases e2 with ⟨_, ty, fro, sz, n, f, e3, rfl⟩ | ⟨_, e3⟩
       ·exact ⟨_, e3, fun q => by cases q⟩
       ·exact ⟨_, e3, fun q => q⟩
      obtain ⟨y, hy, hym⟩ := hx'
      obtain ⟨l, l1, _⟩ := R.heap i y hy
      have := hback i l l1
      rw [hl] at this
      injection this with this
      exact .inr ⟨e1, ⟨y, hy, hym⟩, by rw [l1, this]⟩
    have mixed : ∀ j, (∃ jj b0, look ci.outb jj = some b0 ∧ ∃ c1, ρ' jj = some (.at b c1)) → (j ∉ ci.ids ∧ (∃ x, h j = some x) ∧ ∃ c2, ρ j = some (.at b c2)) → False := fun j ⟨jj, b0, g1, c1, g2⟩ ⟨k1, ⟨x, k2⟩, c2, k3⟩ => by
     obtain ⟨l, l1, _, l3⟩ := hbs jj b0 g1
     rw [g2] at l1
     injection l1 with l1
     obtain ⟨l4, n1, _, n3⟩ := R.heap j x k2
     rw [k3] at n1
     injection n1 with n1
     have := (n3 b c2 n1.symm).1
     rcases (l3 b c1 l1.symm).2 with m2 | ⟨i', cap', hi'⟩
     ·omega
     ·exact hold j x k2 k1 b c2 k3 ⟨i', cap', hi'⟩
    rcases place i x0 hi cc h1 with ⟨j1, b1, p1, p2, p3, p4⟩ | ⟨p1, ⟨px, p2, p4⟩, p3⟩
    ·rcases place j y0 hj cc' h2 with ⟨j2, b2, r1, r2, r3, r4⟩ | ⟨r1, ⟨rx, r2, r4⟩, r3⟩
     ·have := hinj j1 j2 b cc cc' _ _ p1 r1 (hmm.imp p4 r4) p3 r3
      rw [p2, r2, this]
     ·exact (mixed j ⟨j1, b1, p1, cc, p3⟩ ⟨r1, ⟨rx, r2⟩, cc', r3⟩).elim
    ·rcases place j y0 hj cc' h2 with ⟨j2, b2, r1, r2, r3, r4⟩ | ⟨r1, ⟨rx, r2, r4⟩, r3⟩
     ·exact (mixed i ⟨j2, b2, r1, cc', r3⟩ ⟨p1, ⟨px, p2⟩, cc, p3⟩).elim
     ·exact R.inj i j b cc cc' _ _ p2 r2 (hmm.imp p4 r4) p3 r3
   ·by_cases e : some t = o.dst
    ·rw [bG, if_pos e] at ht
     injection ht with ht
     subst ht
     refine .inr fun _ => ?_
     rw [← e, dU v (by rw [R.size]; exact hd t e.symm)]
     refine RV.ren_ ?_ (fun i hi l hl => hσ i (hids i hi) l hl) hv
     rcases d6 with d6 | d6
     ·exact .inr (hok d6)
     ·exact .inl d6
    ·rw [bG, if_neg e] at ht
     refine .inl ⟨ht, ?_⟩
     cases hdst : o.dst with
     | none => rfl
     | some d => exact dB v fun h => e (by rw [hdst, h])
  ·cases e
 ·cases e
end
end Vm
end Go.Proofs.YtfmhbcfklokmaaaGreatDoor
