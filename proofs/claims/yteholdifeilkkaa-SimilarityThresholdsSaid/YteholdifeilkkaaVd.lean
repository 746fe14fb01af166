/- The abstract machine: new blocks, stores, aggregates. -/
import Derived.Test.YteholdifeilkkaaVc
namespace Go.Proofs.Yteholdifeilkkaa
set_option linter.unusedVariables false
namespace Vm
/-- What is laid down for an operation: a test's outcome; how a row's contents are to be spelled; bytes as numbers. -/
structure Hint where
  b : Option Bool := none
  row : Option (Nat × (Nat → Nat → T)) := none
  ints : Option (Nat → Int) := none
/-- What is said of a read-only cell says the other, too. -/
def TLe (x y : T) : Prop := ∀ (w : World) (ok : Nat → Prop) (v : Value), RT w ok x v → RT w ok y v
theorem TLe.refl (x : T) : TLe x x := fun _ _ _ h => h
theorem TLe.nil {n sz : Nat} {f : Nat → Nat → T} (hn : n = 0) : TLe (.v (.slice none 0 0)) (.tree n sz f) := fun w ok v h => by
  obtain ⟨rfl, _⟩ := h
  subst hn
  exact ⟨none, 0, rfl, Nat.le_refl _, fun i hi => by omega⟩
def reRow (ty : TypeId) (fro : Bool) (sz n : Nat) (f : Nat → Nat → T) : Option (Nat × (Nat → Nat → T)) → Nat × Blk × Prop
  | none => (n, .row ty fro sz n f, True)
  | some (m, g) => (m, .row ty fro sz m g, n = m ∧ ∀ i, i < m → ∀ j, j < sz → TLe (f i j) (g i j))
def Ren.set (ρ : Ren) (nid : Nat) (l : Loc) : Ren := fun id => if id = nid then some l else ρ id
def tab {α : Type} (f : Nat → α) : Nat → Nat → List α
  | _, 0 => []
  | s, n + 1 => f s :: tab f (s + 1) n
theorem tab_length {α : Type} (f : Nat → α) : ∀ (s n : Nat), (tab f s n).length = n
  | _, 0 => rfl
  | s, n + 1 => by simp [tab, tab_length f (s + 1) n]
theorem tab_get {α : Type} (f : Nat → α) : ∀ (s n i : Nat), i < n → (tab f s n)[i]? = some (f (s + i))
  | _, 0, _, h => by omega
  | s, n + 1, 0, h => by simp [tab]
  | s, n + 1, i + 1, h => by simp only [tab, List.getElem?_cons_succ]; rw [tab_get f (s + 1) n i (by omega)]; congr 2; omega
def avCells : AV → Option (List C)
  | .c x => some [x]
  | .agg l => some l
  | .fagg n f => some (tab (fun i => .t (f i)) 0 n)
  | .tup _ => none
def asT : List C → Option (List T)
  | [] => some []
  | .t x :: l => match asT l with
    | some r => some (x :: r)
    | none => none
  | _ :: _ => none
def rowOf (l : List T) (sz : Nat) : Nat → Nat → T := fun i j => l.getD (i * sz + j) (.v undef)
section
variable {c : Cx} {used used' : Nat → Prop} {ρ ρ' : Ren} {tm : Tm} {h h' : Hp} {a : Act} {w w' : World} {base : Base} {X : Nat → Prop} {nt : Nat} {ok : Nat → Prop} {o : Oper} {nid : Nat}
theorem avCells_ok {x : AV} {l : List C} {y : Value} (e : avCells x = some l) (hr : RV w ok ρ x y) : All2 (RC w ok ρ) l y.cells.toList := by
  cases x with
  | c x =>
    simp only [avCells, Option.some.injEq] at e
    subst e
    have h1 := RC.one (show RC w ok ρ x y from hr)
    have : y.cells = #[y] := by cases y <;> first | rfl | (simp [Value.oneCell'] at h1)
    rw [this]
    exact ⟨hr, trivial⟩
  | agg l' =>
    simp only [avCells, Option.some.injEq] at e
    subst e
    obtain ⟨ys, rfl, h2⟩ := hr
    exact h2
  | fagg n f =>
    simp only [avCells, Option.some.injEq] at e
    subst e
    obtain ⟨ys, rfl, h2, h3⟩ := hr
    refine All2.of_get (by simp [tab_length, Value.cells, h2]) fun i x y hx hy => ?_
    have hi : i < n := by
      rcases Nat.lt_or_ge i n with h' | h'
      · exact h'
      · rw [List.getElem?_eq_none (by rw [tab_length]; omega)] at hx; cases hx
    rw [tab_get _ _ _ _ hi] at hx
    injection hx with hx
    subst hx
    obtain ⟨x, x1, x2⟩ := h3 i hi
    have : ys[i]? = some y := by simpa [Value.cells] using hy
    rw [x1] at this
    injection this with this
    subst this
    rw [Nat.zero_add]; exact x2
  | tup l => cases e
theorem asT_ok : ∀ {l : List C} {r : List T} {vs : List Value}, asT l = some r → All2 (RC w ok ρ) l vs → All2 (RT w ok) r vs
  | [], _, [], e, _ => by simp [asT] at e; subst e; trivial
  | .t x :: l, r, v :: vs, e, h => by
    simp only [asT] at e
    split at e
    · rename_i r' hr
      injection e with e
      subst e
      exact ⟨h.1, asT_ok hr h.2⟩
    · cases e
  | .ref .. :: _, _, _ :: _, e, _ => by simp [asT] at e
  | .ptr .. :: _, _, _ :: _, e, _ => by simp [asT] at e
  | [], _, _ :: _, _, h => h.elim
  | .t _ :: _, _, [], _, h => h.elim
  | .ref .. :: _, _, [], _, h => h.elim
  | .ptr .. :: _, _, [], _, h => h.elim
theorem rowOf_ok {l : List T} {vs : Array Value} {sz n : Nat} (hl : l.length = n * sz) (hr : All2 (RT w ok) l vs.toList) : ∀ i, i < n → ∀ j, j < sz → ∃ x, vs[i * sz + j]? = some x ∧ RT w ok (rowOf l sz i j) x := by
  intro i hi j hj
  have hlt : i * sz + j < l.length := by
    rw [hl]
    have : (i + 1) * sz ≤ n * sz := Nat.mul_le_mul_right _ hi
    rw [Nat.add_mul] at this
    omega
  obtain ⟨y, y1, y2⟩ := All2.get hr (List.getElem?_eq_getElem hlt)
  refine ⟨y, by simpa using y1, ?_⟩
  have : rowOf l sz i j = l[i * sz + j] := by simp [rowOf, List.getD, hlt]
  rw [this]; exact y2
/-- A block more: it is new in the world, or nil stands for it. -/
theorem Rep.add (R : Rep base X nt used ρ tm h a w) (U : Upd (fun _ => False) w w') (hfresh : ¬ used nid) (hu : ∀ id, used id → used' id) (hn : used' nid) {blk : Blk} {l : Loc}
    (hl : ∀ b cap, l = .at b cap → w.heap.size ≤ b ∧ b < w'.heap.size)
    (hb : Keeps w w' (okOf base w ρ h) (okOf base w' (ρ.set nid l) (setHp h [(nid, some blk)])) → RB w' (okOf base w' (ρ.set nid l) (setHp h [(nid, some blk)])) (ρ.set nid l) blk l)
    (d : Option Tmp) (hd : ∀ t, d = some t → t < nt) (av : Option AV) (v : Value)
    (hv : Keeps w w' (okOf base w ρ h) (okOf base w' (ρ.set nid l) (setHp h [(nid, some blk)])) → ∀ x, av = some x → RV w' (okOf base w' (ρ.set nid l) (setHp h [(nid, some blk)])) (ρ.set nid l) x v) :
    Rep base X nt used' (ρ.set nid l) (setTm tm d av) (setHp h [(nid, some blk)]) (a.put d v) w' := by
  have hnone : ρ nid = none := by
    cases e : ρ nid with
    | none => rfl
    | some x => exact absurd (R.used nid (by rw [e]; simp)) hfresh
  have hext : Ext ρ (ρ.set nid l) := fun id x hx => by
    unfold Ren.set
    rw [if_neg (fun e => by rw [e, hnone] at hx; cases hx)]
    exact hx
  refine R.step U (fun _ x => x.elim) hext (fun id hid => ?_) (fun id b hid => ?_) (fun i j b c c' hi hj h1 h2 => ?_) (fun t x ht => ?_) (by rw [put_size', R.size]) (by rw [put_def', R.defers])
  · unfold Ren.set at hid
    split at hid
    · rename_i e; rw [e]; exact hn
    · exact hu id (R.used id hid)
  · by_cases e : id = nid
    · subst e
      simp only [setHp, if_true, Option.some.injEq] at hid
      subst hid
      exact .inr ⟨l, by simp [Ren.set], hb, fun b cap e => ⟨(hl b cap e).2, .inl (Nat.le_trans R.upd.size (hl b cap e).1), .inl (hl b cap e).1, fun _ => Nat.le_trans R.upd.size (hl b cap e).1⟩⟩
    · simp only [setHp, if_neg (Ne.symm e)] at hid
      exact .inl ⟨hid, fun _ _ _ h => h⟩
  · have key : ∀ k, k ≠ nid → (∃ x, setHp h [(nid, some blk)] k = some x) → ∀ cc, (ρ.set nid l) k = some (.at b cc) → b < w.heap.size ∧ (∃ x, h k = some x) ∧ ρ k = some (.at b cc) := by
      intro k hk ⟨x, hx⟩ cc hc
      simp only [setHp, if_neg (Ne.symm hk)] at hx
      simp only [Ren.set, if_neg hk] at hc
      obtain ⟨l', e1, _, e3⟩ := R.heap k x hx
      rw [hc] at e1
      injection e1 with e1
      exact ⟨(e3 b cc e1.symm).1, ⟨x, hx⟩, hc⟩
    by_cases ei : i = nid
    · by_cases ej : j = nid
      · rw [ei, ej]
      · have := (key j ej hj c' h2).1
        rw [ei] at h1
        simp only [Ren.set, if_true, Option.some.injEq] at h1
        have := (hl b c h1).1
        omega
    · by_cases ej : j = nid
      · have := (key i ei hi c h1).1
        rw [ej] at h2
        simp only [Ren.set, if_true, Option.some.injEq] at h2
        have := (hl b c' h2).1
        omega
      · obtain ⟨_, i1, i2⟩ := key i ei hi c h1
        obtain ⟨_, j1, j2⟩ := key j ej hj c' h2
        exact R.inj i j b c c' i1 j1 i2 j2
  · by_cases e : some t = d
    · rw [setTm, if_pos e] at ht
      refine .inr fun K => ?_
      rw [← e, put_eq v (by rw [R.size]; exact hd t e.symm)]
      exact hv K x ht
    · rw [setTm, if_neg e] at ht
      refine .inl ⟨ht, ?_⟩
      cases d with
      | none => rfl
      | some d => exact put_ne v fun h => e (by rw [h])
theorem upd_push {X : Nat → Prop} (w : World) (o : Obj) : Upd X w (w.alloc o) := ⟨rfl, rfl, rfl, by simp, fun b hb _ => heap_alloc_old _ _ hb⟩
theorem reRow_ok {ty : TypeId} {fro : Bool} {sz n : Nat} {f : Nat → Nat → T} {q : Option (Nat × (Nat → Nat → T))} {l : Loc} (hc : (reRow ty fro sz n f q).2.2) (hb : RB w ok ρ (.row ty fro sz n f) l) : RB w ok ρ (reRow ty fro sz n f q).2.1 l := by
  cases q with
  | none => exact hb
  | some p =>
    obtain ⟨m, g⟩ := p
    obtain ⟨rfl, hg⟩ : n = m ∧ ∀ i, i < m → ∀ j, j < sz → TLe (f i j) (g i j) := hc
    cases l with
    | nil => exact hb
    | _ b cap =>
      obtain ⟨h0, vs, fz, h1, h2, h3, h4⟩ := hb
      exact ⟨h0, vs, fz, h1, h2, h3, fun i hi j hj => let ⟨x, x1, x2⟩ := h4 i hi j hj; ⟨x, x1, hg i hi j hj _ _ _ x2⟩⟩
theorem reRow_n {ty : TypeId} {fro : Bool} {sz n : Nat} {f : Nat → Nat → T} {q : Option (Nat × (Nat → Nat → T))} (hc : (reRow ty fro sz n f q).2.2) : (reRow ty fro sz n f q).1 = n := by
  cases q with
  | none => rfl
  | some p => exact hc.1.symm
/-- A value whose cells are put into a block of their own. -/
def aBox (tt : TT) (el : TypeId) (l : List C) (nid : Nat) (q : Option (Nat × (Nat → Nat → T))) : Option (AV × Blk × Prop) :=
  match tt el with
  | some { k := .arr n e, .. } => match tt e, asT l with
    | some ie, some r => if r.length = n * ie.size ∧ 0 < ie.size ∧ n ≤ maxLen then some (.c (.ptr nid ie.size 0 0), (reRow el false ie.size n (rowOf r ie.size) q).2) else none
    | _, _ => none
  | some _ => some (.c (.ptr nid l.length 0 0), .box el l, True)
  | none => none
theorem aBox_good (R : Rep c.base c.X c.nt used ρ tm h a w) (hfresh : ¬ used nid) (hu : ∀ id, used id → used' id) (hn : used' nid) (hd : ∀ t, o.dst = some t → t < c.nt) {tt : TT} {el : TypeId} {l : List C} {q : Option (Nat × (Nat → Nat → T))} {r : AV × Blk × Prop}
    (e : aBox tt el l nid q = some r) (hck : r.2.2) {vs : Array Value} (hl : All2 (RC w (okOf c.base w ρ h) ρ) l vs.toList) {res : Result Next} (hr : res = .ok (.value (.pointer (some ⟨w.heap.size, 0, none⟩))) (w.alloc (.cells vs el (0, 0)))) :
    Good c used' tm h a o (some r.1) [(nid, some r.2.1)] res := by
  subst hr
  unfold aBox at e
  split at e
  · rename_i n el' i1 i2 i3 hti
    split at e
    · rename_i ie tl hie htl
      split at e
      · rename_i hc
        injection e with e
        subst e
        have hlen : vs.size = n * ie.size := by
          have := (asT_ok htl hl).length
          simp at this; omega
        refine ⟨ρ.set nid (.at w.heap.size n), R.add (upd_push w _) hfresh hu hn (fun b cap e => by injection e with e1 e2; subst e1; simp) (fun K => ?_) _ hd _ _ (fun K x hx => ?_)⟩
        · refine reRow_ok (l := .at w.heap.size n) hck ⟨Nat.le_refl _, vs, (0, 0), heap_alloc_new w _, hlen, fun _ => ⟨.inl (Nat.le_refl 0), hc.2.2⟩, ?_⟩
          exact rowOf_ok hc.1 ((asT_ok htl hl).mono fun x y hx => RT.mono K x y hx)
        · injection hx with hx; subst hx
          exact ⟨w.heap.size, n, by simp [Ren.set], by simp⟩
      · cases e
    · cases e
  · rename_i ti hti
    injection e with e
    subst e
    refine ⟨ρ.set nid (.at w.heap.size 1), R.add (upd_push w _) hfresh hu hn (fun b cap e => by injection e with e1 e2; subst e1; simp) (fun K => ?_) _ hd _ _ (fun K x hx => ?_)⟩
    · have hext : Ext ρ (ρ.set nid (.at w.heap.size 1)) := fun id x hx => by
        unfold Ren.set
        rw [if_neg (fun e => by subst e; exact hfresh (R.used id (by rw [hx]; simp)))]
        exact hx
      exact ⟨w.heap.size, vs, rfl, heap_alloc_new w _, hl.mono (RC.mono K hext)⟩
    · injection hx with hx; subst hx
      exact ⟨w.heap.size, 1, by simp [Ren.set], by simp⟩
  · cases e
def litC (l : List Value) : Option (List C) := if l.all (·.oneCell') then some (l.map fun v => .t (.v v)) else none
theorem litC_ok {l : List Value} {r : List C} (e : litC l = some r) : All2 (RC w ok ρ) r l := by
  unfold litC at e
  split at e
  · rename_i h1
    injection e with e
    subst e
    refine All2.of_get (by simp) fun i x y hx hy => ?_
    rw [List.getElem?_map, hy] at hx
    simp at hx
    subst hx
    have := List.all_eq_true.1 h1 y (List.mem_of_getElem? hy)
    exact ⟨rfl, this⟩
  · cases e
/-! Aggregates. -/
def splice {α : Type} (l : List α) (off : Nat) (m : List α) : List α := l.take off ++ m ++ l.drop (off + m.length)
theorem splice_length {α : Type} {l : List α} {off : Nat} {m : List α} (h : off + m.length ≤ l.length) : (splice l off m).length = l.length := by simp [splice]; omega
theorem All2.splice {α β : Type} {R : α → β → Prop} {l m : List α} {k n : List β} (h : All2 R l k) (h2 : All2 R m n) (off : Nat) : All2 R (splice l off m) (splice k off n) := by
  unfold Vm.splice
  rw [h2.length]
  exact ((h.take off).append h2).append (h.drop _)
def aFill (place : Nat → Option (Nat × Nat)) (cells : List C) : List (Nat × List C) → Option (List C)
  | [] => some cells
  | (i, l) :: rest => match place i with
    | none => none
    | some (off, size) => if l.length ≠ size ∨ off + l.length > cells.length then none else aFill place (splice cells off l) rest
theorem foldl_splice (off : Nat) : ∀ (vs : List Value) (k : Nat) (cs : Array Value), off + k + vs.length ≤ cs.size → ((vs.zipIdx k).foldl (fun cs (c, j) => cs.setIfInBounds (off + j) c) cs).toList = splice cs.toList (off + k) vs
  | [], k, cs, h => by simp [splice]
  | v :: vs, k, cs, h => by
    simp only [List.zipIdx_cons, List.foldl_cons]
    rw [foldl_splice off vs (k + 1) (cs.setIfInBounds (off + k) v) (by simp at h ⊢; omega)]
    simp at h
    apply List.ext_getElem?
    intro i
    simp only [splice, Array.toList_setIfInBounds, List.getElem?_append, List.length_take, List.length_set, Array.length_toList, List.getElem?_take, List.getElem?_set, List.length_append, List.length_cons, List.getElem?_drop, Nat.min_eq_left (show off + (k + 1) ≤ cs.size by omega), Nat.min_eq_left (show off + k ≤ cs.size by omega)]
    rcases Nat.lt_trichotomy i (off + k) with h1 | h1 | h1
    · simp [show i < off + (k + 1) by omega, h1, show i < off + (k + 1) + vs.length by omega, show i < off + k + (vs.length + 1) by omega, show off + k ≠ i by omega]
    · subst h1
      simp [show off + k < off + (k + 1) by omega, show off + k < off + (k + 1) + vs.length by omega, show off + k < cs.size by omega]
    · by_cases h2 : i < off + k + (vs.length + 1)
      · simp [show ¬ i < off + (k + 1) by omega, show i < off + (k + 1) + vs.length by omega, show ¬ i < off + k by omega, h2, show i - (off + k) = (i - (off + (k + 1))) + 1 by omega]
      · simp [show ¬ i < off + (k + 1) + vs.length by omega, h2, show off + (k + 1) + vs.length + (i - (off + (k + 1) + vs.length)) = off + k + (vs.length + 1) + (i - (off + k + (vs.length + 1))) by omega, show off + k ≠ off + k + (vs.length + 1) + (i - (off + k + (vs.length + 1))) by omega]
theorem aFill_ok {place : Nat → Option (Nat × Nat)} : ∀ {parts : List (Nat × List C)} {vparts : List (Nat × Value)} {cells : List C} {vs : Array Value} {r : List C}, aFill place cells parts = some r → All2 (RC w ok ρ) cells vs.toList →
    All2 (fun p q => p.1 = q.1 ∧ All2 (RC w ok ρ) p.2 q.2.cells.toList) parts vparts → ∃ us, Instr.fill place vs vparts = some us ∧ All2 (RC w ok ρ) r us.toList
  | [], [], cells, vs, r, e, hc, _ => by simp [aFill] at e; subst e; exact ⟨vs, rfl, hc⟩
  | (i, l) :: rest, (i', v) :: vrest, cells, vs, r, e, hc, ⟨⟨h1, h2⟩, h3⟩ => by
    simp only at h1 h2
    subst h1
    simp only [aFill] at e
    split at e
    · cases e
    · rename_i off size hp
      split at e
      · cases e
      · rename_i hne
        have hlen := h2.length
        have hlc := hc.length
        simp only [Array.length_toList] at hlen hlc
        have := foldl_splice off v.cells.toList 0 vs (by simp; omega)
        simp only [Nat.add_zero] at this
        obtain ⟨us, u1, u2⟩ := aFill_ok (vs := v.cells.zipIdx.foldl (fun cs (c, j) => cs.setIfInBounds (off + j) c) vs) e (by
          rw [← Array.foldl_toList, Array.toList_zipIdx, this]; exact hc.splice h2 off) h3
        refine ⟨us, ?_, u2⟩
        simp only [Instr.fill, hp]
        rw [if_neg (by simp; omega)]
        exact u1
  | [], _ :: _, _, _, _, _, _, h => h.elim
  | _ :: _, [], _, _, _, _, _, h => h.elim
def evParts (tm : Tm) : List (Nat × Operand) → Option (List (Nat × List C))
  | [] => some []
  | (i, x) :: l => match ev tm x with
    | some av => match avCells av, evParts tm l with
      | some cs, some r => some ((i, cs) :: r)
      | _, _ => none
    | none => none
theorem evParts_ok (R : Rep base X nt used ρ tm h a w) : ∀ {l : List (Nat × Operand)} {r : List (Nat × List C)}, evParts tm l = some r → All2 (fun p q => p.1 = q.1 ∧ All2 (RC w (okOf base w ρ h) ρ) p.2 q.2.cells.toList) r (l.map fun (i, x) => (i, a.eval x))
  | [], r, e => by simp [evParts] at e; subst e; trivial
  | (i, x) :: l, r, e => by
    simp only [evParts] at e
    split at e
    · rename_i av hav
      split at e
      · rename_i cs r' hcs hr
        injection e with e
        subst e
        exact ⟨⟨rfl, avCells_ok hcs (ev_ok R hav)⟩, evParts_ok R hr⟩
      · cases e
    · cases e
def aPlaces (tt : TT) : List (TypeId × Nat) → Option (List (Nat × Nat))
  | [] => some []
  | (t, off) :: l => match tt t, aPlaces tt l with
    | some i, some r => some ((off, i.size) :: r)
    | _, _ => none
theorem aPlaces_ok {P : Program} {tt : TT} (hT : TTok P tt) : ∀ {fs : List Field} {r : List (Nat × Nat)}, aPlaces tt (fs.map fun f => (f.type, f.offset)) = some r → fs.mapM (fun f => (P.info? f.type).map fun i => (f.offset, i.size)) = some r
  | [], r, e => by simp [aPlaces] at e; subst e; rfl
  | f :: fs, r, e => by
    simp only [List.map_cons, aPlaces] at e
    split at e
    · rename_i i r' hi hr
      injection e with e
      subst e
      obtain ⟨x, z, h1, h2, _⟩ := (hT _ _ hi).info
      rw [List.mapM_cons]
      simp [h1, h2, aPlaces_ok hT hr]
    · cases e
def aBuild (tt : TT) (tm : Tm) (t : TypeId) (parts : List (Nat × Operand)) : Option (AV × Prop) :=
  match tt t, evParts tm parts with
  | some i, some ps => match litC i.zero with
    | some z => match i.k with
      | .struct fs => match aPlaces tt fs with
        | some pl => match aFill (fun i => pl[i]?) z ps with
          | some r => some (.agg r, True)
          | none => none
        | none => none
      | .arr _ e => match tt e with
        | some ie => match aFill (fun i => some (i * ie.size, ie.size)) z ps with
          | some r => some (.agg r, True)
          | none => none
        | none => none
      | _ => none
    | none => none
  | _, _ => none
theorem aBuild_run {P : Program} {tt : TT} (hT : TTok P tt) {t : TypeId} {parts : Array (Nat × Operand)} {r : AV × Prop} (e : aBuild tt tm t parts.toList = some r) (R : Rep base X nt used ρ tm h a w) :
    ∃ v, (Instr.build t (parts.map fun (i, x) => (i, a.eval x))).run P w = .ok v w ∧ RV w (okOf base w ρ h) ρ r.1 v := by
  unfold aBuild at e
  split at e
  · rename_i i ps hti hps
    have hp := evParts_ok R hps
    have ht := hT _ _ hti
    obtain ⟨x, z, h1, _, _, h4, h5⟩ := ht.info
    split at e
    · rename_i zl hz
      have hzz : All2 (RC w (okOf base w ρ h) ρ) zl z.cells.toList := by rw [h5]; exact litC_ok hz
      have hmap : (parts.map fun (i, x) => (i, a.eval x)).toList = parts.toList.map fun (i, x) => (i, a.eval x) := by simp
      split at e
      · rename_i fs hk
        obtain ⟨fields, hu, hfs⟩ := ht.struct hk
        split at e
        · rename_i pl hpl
          split at e
          · rename_i r' hr'
            injection e with e
            subst e
            obtain ⟨us, u1, u2⟩ := aFill_ok hr' hzz hp
            rw [← hfs] at hpl
            refine ⟨.agg us, run_build w t _ us ?_, us, rfl, u2⟩
            simp only [Program.built, h1, hu, h4, aPlaces_ok hT hpl, hmap]
            rw [← u1]; congr 1; funext j; simp
          · cases e
        · cases e
      · rename_i n el hk
        have hu := ht.arr hk
        split at e
        · rename_i ie hie
          split at e
          · rename_i r' hr'
            injection e with e
            subst e
            obtain ⟨us, u1, u2⟩ := aFill_ok hr' hzz hp
            obtain ⟨y, _, y1, y2, _⟩ := (hT _ _ hie).info
            refine ⟨.agg us, run_build w t _ us ?_, us, rfl, u2⟩
            simp only [Program.built, h1, hu, h4, y1, hmap, y2]
            exact u1
          · cases e
        · cases e
      · cases e
    · cases e
  · cases e
end
end Vm
end Go.Proofs.Yteholdifeilkkaa
