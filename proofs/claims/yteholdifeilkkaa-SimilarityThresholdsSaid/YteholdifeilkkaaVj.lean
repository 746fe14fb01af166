/- The abstract machine: contracts of functions, and calls. -/
import Derived.Test.YteholdifeilkkaaVi
namespace Go.Proofs.Yteholdifeilkkaa
set_option linter.unusedVariables false
namespace Vm
def look {α : Type} : List (Nat × α) → Nat → Option α
  | [], _ => none
  | (k, v) :: l, i => bif Nat.beq k i then some v else look l i
theorem look_cons {α : Type} (k : Nat) (v : α) (l : List (Nat × α)) (i : Nat) : look ((k, v) :: l) i = if k = i then some v else look l i := by
  simp only [look]
  by_cases h : k = i
  · simp [h]
  · have : Nat.beq k i = false := by simpa [← Nat.beq_eq] using h
    simp [this, h]
/-- What a function comes to: handed blocks 0, 1, .. (inb) and arguments, it hands back a value and blocks (outb), new ones behind those; nothing else that was there has changed. -/
def Con0 (P : Program) (f : FuncId) (args : List AV) (inb : List (Nat × Blk)) (out : AV) (outb : List (Nat × Blk)) : Prop :=
  ∀ (w : World) (okA : Nat → Prop) (ρ : Ren) (vs : Array Value), (∀ b, okA b → b < w.heap.size) → (∀ id, ρ id ≠ none → ∃ b, look inb id = some b) →
    (∀ id blk, look inb id = some blk → ∃ l, ρ id = some l ∧ RB w okA ρ blk l ∧ ∀ b cap, l = .at b cap → b < w.heap.size ∧ ¬ okA b) →
    (∀ i j b c c', ρ i = some (.at b c) → ρ j = some (.at b c') → i = j) → All2 (RV w okA ρ) args vs.toList →
    Calls P f vs w fun e w' => ∃ v ρ', e = .returned v ∧ Ext ρ ρ' ∧ Upd (fun b => ∃ id cap, ρ id = some (.at b cap)) w w' ∧ RV w' (okOf ⟨w, okA, ρ⟩ w' ρ' (look outb)) ρ' out v ∧
      (∀ id blk, look outb id = some blk → ∃ l, ρ' id = some l ∧ RB w' (okOf ⟨w, okA, ρ⟩ w' ρ' (look outb)) ρ' blk l ∧ ∀ b cap, l = .at b cap → b < w'.heap.size ∧ (w.heap.size ≤ b ∨ ∃ id cap, ρ id = some (.at b cap)) ∧ (blk.isRow = true → w.heap.size ≤ b ∨ ∃ id bk cap, look inb id = some bk ∧ bk.isRow = true ∧ ρ id = some (.at b cap))) ∧
      (∀ i j b c c', (∃ x, look outb i = some x) → (∃ y, look outb j = some y) → ρ' i = some (.at b c) → ρ' j = some (.at b c') → i = j)
/-- A call of the function runs its body. -/
def Enters (P : Program) (f : FuncId) : Prop := ∃ fn, P.funcs[f]? = some fn ∧ (fn.name == "runtime.NumGoroutine") = false ∧ fn.body.isNone = false
def Con (P : Program) (f : FuncId) (args : List AV) (inb : List (Nat × Blk)) (out : AV) (outb : List (Nat × Blk)) : Prop := Enters P f ∧ Con0 P f args inb out outb
theorem Enters.run {P : Program} {f : FuncId} (h : Enters P f) (w : World) (args : Array Value) : (callFunc f args).run P w = .ok (.enter f args) w := by
  obtain ⟨fn, h1, h2, h3⟩ := h
  simp only [callFunc, Sem.run_bind, run_program, Result.andThen_ok, h1]
  rw [h2, h3]
  rfl
/-! Names of blocks, exchanged. -/
def C.ren (σ : Nat → Nat) : C → C
  | .t x => .t x
  | .ref id sz off n => .ref (σ id) sz off n
  | .ptr id sz e sub => .ptr (σ id) sz e sub
def renL (σ : Nat → Nat) : List C → List C
  | [] => []
  | x :: l => x.ren σ :: renL σ l
def AV.ren1 (σ : Nat → Nat) : AV → AV
  | .c x => .c (x.ren σ)
  | .agg l => .agg (renL σ l)
  | .fagg n f => .fagg n f
  | .tup l => .tup l
def ren1L (σ : Nat → Nat) : List AV → List AV
  | [] => []
  | x :: l => x.ren1 σ :: ren1L σ l
def AV.ren (σ : Nat → Nat) : AV → AV
  | .tup l => .tup (ren1L σ l)
  | x => x.ren1 σ
def Blk.ren (σ : Nat → Nat) : Blk → Blk
  | .box ty cs => .box ty (renL σ cs)
  | .row ty fro sz n f => .row ty fro sz n f
def C.ids : C → List Nat
  | .t _ => []
  | .ref id .. => [id]
  | .ptr id .. => [id]
def idsL : List C → List Nat
  | [] => []
  | x :: l => x.ids ++ idsL l
def AV.ids1 : AV → List Nat
  | .c x => x.ids
  | .agg l => idsL l
  | _ => []
def ids1L : List AV → List Nat
  | [] => []
  | x :: l => x.ids1 ++ ids1L l
def AV.ids : AV → List Nat
  | .tup l => ids1L l
  | x => x.ids1
def Blk.ids : Blk → List Nat
  | .box _ cs => idsL cs
  | .row .. => []
/-! Values that lead to nothing that is read only. -/
def C.flat : C → Bool
  | .t (.v _) => true
  | .t _ => false
  | _ => true
def flatL : List C → Bool
  | [] => true
  | x :: l => x.flat && flatL l
def AV.flat1 : AV → Bool
  | .c x => x.flat
  | .agg l => flatL l
  | _ => false
def flat1L : List AV → Bool
  | [] => true
  | x :: l => x.flat1 && flat1L l
def AV.flat : AV → Bool
  | .tup l => flat1L l
  | x => x.flat1
def isV : T → Prop
  | .v _ => True
  | _ => False
def Blk.flat : Blk → Prop
  | .box _ cs => flatL cs = true
  | .row _ _ sz n f => ∀ i, i < n → ∀ j, j < sz → isV (f i j)
def flatB : List (Nat × Blk) → Prop
  | [] => True
  | (_, b) :: l => b.flat ∧ flatB l
section
variable {w : World} {ok ok' : Nat → Prop} {ρ ρ' : Ren} {σ : Nat → Nat}
theorem RC.ren_ {x : C} {y : Value} (hok : x.flat = true ∨ ∀ b, ok b → ok' b) (hid : ∀ j ∈ x.ids, ∀ l, ρ j = some l → ρ' (σ j) = some l) (h : RC w ok ρ x y) : RC w ok' ρ' (x.ren σ) y := by
  cases x with
  | t x =>
    rcases hok with hok | hok
    · cases x with
      | v v => exact h
      | tree n sz f => simp [C.flat] at hok
      | eptr sz g sub => simp [C.flat] at hok
      | tst p => simp [C.flat] at hok
    · exact RT.mono ⟨hok, fun _ _ => rfl⟩ _ _ h
  | ref id sz off n => obtain ⟨l, h1, h2⟩ := h; exact ⟨l, hid id (by simp [C.ids]) l h1, h2⟩
  | ptr id sz e sub => obtain ⟨b, cap, h1, h2⟩ := h; exact ⟨b, cap, hid id (by simp [C.ids]) _ h1, h2⟩
theorem renL_ok : ∀ {l : List C} {ys : List Value}, (flatL l = true ∨ ∀ b, ok b → ok' b) → (∀ j ∈ idsL l, ∀ x, ρ j = some x → ρ' (σ j) = some x) → All2 (RC w ok ρ) l ys → All2 (RC w ok' ρ') (renL σ l) ys
  | [], [], _, _, _ => trivial
  | x :: l, y :: ys, hok, hid, ⟨h1, h2⟩ => ⟨RC.ren_ (hok.imp (fun h => by simp [flatL] at h; exact h.1) id) (fun j hj => hid j (by simp [idsL, hj])) h1,
      renL_ok (hok.imp (fun h => by simp [flatL] at h; exact h.2) id) (fun j hj => hid j (by simp [idsL, hj])) h2⟩
  | [], _ :: _, _, _, h => h.elim
  | _ :: _, [], _, _, h => h.elim
theorem R1.ren_ {x : AV} {y : Value} (hok : x.flat1 = true ∨ ∀ b, ok b → ok' b) (hid : ∀ j ∈ x.ids1, ∀ l, ρ j = some l → ρ' (σ j) = some l) (h : R1 w ok ρ x y) : R1 w ok' ρ' (x.ren1 σ) y := by
  cases x with
  | c x => exact RC.ren_ hok hid h
  | agg l => obtain ⟨ys, h1, h2⟩ := h; exact ⟨ys, h1, renL_ok hok hid h2⟩
  | fagg n f =>
    rcases hok with hok | hok
    · simp [AV.flat1] at hok
    · exact R1.mono ⟨hok, fun _ _ => rfl⟩ (ρ := fun _ => none) (ρ' := ρ') (fun _ _ h => by cases h) (.fagg n f) y h
  | tup l => exact h.elim
theorem ren1L_ok : ∀ {l : List AV} {ys : List Value}, (flat1L l = true ∨ ∀ b, ok b → ok' b) → (∀ j ∈ ids1L l, ∀ x, ρ j = some x → ρ' (σ j) = some x) → All2 (R1 w ok ρ) l ys → All2 (R1 w ok' ρ') (ren1L σ l) ys
  | [], [], _, _, _ => trivial
  | x :: l, y :: ys, hok, hid, ⟨h1, h2⟩ => ⟨R1.ren_ (hok.imp (fun h => by simp [flat1L] at h; exact h.1) id) (fun j hj => hid j (by simp [ids1L, hj])) h1,
      ren1L_ok (hok.imp (fun h => by simp [flat1L] at h; exact h.2) id) (fun j hj => hid j (by simp [ids1L, hj])) h2⟩
  | [], _ :: _, _, _, h => h.elim
  | _ :: _, [], _, _, h => h.elim
theorem RV.ren_ {x : AV} {y : Value} (hok : x.flat = true ∨ ∀ b, ok b → ok' b) (hid : ∀ j ∈ x.ids, ∀ l, ρ j = some l → ρ' (σ j) = some l) (h : RV w ok ρ x y) : RV w ok' ρ' (x.ren σ) y := by
  cases x with
  | c x => exact R1.ren_ (x := .c x) hok hid h
  | agg l => exact R1.ren_ (x := .agg l) hok hid h
  | fagg n f => exact R1.ren_ (x := .fagg n f) hok hid h
  | tup l => obtain ⟨ys, h1, h2⟩ := h; exact ⟨ys, h1, ren1L_ok hok hid h2⟩
theorem isV_rt {x : T} {y : Value} (h : isV x) (hr : RT w ok x y) : RT w ok' x y := by
  cases x with
  | v v => exact hr
  | tree n sz f => exact h.elim
  | eptr sz g sub => exact h.elim
  | tst p => exact h.elim
theorem RB.ren_ {x : Blk} {l : Loc} (hok : x.flat ∨ ∀ b, ok b → ok' b) (hid : ∀ j ∈ x.ids, ∀ l, ρ j = some l → ρ' (σ j) = some l) (h : RB w ok ρ x l) : RB w ok' ρ' (x.ren σ) l := by
  cases x with
  | box ty cs => obtain ⟨b, vs, h1, h2, h3⟩ := h; exact ⟨b, vs, h1, h2, renL_ok hok hid h3⟩
  | row ty fro sz n f =>
    cases l with
    | nil => exact h
    | _ b cap =>
      obtain ⟨h0, vs, fz, h1, h2, h3, h4⟩ := h
      refine ⟨h0, vs, fz, h1, h2, h3, fun i hi j hj => ?_⟩
      obtain ⟨v, v1, v2⟩ := h4 i hi j hj
      refine ⟨v, v1, ?_⟩
      rcases hok with hok | hok
      · exact isV_rt (hok i hi j hj) v2
      · exact RT.mono ⟨hok, fun _ _ => rfl⟩ _ _ v2
end
/-! Arguments, as the callee sees them. -/
def posOf (ids : List Nat) (id : Nat) : Option Nat := match ids with
  | [] => none
  | k :: l => bif Nat.beq k id then some 0 else match posOf l id with
    | some i => some (i + 1)
    | none => none
theorem posOf_some : ∀ {ids : List Nat} {id i : Nat}, posOf ids id = some i → ids[i]? = some id
  | k :: l, id, i, h => by
    simp only [posOf] at h
    by_cases e : k = id
    · subst e; simp at h; subst h; simp
    · have e' : Nat.beq k id = false := by simpa [← Nat.beq_eq] using e
      simp only [e', cond_false] at h
      split at h
      · rename_i j hj
        injection h with h
        subst h
        simpa using posOf_some hj
      · cases h
  | [], _, _, h => by cases h
theorem posOf_none : ∀ {ids : List Nat} {id : Nat}, posOf ids id = none → id ∉ ids
  | k :: l, id, h => by
    simp only [posOf] at h
    by_cases e : k = id
    · subst e; simp at h
    · have e' : Nat.beq k id = false := by simpa [← Nat.beq_eq] using e
      simp only [e', cond_false] at h
      split at h
      · cases h
      · rename_i hj
        simp only [List.mem_cons, not_or]
        exact ⟨fun x => e x.symm, posOf_none hj⟩
  | [], _, _ => by simp
/-- What is said of a call: the callee's view of the arguments, what it hands back, and how. -/
structure CI where
  ids : List Nat := []
  frz : List Nat := []
  flat : Bool := true
  cnt : Nat := 0
  args : List AV
  out : AV
  outb : List (Nat × Blk) := []
def subF (off : Nat) (f : Nat → Nat → T) : Nat → Nat → T := match off with
  | 0 => f
  | _ => fun i j => f (off + i) j
theorem subF_eq (off : Nat) (f : Nat → Nat → T) (i j : Nat) : subF off f i j = f (off + i) j := by
  cases off with
  | zero => simp [subF]
  | succ n => rfl
def argC (h : Hp) (ci : CI) : C → Option (C × Prop)
  | .t x => some (.t x, True)
  | .ref id sz off n => match posOf ci.ids id with
    | some i => some (.ref i sz off n, True)
    | none => match h id with
      | some (.row _ fro sz' m f) => if sz = sz' ∧ (fro || ci.flat || ci.frz.contains id) then some (.t (.tree n sz (subF off f)), off + n ≤ m) else none
      | _ => none
  | .ptr id sz e sub => match posOf ci.ids id with
    | some i => some (.ptr i sz e sub, True)
    | none => none
def argL (h : Hp) (ci : CI) : List C → Option (List C × Prop)
  | [] => some ([], True)
  | x :: l => match argC h ci x, argL h ci l with
    | some (y, p), some (r, q) => some (y :: r, p ∧ q)
    | _, _ => none
def argA (h : Hp) (ci : CI) : AV → Option (AV × Prop)
  | .c x => match argC h ci x with
    | some (y, p) => some (.c y, p)
    | none => none
  | .agg l => match argL h ci l with
    | some (r, p) => some (.agg r, p)
    | none => none
  | .fagg n f => some (.fagg n f, True)
  | .tup _ => none
def evArgs (tm : Tm) (h : Hp) (ci : CI) : List Operand → Option (List AV × Prop)
  | [] => some ([], True)
  | x :: l => match ev tm x with
    | some v => match argA h ci v, evArgs tm h ci l with
      | some (y, p), some (r, q) => some (y :: r, p ∧ q)
      | _, _ => none
    | none => none
/-- One view of an argument serves for another. -/
def ArgLe (x y : AV) : Prop := ∀ (w : World) (ok : Nat → Prop) (ρ : Ren) (v : Value), RV w ok ρ x v → RV w ok ρ y v
theorem ArgLe.refl (x : AV) : ArgLe x x := fun _ _ _ _ h => h
theorem argLe_all {x : List AV} : All2 ArgLe x x := by
  induction x with
  | nil => trivial
  | cons a l ih => exact ⟨ArgLe.refl a, ih⟩
theorem argLe_trans {P : List AV} {w : World} {ok : Nat → Prop} {ρ : Ren} : ∀ {l m : List AV} {vs : List Value}, All2 ArgLe l m → All2 (RV w ok ρ) l vs → All2 (RV w ok ρ) m vs
  | [], [], [], _, _ => trivial
  | _ :: _, _ :: _, _ :: _, ⟨a, b⟩, ⟨c, d⟩ => ⟨a _ _ _ _ c, argLe_trans (P := P) b d⟩
  | [], _ :: _, _, h, _ => h.elim
  | _ :: _, [], _, h, _ => h.elim
  | _ :: _, _ :: _, [], _, h => h.elim
  | [], [], _ :: _, _, h => h.elim
def mutT (l : List C) : Bool := match asT l with
  | some _ => true
  | none => false
/-- The blocks that are handed over. -/
def inOf (h : Hp) : List Nat → Nat → Option (List (Nat × Blk))
  | [], _ => some []
  | id :: l, i => match h id, inOf h l (i + 1) with
    | some (.box ty cs), some r => if mutT cs then some ((i, .box ty cs) :: r) else none
    | some (.row ty false sz n f), some r => some ((i, .row ty false sz n f) :: r)
    | _, _ => none
def sigma (ids : List Nat) (k nid : Nat) (j : Nat) : Nat := match ids[j]? with
  | some id => id
  | none => nid + (j - k)
def backW (ids : List Nat) (outb : List (Nat × Blk)) (σ : Nat → Nat) : Nat → List (Nat × Option Blk)
  | i => match ids with
    | [] => []
    | id :: l => (id, match look outb i with
      | some b => some (b.ren σ)
      | none => none) :: backW l outb σ (i + 1)
def newW (k : Nat) (σ : Nat → Nat) : List (Nat × Blk) → List (Nat × Option Blk)
  | [] => []
  | (j, b) :: l => bif Nat.blt j k then newW k σ l else (σ j, some (b.ren σ)) :: newW k σ l
def frzW (h : Hp) : List Nat → Option (List (Nat × Option Blk))
  | [] => some []
  | id :: l => match h id, frzW h l with
    | some (.row ty _ sz n f), some r => some ((id, some (.row ty true sz n f)) :: r)
    | _, _ => none
def keysIn (outb : List (Nat × Blk)) (k top : Nat) (l : List Nat) : Bool := l.all fun j => (look outb j).isSome || Nat.blt j k
def blkIds : List (Nat × Blk) → List Nat
  | [] => []
  | (_, b) :: l => b.ids ++ blkIds l
def disj (l m : List Nat) : Bool := l.all fun x => !m.contains x
def nodupB : List Nat → Bool
  | [] => true
  | x :: l => !l.contains x && nodupB l
def aCall (P : Program) (tm : Tm) (h : Hp) (f : FuncId) (args : List Operand) (nid : Nat) (ci : CI) : Option Eff :=
  let k := ci.ids.length
  let σ := sigma ci.ids k nid
  match evArgs tm h ci args, inOf h ci.ids 0, frzW h ci.frz with
  | some (as, p), some inb, some fw =>
    if nodupB ci.ids ∧ disj ci.frz ci.ids ∧ keysIn ci.outb k (k + ci.cnt) ci.out.ids ∧ keysIn ci.outb k (k + ci.cnt) (blkIds ci.outb) ∧ (ci.outb.all fun p => Nat.blt p.1 (k + ci.cnt)) ∧ (ci.flat = false ∨ ci.out.flat = true) then
      some ⟨some (ci.out.ren σ), backW ci.ids ci.outb σ 0 ++ newW k σ ci.outb ++ fw, p ∧ All2 ArgLe as ci.args ∧ (ci.flat = true → flatB ci.outb) ∧ Con P f ci.args inb ci.out ci.outb⟩
    else none
  | _, _, _ => none
end Vm
end Go.Proofs.Yteholdifeilkkaa
