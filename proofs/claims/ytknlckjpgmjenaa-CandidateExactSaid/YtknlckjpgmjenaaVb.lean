/- The abstract machine: types, operands, operations without calls: what each comes to. -/
import Derived.Test.YtknlckjpgmjenaaVa
namespace Go.Proofs.Ytknlckjpgmjenaa
set_option linter.unusedVariables false
namespace Vm
/-! Types. -/
inductive K where
  | int (k : IntKind)
  | bool
  | str
  | slice (e : TypeId)
  | struct (fs : List (TypeId × Nat))
  | arr (n : Nat) (e : TypeId)
  | ptr (e : TypeId)
  | other
def kOf : TypeDesc → K
  | .int k => .int k
  | .bool => .bool
  | .string => .str
  | .slice e => .slice e
  | .struct fs => .struct (fs.toList.map fun f => (f.type, f.offset))
  | .array n e => .arr n e
  | .pointer e => .ptr e
  | _ => .other
structure TI where
  k : K
  size : Nat
  bytes : Nat
  zero : List Value
  eq : Bool := false
def K.agg : K → Bool
  | .struct _ | .arr .. => true
  | _ => false
abbrev TT := Nat → Option TI
/-- A type whose values are compared by their parts: no part of it is compared otherwise. -/
def eqOkB (P : Program) (t : TypeId) : Bool := !P.stoodInHeld t && !P.eqGuardType P.depth t && (P.fieldsOf t).toList.all fun f => f.name != "_"
def tiOk (P : Program) (t : TypeId) (i : TI) : Prop :=
  (P.info? t).map (fun x => (x.size, x.bytes, x.zero.map fun v => v.cells.toList)) = some (i.size, i.bytes, some i.zero) ∧ (P.underlying t).map kOf = some i.k ∧ (!i.eq || eqOkB P t) = true
def TTok (P : Program) (tt : TT) : Prop := ∀ t i, tt t = some i → tiOk P t i
section
variable {P : Program} {t : TypeId} {i : TI}
theorem tiOk.info (h : tiOk P t i) : ∃ x z, P.info? t = some x ∧ x.size = i.size ∧ x.bytes = i.bytes ∧ x.zero = some z ∧ z.cells.toList = i.zero := by
  have h := h.1
  cases hx : P.info? t with
  | none => simp [hx] at h
  | some x =>
    simp only [hx, Option.map_some, Option.some.injEq, Prod.mk.injEq] at h
    obtain ⟨h1, h2, h3⟩ := h
    cases hz : x.zero with
    | none => simp [hz] at h3
    | some z => exact ⟨x, z, rfl, h1, h2, hz, by simpa [hz] using h3⟩
theorem tiOk.under (h : tiOk P t i) : ∃ d, P.underlying t = some d ∧ kOf d = i.k := by
  have h := h.2.1
  cases hx : P.underlying t with
  | none => simp [hx] at h
  | some d => exact ⟨d, rfl, by simpa [hx] using h⟩
theorem tiOk.eqOk (h : tiOk P t i) (he : i.eq = true) : P.stoodInHeld t = false ∧ P.eqGuardType P.depth t = false ∧ ((P.fieldsOf t).toList.all fun f => f.name != "_") = true := by
  have h := h.2.2
  rw [he] at h
  simp only [Bool.not_true, Bool.false_or, eqOkB, Bool.and_eq_true, Bool.not_eq_true'] at h
  exact ⟨h.1.1, h.1.2, h.2⟩
theorem tiOk.slice (h : tiOk P t i) {e : TypeId} (hk : i.k = .slice e) : P.underlying t = some (.slice e) := by
  obtain ⟨d, h1, h2⟩ := h.under
  rw [hk] at h2
  cases d <;> simp [kOf] at h2
  rw [h1, h2]
theorem tiOk.arr (h : tiOk P t i) {n : Nat} {e : TypeId} (hk : i.k = .arr n e) : P.underlying t = some (.array n e) := by
  obtain ⟨d, h1, h2⟩ := h.under
  rw [hk] at h2
  cases d <;> simp [kOf] at h2
  rw [h1, h2.1, h2.2]
theorem tiOk.str (h : tiOk P t i) (hk : i.k = .str) : P.underlying t = some .string := by
  obtain ⟨d, h1, h2⟩ := h.under
  rw [hk] at h2
  cases d <;> simp [kOf] at h2
  rw [h1]
theorem tiOk.int (h : tiOk P t i) {k : IntKind} (hk : i.k = .int k) : P.underlying t = some (.int k) := by
  obtain ⟨d, h1, h2⟩ := h.under
  rw [hk] at h2
  cases d <;> simp [kOf] at h2
  rw [h1, h2]
theorem tiOk.bool (h : tiOk P t i) (hk : i.k = .bool) : P.underlying t = some .bool := by
  obtain ⟨d, h1, h2⟩ := h.under
  rw [hk] at h2
  cases d <;> simp [kOf] at h2
  rw [h1]
theorem tiOk.struct (h : tiOk P t i) {fs : List (TypeId × Nat)} (hk : i.k = .struct fs) : ∃ fields, P.underlying t = some (.struct fields) ∧ fields.toList.map (fun f => (f.type, f.offset)) = fs := by
  obtain ⟨d, h1, h2⟩ := h.under
  rw [hk] at h2
  cases d <;> simp [kOf] at h2
  exact ⟨_, h1, h2⟩
theorem tiOk.size (h : tiOk P t i) (w : World) : (sizeOf t).run P w = .ok i.size w := by
  obtain ⟨x, z, h1, h2, _⟩ := h.info
  simp [sizeOf, typeInfo, h1, h2]
theorem tiOk.isAgg (h : tiOk P t i) (w : World) : (isAgg t).run P w = .ok i.k.agg w := by
  obtain ⟨d, h1, h2⟩ := h.under
  unfold Go.isAgg
  rw [Sem.run_bind, run_underlying h1 w, ← h2]
  cases d <;> simp [kOf, K.agg]
theorem tiOk.zero_ (h : tiOk P t i) (w : World) : ∃ z, (zeroValue t).run P w = .ok z w ∧ z.cells.toList = i.zero := by
  obtain ⟨x, z, h1, _, _, h3, h4⟩ := h.info
  exact ⟨z, by simp [zeroValue, typeInfo, h1, h3], h4⟩
end
/-! What an operation must come to. -/
def Yields (P : Program) (G : Value → World → Prop) : Result Next → Prop
  | .ok (.value v) w => G v w
  | .ok .skip w => G undef w
  | .ok (.enter f args) w => Calls P f args w fun e w' => ∃ v, e = .returned v ∧ G v w'
  | _ => False
structure Eff where
  val : Option AV
  W : List (Nat × Option Blk)
  chk : Prop
/-- The state that the operations of a body walk over, and what does not change in it. -/
structure Cx where
  P : Program
  base : Base
  X : Nat → Prop
  nt : Nat
def Good (c : Cx) (used' : Nat → Prop) (tm : Tm) (h : Hp) (a : Act) (o : Oper) (val : Option AV) (W : List (Nat × Option Blk)) (r : Result Next) : Prop :=
  Yields c.P (fun v w' => ∃ ρ', Rep c.base c.X c.nt used' ρ' (setTm tm o.dst val) (setHp h W) (a.put o.dst v) w') r
section
variable {c : Cx} {used used' : Nat → Prop} {ρ : Ren} {tm : Tm} {h : Hp} {a : Act} {w : World} {o : Oper} {nid : Nat}
theorem setHp_nil (h : Hp) : setHp h [] = h := by funext id; rfl
theorem Rep.used_mono {base : Base} {X : Nat → Prop} {nt : Nat} (R : Rep base X nt used ρ tm h a w) (hu : ∀ id, used id → used' id) : Rep base X nt used' ρ tm h a w :=
  ⟨R.tmp, R.heap, R.hX, R.inj, fun id hid => hu id (R.used id hid), R.upd, R.ext0, R.size, R.defers⟩
theorem good_value (R : Rep c.base c.X c.nt used ρ tm h a w) (hu : ∀ id, used id → used' id) (hd : ∀ t, o.dst = some t → t < c.nt) {v : Value} {av : AV} (hv : RV w (okOf c.base w ρ h) ρ av v) {r : Result Next} (hr : r = .ok (.value v) w) :
    Good c used' tm h a o (some av) [] r := by
  subst hr
  exact ⟨ρ, by rw [setHp_nil]; exact (R.used_mono hu).put_tm hd fun x hx => by injection hx with hx; subst hx; exact hv⟩
/-! Operands. -/
def ev (tm : Tm) : Operand → Option AV
  | .tmp t => tm t
  | .const v => if v.oneCell' then some (.c (.t (.v v))) else none
  | .func f => some (.c (.t (.v (.func (.func f) #[] #[]))))
  | .global _ => none
theorem ev_ok {base : Base} {X : Nat → Prop} {nt : Nat} (R : Rep base X nt used ρ tm h a w) {x : Operand} {av : AV} (hx : ev tm x = some av) : RV w (okOf base w ρ h) ρ av (a.eval x) := by
  cases x with
  | tmp t => exact R.tmp t av hx
  | const v =>
    simp only [ev] at hx
    split at hx
    · injection hx with hx; subst hx; rename_i h1; exact ⟨rfl, h1⟩
    · cases hx
  | func f => simp only [ev, Option.some.injEq] at hx; subst hx; exact ⟨rfl, rfl⟩
  | global g => cases hx
theorem ev_v {base : Base} {X : Nat → Prop} {nt : Nat} (R : Rep base X nt used ρ tm h a w) {x : Operand} {v : Value} (hx : ev tm x = some (.c (.t (.v v)))) : a.eval x = v := (ev_ok R hx).1
/-! Tests: their outcome may be laid down. -/
def asB (b : Bool) : Option Bool → AV × Prop
  | none => (.c (.t (.v (.bool b))), True)
  | some x => (.c (.t (.v (.bool x))), b = x)
theorem asB_ok (b : Bool) (q : Option Bool) (hc : (asB b q).2) (w : World) (ok : Nat → Prop) (ρ : Ren) : RV w ok ρ (asB b q).1 (.bool b) := by
  cases q with
  | none => exact ⟨rfl, rfl⟩
  | some x => have : b = x := hc; subst this; exact ⟨rfl, rfl⟩
/-! Arithmetic. -/
def aInt (op : BinOp) (k : IntKind) (x y : Int) (q : Option Bool) : Option (AV × Prop) :=
  let i (n : Int) (p : Prop) : Option (AV × Prop) := some (.c (.t (.v (.int k n))), p)
  match op with
  | .add => i (k.wrap (x + y)) True
  | .sub => i (k.wrap (x - y)) True
  | .mul => i (k.wrap (x * y)) True
  | .quo => i (k.wrap (x.tdiv y)) (y ≠ 0)
  | .rem => i (x.tmod y) (y ≠ 0)
  | .and => i (k.wrap (BitVec.ofInt k.bits x &&& BitVec.ofInt k.bits y).toNat) True
  | .or => i (k.wrap (BitVec.ofInt k.bits x ||| BitVec.ofInt k.bits y).toNat) True
  | .xor => i (k.wrap (BitVec.ofInt k.bits x ^^^ BitVec.ofInt k.bits y).toNat) True
  | .andNot => i (k.wrap (BitVec.ofInt k.bits x &&& ~~~BitVec.ofInt k.bits y).toNat) True
  | .shl => i (k.wrap (x * 2 ^ min y.toNat k.bits)) (0 ≤ y)
  | .shr => i (x.fdiv (2 ^ min y.toNat k.bits)) (0 ≤ y)
  | .eql => some (asB (x == y) q)
  | .neq => some (asB (x != y) q)
  | .lss => some (asB (decide (x < y)) q)
  | .leq => some (asB (decide (x ≤ y)) q)
  | .gtr => some (asB (decide (x > y)) q)
  | .geq => some (asB (decide (x ≥ y)) q)
def maxStr : Nat := 9223372036854775807
def aStr (op : BinOp) (x y : ByteArray) (q : Option Bool) : Option (AV × Prop) :=
  match op with
  | .add => some (.c (.t (.v (.string (x ++ y)))), x.size + y.size ≤ maxStr)
  | .eql => some (asB (x.toList == y.toList) q)
  | .neq => some (asB (!(x.toList == y.toList)) q)
  | .lss => some (asB (Op.bytesLess x.toList y.toList) q)
  | .leq => some (asB (Op.bytesLess x.toList y.toList || (x.toList == y.toList)) q)
  | .gtr => some (asB (!(Op.bytesLess x.toList y.toList || (x.toList == y.toList))) q)
  | .geq => some (asB (!(Op.bytesLess x.toList y.toList)) q)
  | _ => none
def aBin (tt : TT) (op : BinOp) (t : TypeId) (x y : AV) (q : Option Bool) : Option (AV × Prop) :=
  match x, y with
  | .c (.t (.v (.int k m))), .c (.t (.v (.int k' n))) => if k = k' ∨ op = .shl ∨ op = .shr then aInt op k m n q else none
  | .c (.t (.v (.string m))), .c (.t (.v (.string n))) => aStr op m n q
  | .c (.t (.v (.bool m))), .c (.t (.v (.bool n))) => match tt t with
    | some { k := .bool, .. } => match op with
      | .eql => some (asB (m == n) q)
      | .neq => some (asB (!(m == n)) q)
      | _ => none
    | _ => none
  | .c (.t (.tree n sz f)), .c (.t (.v (.slice none 0 0))) => match tt t with
    | some { k := .slice _, .. } => match op with
      | .eql => some (.c (.t (.tst (n = 0))), sz ≠ 0)
      | _ => none
    | _ => none
  | _, _ => none
theorem eqGuard_int {P : Program} {w : World} (op : BinOp) (t : TypeId) (x y : Operand) (k k' : IntKind) (m n : Int) : (eqGuard op t x y (.int k m) (.int k' n)).run P w = .ok () w := by
  unfold eqGuard; split <;> simp
theorem eqGuard_str {P : Program} {w : World} (op : BinOp) (t : TypeId) (x y : Operand) (m n : ByteArray) : (eqGuard op t x y (.string m) (.string n)).run P w = .ok () w := by
  unfold eqGuard; split <;> simp
theorem eqGuard_bool {P : Program} {w : World} (op : BinOp) (t : TypeId) (x y : Operand) (m n : Bool) : (eqGuard op t x y (.bool m) (.bool n)).run P w = .ok () w := by
  unfold eqGuard; split <;> simp
theorem aInt_run {P : Program} {w : World} {op : BinOp} {t : TypeId} {k k' : IntKind} {m n : Int} {q : Option Bool} {r : AV × Prop} (hk : k = k' ∨ op = .shl ∨ op = .shr) (h : aInt op k m n q = some r) (hc : r.2) (ok : Nat → Prop) (ρ : Ren) :
    ∃ v, (binOp op t (.int k m) (.int k' n)).run P w = .ok v w ∧ RV w ok ρ r.1 v := by
  have go : ∀ v, binOp op t (.int k m) (.int k' n) = pure v → (∃ z, (binOp op t (.int k m) (.int k' n)).run P w = .ok z w ∧ z = v) := fun v e => ⟨v, by rw [e]; rfl, rfl⟩
  cases op <;> simp only [aInt, Option.some.injEq] at h <;> subst h <;> simp only [reduceCtorEq, or_false, or_true, or_self] at hk <;> try subst hk
  case add => exact ⟨_, by simp [binOp, Op.intArith], rfl, rfl⟩
  case sub => exact ⟨_, by simp [binOp, Op.intArith], rfl, rfl⟩
  case mul => exact ⟨_, by simp [binOp, Op.intArith], rfl, rfl⟩
  case quo => exact ⟨_, by simp only [binOp, Op.intDiv]; rw [if_neg (fun e => e rfl), if_neg hc]; rfl, rfl, rfl⟩
  case rem => exact ⟨_, by simp only [binOp, Op.intDiv]; rw [if_neg (fun e => e rfl), if_neg hc]; rfl, rfl, rfl⟩
  case and => exact ⟨_, by simp only [binOp, Op.intBits]; rw [if_neg (fun e => e rfl)]; rfl, rfl, rfl⟩
  case or => exact ⟨_, by simp only [binOp, Op.intBits]; rw [if_neg (fun e => e rfl)]; rfl, rfl, rfl⟩
  case xor => exact ⟨_, by simp only [binOp, Op.intBits]; rw [if_neg (fun e => e rfl)]; rfl, rfl, rfl⟩
  case andNot => exact ⟨_, by simp only [binOp, Op.intBits]; rw [if_neg (fun e => e rfl)]; rfl, rfl, rfl⟩
  case shl => exact ⟨_, by simp only [binOp, Op.shift]; rw [if_neg (Int.not_lt.2 hc)]; rfl, rfl, rfl⟩
  case shr => exact ⟨_, by simp only [binOp, Op.shift]; rw [if_neg (Int.not_lt.2 hc)]; rfl, rfl, rfl⟩
  all_goals exact ⟨_, by simp only [binOp, Op.intCmp]; rw [if_neg (fun e => e rfl)]; rfl, asB_ok _ q hc _ _ _⟩
theorem aStr_run {P : Program} {w : World} {op : BinOp} {t : TypeId} {m n : ByteArray} {q : Option Bool} {r : AV × Prop} (h : aStr op m n q = some r) (hc : r.2) (ok : Nat → Prop) (ρ : Ren) :
    ∃ v, (binOp op t (.string m) (.string n)).run P w = .ok v w ∧ RV w ok ρ r.1 v := by
  cases op <;> simp only [aStr, Option.some.injEq, reduceCtorEq] at h <;> subst h
  case add => exact ⟨_, run_string_add_sum w m n hc, rfl, rfl⟩
  all_goals exact ⟨_, rfl, asB_ok _ q hc _ _ _⟩
theorem eqNil {P : Program} (w : World) (d : Nat) {t e : TypeId} {a : Option Addr} {l c : Nat} (h : P.underlying t = some (.slice e)) : (Op.equalIn (d + 1) t (.slice a l c) (.slice none 0 0)).run P w = .ok a.isNone w := by
  cases a <;> simp [Op.equalIn, run_underlying h]
theorem aBin_run {P : Program} {tt : TT} (hT : TTok P tt) {w : World} {op : BinOp} {t : TypeId} {x y : Operand} {u v : AV} {q : Option Bool} {r : AV × Prop} (h : aBin tt op t u v q = some r) (hc : r.2) (ok : Nat → Prop) (ρ : Ren) {m n : Value} (hm : RV w ok ρ u m) (hn : RV w ok ρ v n) :
    ∃ z, (do eqGuard op t x y m n; binOp op t m n : Sem Value).run P w = .ok z w ∧ RV w ok ρ r.1 z := by
  unfold aBin at h
  split at h
  · obtain ⟨rfl, _⟩ := hm
    obtain ⟨rfl, _⟩ := hn
    split at h
    · rename_i hk
      obtain ⟨z, h1, h2⟩ := aInt_run (P := P) (t := t) hk h hc ok ρ
      exact ⟨z, by rw [Sem.run_bind, eqGuard_int]; exact h1, h2⟩
    · cases h
  · obtain ⟨rfl, _⟩ := hm
    obtain ⟨rfl, _⟩ := hn
    obtain ⟨z, h1, h2⟩ := aStr_run (P := P) (t := t) h hc ok ρ
    exact ⟨z, by rw [Sem.run_bind, eqGuard_str]; exact h1, h2⟩
  · obtain ⟨rfl, _⟩ := hm
    obtain ⟨rfl, _⟩ := hn
    split at h
    · rename_i i1 i2 i3 i4 hti
      have hb := (hT _ _ hti).bool rfl
      split at h
      · injection h with h; subst h
        exact ⟨_, by rw [Sem.run_bind, eqGuard_bool]; exact run_eql_bool w t _ _ hb, asB_ok _ q hc _ _ _⟩
      · injection h with h; subst h
        exact ⟨_, by rw [Sem.run_bind, eqGuard_bool]; exact run_neq_bool w t _ _ hb, asB_ok _ q hc _ _ _⟩
      · cases h
    · cases h
  · obtain ⟨a, c, rfl, hle, hcell⟩ := hm
    obtain ⟨rfl, _⟩ := hn
    rename_i n' sz f hone
    split at h
    · rename_i e i1 i2 i3 i4 hti
      have hb := (hT _ _ hti).slice rfl
      split at h
      · injection h with h; subst h
        refine ⟨.bool a.isNone, ?_, a.isNone, rfl, fun ha => ?_⟩
        · have hg : (eqGuard .eql t x y (.slice a n' c) (.slice none 0 0)).run P w = .ok () w := by
            unfold eqGuard; simp
          have he : (Op.equalIn (9999 + 1) t (.slice a n' c) (.slice none 0 0)).run P w = .ok a.isNone w := by
            exact eqNil w 9999 hb
          rw [Sem.run_bind, hg]
          simp only [binOp]
          simp [Op.equal, Op.maxDepth, he]
        · by_cases h0 : n' = 0
          · exact h0
          · obtain ⟨b, o, v, rfl, _⟩ := hcell 0 (by omega) 0 (Nat.pos_of_ne_zero hc)
            simp at ha
      · cases h
    · cases h
  · cases h
def aUn (op : UnOp) (x : AV) (q : Option Bool) : Option (AV × Prop) :=
  match op, x with
  | .neg, .c (.t (.v (.int k n))) => some (.c (.t (.v (.int k (k.wrap (0 - n))))), True)
  | .xor, .c (.t (.v (.int k n))) => some (.c (.t (.v (.int k (k.wrap (BitVec.ofInt k.bits (if k.signed then -1 else k.max) ^^^ BitVec.ofInt k.bits n).toNat)))), True)
  | .not, .c (.t (.v (.bool b))) => some (asB (!b) q)
  | _, _ => none
theorem aUn_run {P : Program} {w : World} {op : UnOp} {x : AV} {q : Option Bool} {r : AV × Prop} (h : aUn op x q = some r) (hc : r.2) (ok : Nat → Prop) (ρ : Ren) {m : Value} (hm : RV w ok ρ x m) :
    ∃ z, (Op.unary op m).run P w = .ok z w ∧ RV w ok ρ r.1 z := by
  unfold aUn at h
  split at h
  · obtain ⟨rfl, _⟩ := hm; injection h with h; subst h
    exact ⟨_, by simp [Op.unary, Op.intArith], rfl, rfl⟩
  · obtain ⟨rfl, _⟩ := hm; injection h with h; subst h
    exact ⟨_, by simp [Op.unary, Op.intBits], rfl, rfl⟩
  · obtain ⟨rfl, _⟩ := hm; injection h with h; subst h
    exact ⟨_, by simp [Op.unary], asB_ok _ q hc _ _ _⟩
  · cases h
end
end Vm
end Go.Proofs.Ytknlckjpgmjenaa
