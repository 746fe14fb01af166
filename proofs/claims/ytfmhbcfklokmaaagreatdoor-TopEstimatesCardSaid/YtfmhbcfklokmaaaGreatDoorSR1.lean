/- Lemmas for the statement TopEstimates: Go functions told as pure functions, and laws about these; texts joined and shortened by a program of mine; no condition. -/
import Derived.Test.YtfmhbcfklokmaaaGreatDoorSR0
import Derived.Scope
import Derived.WalkKit
import Derived.ProofKit
import Derived.OpenShut
import Derived.ShutString
import Derived.ChangeOld
import Derived.ChangeSame
import Derived.Below
import Derived.Deep.Strs
import Derived.Laws.Strings
import Derived.RangeFuncNested
import Derived.RangeFuncBound
import Derived.RangeFuncCalls
import Derived.RangeFuncLeaves
import Derived.Shelf.Abstract
import Derived.Shelf.RegionOpen
import Derived.OwnWalkIn
import Derived.TacticsInMore
import Derived.LoopNIn
import Derived.LoopIn
import Derived.RangeFuncBox
import Derived.Maps.AppendAt
import Derived.Maps.OwnIn
import Derived.Maps.RangeWalk
import Derived.Test.YtfmhbcfklokmaaaGreatDoorRows
import Derived.Shelf.Strings.OnBuilder
import Derived.Shelf.Strings.FieldsFuncAny
import Derived.Shelf.SlIter.Nil
import Derived.Shelf.SortM.Plain
import Derived.Shelf.SortM.SortNone
import Derived.Ground.GgzProg
import Derived.Ground.SlgmProg
import Derived.Lib.FieldsP
import Derived.Lib.Join
import Derived.Laws.RangeString
set_option linter.unusedVariables false
set_option linter.unusedSimpArgs false
set_option linter.defProp false
namespace Go.Proofs.YtfmhbcfklokmaaaGreatDoor
namespace Vm
noncomputable section
structure Hi where
 h : bV := {}
 call : Option CI := none
def Hi.cnt (x : Hi) : Nat := match x.call with
 | some ci => ci.cnt
 | none => 1
def callee (tm : Tm) : Callee → Option (FuncId × List S1 × List S1)
 | .value (.func f) => some (f, [], [])
 | .value x => match ev tm x with
  | some (.c (.t (.v (.func (.func f) first cap)))) => match first.toList, cap.toList with
   | [], [] => some (f, [], [])
   | _, _ => none
  | some (.clo f a b) => some (f, a, b)
  | _ => none
 | _ => none
def Pi : Op → Bool
 | .lookup _ _ _ false => true
 | _ => false
def BC (P : Program) (tm : Tm) (o : Oper) : Option bg := match o.op with
 | .lookup t m x false => match ev tm m, ev tm x with
  | some (.c (.t (.mp P' t' l))), some (.c (.t (.v (.int .i64 k)))) => match By l k with
   | some v => some ⟨some (.c (.t (.v v))), [], (P' = P ∧ t' = t) ∧ v.oneCell' = true⟩
   | none => none
  | _, _ => none
 | _ => none
def p8 (P : Program) (tt : TT) (tm : Tm) (h : Hp) (o : Oper) (nid : Nat) (x : Hi) : Option bg :=
 match x.call with
 | none => match Pi o.op with
  | true => BC P tm o
  | false => qe tt tm h o nid x.h
 | some ci => match o.op with
  | .call cl => match callee tm cl.callee with
   | some (f, a, b) => mu P tm h f a b cl.args.toList nid ci
   | none => none
  | _ => none
section
variable {c : Cx} {used used' : Nat → Prop} {ρ ρ' : Ren} {tm tm' : Tm} {h h' : Hp} {a : Act} {w w' : World} {o : Oper} {nid : Nat}
theorem Ek {base : dC} {X : Nat → Prop} {nt : Nat} (R : aZ base X nt used ρ tm h a w) {cl : Call} {f : FuncId} {s1 s2 : List S1} (e : callee tm cl.callee = some (f, s1, s2)) (ho : o.op = .call cl) (hE : kg c.P f) :
  ∃ fs cs : Array Value, aG (RS w (okOf base w ρ h) ρ) s1 fs.toList ∧ aG (RS w (okOf base w ρ h) ρ) s2 cs.toList ∧ (execOp a.eval o).run c.P w = .ok (.enter f (fs ++ cl.args.map a.eval ++ cs)) w := by
 unfold callee at e
 split at e
 ·rename_i f' hf'
  simp only [Ri, Rr] at e
  obtain ⟨rfl, rfl, rfl⟩ := e
  have := hE.run w (cl.args.map a.eval)
  refine ⟨#[], #[], trivial, trivial, ?_⟩
  simp [execOp, ho, resolve, hf', Act.eval, Deferred.ofValue, invoke]
  exact this
 ·rename_i x hx
  split at e
  ·rename_i f' first cap hev
   split at e
   ·rename_i h1 h2
    simp only [Ri, Rr] at e
    obtain ⟨rfl, rfl, rfl⟩ := e
    refine ⟨#[], #[], trivial, trivial, ?_⟩
    have hv := cO R hev
    have e1 : first = #[] := by apply Array.ext'; simpa using h1
    have e2 : cap = #[] := by apply Array.ext'; simpa using h2
    subst e1; subst e2
    have := hE.run w (cl.args.map a.eval)
    simp [execOp, ho, resolve, hx, hv, Deferred.ofValue, invoke]
    exact this
   ·cases e
  ·rename_i f' s1' s2' hev
   simp only [Ri, Rr] at e
   obtain ⟨rfl, rfl, rfl⟩ := e
   obtain ⟨fs, cs, hv, h1, h2⟩ := bZ R hev
   have := hE.run w (fs ++ cl.args.map a.eval ++ cs)
   refine ⟨fs, cs, h1, h2, ?_⟩
   simp [execOp, ho, resolve, hx, hv, Deferred.ofValue, invoke]
   simpa using this
  ·cases e
 ·cases e
theorem LV (R : aZ c.base c.X c.nt used ρ tm h a w) {tt : TT} (hT : bH c.P tt) {x : Hi} (hfresh : ∀ id, nid ≤ id → id < nid + x.cnt → ¬ used id) (hu : ∀ id, used id → used' id) (hn : ∀ id, nid ≤ id → id < nid + x.cnt → used' id) (hd : ∀ t, o.dst = some t → t < c.nt)
  {r : bg} (e : p8 c.P tt tm h o nid x = some r) (hc : r.chk) : du c used' tm h a o r.val r.W ((execOp a.eval o).run c.P w) := by
 unfold p8 at e
 split at e
 ·rename_i hx
  have hcnt : x.cnt = 1 := by simp [Hi.cnt, hx]
  rw [hcnt] at hfresh hn
  split at e
  ·unfold BC at e
   split at e
   ·rename_i t m x ho
    split at e
    ·rename_i P' t' l k hm hx'
     split at e
     ·rename_i v hl
      injection e with e
      subst e
      obtain ⟨⟨rfl, rfl⟩, h1⟩ := hc
      obtain ⟨b, ob, e1, _, e2, e3⟩ := bZ R hm
      have e4 := cO R hx'
      have hrv : RV w (okOf c.base w ρ h) ρ (.c (.t (.v v))) v := ⟨rfl, h1⟩
      exact dd R hu hd hrv (by simp [execOp, ho, e1, e4, e3 w e2 k v hl])
     ·cases e
    ·cases e
   ·cases e
  ·exact Nc R (hfresh nid (RR _) (by omega)) hu (hn nid (RR _) (by omega)) hd hT e hc
 ·rename_i ci hx
  have hcnt : x.cnt = ci.cnt := by simp [Hi.cnt, hx]
  rw [hcnt] at hfresh hn
  split at e
  ·rename_i cl ho
   split at e
   ·rename_i f s1 s2 hf
    have hE : kg c.P f := by
     unfold mu at e
     simp only at e
     split at e
     ·split at e
      ·injection e with e; subst e; exact hc.2.2.2.1
      ·cases e
     ·cases e
    obtain ⟨fs, cs, k1, k2, k3⟩ := Ek (o := o) R hf ho hE
    exact K6 R hfresh hu hn hd e hc (vs := fs ++ cl.args.map a.eval ++ cs) k1 k2 (by simp) k3
   ·cases e
  ·cases e
theorem zP (L : Le tm tm' h h') {ci : CI} {x : C} {r : C × Prop} (e : ip h ci x = some r) : ip h' ci x = some r := by
 cases x with
 | t x => exact e
 | ref id sz off n =>
  simp only [ip] at e ⊢
  split at e
  ·exact e
  ·split at e
   ·rename_i hid
    simp only [L.hp _ _ hid]; exact e
   ·cases e
 | ptr id sz e0 sub => exact e
theorem zQ (L : Le tm tm' h h') {ci : CI} : ∀ {x : List C} {r : List C × Prop}, jr h ci x = some r → jr h' ci x = some r
 | [], r, e => e
 | x :: l, r, e => by
  simp only [jr] at e ⊢
  split at e
  ·rename_i h1 h2; simp only [zP L h1, zQ L h2]; exact e
  ·cases e
theorem LW (L : Le tm tm' h h') {ci : CI} {x : S1} {r : S1 × Prop} (e : kx h ci x = some r) : kx h' ci x = some r := by
 cases x with
 | c x =>
  simp only [kx] at e ⊢
  split at e
  ·rename_i h1; simp only [zP L h1]; exact e
  ·cases e
 | agg l =>
  simp only [kx] at e ⊢
  split at e
  ·rename_i h1; simp only [zQ L h1]; exact e
  ·cases e
theorem zp (L : Le tm tm' h h') {ci : CI} : ∀ {x : List S1} {r : List S1 × Prop}, jm h ci x = some r → jm h' ci x = some r
 | [], r, e => e
 | x :: l, r, e => by
  simp only [jm] at e ⊢
  split at e
  ·rename_i h1 h2; simp only [LW L h1, zp L h2]; exact e
  ·cases e
theorem LX (L : Le tm tm' h h') {ci : CI} {x : AV} {r : AV × Prop} (e : gJ h ci x = some r) : gJ h' ci x = some r := by
 cases x with
 | c x =>
  simp only [gJ] at e ⊢
  split at e
  ·rename_i h1; simp only [zP L h1]; exact e
  ·cases e
 | agg l =>
  simp only [gJ] at e ⊢
  split at e
  ·rename_i h1; simp only [zQ L h1]; exact e
  ·cases e
 | fagg n f => exact e
 | tup l => exact e
 | clo f a b =>
  simp only [gJ] at e ⊢
  split at e
  ·rename_i h1 h2; simp only [zp L h1, zp L h2]; exact e
  ·cases e
theorem FL (L : Le tm tm' h h') : ∀ {x : List Operand} {r : List AV}, kI tm x = some r → kI tm' x = some r
 | [], r, e => e
 | x :: l, r, e => by
  simp only [kI] at e ⊢
  split at e
  ·rename_i h1 h2; simp only [bY L h1, FL L h2]; exact e
  ·cases e
theorem El (L : Le tm tm' h h') {ci : CI} : ∀ {x : List AV} {r : List AV × Prop}, kk h ci x = some r → kk h' ci x = some r
 | [], r, e => e
 | x :: l, r, e => by
  simp only [kk] at e ⊢
  split at e
  ·rename_i h1 h2; simp only [LX L h1, El L h2]; exact e
  ·cases e
theorem KD (L : Le tm tm' h h') {ci : CI} {a b : List S1} {x : List Operand} {r : List AV × Prop} (e : pH tm h ci a b x = some r) : pH tm' h' ci a b x = some r := by
 unfold pH at e ⊢
 split at e
 ·rename_i h1; simp only [FL L h1]; exact El L e
 ·cases e
theorem zR (L : Le tm tm' h h') : ∀ {l : List Nat} {i : Nat} {r : List (Nat × aQ)}, iq h l i = some r → iq h' l i = some r
 | [], i, r, e => e
 | k :: l, i, r, e => by
  simp only [iq] at e ⊢
  split at e
  ·rename_i h1 h2; simp only [L.hp _ _ h1, zR L h2]; exact e
  ·rename_i h1 h2; simp only [L.hp _ _ h1, zR L h2]; exact e
  ·cases e
theorem EY (L : Le tm tm' h h') : ∀ {l : List Nat} {r : List (Nat × Option aQ)}, ky h l = some r → ky h' l = some r
 | [], r, e => e
 | k :: l, r, e => by
  simp only [ky] at e ⊢
  split at e
  ·rename_i h1 h2; simp only [L.hp _ _ h1, EY L h2]; exact e
  ·cases e
theorem K7 (L : Le tm tm' h h') {P : Program} {f : FuncId} {s1 s2 : List S1} {args : List Operand} {ci : CI} {r : bg} (e : mu P tm h f s1 s2 args nid ci = some r) : mu P tm' h' f s1 s2 args nid ci = some r := by
 unfold mu at e ⊢
 simp only at e ⊢
 split at e
 ·rename_i h1 h2 h3
  simp only [KD L h1, zR L h2, EY L h3]; exact e
 ·cases e
theorem KE (L : Le tm tm' h h') {cl : Callee} {f : FuncId × List S1 × List S1} (e : callee tm cl = some f) : callee tm' cl = some f := by
 unfold callee at e ⊢
 split at e
 ·exact e
 ·split at e
  ·rename_i hev; simp only [bY L hev]; exact e
  ·rename_i hev; simp only [bY L hev]; exact e
  ·cases e
 ·cases e
theorem LY (L : Le tm tm' h h') {P : Program} {tt : TT} {x : Hi} {r : bg} (e : p8 P tt tm h o nid x = some r) : p8 P tt tm' h' o nid x = some r := by
 unfold p8 at e ⊢
 split at e
 ·split at e
  ·unfold BC at e ⊢
   split at e
   ·split at e
    ·rename_i hm hx'
     simp only [bY L hm, bY L hx']
     exact e
    ·cases e
   ·cases e
  ·exact Nf L e
 ·split at e
  ·split at e
   ·rename_i hf; simp only [KE L hf]; exact K7 L e
   ·cases e
  ·cases e
def wP (ops : List Oper) (j : Nat) : Option Tmp := match ops[j]? with
 | some o => o.dst
 | none => none
def pr (tm : Tm) (ops : List Oper) (o : Oper) : Option Bool := match o.guard with
 | none => some true
 | some (j, b) => match wP ops j with
  | some t => match tm t with
   | some (.c (.t (.v (.bool x)))) => some (match x, b with
    | true, true => true
    | false, false => true
    | _, _ => false)
   | some (.tup []) => some false
   | _ => none
  | none => none
theorem Em {base : dC} {X : Nat → Prop} {nt : Nat} (R : aZ base X nt used ρ tm h a w) {ops : List Oper} (hd : ∀ (j : Nat) (p : Oper) (t : Nat), ops[j]? = some p → p.dst = some t → t < nt) {b : Bool} (e : pr tm ops o = some b) : Region.wanted o (yielded ops.toArray a.tmps) = b := by
 unfold pr at e
 unfold Region.wanted
 split at e
 ·rename_i hg; injection e with e; subst e; simp [hg]
 ·rename_i j want hg
  simp only [hg]
  split at e
  ·rename_i t ht
   split at e
   ·rename_i x hx
    have hv : a.tmps.getD t undef = .bool x := (R.tmp t _ hx).1
    have hlt : t < a.tmps.size := by
     rw [R.size]
     unfold wP at ht
     split at ht
     ·rename_i p hp; exact hd j p t hp ht
     ·cases ht
    have hy : yielded ops.toArray a.tmps j = some x := by
     unfold yielded
     unfold wP at ht
     split at ht
     ·rename_i p hp
      have hp' : ops.toArray[j]? = some p := by simpa using hp
      have : a.tmps[t]? = some (.bool x) := by
       rw [Array.getElem?_eq_getElem hlt]
       rw [RZ, Array.getElem?_eq_getElem hlt] at hv
       simpa using hv
      simp [hp', ht, this]
     ·cases ht
    rw [hy]
    injection e with e
    rw [← e]
    cases x <;> cases want <;> rfl
   ·rename_i hx
    injection e with e
    obtain ⟨ys, hv, _⟩ := R.tmp t _ hx
    have hy : yielded ops.toArray a.tmps j = none := by
     unfold yielded
     unfold wP at ht
     split at ht
     ·rename_i p hp
      have hp' : ops.toArray[j]? = some p := by simpa using hp
      simp only [hp', ht, Option.bind_some]
      rw [RZ] at hv
      cases hq : a.tmps[t]? with
      | none => rfl
      | some v => rw [hq] at hv; simp only [Option.getD_some] at hv; rw [hv]
     ·cases ht
    rw [hy, ← e]; rfl
   ·cases e
  ·cases e
theorem DT (L : Le tm tm' h h') {ops : List Oper} {b : Bool} (e : pr tm ops o = some b) : pr tm' ops o = some b := by
 unfold pr at e ⊢
 split at e
 ·exact e
 ·split at e
  ·split at e
   ·rename_i hx; simp only [L.tm _ _ hx]; exact e
   ·rename_i hx; simp only [L.tm _ _ hx]; exact e
   ·cases e
  ·cases e
def jn (P : Program) (tt : TT) (ops : List Oper) (tm : Tm) (h : Hp) (o : Oper) (nid : Nat) (x : Hi) : Option (Option bg) :=
 match pr tm ops o with
 | some true => match p8 P tt tm h o nid x with
  | some r => some (some r)
  | none => none
 | some false => some none
 | none => none
theorem K8 (L : Le tm tm' h h') {P : Program} {tt : TT} {ops : List Oper} {x : Hi} {r : Option bg} (e : jn P tt ops tm h o nid x = some r) : jn P tt ops tm' h' o nid x = some r := by
 unfold jn at e ⊢
 split at e
 ·rename_i hw
  simp only [DT L hw]
  split at e
  ·rename_i he; simp only [LY L he]; exact e
  ·cases e
 ·rename_i hw; simp only [DT L hw]; exact e
 ·cases e
def fG : Option bg → Option AV
 | some r => r.val
 | none => some (.tup [])
def dD : Option bg → List (Nat × Option aQ)
 | some r => r.W
 | none => []
def pI : Option bg → Prop
 | some r => r.chk
 | none => True
theorem Dp {P : Program} {ops : Array Oper} {i : Nat} {K : Act → World → Prop} {Q : Exit → Act → World → Prop} (ho : ops[i]? = some o) (G : Value → World → Prop) (hK : ∀ v w', G v w' → K (a.put o.dst v) w')
  (h : if Region.wanted o (yielded ops a.tmps) = true then ke P G ((execOp a.eval o).run P w) else G undef w) : wpOp P ops Q i K a w := by
 unfold wpOp
 simp only [ho]
 split
 ·rename_i hw
  rw [if_pos hw] at h
  refine .inl ?_
  unfold Oper.wp
  generalize (execOp a.eval o).run P w = r at h
  cases r with
  | ok x w' =>
   cases x <;> simp only [ke] at h
   case value v => exact hK v w' h
   case skip => exact hK _ w' h
   case enter f args =>
    refine Calls.mono h ?_
    rintro e w'' ⟨v, rfl, hg⟩
    exact hK v w'' hg
  | halt x w' => exact h.elim
 ·rename_i hw
  rw [if_neg hw] at h
  exact hK _ _ h
theorem Ao (R : aZ c.base c.X c.nt used ρ tm h a w) {tt : TT} (hT : bH c.P tt) {ops : List Oper} (hds : ∀ (j : Nat) (p : Oper) (t : Nat), ops[j]? = some p → p.dst = some t → t < c.nt) {i : Nat} (ho : ops[i]? = some o) {x : Hi}
  (hfresh : ∀ id, nid ≤ id → id < nid + x.cnt → ¬ used id) (hu : ∀ id, used id → used' id) (hn : ∀ id, nid ≤ id → id < nid + x.cnt → used' id) {r : Option bg} (e : jn c.P tt ops tm h o nid x = some r) (hc : pI r) {K : Act → World → Prop} {Q : Exit → Act → World → Prop}
  (hK : ∀ ρ' a' w', aZ c.base c.X c.nt used' ρ' (cm tm o.dst (fG r)) (bc h (dD r)) a' w' → K a' w') : wpOp c.P ops.toArray Q i K a w := by
 refine Dp (o := o) (by simpa using ho) (fun v w' => ∃ ρ', aZ c.base c.X c.nt used' ρ' (cm tm o.dst (fG r)) (bc h (dD r)) (a.put o.dst v) w') (fun v w' ⟨ρ', R'⟩ => hK ρ' _ w' R') ?_
 have hd : ∀ t, o.dst = some t → t < c.nt := fun t ht => hds i o t ho ht
 unfold jn at e
 split at e
 ·rename_i hw
  rw [Em R hds hw, if_pos rfl]
  split at e
  ·rename_i r' he
   injection e with e
   subst e
   exact LV R hT hfresh hu hn hd he hc
  ·cases e
 ·rename_i hw
  rw [Em R hds hw, if_neg (by simp)]
  injection e with e
  subst e
  exact ⟨ρ, by simp only [dD, fG, EQ]; exact (R.used_mono hu).put_tm hd fun x hx => by injection hx with hx; subst hx; exact ⟨#[], rfl, trivial⟩⟩
 ·cases e
end
structure St where
 tm : List (Nat × AV)
 h : List (Nat × aQ)
 n : Nat
def je {α : Type} (k : Nat) : List (Nat × α) → List (Nat × α)
 | [] => []
 | (i, v) :: l => bif Nat.beq i k then je k l else (i, v) :: je k l
theorem oQ {α : Type} (k : Nat) : ∀ (l : List (Nat × α)) (i : Nat), look (je k l) i = if k = i then none else look l i
 | [], i => by simp [je, look]
 | (j, v) :: l, i => by
  simp only [je]
  by_cases h : j = k
  ·subst h
   simp only [Nat.beq_refl, cond_true, oQ j l i, bK]
   split <;> rfl
  ·have : Nat.beq j k = false := by simpa [← Nat.beq_eq] using h
   simp only [this, cond_false, bK, oQ k l i]
   by_cases h1 : j = i
   ·subst h1; simp [Ne.symm h]
   ·simp [h1]
def mw (l : List (Nat × AV)) (d : Option Tmp) (v : Option AV) : List (Nat × AV) := match d with
 | none => l
 | some d => match v with
  | some v => (d, v) :: je d l
  | none => je d l
theorem vN (l : List (Nat × AV)) (d : Option Tmp) (v : Option AV) : look (mw l d v) = cm (look l) d v := by
 funext t
 cases d with
 | none => simp [mw, cm]
 | some d =>
  cases v with
  | none =>
   simp only [mw, oQ, cm, Ri]
   by_cases h : d = t
   ·subst h; simp
   ·simp [h, Ne.symm h]
  | some v =>
   simp only [mw, bK, oQ, cm, Ri]
   by_cases h : d = t
   ·subst h; simp
   ·simp [h, Ne.symm h]
def km (l : List (Nat × aQ)) : List (Nat × Option aQ) → List (Nat × aQ)
 | [] => l
 | (k, some b) :: W => (k, b) :: je k (km l W)
 | (k, none) :: W => je k (km l W)
theorem oR (l : List (Nat × aQ)) : ∀ (W : List (Nat × Option aQ)), look (km l W) = bc (look l) W
 | [] => by funext i; rfl
 | (k, some b) :: W => by
  funext i
  simp only [km, bK, oQ, oR l W, bc]
  by_cases h : k = i <;> simp [h]
 | (k, none) :: W => by
  funext i
  simp only [km, oQ, oR l W, bc]
def cr (c : Cx) (ρ : Ren) (S : St) (a : Act) (w : World) : Prop := aZ c.base c.X c.nt (fun id => id < S.n) ρ (look S.tm) (look S.h) a w
def eV (P : Program) (tt : TT) (ops : List Oper) : List Oper → List Hi → St → Option (St × List Prop)
 | [], _, S => some (S, [])
 | o :: rest, xs, S =>
  let x := xs.headD {}
  match jn P tt ops (look S.tm) (look S.h) o S.n x with
  | some r => match eV P tt ops rest xs.tail ⟨mw S.tm o.dst (fG r), km S.h (dD r), S.n + x.cnt⟩ with
   | some (S', l) => some (S', pI r :: l)
   | none => none
  | none => none
def fp : List Prop → Prop
 | [] => True
 | p :: l => p ∧ fp l
def fK (ops : List Oper) (nt : Nat) : Bool := ops.all fun o => match o.dst with
 | some t => Nat.blt t nt
 | none => true
theorem AM {ops : List Oper} {nt : Nat} (h : fK ops nt = true) (j : Nat) (p : Oper) (t : Nat) (hj : ops[j]? = some p) (ht : p.dst = some t) : t < nt := by
 have := Ru.1 h p (RN hj)
 simp only [ht] at this
 simpa using this
theorem zS {c : Cx} {tt : TT} (hT : bH c.P tt) {ops : List Oper} (hds : fK ops c.nt = true) {Q : Exit → Act → World → Prop} : ∀ (l : List Oper) (k : Nat) (xs : List Hi) (S S' : St) (ps : List Prop) (ρ : Ren) (a : Act) (w : World), (∀ j, l[j]? = ops[k + j]?) → cr c ρ S a w → eV c.P tt ops l xs S = some (S', ps) → fp ps →
  (∀ ρ' a' w', cr c ρ' S' a' w' → Q .normal a' w') → wpOps c.P ops.toArray Q (List.range' k l.length) a w
 | [], k, xs, S, S', ps, ρ, a, w, hl, R, e, hp, hQ => by
  simp only [eV, Ri, Rr] at e
  obtain ⟨rfl, rfl⟩ := e
  simp only [Rm, List.range'_zero, wpOps]
  exact hQ ρ a w R
 | o :: rest, k, xs, S, S', ps, ρ, a, w, hl, R, e, hp, hQ => by
  simp only [eV] at e
  split at e
  ·rename_i r hr
   split at e
   ·rename_i S1 ps1 he
    simp only [Ri, Rr] at e
    obtain ⟨rfl, rfl⟩ := e
    obtain ⟨p1, p2⟩ := hp
    simp only [Rk, List.range'_succ, wpOps_cons]
    have ho : ops[k]? = some o := by have := hl 0; simpa using this.symm
    refine Ao (used' := fun id => id < S.n + (xs.headD {}).cnt) R hT (AM hds) ho (fun id h1 h2 => by omega) (fun id h => by omega) (fun id h1 h2 => by omega) hr p1 fun ρ' a' w' R' => ?_
    refine zS hT hds rest (k + 1) xs.tail _ S1 ps1 ρ' a' w' (fun j => ?_) ?_ he p2 hQ
    ·have := hl (j + 1); simp only [List.getElem?_cons_succ] at this; rw [this]; congr 1; omega
    ·unfold cr; rw [vN, oR]; exact R'
   ·cases e
  ·cases e
theorem K9 {c : Cx} {tt : TT} (hT : bH c.P tt) {id : Nat} {ops : List Oper} (hds : fK ops c.nt = true) {xs : List Hi} {S S' : St} {ps : List Prop} (e : eV c.P tt ops ops xs S = some (S', ps)) (hp : fp ps) {ρ : Ren} {a : Act} {w : World} (R : cr c ρ S a w) {Q : Exit → Act → World → Prop}
  (hQ : ∀ ρ' a' w', cr c ρ' S' a' w' → Q .normal a' w') : (Code.region id ops.toArray false).wp c.P Q a w := by
 refine wp_region ?_
 have := zS hT hds ops 0 xs S S' ps ρ a w (fun j => by simp) R e hp hQ
 simpa [List.range_eq_range'] using this
abbrev OE := Oper × Option bg
def FT (E : Nat → Bool) : List OE → Nat → Tm → Tm
 | [], _, tm => tm
 | (o, e) :: r, j, tm => FT E r (j + 1) (if E j then cm tm o.dst (fG e) else tm)
def FH (E : Nat → Bool) : List OE → Nat → Hp → Hp
 | [], _, h => h
 | (_, e) :: r, j, h => FH E r (j + 1) (if E j then bc h (dD e) else h)
def eH (W : List (Nat × Option aQ)) (id : Nat) : Bool := W.any fun p => Nat.beq p.1 id
theorem zT {W : List (Nat × Option aQ)} {id : Nat} (h : Hp) (k : eH W id = false) : bc h W id = h id := by
 induction W with
 | nil => rfl
 | cons p W ih =>
  obtain ⟨i, b⟩ := p
  simp only [eH, List.any_cons, Bool.or_eq_false_iff] at k
  simp only [bc]
  rw [if_neg (fun e => by subst e; simp at k)]
  exact ih k.2
theorem FM {W : List (Nat × Option aQ)} {id : Nat} (h h' : Hp) (k : eH W id = true) : bc h W id = bc h' W id := by
 induction W with
 | nil => cases k
 | cons p W ih =>
  obtain ⟨i, b⟩ := p
  simp only [bc]
  by_cases e : i = id
  ·simp [e]
  ·rw [if_neg e, if_neg e]
   refine ih ?_
   have e' : Nat.beq i id = false := by simpa [← Nat.beq_eq] using e
   simpa [eH, e'] using k
section
variable {E F : Nat → Bool}
theorem pg {t : Nat} : ∀ (l : List OE) (j : Nat) (tm tm' : Tm), tm t = tm' t → (∀ m o e, l[m]? = some (o, e) → o.dst = some t → E (j + m) = F (j + m)) → FT E l j tm t = FT F l j tm' t
 | [], j, tm, tm', h, _ => h
 | (o, e) :: r, j, tm, tm', h, hw => by
  simp only [FT]
  refine pg r (j + 1) _ _ ?_ (fun m o' e' hm hd => by have := hw (m + 1) o' e' (by simpa using hm) hd; rwa [show j + (m + 1) = j + 1 + m by omega] at this)
  by_cases hd : o.dst = some t
  ·have := hw 0 o e (by simp) hd
   simp only [Nat.add_zero] at this
   rw [this]
   split
   ·simp [cm, hd]
   ·exact h
  ·have h1 : ∀ (b : Bool) (u : Tm), (if b then cm u o.dst (fG e) else u) t = u t := fun b u => by
    cases b
    ·rfl
    ·simp only [if_true, cm]; rw [if_neg (fun x => hd x.symm)]
   rw [h1, h1]; exact h
theorem pi {id : Nat} : ∀ (l : List OE) (j : Nat) (h h' : Hp), h id = h' id → (∀ m o e, l[m]? = some (o, e) → eH (dD e) id = true → E (j + m) = F (j + m)) → FH E l j h id = FH F l j h' id
 | [], j, h, h', hh, _ => hh
 | (o, e) :: r, j, h, h', hh, hw => by
  simp only [FH]
  refine pi r (j + 1) _ _ ?_ (fun m o' e' hm hd => by have := hw (m + 1) o' e' (by simpa using hm) hd; rwa [show j + (m + 1) = j + 1 + m by omega] at this)
  cases hd : eH (dD e) id with
  | true =>
   have := hw 0 o e (by simp) hd
   simp only [Nat.add_zero] at this
   rw [this]
   split
   ·exact FM _ _ hd
   ·exact hh
  | false =>
   have h1 : ∀ (b : Bool) (u : Hp), (if b then bc u (dD e) else u) id = u id := fun b u => by
    cases b
    ·rfl
    ·exact zT _ hd
   rw [h1, h1]; exact hh
theorem Gx {t i : Nat} {o : Oper} {e : Option bg} : ∀ (l : List OE) (j : Nat) (tm : Tm), l[i]? = some (o, e) → o.dst = some t → E (j + i) = true → (∀ m o' e', i < m → l[m]? = some (o', e') → o'.dst = some t → E (j + m) = false) → FT E l j tm t = fG e
 | [], _, _, h, _, _, _ => by simp at h
 | (o1, e1) :: r, j, tm, h, hd, hE, hw => by
  cases i with
  | zero =>
   simp at h
   obtain ⟨rfl, rfl⟩ := h
   simp only [FT]
   simp only [Nat.add_zero] at hE
   rw [hE, if_pos rfl]
   have h2 : FT E r (j + 1) (cm tm o1.dst (fG e1)) t = FT (fun _ => false) r (j + 1) (cm tm o1.dst (fG e1)) t :=
    pg r (j + 1) _ _ rfl (fun m o' e' hm hd' => by have := hw (m + 1) o' e' (by omega) (by simpa using hm) hd'; rwa [show j + (m + 1) = j + 1 + m by omega] at this)
   have h3 : ∀ (r : List OE) (j : Nat) (u : Tm), FT (fun _ => false) r j u = u := by
    intro r
    induction r with
    | nil => intro j u; rfl
    | cons p r ih => intro j u; obtain ⟨a, b⟩ := p; simp only [FT]; exact ih _ _
   rw [h2, h3]; simp [cm, hd]
  | succ i =>
   simp only [FT]
   exact Gx r (j + 1) _ (by simpa using h) hd (by rw [← hE]; congr 1; omega) (fun m o' e' hm hl hd' => by have := hw (m + 1) o' e' (by omega) (by simpa using hl) hd'; rwa [show j + (m + 1) = j + 1 + m by omega] at this)
theorem Gy {id i : Nat} {o : Oper} {e : Option bg} : ∀ (l : List OE) (j : Nat) (h : Hp), l[i]? = some (o, e) → eH (dD e) id = true → E (j + i) = true → (∀ m o' e', i < m → l[m]? = some (o', e') → eH (dD e') id = true → E (j + m) = false) → ∀ h0 : Hp, FH E l j h id = bc h0 (dD e) id
 | [], _, _, h, _, _, _, _ => by simp at h
 | (o1, e1) :: r, j, h, hl, hd, hE, hw, h0 => by
  cases i with
  | zero =>
   simp at hl
   obtain ⟨rfl, rfl⟩ := hl
   simp only [FH]
   simp only [Nat.add_zero] at hE
   rw [hE, if_pos rfl]
   have h2 : FH E r (j + 1) (bc h (dD e1)) id = FH (fun _ => false) r (j + 1) (bc h (dD e1)) id :=
    pi r (j + 1) _ _ rfl (fun m o' e' hm hd' => by have := hw (m + 1) o' e' (by omega) (by simpa using hm) hd'; rwa [show j + (m + 1) = j + 1 + m by omega] at this)
   have h3 : ∀ (r : List OE) (j : Nat) (u : Hp), FH (fun _ => false) r j u = u := by
    intro r
    induction r with
    | nil => intro j u; rfl
    | cons p r ih => intro j u; obtain ⟨a, b⟩ := p; simp only [FH]; exact ih _ _
   rw [h2, h3]; exact FM _ _ hd
  | succ i =>
   simp only [FH]
   exact Gy r (j + 1) _ (by simpa using hl) hd (by rw [← hE]; congr 1; omega) (fun m o' e' hm hl hd' => by have := hw (m + 1) o' e' (by omega) (by simpa using hl) hd'; rwa [show j + (m + 1) = j + 1 + m by omega] at this) h0
theorem LZ {i : Nat} {o : Oper} {e : Option bg} {l : List OE} {tm : Tm} (hi : l[i]? = some (o, e)) (hE : E i = false) (hF : ∀ m, F m = (E m || Nat.beq m i)) (hw : ∀ m o' e' t, i < m → l[m]? = some (o', e') → o'.dst = some t → o.dst = some t → E m = false) :
  FT F l 0 tm = cm (FT E l 0 tm) o.dst (fG e) := by
 funext t
 by_cases hd : o.dst = some t
 ·rw [Gx l 0 tm hi hd (by rw [hF]; simp) (fun m o' e' hm hl hd' => by
   rw [R9, hF, hw m o' e' t hm hl hd' hd]
   have : Nat.beq m i = false := by simpa [← Nat.beq_eq] using (by omega : m ≠ i)
   simp [this])]
  simp [cm, hd]
 ·rw [cm, if_neg (fun x => hd x.symm)]
  refine pg l 0 _ _ rfl fun m o' e' hm hd' => ?_
  rw [R9, hF]
  have : m ≠ i := fun x => by subst x; rw [hi] at hm; injection hm with hm; injection hm with h1 _; subst h1; exact hd hd'
  have : Nat.beq m i = false := by simpa [← Nat.beq_eq] using this
  simp [this]
theorem L0 {i : Nat} {o : Oper} {e : Option bg} {l : List OE} {h : Hp} (hi : l[i]? = some (o, e)) (hE : E i = false) (hF : ∀ m, F m = (E m || Nat.beq m i)) (hw : ∀ m o' e' id, i < m → l[m]? = some (o', e') → eH (dD e') id = true → eH (dD e) id = true → E m = false) :
  FH F l 0 h = bc (FH E l 0 h) (dD e) := by
 funext id
 cases hd : eH (dD e) id with
 | true =>
  exact Gy l 0 h hi hd (by rw [hF]; simp) (fun m o' e' hm hl hd' => by
   rw [R9, hF, hw m o' e' id hm hl hd' hd]
   have : Nat.beq m i = false := by simpa [← Nat.beq_eq] using (by omega : m ≠ i)
   simp [this]) _
 | false =>
  rw [zT _ hd]
  refine pi l 0 _ _ rfl fun m o' e' hm hd' => ?_
  rw [R9, hF]
  have : m ≠ i := fun x => by subst x; rw [hi] at hm; injection hm with hm; injection hm with _ h1; subst h1; rw [hd] at hd'; cases hd'
  have : Nat.beq m i = false := by simpa [← Nat.beq_eq] using this
  simp [this]
end
theorem AN {E : Nat → Bool} (h : ∀ i, E i = false) : ∀ (r : List OE) (j : Nat) (u : Tm), FT E r j u = u
 | [], j, u => rfl
 | (o, e) :: r, j, u => by
  have := h j
  simp only [FT, this]
  exact AN h r _ _
theorem AO {E : Nat → Bool} (h : ∀ i, E i = false) : ∀ (r : List OE) (j : Nat) (u : Hp), FH E r j u = u
 | [], j, u => rfl
 | (o, e) :: r, j, u => by
  have := h j
  simp only [FH, this]
  exact AO h r _ _
def LT (E : Nat → Bool) : List OE → Nat → List (Nat × AV) → List (Nat × AV)
 | [], _, l => l
 | (o, e) :: r, j, l => LT E r (j + 1) (bif E j then mw l o.dst (fG e) else l)
def LH (E : Nat → Bool) : List OE → Nat → List (Nat × aQ) → List (Nat × aQ)
 | [], _, l => l
 | (_, e) :: r, j, l => LH E r (j + 1) (bif E j then km l (dD e) else l)
theorem wQ (E : Nat → Bool) : ∀ (l : List OE) (j : Nat) (s : List (Nat × AV)), look (LT E l j s) = FT E l j (look s)
 | [], j, s => rfl
 | (o, e) :: r, j, s => by
  simp only [LT, FT]
  rw [wQ E r (j + 1)]
  cases E j
  ·rfl
  ·simp only [cond_true, vN]; rfl
theorem wR (E : Nat → Bool) : ∀ (l : List OE) (j : Nat) (s : List (Nat × aQ)), look (LH E l j s) = FH E l j (look s)
 | [], j, s => rfl
 | (o, e) :: r, j, s => by
  simp only [LH, FH]
  rw [wR E r (j + 1)]
  cases E j
  ·rfl
  ·simp only [cond_true, oR]; rfl
def fI {α : Type} (p : Nat → Bool) : List (Nat × α) → List (Nat × α)
 | [] => []
 | (k, v) :: l => bif p k then (k, v) :: fI p l else fI p l
theorem o9 {α : Type} (p : Nat → Bool) : ∀ (l : List (Nat × α)) (i : Nat), look (fI p l) i = if p i then look l i else none
 | [], i => by simp [fI, look]
 | (k, v) :: l, i => by
  simp only [fI]
  cases h : p k with
  | true =>
   simp only [cond_true, bK, o9 p l i]
   by_cases e : k = i
   ·subst e; simp [h]
   ·simp [e]
  | false =>
   simp only [cond_false, bK, o9 p l i]
   by_cases e : k = i
   ·subst e; simp [h]
   ·simp [e]
def cH (masks : List Nat) (j i : Nat) : Bool := (masks.getD j 0).testBit i
def kh (masks : List Nat) : List Edge → Nat
 | [] => 0
 | e :: l => bif Region.binds .any e then (2 ^ e.on ||| masks.getD e.on 0) ||| kh masks l else kh masks l
def Qa (i : Nat) (l : List Edge) : Bool := l.all fun e => !Region.binds .any e || Nat.blt e.on i
def wZ (masks : List Nat) : List Oper → Nat → Bool
 | [], _ => true
 | o :: l, i => Qa i o.after.toList && Nat.beq (masks.getD i 0) (kh masks o.after.toList) && wZ masks l (i + 1)
def BD (masks : List Nat) (ops : List Oper) (i t : Nat) : Bool := (ops.zipIdx).all fun p => match p.1.dst with
 | some d => !Nat.beq d t || Nat.beq p.2 i || cH masks i p.2 || cH masks p.2 i
 | none => true
def BE (masks : List Nat) (wk : List (List Nat)) (i id : Nat) : Bool := (wk.zipIdx).all fun p => !p.1.contains id || Nat.beq p.2 i || cH masks i p.2 || cH masks p.2 i
def Qr (masks : List Nat) (ops : List Oper) : Bool := (ops.zipIdx).all fun p => (ops.zipIdx).all fun q => match p.1.dst, q.1.dst with
 | some d, some t => !Nat.beq d t || Nat.ble q.2 p.2 || cH masks q.2 p.2
 | _, _ => true
def Qs (masks : List Nat) (wk : List (List Nat)) : Bool := (wk.zipIdx).all fun p => (wk.zipIdx).all fun q => Nat.ble q.2 p.2 || cH masks q.2 p.2 || p.1.all fun x => !q.1.contains x
def tH (P : Program) (tt : TT) (ops : List Oper) (masks : List Nat) (wk : List (List Nat)) (S : St) : List Oper → Nat → List Hi → List OE → Nat → Option (List OE × Nat)
 | [], _, _, acc, nid => some (acc, nid)
 | o :: rest, i, xs, acc, nid =>
  let x := xs.headD {}
  match jn P tt ops (look (fI (BD masks ops i) (LT (cH masks i) acc 0 S.tm))) (look (fI (BE masks wk i) (LH (cH masks i) acc 0 S.h))) o nid x with
  | some r => if (dD r).all fun p => (wk.getD i []).contains p.1 then tH P tt ops masks wk S rest (i + 1) xs.tail (acc ++ [(o, r)]) (nid + x.cnt) else none
  | none => none
def xu : Nat → Bool := fun _ => true
def mh (P : Program) (tt : TT) (ops : List Oper) (masks : List Nat) (wk : List (List Nat)) (xs : List Hi) (S : St) : Option (St × List Prop) :=
 if wZ masks ops 0 && Nat.beq wk.length ops.length && Nat.beq masks.length ops.length && Qr masks ops && Qs masks wk then
  match tH P tt ops masks wk S ops 0 xs [] S.n with
  | some (l, n) => some (⟨LT xu l 0 S.tm, LH xu l 0 S.h, n⟩, l.map fun p => pI p.2)
  | none => none
 else none
def eF (n : Nat) : List Hi → Nat → Nat
 | _, 0 => n
 | xs, i + 1 => eF (n + (xs.headD {}).cnt) xs.tail i
theorem oS : ∀ (i n : Nat) (xs : List Hi), eF n xs (i + 1) = eF n xs i + (xs.getD i {}).cnt
 | 0, n, xs => by cases xs <;> simp [eF]
 | i + 1, n, xs => by
  rw [eF, oS i]
  cases xs <;> simp [eF]
theorem s9 (n : Nat) (xs : List Hi) : ∀ {i j : Nat}, i ≤ j → eF n xs i ≤ eF n xs j := by
  intro i j h
  induction j with
  | zero => have : i = 0 := by omega
            subst this; exact RR _
  | succ j ih =>
    rcases Sd i (j + 1) with h1 | h1
    · have := ih (by omega); rw [oS]; omega
    · have : i = j + 1 := by omega
      subst this; exact RR _
theorem zc {P : Program} {tt : TT} {ops : List Oper} {masks : List Nat} {wk : List (List Nat)} {S : St} : ∀ (rest : List Oper) (i : Nat) (xs : List Hi) (acc : List OE) (nid : Nat) (l : List OE) (n : Nat), acc.length = i → tH P tt ops masks wk S rest i xs acc nid = some (l, n) →
  n = eF nid xs rest.length ∧ l.take i = acc ∧ l.length = i + rest.length ∧ ∀ m o, rest[m]? = some o → ∃ r, l[i + m]? = some (o, r) ∧
   jn P tt ops (look (fI (BD masks ops (i + m)) (LT (cH masks (i + m)) (l.take (i + m)) 0 S.tm))) (look (fI (BE masks wk (i + m)) (LH (cH masks (i + m)) (l.take (i + m)) 0 S.h))) o (eF nid xs m) (xs.getD m {}) = some r ∧ ∀ id, eH (dD r) id = true → id ∈ wk.getD (i + m) []
 | [], i, xs, acc, nid, l, n, ha, e => by
  simp only [tH, Ri, Rr] at e
  obtain ⟨rfl, rfl⟩ := e
  exact ⟨rfl, by rw [Sf (by omega)], by simp [ha], fun m o hm => by simp at hm⟩
 | o :: rest, i, xs, acc, nid, l, n, ha, e => by
  simp only [tH] at e
  split at e
  ·rename_i r hr
   split at e
   ·rename_i hk
    obtain ⟨h1, h2, h3, h4⟩ := zc rest (i + 1) xs.tail (acc ++ [(o, r)]) _ l n (by simp [ha]) e
    have htake : l.take i = acc := by
     have := congrArg (List.take i) h2
     rw [List.take_take, Nat.min_eq_left (by omega), List.take_append_of_le_length (by omega), Sf (by omega : acc.length ≤ i)] at this
     exact this
    have hli : l[i]? = some (o, r) := by
     have := congrArg (fun x => x[i]?) h2
     simp only [List.getElem?_take, List.getElem?_append] at this
     rw [if_pos (by omega), if_neg (by omega)] at this
     rw [this]; simp [ha]
    refine ⟨by rw [h1]; simp [eF], htake, by rw [h3]; simp; omega, fun m o' hm => ?_⟩
    cases m with
    | zero =>
     simp at hm
     subst hm
     refine ⟨r, by simpa using hli, ?_, fun id hid => ?_⟩
     ·simp only [Nat.add_zero, eF]
      rw [htake]
      have : xs.getD 0 ({} : Hi) = xs.headD {} := by cases xs <;> rfl
      rw [this]; exact hr
     ·simp only [eH, List.any_eq_true] at hid
      obtain ⟨p, hp, hpe⟩ := hid
      have := Ru.1 hk p hp
      have hpi : p.1 = id := Nat.eq_of_beq_eq_true hpe
      rw [hpi] at this
      simpa using this
    | succ m =>
     obtain ⟨r', k1, k2, k3⟩ := h4 m o' (by simpa using hm)
     have e1 : i + 1 + m = i + (m + 1) := by omega
     rw [e1] at k1 k2 k3
     refine ⟨r', k1, ?_, k3⟩
     have e2 : eF nid xs (m + 1) = eF (nid + (xs.headD {}).cnt) xs.tail m := rfl
     have e3 : xs.getD (m + 1) ({} : Hi) = xs.tail.getD m {} := by cases xs <;> simp
     rw [e2, e3]; exact k2
   ·cases e
  ·cases e
theorem vO {masks : List Nat} : ∀ {l : List Edge} {k : Nat}, (kh masks l).testBit k = true → ∃ e ∈ l, Region.binds .any e = true ∧ (k = e.on ∨ cH masks e.on k = true)
 | [], k, h => by simp [kh] at h
 | e :: l, k, h => by
  simp only [kh] at h
  cases hb : Region.binds .any e with
  | true =>
   simp only [hb, cond_true, Nat.testBit_or, Bool.or_eq_true] at h
   rcases h with (h | h) | h
   ·rw [Nat.testBit_two_pow] at h
    exact ⟨e, by simp, hb, .inl (by simpa using h : e.on = k).symm⟩
   ·exact ⟨e, by simp, hb, .inr h⟩
   ·obtain ⟨e', h1, h2, h3⟩ := vO h
    exact ⟨e', by simp [h1], h2, h3⟩
  | false =>
   simp only [hb, cond_false] at h
   obtain ⟨e', h1, h2, h3⟩ := vO h
   exact ⟨e', by simp [h1], h2, h3⟩
theorem D2 {masks : List Nat} : ∀ {l : List Oper} {i : Nat}, wZ masks l i = true → ∀ m o, l[m]? = some o → (∀ e ∈ o.after.toList, Region.binds .any e = true → e.on < i + m) ∧ masks.getD (i + m) 0 = kh masks o.after.toList
 | [], i, _, m, o, hm => by simp at hm
 | p :: l, i, h, m, o, hm => by
  simp only [wZ, Rv] at h
  cases m with
  | zero =>
   simp at hm
   subst hm
   refine ⟨fun e he hb => ?_, Nat.eq_of_beq_eq_true h.1.2⟩
   have := Ru.1 h.1.1 e he
   simp [hb] at this
   simpa using this
  | succ m =>
   have := D2 h.2 m o (by simpa using hm)
   rw [show i + 1 + m = i + (m + 1) by omega] at this
   exact this
theorem j7 {ls : Array Bool} {i : Nat} (hi : i < ls.size) (m : Nat) : (ls.setIfInBounds i true).getD m false = (ls.getD m false || Nat.beq m i) := by
 by_cases h : m = i
 ·subst h; simp [RZ, hi]
 ·have h2 : Nat.beq m i = false := by simpa [← Nat.beq_eq] using h
  simp only [RZ, Array.getElem?_setIfInBounds_ne (Ne.symm h), h2, Bool.or_false]
def gC (ls : Array Bool) (n : Nat) : Nat := (List.range n).countP fun i => !ls.getD i false
theorem EZ : ∀ (n i : Nat) (ls : Array Bool), i < n → i < ls.size → ls.getD i false = false → gC (ls.setIfInBounds i true) n + 1 = gC ls n
 | 0, _, _, h, _, _ => by omega
 | n + 1, i, ls, h, hs, hu => by
  unfold gC
  rw [List.range_succ, List.countP_append, List.countP_append]
  by_cases hin : i = n
  ·subst hin
   have h1 : (List.range i).countP (fun j => !(ls.setIfInBounds i true).getD j false) = (List.range i).countP fun j => !ls.getD j false :=
    List.countP_congr fun j hj => by
     have : Nat.beq j i = false := by simpa [← Nat.beq_eq] using (by have := List.mem_range.1 hj; omega : j ≠ i)
     rw [j7 hs, this, Bool.or_false]
   rw [h1, List.countP_singleton, List.countP_singleton, j7 hs, hu]
   simp
  ·have := EZ n i ls (by omega) hs hu
   unfold gC at this
   have h2 : Nat.beq n i = false := by simpa [← Nat.beq_eq] using (by omega : n ≠ i)
   rw [List.countP_singleton, List.countP_singleton, j7 hs, h2, Bool.or_false]
   omega
theorem La {n : Nat} {ls : Array Bool} (h : gC ls n = 0) : ∀ i, i < n → ls.getD i false = true := fun i hi => by
 unfold gC at h
 rw [List.countP_eq_zero] at h
 simpa using h i (List.mem_range.2 hi)
theorem En {ops : Array Oper} {ls : Array Bool} {i : Nat} (h : i ∈ Region.ready .any ops ls) (hs : ls.size = ops.size) : i < ops.size ∧ ls.getD i false = false ∧ ∃ o, ops[i]? = some o ∧ ∀ e ∈ o.after.toList, Region.binds .any e = true → ls.getD e.on false = true := by
 unfold Region.ready at h
 obtain ⟨h1, h2⟩ := List.mem_filter.1 h
 have hi := List.mem_range.1 h1
 simp only [Rv] at h2
 obtain ⟨h2, h3⟩ := h2
 have ho : ops[i]? = some ops[i] := by simp [hi]
 refine ⟨hi, ?_, _, ho, fun e he hb => ?_⟩
 ·have : i < ls.size := by omega
  simp [RZ, this] at h2 ⊢
  exact h2
 ·rw [ho] at h3
  simp only [Option.map_some, Option.getD_some] at h3
  rw [← Array.all_toList] at h3
  have := Ru.1 h3 e he
  simpa [hb] using this
theorem KF {c : Cx} {tt : TT} (hT : bH c.P tt) (hm : c.P.follows .mixedOrders = true) {id : Nat} {ops : List Oper} (hds : fK ops c.nt = true) {masks : List Nat} {wk : List (List Nat)} {xs : List Hi} {S S' : St} {ps : List Prop} (e : mh c.P tt ops masks wk xs S = some (S', ps)) (hp : fp ps) {ρ : Ren} {a : Act} {w : World} (R : cr c ρ S a w) {Q : Exit → Act → World → Prop}
  (hQ : ∀ ρ' a' w', cr c ρ' S' a' w' → Q .normal a' w') : (Code.region id ops.toArray true).wp c.P Q a w := by
 unfold mh at e
 split at e
 ·rename_i hB
  simp only [Rv] at hB
  obtain ⟨⟨⟨⟨b1, b2⟩, b3⟩, b4⟩, b5⟩ := hB
  split at e
  ·rename_i l n hgo
   simp only [Ri, Rr] at e
   obtain ⟨rfl, rfl⟩ := e
   obtain ⟨g1, g2, g3, g4⟩ := zc ops 0 xs [] S.n l n rfl hgo
   simp only [R9] at g3 g4
   have hops : ∀ i o, ops[i]? = some o → ∃ r, l[i]? = some (o, r) := fun i o ho => let ⟨r, h, _⟩ := g4 i o ho; ⟨r, h⟩
   have hl : ∀ i o r, l[i]? = some (o, r) → ops[i]? = some o := fun i o r hi => by
    have hlt : i < ops.length := by
     rw [← g3]
     rcases Sd i l.length with h' | h'
     ·exact h'
     ·rw [Rh h'] at hi; cases hi
    obtain ⟨r', h'⟩ := hops i _ (Rf hlt)
    rw [hi] at h'
    injection h' with h'
    injection h' with h1 _
    rw [Rf hlt, h1]
   have hmask := fun m o ho => D2 b1 m o ho
   simp only [R9] at hmask
   have hlow : ∀ i, i < ops.length → ∀ k, cH masks i k = true → k < i := by
    intro i
    induction i using Nat.strongRecOn with
    | _ i ih =>
     intro hi k hk
     have ho := Rf hi
     obtain ⟨m1, m2⟩ := hmask i _ ho
     unfold cH at hk
     rw [m2] at hk
     obtain ⟨ed, h1, h2, h3⟩ := vO hk
     have := m1 ed h1 h2
     rcases h3 with h3 | h3
     ·omega
     ·have := ih ed.on this (by omega) k h3; omega
   have hclosed : ∀ (ls : Array Bool), (∀ i, ls.getD i false = true → ∀ k, cH masks i k = true → ls.getD k false = true) → ∀ i o, ops[i]? = some o → (∀ ed ∈ o.after.toList, Region.binds .any ed = true → ls.getD ed.on false = true) → ∀ k, cH masks i k = true → ls.getD k false = true := fun ls hc i o ho hr k hk => by
    obtain ⟨m1, m2⟩ := hmask i _ ho
    unfold cH at hk
    rw [m2] at hk
    obtain ⟨ed, h1, h2, h3⟩ := vO hk
    have hed := hr ed h1 h2
    rcases h3 with h3 | h3
    ·rw [h3]; exact hed
    ·exact hc ed.on hed k h3
   let usedE : Array Bool → Nat → Prop := fun ls id => id < S.n ∨ ∃ i, ls.getD i false = true ∧ i < ops.length ∧ eF S.n xs i ≤ id ∧ id < eF S.n xs i + (xs.getD i {}).cnt
   refine wp_region_any hm ?_
   have main : ∀ (f : Nat) (ls : Array Bool) (a : Act) (w : World), gC ls ops.length = f → ls.size = ops.length → (∀ i, ls.getD i false = true → ∀ k, cH masks i k = true → ls.getD k false = true) →
     (∃ ρ, aZ c.base c.X c.nt (usedE ls) ρ (FT (fun i => ls.getD i false) l 0 (look S.tm)) (FH (fun i => ls.getD i false) l 0 (look S.h)) a w) → wpAny c.P .any ops.toArray Q f ls a w := by
    intro f
    induction f with
    | zero =>
     rintro ls a w hf hs hc ⟨ρ, R⟩
     have hall := La hf
     refine ⟨?_, hQ ρ a w ?_⟩
     ·cases hr : Region.ready .any ops.toArray ls with
      | nil => rfl
      | cons i r =>
       have := En (i := i) (by rw [hr]; simp) (by simpa using hs)
       rw [hall i (by simpa using this.1)] at this
       cases this.2.1
     ·unfold cr
      rw [wQ, wR]
      have e1 : FT xu l 0 (look S.tm) = FT (fun i => ls.getD i false) l 0 (look S.tm) := by
       funext t
       refine pg l 0 _ _ rfl fun m o ee hm _ => ?_
       rw [R9]
       refine (hall m ?_).symm
       rw [← g3]
       rcases Sd m l.length with h' | h'
       ·exact h'
       ·rw [Rh h'] at hm; cases hm
      have e2 : FH xu l 0 (look S.h) = FH (fun i => ls.getD i false) l 0 (look S.h) := by
       funext t
       refine pi l 0 _ _ rfl fun m o ee hm _ => ?_
       rw [R9]
       refine (hall m ?_).symm
       rw [← g3]
       rcases Sd m l.length with h' | h'
       ·exact h'
       ·rw [Rh h'] at hm; cases hm
      rw [e1, e2]
      refine R.used_mono fun id hid => ?_
      rw [g1]
      rcases hid with hid | ⟨i, _, hi, _, h2⟩
      ·exact RY hid (s9 S.n xs (Nat.zero_le _))
      ·refine RY h2 ?_
       rw [← oS]
       exact s9 S.n xs hi
    | succ f ih =>
     rintro ls a w hf hs hc ⟨ρ, R⟩
     refine ⟨fun h0 => ?_, fun i hi => ?_⟩
     ·exfalso
      have hex : ∃ i, i < ops.length ∧ ls.getD i false = false := by
       have hpos : 0 < gC ls ops.length := by omega
       unfold gC at hpos
       obtain ⟨i, hi, hv⟩ := List.countP_pos_iff.1 hpos
       exact ⟨i, List.mem_range.1 hi, by simpa using hv⟩
      obtain ⟨i, hi, hv⟩ := hex
      induction i using Nat.strongRecOn with
      | _ i ih2 =>
       by_cases hlow' : ∃ j, j < i ∧ ls.getD j false = false
       ·obtain ⟨j, hj, hjv⟩ := hlow'
        exact ih2 j hj (by omega) hjv
       ·have : i ∈ Region.ready .any ops.toArray ls := by
         unfold Region.ready
         refine List.mem_filter.2 ⟨List.mem_range.2 (by simpa using hi), ?_⟩
         have his : i < ls.size := by omega
         have ho : ops.toArray[i]? = some ops[i] := by simp [hi]
         rw [ho]
         simp only [Option.map_some, Option.getD_some, Rv]
         refine ⟨by simp [RZ, his] at hv ⊢; exact hv, ?_⟩
         rw [← Array.all_toList, Ru]
         intro ed hed
         cases hb : Region.binds .any ed with
         | false => rfl
         | true =>
          have hlt := (hmask i _ (Rf hi)).1 ed hed hb
          cases hv' : ls.getD ed.on false with
          | true => rfl
          | false => exact absurd ⟨ed.on, hlt, hv'⟩ hlow'
        rw [h0] at this
        cases this
     ·obtain ⟨r1, r2, o, r3, r4⟩ := En hi (by simpa using hs)
      have hio : ops[i]? = some o := by simpa using r3
      have hil : i < ops.length := by simpa using r1
      obtain ⟨r, q1, q2, q3⟩ := g4 i o hio
      have hD := hclosed ls hc i o hio r4
      have hnotin : ∀ j, cH masks j i = true → ls.getD j false = false := fun j hj => by
       cases hv : ls.getD j false with
       | false => rfl
       | true => have := hc j hv i hj; rw [r2] at this; cases this
      have L : Le (look (fI (BD masks ops i) (LT (cH masks i) (l.take i) 0 S.tm))) (FT (fun i => ls.getD i false) l 0 (look S.tm)) (look (fI (BE masks wk i) (LH (cH masks i) (l.take i) 0 S.h))) (FH (fun i => ls.getD i false) l 0 (look S.h)) := by
       have ext1 : ∀ (r : List OE) (j : Nat) (u : Tm) (t : Nat), FT (cH masks i) r j u t = FT (cH masks i) (r.take (i - j)) j u t := by
        intro r
        induction r with
        | nil => intro j u t; simp
        | cons p r ih3 =>
         obtain ⟨o1, e1⟩ := p
         intro j u t
         rcases Sd j i with h' | h'
         ·rw [show i - j = (i - (j + 1)) + 1 by omega, List.take_succ_cons]
          simp only [FT]
          exact ih3 _ _ _
         ·rw [show i - j = 0 by omega, List.take_zero]
          have : ∀ (r : List OE) (k : Nat) (u : Tm), i ≤ k → FT (cH masks i) r k u = u := by
           intro r
           induction r with
           | nil => intro k u _; rfl
           | cons p r ih4 =>
            obtain ⟨o2, e2⟩ := p
            intro k u hk
            have : cH masks i k = false := by
             cases hb : cH masks i k with
             | false => rfl
             | true => have := hlow i hil k hb; omega
            simp only [FT, this]
            exact ih4 _ _ (by omega)
          rw [this _ _ _ h']; rfl
       have ext2 : ∀ (r : List OE) (j : Nat) (u : Hp) (t : Nat), FH (cH masks i) r j u t = FH (cH masks i) (r.take (i - j)) j u t := by
        intro r
        induction r with
        | nil => intro j u t; simp
        | cons p r ih3 =>
         obtain ⟨o1, e1⟩ := p
         intro j u t
         rcases Sd j i with h' | h'
         ·rw [show i - j = (i - (j + 1)) + 1 by omega, List.take_succ_cons]
          simp only [FH]
          exact ih3 _ _ _
         ·rw [show i - j = 0 by omega, List.take_zero]
          have : ∀ (r : List OE) (k : Nat) (u : Hp), i ≤ k → FH (cH masks i) r k u = u := by
           intro r
           induction r with
           | nil => intro k u _; rfl
           | cons p r ih4 =>
            obtain ⟨o2, e2⟩ := p
            intro k u hk
            have : cH masks i k = false := by
             cases hb : cH masks i k with
             | false => rfl
             | true => have := hlow i hil k hb; omega
            simp only [FH, this]
            exact ih4 _ _ (by omega)
          rw [this _ _ _ h']; rfl
       refine ⟨fun t v ht => ?_, fun k v hk => ?_⟩
       ·rw [o9] at ht
        split at ht
        ·rename_i hsee
         rw [wQ] at ht
         rw [← ht]
         have e0 := ext1 l 0 (look S.tm) t
         rw [Nat.sub_zero] at e0
         rw [← e0]
         refine pg l 0 _ _ rfl fun m o' e' hm hd => ?_
         rw [R9]
         have hm' := hl m o' e' hm
         have hz : (o', m) ∈ ops.zipIdx := by
          rw [List.mem_iff_getElem?]
          exact ⟨m, by simp [hm']⟩
         have := Ru.1 hsee (o', m) hz
         simp only [hd, Nat.beq_refl, Bool.not_true, Bool.false_or, Bool.or_eq_true] at this
         rcases this with (h1 | h1) | h1
         ·have : m = i := Nat.eq_of_beq_eq_true h1
          subst this
          rw [r2]
          cases hb : cH masks m m with
          | false => rfl
          | true => have := hlow m hil m hb; omega
         ·rw [h1]; exact hD m h1
         ·rw [hnotin m h1]
          cases hb : cH masks i m with
          | false => rfl
          | true => have := hD m hb; rw [hnotin m h1] at this; cases this
        ·cases ht
       ·rw [o9] at hk
        split at hk
        ·rename_i hsee
         rw [wR] at hk
         rw [← hk]
         have e0 := ext2 l 0 (look S.h) k
         rw [Nat.sub_zero] at e0
         rw [← e0]
         refine pi l 0 _ _ rfl fun m o' e' hm hd => ?_
         rw [R9]
         have hm' := hl m o' e' hm
         obtain ⟨r', k1, _, k3⟩ := g4 m o' hm'
         rw [hm] at k1
         injection k1 with k1
         injection k1 with _ k1
         subst k1
         have hwk := k3 k hd
         have hmw : m < wk.length := by
          rcases Sd m wk.length with h' | h'
          ·exact h'
          ·rw [Re, Rh h'] at hwk; simp at hwk
         have hz : (wk[m], m) ∈ wk.zipIdx := by
          rw [List.mem_iff_getElem?]
          exact ⟨m, by simp [hmw]⟩
         have hwk' : k ∈ wk[m] := by rw [Re, Rf hmw] at hwk; exact hwk
         have := Ru.1 hsee (wk[m], m) hz
         have hcon : wk[m].contains k = true := by simpa using hwk'
         simp only [hcon, Bool.not_true, Bool.false_or, Bool.or_eq_true] at this
         rcases this with (h1 | h1) | h1
         ·have : m = i := Nat.eq_of_beq_eq_true h1
          subst this
          rw [r2]
          cases hb : cH masks m m with
          | false => rfl
          | true => have := hlow m hil m hb; omega
         ·rw [h1]; exact hD m h1
         ·rw [hnotin m h1]
          cases hb : cH masks i m with
          | false => rfl
          | true => have := hD m hb; rw [hnotin m h1] at this; cases this
        ·cases hk
      have q2' := K8 L q2
      have hcnt := oS i S.n xs
      have his : i < ls.size := by omega
      refine Ao (used' := usedE (ls.setIfInBounds i true)) R hT (AM hds) hio (fun id h1 h2 hu => ?_) (fun id hu => ?_) (fun id h1 h2 => .inr ⟨i, by rw [j7 his]; simp, hil, h1, h2⟩) q2' ?_ (fun ρ' a' w' R' => ?_)
      ·rcases hu with hu | ⟨j, j1, j2, j3, j4⟩
       ·have := s9 S.n xs (Nat.zero_le i); simp only [eF] at this; omega
       ·rcases Nat.lt_trichotomy i j with h' | h' | h'
        ·have := s9 S.n xs h'; rw [oS] at this; omega
        ·subst h'; rw [r2] at j1; cases j1
        ·have := s9 S.n xs h'; rw [oS] at this; omega
      ·rcases hu with hu | ⟨j, j1, j2, j3, j4⟩
       ·exact .inl hu
       ·exact .inr ⟨j, by rw [j7 his, j1]; rfl, j2, j3, j4⟩
      ·have : pI r ∈ l.map fun p => pI p.2 := R6.2 ⟨(o, r), RN q1, rfl⟩
       have hall : ∀ (ps : List Prop), fp ps → ∀ p ∈ ps, p := by
        intro ps
        induction ps with
        | nil => intro _ p hp; cases hp
        | cons x ps ih5 =>
         intro h p hp
         rcases Ry.1 hp with rfl | hp
         ·exact h.1
         ·exact ih5 h.2 p hp
       exact hall _ hp _ this
      ·refine ih (ls.setIfInBounds i true) a' w' ?_ (by simpa using hs) (fun j hj k hk => ?_) ⟨ρ', ?_⟩
       ·have := EZ ops.length i ls hil his r2; omega
       ·rw [j7 his] at hj ⊢
        simp only [Bool.or_eq_true] at hj
        rcases hj with hj | hj
        ·rw [hc j hj k hk]; rfl
        ·have : j = i := Nat.eq_of_beq_eq_true hj
         subst this
         rw [hD k hk]; rfl
       ·have f1 : FT (fun m => (ls.setIfInBounds i true).getD m false) l 0 (look S.tm) = cm (FT (fun i => ls.getD i false) l 0 (look S.tm)) o.dst (fG r) := by
         refine LZ q1 r2 (fun m => j7 his m) fun m o' e' t hm hlm hd hd' => ?_
         have hm' := hl m o' e' hlm
         have z1 : (o, i) ∈ ops.zipIdx := by rw [List.mem_iff_getElem?]; exact ⟨i, by simp [hio]⟩
         have z2 : (o', m) ∈ ops.zipIdx := by rw [List.mem_iff_getElem?]; exact ⟨m, by simp [hm']⟩
         have := Ru.1 (Ru.1 b4 (o, i) z1) (o', m) z2
         simp only [hd, hd', Nat.beq_refl, Bool.not_true, Bool.false_or, Bool.or_eq_true] at this
         rcases this with h1 | h1
         ·have : m ≤ i := Nat.le_of_ble_eq_true h1
          omega
         ·exact hnotin m h1
        have f2 : FH (fun m => (ls.setIfInBounds i true).getD m false) l 0 (look S.h) = bc (FH (fun i => ls.getD i false) l 0 (look S.h)) (dD r) := by
         refine L0 q1 r2 (fun m => j7 his m) fun m o' e' k hm hlm hd hd' => ?_
         have hm' := hl m o' e' hlm
         obtain ⟨r', k1, _, k3⟩ := g4 m o' hm'
         rw [hlm] at k1
         injection k1 with k1
         injection k1 with _ k1
         subst k1
         have w1 := k3 k hd
         have w2 := q3 k hd'
         have hlen : ∀ j, k ∈ wk.getD j [] → ∃ hj : j < wk.length, k ∈ wk[j] := fun j hj => by
          rcases Sd j wk.length with h' | h'
          ·exact ⟨h', by rw [Re, Rf h'] at hj; exact hj⟩
          ·rw [Re, Rh h'] at hj; simp at hj
         obtain ⟨l1, w1⟩ := hlen m w1
         obtain ⟨l2, w2⟩ := hlen i w2
         have z1 : (wk[i], i) ∈ wk.zipIdx := by rw [List.mem_iff_getElem?]; exact ⟨i, by simp [l2]⟩
         have z2 : (wk[m], m) ∈ wk.zipIdx := by rw [List.mem_iff_getElem?]; exact ⟨m, by simp [l1]⟩
         have := Ru.1 (Ru.1 b5 (wk[i], i) z1) (wk[m], m) z2
         simp only [Bool.or_eq_true] at this
         rcases this with (h1 | h1) | h1
         ·have : m ≤ i := Nat.le_of_ble_eq_true h1
          omega
         ·exact hnotin m h1
         ·have := Ru.1 h1 k w2
          simp [w1] at this
        rw [f1, f2]; exact R'
   have hrep : ∀ i, (Array.replicate ops.toArray.size false).getD i false = false := fun i => by
    simp only [RZ, Array.getElem?_replicate]; split <;> rfl
   have h0 : gC (Array.replicate ops.toArray.size false) ops.length = ops.toArray.size := by
    unfold gC
    have : ∀ m, (List.range m).countP (fun i => !(Array.replicate ops.toArray.size false).getD i false) = m := by
     intro m
     induction m with
     | zero => rfl
     | succ m ih => rw [List.range_succ, List.countP_append, ih, List.countP_singleton, hrep]; rfl
    rw [this]; simp
   refine main ops.toArray.size _ a _ h0 (by simp) (fun i hi => by rw [hrep] at hi; cases hi) ⟨ρ, ?_⟩
   rw [AN hrep, AO hrep]
   exact (R.upd_w (w' := { w with drawn := w.drawn + 1 }) ⟨rfl, rfl, rfl, RR _, fun _ _ _ => rfl⟩).used_mono fun id hid => .inl hid
  ·cases e
 ·cases e
structure Fx extends Cx where
 k : Nat
 hk : ∀ id, base.ρ0 id ≠ none → id < k
def AW (c : Fx) (S : St) (code : Code) (Q : Exit → St → Prop) : Prop := ∀ ρ a w, cr c.toCx ρ S a w → code.wp c.P (fun e a' w' => ∃ S', Q e S' ∧ ∃ ρ', cr c.toCx ρ' S' a' w') a w
def Conv (c : Fx) (S S' : St) : Prop := ∀ ρ a w, cr c.toCx ρ S a w → ∃ ρ', cr c.toCx ρ' S' a w
theorem Conv.refl (c : Fx) (S : St) : Conv c S S := fun ρ _ _ R => ⟨ρ, R⟩
theorem Conv.trans {c : Fx} {S S' S'' : St} (h : Conv c S S') (k : Conv c S' S'') : Conv c S S'' := fun ρ a w R => let ⟨ρ', R'⟩ := h ρ a w R; k ρ' a w R'
namespace AW
variable {c : Fx} {S S' : St} {Q : Exit → St → Prop}
theorem mono {code : Code} {Q' : Exit → St → Prop} (h : AW c S code Q') (hq : ∀ e S, Q' e S → Q e S) : AW c S code Q := fun ρ a w R =>
 wp_mono (h ρ a w R) fun e a' w' ⟨S', q, r⟩ => ⟨S', hq e S' q, r⟩
theorem pre {code : Code} (k : Conv c S S') (h : AW c S' code Q) : AW c S code Q := fun ρ a w R => let ⟨ρ', R'⟩ := k ρ a w R; h ρ' a w R'
theorem post {code : Code} (h : AW c S code fun e S1 => ∃ S2, Conv c S1 S2 ∧ Q e S2) : AW c S code Q := fun ρ a w R =>
 wp_mono (h ρ a w R) fun e a' w' ⟨S1, ⟨S2, k, q⟩, ρ', R'⟩ => ⟨S2, q, k ρ' a' w' R'⟩
theorem skip (h : Q .normal S) : AW c S .skip Q := fun ρ a w R => wp_skip ⟨S, h, ρ, R⟩
theorem ret (h : Q .ret S) : AW c S .ret Q := fun ρ a w R => wp_ret ⟨S, h, ρ, R⟩
theorem exit {id : Nat} (h : Q (.exit id) S) : AW c S (.exit id) Q := fun ρ a w R => wp_exit ⟨S, h, ρ, R⟩
theorem label {l : Nat} (h : Q .normal S) : AW c S (.label l) Q := fun ρ a w R => wp_label ⟨S, h, ρ, R⟩
def thenQ (c : Fx) (y : Code) (Q : Exit → St → Prop) : Exit → St → Prop
 | .normal, S => AW c S y Q
 | e, S => Q e S
theorem seq {x y : Code} (h : AW c S x (thenQ c y Q)) : AW c S (.seq x y) Q := fun ρ a w R => by
 refine wp_seq (wp_mono (h ρ a w R) fun e a' w' ⟨S', q, ρ', R'⟩ => ?_)
 cases e with
 | normal => exact q ρ' a' w' R'
 | _ => exact ⟨S', q, ρ', R'⟩
theorem cond_true {x : Operand} {y z : Code} (hx : ev (look S.tm) x = some (.c (.t (.v (.bool true))))) (h : AW c S y Q) : AW c S (.cond x y z) Q := fun ρ a w R => wp_cond_true (cO R hx) (h ρ a w R)
theorem cond_false {x : Operand} {y z : Code} (hx : ev (look S.tm) x = some (.c (.t (.v (.bool false))))) (h : AW c S z Q) : AW c S (.cond x y z) Q := fun ρ a w R => wp_cond_false (cO R hx) (h ρ a w R)
theorem cond_tst {x : Operand} {y z : Code} {p : Prop} (hx : ev (look S.tm) x = some (.c (.t (.tst p)))) (h1 : p → AW c S y Q) (h2 : AW c S z Q) : AW c S (.cond x y z) Q := fun ρ a w R => by
 obtain ⟨b, hb, hp⟩ := bZ R hx
 cases b with
 | true => exact wp_cond_true hb (h1 (hp rfl) ρ a w R)
 | false => exact wp_cond_false hb (h2 ρ a w R)
theorem cond {x : Operand} {y z : Code} {b : Bool} (hx : ev (look S.tm) x = some (.c (.t (.v (.bool b))))) (h1 : b = true → AW c S y Q) (h2 : b = false → AW c S z Q) : AW c S (.cond x y z) Q := fun ρ a w R => by
 cases b with
 | true => exact wp_cond_true (cO R hx) (h1 rfl ρ a w R)
 | false => exact wp_cond_false (cO R hx) (h2 rfl ρ a w R)
def inBlock (id : Nat) (Q : Exit → St → Prop) : Exit → St → Prop
 | .exit i, S => if i = id then Q .normal S else Q (.exit i) S
 | e, S => Q e S
theorem block {id : Nat} {x : Code} (h : AW c S x (inBlock id Q)) : AW c S (.block id x) Q := fun ρ a w R => by
 refine wp_block (wp_mono (h ρ a w R) fun e a' w' ⟨S', q, ρ', R'⟩ => ?_)
 cases e with
 | exit i =>
  simp only [inBlock] at q
  simp only [Exit.inBlock]
  split at q
  ·rename_i e; rw [if_pos e]; exact ⟨S', q, ρ', R'⟩
  ·rename_i e; rw [if_neg e]; exact ⟨S', q, ρ', R'⟩
 | _ => exact ⟨S', q, ρ', R'⟩
theorem region {tt : TT} (hT : bH c.P tt) {id : Nat} {ops : List Oper} {xs : List Hi} {S' : St} {ps : List Prop} (hds : fK ops c.nt = true) (e : eV c.P tt ops ops xs S = some (S', ps)) (hp : fp ps) (hQ : Q .normal S') : AW c S (.region id ops.toArray false) Q := fun ρ a w R =>
 K9 hT hds e hp R fun ρ' a' w' R' => ⟨S', hQ, ρ', R'⟩
theorem regionD {tt : TT} (hT : bH c.P tt) (hm : c.P.follows .mixedOrders = true) {id : Nat} {ops : List Oper} {masks : List Nat} {wk : List (List Nat)} {xs : List Hi} {S' : St} {ps : List Prop} (hds : fK ops c.nt = true) (e : mh c.P tt ops masks wk xs S = some (S', ps)) (hp : fp ps) (hQ : Q .normal S') :
    AW c S (.region id ops.toArray true) Q := fun ρ a w R => KF hT hm hds e hp R fun ρ' a' w' R' => ⟨S', hQ, ρ', R'⟩
def noG (Q : Exit → St → Prop) : Exit → St → Prop
 | .goto _, _ => False
 | e, S => Q e S
theorem scope {x : Code} (h : AW c S x (noG Q)) : AW c S (.scope x) Q := fun ρ a w R => by
 refine wp_scope_straight (wp_mono (h ρ a w R) fun e a' w' ⟨S', q, ρ', R'⟩ => ?_)
 cases e with
 | goto l => exact q.elim
 | _ => exact ⟨S', q, ρ', R'⟩
end AW
def fZ {σ τ : Type} (step : σ → Option (σ ⊕ τ)) : Nat → σ → Option τ
 | 0, _ => none
 | n + 1, s => match step s with
  | none => none
  | some (.inl s') => fZ step n s'
  | some (.inr t) => some t
open Classical in
def loop {σ τ : Type} (step : σ → Option (σ ⊕ τ)) (s : σ) : Option τ := if h : ∃ n t, fZ step n s = some t then some (Classical.choose (Classical.choose_spec h)) else none
theorem zq {σ τ : Type} {step : σ → Option (σ ⊕ τ)} : ∀ {n : Nat} {s : σ} {t : τ}, fZ step n s = some t → ∀ m, fZ step (n + m) s = some t
 | 0, _, _, h, _ => by cases h
 | n + 1, s, t, h, m => by
  rw [show n + 1 + m = (n + m) + 1 by omega]
  simp only [fZ] at h ⊢
  split at h
  ·cases h
  ·rename_i s' hs; exact zq h m
  ·exact h
theorem wv {σ τ : Type} {step : σ → Option (σ ⊕ τ)} {s : σ} {t : τ} : loop step s = some t ↔ ∃ n, fZ step n s = some t := by
 unfold loop
 constructor
 ·intro h
  split at h
  ·rename_i hex
   injection h with h
   exact ⟨Classical.choose hex, by rw [← h]; exact Classical.choose_spec (Classical.choose_spec hex)⟩
  ·cases h
 ·rintro ⟨n, hn⟩
  have hex : ∃ n t, fZ step n s = some t := ⟨n, t, hn⟩
  rw [dif_pos hex]
  have h1 := zq (Classical.choose_spec (Classical.choose_spec hex)) n
  have h2 := zq hn (Classical.choose hex)
  rw [Nat.add_comm] at h2
  rw [h2] at h1
  injection h1 with h1
  rw [← h1]
theorem wT {σ τ : Type} (step : σ → Option (σ ⊕ τ)) (s : σ) : loop step s = match step s with
  | none => none
  | some (.inl s') => loop step s'
  | some (.inr t) => some t := by
 apply Option.ext
 intro t
 rw [wv]
 constructor
 ·rintro ⟨n, hn⟩
  cases n with
  | zero => cases hn
  | succ n =>
   simp only [fZ] at hn
   split at hn
   ·cases hn
   ·rename_i s' hs; (try simp only [hs]); exact wv.2 ⟨n, hn⟩
   ·rename_i t' hs; (try simp only [hs]); exact hn
 ·intro h
  split at h
  ·cases h
  ·rename_i s' hs
   obtain ⟨n, hn⟩ := wv.1 h
   exact ⟨n + 1, by simp only [fZ, hs]; exact hn⟩
  ·rename_i t' hs; exact ⟨1, by simp only [fZ, hs]; exact h⟩
theorem tz {σ τ : Type} {step : σ → Option (σ ⊕ τ)} (I : σ → Prop) (μ : σ → Nat) (R : τ → Prop) (h : ∀ s, I s → (∃ s', step s = some (.inl s') ∧ I s' ∧ μ s' < μ s) ∨ ∃ t, step s = some (.inr t) ∧ R t) : ∀ s, I s → ∃ t, loop step s = some t ∧ R t := by
 intro s
 generalize hn : μ s = n
 induction n using Nat.strongRecOn generalizing s with
 | _ n ih =>
  intro hs
  rcases h s hs with ⟨s', h1, h2, h3⟩ | ⟨t, h1, h2⟩
  ·obtain ⟨t, k1, k2⟩ := ih (μ s') (by omega) s' rfl h2
   exact ⟨t, by rw [wT, h1]; exact k1, k2⟩
  ·exact ⟨t, by rw [wT, h1], h2⟩
theorem AW.loop {c : Fx} {Q : Exit → St → Prop} {σ τ : Type} {step : σ → Option (σ ⊕ τ)} {s0 : σ} {t : τ} {body : Code} (st : σ → St) (hl : Vm.loop step s0 = some t)
  (hbody : ∀ s o, step s = some o → AW c (st s) body fun e S' => match o with
   | .inl s' => e = .normal ∧ Conv c S' (st s')
   | .inr t' => t' = t → e ≠ .normal ∧ Q e S') : AW c (st s0) (.loop body) Q := by
 intro ρ a w R b k cs
 obtain ⟨n, hn⟩ := wv.1 hl
 have key : ∀ (n : Nat) (s : σ) (ρ : Ren) (a : Act) (w : World), fZ step n s = some t → cr c.toCx ρ (st s) a w →
   ∃ e a' w', (∃ S', Q e S' ∧ ∃ ρ', cr c.toCx ρ' S' a' w') ∧ Arrives c.P (lone (b.at a (.code body :: .inLoop body :: k)) cs w) b k cs e a' w' := by
  intro n
  induction n with
  | zero => intro s ρ a w hs; cases hs
  | succ n ih =>
   intro s ρ a w hs R
   simp only [fZ] at hs
   cases ho : step s with
   | none => rw [ho] at hs; cases hs
   | some o =>
    rw [ho] at hs
    obtain ⟨e, a₁, w₁, ⟨S', hq, ρ', R'⟩, harr⟩ := hbody s o ho ρ a w R b (.inLoop body :: k) cs
    cases o with
    | inl s' =>
     obtain ⟨rfl, hcv⟩ := hq
     obtain ⟨ρ2, R2⟩ := hcv ρ' a₁ w₁ R'
     obtain ⟨e₂, a₂, w₂, hq₂, harr₂⟩ := ih s' ρ2 a₁ w₁ hs R2
     exact ⟨e₂, a₂, w₂, hq₂, .of_steps (Steps.trans harr (.one step_inLoop)) harr₂⟩
    | inr t' =>
     injection hs with hs
     obtain ⟨hne, hq⟩ := hq hs
     refine ⟨e, a₁, w₁, ⟨S', hq, ρ', R'⟩, ?_⟩
     cases e with
     | normal => exact absurd rfl hne
     | exit id => exact .pass (x := .inLoop body) rfl (fun _ _ => .inl (by simp)) harr
     | goto l => exact .pass (x := .inLoop body) rfl (fun _ _ => .inl (by simp)) harr
     | ret => exact .pass (x := .inLoop body) rfl (fun _ _ => .inl (by simp)) harr
     | panic ch => exact .pass (x := .inLoop body) rfl (fun _ _ => .inl (by simp)) harr
     | outgrown => exact .pass (x := .inLoop body) rfl (fun _ _ => .inl (by simp)) harr
 obtain ⟨e, a', w', hq, harr⟩ := key n s0 ρ a w hn R
 exact ⟨e, a', w', hq, .of_steps (.one step_loop) harr⟩
theorem aG.comp {α β γ : Type} {A : α → β → Prop} {B : α → γ → Prop} {D : β → γ → Prop} (h : ∀ x y v, A x y → B x v → D y v) : ∀ {l : List α} {m : List β} {vs : List γ}, aG A l m → aG B l vs → aG D m vs
 | [], [], [], _, _ => trivial
 | _ :: _, _ :: _, _ :: _, ⟨a, b⟩, ⟨c, d⟩ => ⟨h _ _ _ a c, aG.comp h b d⟩
 | [], _ :: _, _, x, _ => x.elim
 | _ :: _, [], _, x, _ => x.elim
 | _ :: _, _ :: _, [], _, x => x.elim
 | [], [], _ :: _, _, x => x.elim
def bv (h : Hp) (x y : C) : Prop := ∀ (base : dC) (X : Nat → Prop) (nt : Nat) (used : Nat → Prop) (ρ : Ren) (tm : Tm) (a : Act) (w : World), aZ base X nt used ρ tm h a w → ∀ v, RC w (okOf base w ρ h) ρ x v → RC w (okOf base w ρ h) ρ y v
theorem bv.refl (h : Hp) (x : C) : bv h x x := fun _ _ _ _ _ _ _ _ _ _ k => k
theorem bv.nil {h : Hp} {n sz : Nat} {f : Nat → Nat → T} (hn : n = 0) : bv h (.t (.v (.slice none 0 0))) (.t (.tree n sz f)) := fun _ _ _ _ _ _ _ _ _ v k => by
 obtain ⟨rfl, _⟩ := k
 subst hn
 exact ⟨none, 0, rfl, RR _, fun i hi => by omega⟩
theorem bv.ref {h : Hp} {id sz off n m : Nat} {ty : TypeId} {f : Nat → Nat → T} (hid : h id = some (.row ty true sz m f)) (hle : off + n ≤ m) : bv h (.ref id sz off n) (.t (.tree n sz (xt off f))) := fun base X nt used ρ tm a w R v k => by
 obtain ⟨l, h1, h2⟩ := k
 obtain ⟨l', m1, m2, m3⟩ := R.heap id _ hid
 rw [h1] at m1
 injection m1 with m1
 subst m1
 cases l with
 | nil => obtain ⟨_, rfl, q, rfl⟩ := h2; exact ⟨q, 0, rfl, RR _, fun i hi => by omega⟩
 | aT b cap =>
  rcases h2 with ⟨_, rfl, hlc, hle2⟩ | ⟨rfl, q, rfl⟩
  ·obtain ⟨_, vs, fz, v1, v2, _, v4⟩ := m2
   refine ⟨_, _, rfl, by omega, fun i hi j hj => ?_⟩
   obtain ⟨x, x1, x2⟩ := v4 (off + i) (by omega) j hj
   refine ⟨b, off * sz, x, rfl, ⟨(m3 b cap rfl).1, R.mid hid h1, fun id2 blk2 cap2 k1 k2 k3 => ?_⟩, ?_, ?_⟩
   ·have := R.inj id2 id b cap2 cap _ _ k1 hid (.inl k2) k3 h1
    subst this
    rw [hid] at k1
    injection k1 with k1
    subst k1
    cases k2
   ·rw [cell_of_row w _ _ vs ty fz v1, ← x1, Nat.add_mul]
   ·rw [Gw]; exact x2
  ·exact ⟨q, 0, rfl, RR _, fun i hi => by omega⟩
def bU (h : Hp) (x y : AV) : Prop := ∀ (base : dC) (X : Nat → Prop) (nt : Nat) (used : Nat → Prop) (ρ : Ren) (tm : Tm) (a : Act) (w : World), aZ base X nt used ρ tm h a w → ∀ v, RV w (okOf base w ρ h) ρ x v → RV w (okOf base w ρ h) ρ y v
theorem bU.refl (h : Hp) (x : AV) : bU h x x := fun _ _ _ _ _ _ _ _ _ _ k => k
theorem bU.c {h : Hp} {x y : C} (k : bv h x y) : bU h (.c x) (.c y) := fun base X nt used ρ tm a w R v hv => k base X nt used ρ tm a w R v hv
def B1 (h : Hp) (tm : Tm) : List (Nat × AV) → Prop
 | [] => True
 | (t, y) :: l => (∃ x, tm t = some x ∧ bU h x y) ∧ B1 h tm l
theorem FN {h : Hp} {tm : Tm} : ∀ {l : List (Nat × AV)} {t : Nat} {y : AV}, B1 h tm l → look l t = some y → ∃ x, tm t = some x ∧ bU h x y
 | [], _, _, _, h => by cases h
 | (k, v) :: l, t, y, ⟨h1, h2⟩, hl => by
  rw [bK] at hl
  split at hl
  ·rename_i e; injection hl with hl; subst e; subst hl; exact h1
  ·exact FN h2 hl
theorem fV {c : Fx} {S : St} {id : Nat} {ty : TypeId} {cs ds : List C} (hid : look S.h id = some (.box ty cs)) (h : aG (bv (look S.h)) cs ds) : Conv c S ⟨S.tm, (id, .box ty ds) :: S.h, S.n⟩ := fun ρ a w R => by
 have hok : ∀ b, okOf c.base w ρ (look S.h) b → okOf c.base w ρ (look ((id, aQ.box ty ds) :: S.h)) b := fun b ⟨o1, o2, o3⟩ => ⟨o1, o2, fun k blk cap h1 h2 h3 => by
  rw [bK] at h1
  split at h1
  ·rename_i e; subst e; exact o3 id _ cap hid rfl h3
  ·exact o3 k blk cap h1 h2 h3⟩
 have hex : ∀ k x, look ((id, aQ.box ty ds) :: S.h) k = some x → ∃ y, look S.h k = some y ∧ (x.mut = true → y.mut = true) := fun k x hx => by
  rw [bK] at hx
  split at hx
  ·rename_i e; subst e; exact ⟨_, hid, fun _ => rfl⟩
  ·exact ⟨x, hx, fun q => q⟩
 refine ⟨ρ, fun t av ht => RV.mono ⟨hok, fun _ _ => rfl⟩ (QJ _) _ _ (R.tmp t av ht), fun k blk hk => ?_, R.hX, fun i j b c1 c2 x y hi hj hk h1 h2 => by
  obtain ⟨x', a1, a2⟩ := hex i x hi
  obtain ⟨y', b1, b2⟩ := hex j y hj
  exact R.inj i j b c1 c2 x' y' a1 b1 (hk.imp a2 b2) h1 h2, R.used, R.upd, R.ext0, R.size, R.defers⟩
 ·simp only at hk
  rw [bK] at hk
  split at hk
  ·rename_i e
   injection hk with hk
   subst e; subst hk
   obtain ⟨l, l1, ⟨b, vs, v1, v2, v3⟩, l3⟩ := R.heap id _ hid
   refine ⟨l, l1, ⟨b, vs, v1, v2, ?_⟩, l3⟩
   exact aG.comp (fun x y v k1 k2 => RC.mono ⟨hok, fun _ _ => rfl⟩ (QJ _) _ _ (k1 _ _ _ _ ρ _ a w R v k2)) h v3
  ·obtain ⟨l, l1, l2, l3⟩ := R.heap k blk hk
   exact ⟨l, l1, RB.mono ⟨hok, fun _ _ => rfl⟩ (QJ _) _ _ (fun _ _ _ => rfl) l2, l3⟩
theorem FO {c : Fx} {S : St} {id : Nat} {ty : TypeId} {fro fro' : Bool} {sz n m : Nat} {f g : Nat → Nat → T} (hid : look S.h id = some (.row ty fro sz n f)) (hfro : fro = fro' ∨ fro' = true) (hn : n = m) (hg : ∀ i, i < m → ∀ j, j < sz → f i j = g i j) : Conv c S ⟨S.tm, (id, .row ty fro' sz m g) :: S.h, S.n⟩ := fun ρ a w R => by
 subst hn
 have hok : ∀ b, okOf c.base w ρ (look S.h) b → okOf c.base w ρ (look ((id, aQ.row ty fro' sz n g) :: S.h)) b := fun b ⟨o1, o2, o3⟩ => ⟨o1, o2, fun k blk cap h1 h2 h3 => by
  rw [bK] at h1
  split at h1
  ·rename_i e
   injection h1 with h1
   subst e; subst h1
   rcases hfro with hfro | hfro
   ·subst hfro; exact o3 id _ cap hid h2 h3
   ·subst hfro; cases h2
  ·exact o3 k blk cap h1 h2 h3⟩
 have hex : ∀ k x, look ((id, aQ.row ty fro' sz n g) :: S.h) k = some x → ∃ y, look S.h k = some y ∧ (x.mut = true → y.mut = true) := fun k x hx => by
  rw [bK] at hx
  split at hx
  ·rename_i e
   injection hx with hx
   subst e; subst hx
   refine ⟨_, hid, fun q => ?_⟩
   rcases hfro with hfro | hfro
   ·subst hfro; exact q
   ·subst hfro; cases q
  ·exact ⟨x, hx, fun q => q⟩
 refine ⟨ρ, fun t av ht => RV.mono ⟨hok, fun _ _ => rfl⟩ (QJ _) _ _ (R.tmp t av ht), fun k blk hk => ?_, R.hX, fun i j b c1 c2 x y hi hj hk h1 h2 => by
  obtain ⟨x', a1, a2⟩ := hex i x hi
  obtain ⟨y', b1, b2⟩ := hex j y hj
  exact R.inj i j b c1 c2 x' y' a1 b1 (hk.imp a2 b2) h1 h2, R.used, R.upd, R.ext0, R.size, R.defers⟩
 ·simp only at hk
  rw [bK] at hk
  split at hk
  ·rename_i e
   injection hk with hk
   subst e; subst hk
   obtain ⟨l, l1, l2, l3⟩ := R.heap id _ hid
   refine ⟨l, l1, ?_, l3⟩
   cases l with
   | nil => exact l2
   | aT b cap =>
    obtain ⟨v0, vs, fz, v1, v2, v3, v4⟩ := l2
    refine ⟨v0, vs, fz, v1, v2, fun h => v3 ?_, fun i hi j hj => ?_⟩
    ·rcases hfro with hfro | hfro
     ·rw [hfro]; exact h
     ·rw [hfro] at h; cases h
    ·obtain ⟨x, x1, x2⟩ := v4 i hi j hj
     exact ⟨x, x1, by rw [← hg i hi j hj]; exact RT.mono ⟨hok, fun _ _ => rfl⟩ _ _ x2⟩
  ·obtain ⟨l, l1, l2, l3⟩ := R.heap k blk hk
   exact ⟨l, l1, RB.mono ⟨hok, fun _ _ => rfl⟩ (QJ _) _ _ (fun _ _ _ => rfl) l2, l3⟩
theorem Lb {c : Fx} {S : St} {id : Nat} {ty : TypeId} {fro fro' : Bool} {sz n m : Nat} {f g : Nat → Nat → T} (hid : look S.h id = some (.row ty fro sz n f)) (hfro : fro = fro' ∨ fro' = true) (hn : m ≤ n) (hg : ∀ i, i < m → ∀ j, j < sz → f i j = g i j) : Conv c S ⟨S.tm, (id, .row ty fro' sz m g) :: S.h, S.n⟩ := fun ρ a w R => by
 have hok : ∀ b, okOf c.base w ρ (look S.h) b → okOf c.base w ρ (look ((id, aQ.row ty fro' sz m g) :: S.h)) b := fun b ⟨o1, o2, o3⟩ => ⟨o1, o2, fun k blk cap h1 h2 h3 => by
  rw [bK] at h1
  split at h1
  ·rename_i e
   injection h1 with h1
   subst e; subst h1
   rcases hfro with hfro | hfro
   ·subst hfro; exact o3 id _ cap hid h2 h3
   ·subst hfro; cases h2
  ·exact o3 k blk cap h1 h2 h3⟩
 have hex : ∀ k x, look ((id, aQ.row ty fro' sz m g) :: S.h) k = some x → ∃ y, look S.h k = some y ∧ (x.mut = true → y.mut = true) := fun k x hx => by
  rw [bK] at hx
  split at hx
  ·rename_i e
   injection hx with hx
   subst e; subst hx
   refine ⟨_, hid, fun q => ?_⟩
   rcases hfro with hfro | hfro
   ·subst hfro; exact q
   ·subst hfro; cases q
  ·exact ⟨x, hx, fun q => q⟩
 refine ⟨ρ, fun t av ht => RV.mono ⟨hok, fun _ _ => rfl⟩ (QJ _) _ _ (R.tmp t av ht), fun k blk hk => ?_, R.hX, fun i j b c1 c2 x y hi hj hk h1 h2 => by
  obtain ⟨x', a1, a2⟩ := hex i x hi
  obtain ⟨y', b1, b2⟩ := hex j y hj
  exact R.inj i j b c1 c2 x' y' a1 b1 (hk.imp a2 b2) h1 h2, R.used, R.upd, R.ext0, R.size, R.defers⟩
 ·simp only at hk
  rw [bK] at hk
  split at hk
  ·rename_i e
   injection hk with hk
   subst e; subst hk
   obtain ⟨l, l1, l2, l3⟩ := R.heap id _ hid
   refine ⟨l, l1, ?_, l3⟩
   cases l with
   | nil => have l2' : n = 0 := l2; exact (show m = 0 by omega)
   | aT b cap =>
    obtain ⟨v0, vs, fz, v1, v2, v3, v4⟩ := l2
    refine ⟨RX hn v0, vs, fz, v1, v2, fun h => v3 ?_, fun i hi j hj => ?_⟩
    ·rcases hfro with hfro | hfro
     ·rw [hfro]; exact h
     ·rw [hfro] at h; cases h
    ·obtain ⟨x, x1, x2⟩ := v4 i (RY hi hn) j hj
     exact ⟨x, x1, by rw [← hg i hi j hj]; exact RT.mono ⟨hok, fun _ _ => rfl⟩ _ _ x2⟩
  ·obtain ⟨l, l1, l2, l3⟩ := R.heap k blk hk
   exact ⟨l, l1, RB.mono ⟨hok, fun _ _ => rfl⟩ (QJ _) _ _ (fun _ _ _ => rfl) l2, l3⟩
theorem cG {c : Fx} {S : St} {t : Nat} {ty : TypeId} {sz n : Nat} {f : Nat → Nat → T} (ht : look S.tm t = some (.c (.t (.v (.slice none 0 0))))) (hn : n = 0) : Conv c S ⟨(t, .c (.ref S.n sz 0 n)) :: S.tm, (S.n, .row ty false sz n f) :: S.h, S.n + 1⟩ := fun ρ a w R => by
 subst hn
 have hput : a.tmps.getD t undef = .slice none 0 0 := (R.tmp t _ ht).1
 have R2 := R.add (w' := w) (nid := S.n) (used' := fun id => id < S.n + 1) (cy.refl _ _) (by omega) (fun id h => by omega) (by omega) (blk := .row ty false sz 0 f) (l := .nil) (fun b cap e => by cases e) (fun _ => rfl) none (fun t h => by cases h) none undef (fun _ x hx => by cases hx)
 refine ⟨ρ.set S.n .nil, ?_⟩
 have e1 : look ((S.n, aQ.row ty false sz 0 f) :: S.h) = bc (look S.h) [(S.n, some (.row ty false sz 0 f))] := by
  funext i; rw [bK]; rfl
 have R3 : aZ c.base c.X c.nt (fun id => id < S.n + 1) (ρ.set S.n .nil) (look S.tm) (bc (look S.h) [(S.n, some (.row ty false sz 0 f))]) a w := R2
 unfold cr
 rw [e1]
 exact ⟨fun u av hu => by
  rw [bK] at hu
  split at hu
  ·rename_i e
   injection hu with hu
   subst e; subst hu
   exact ⟨.nil, by simp [Ren.set], rfl, rfl, none, hput⟩
  ·exact R3.tmp u av hu, R3.heap, R3.hX, R3.inj, R3.used, R3.upd, R3.ext0, R3.size, R3.defers⟩
def C.renO (σ : Nat → Option Nat) : C → Option C
 | .t x => some (.t x)
 | .ref id sz off n => match σ id with
  | some i => some (.ref i sz off n)
  | none => none
 | .ptr id sz e sub => match σ id with
  | some i => some (.ptr i sz e sub)
  | none => none
def my (σ : Nat → Option Nat) : List C → Option (List C)
 | [] => some []
 | x :: l => match x.renO σ, my σ l with
  | some y, some r => some (y :: r)
  | _, _ => none
def S1.renO (σ : Nat → Option Nat) : S1 → Option S1
 | .c x => match x.renO σ with
  | some y => some (.c y)
  | none => none
 | .agg l => match my σ l with
  | some r => some (.agg r)
  | none => none
def pJ (σ : Nat → Option Nat) : List S1 → Option (List S1)
 | [] => some []
 | x :: l => match x.renO σ, pJ σ l with
  | some y, some r => some (y :: r)
  | _, _ => none
def AV.renO1 (σ : Nat → Option Nat) : AV → Option AV
 | .c x => match x.renO σ with
  | some y => some (.c y)
  | none => none
 | .agg l => match my σ l with
  | some r => some (.agg r)
  | none => none
 | .fagg n f => some (.fagg n f)
 | .tup l => none
 | .clo f a b => match pJ σ a, pJ σ b with
  | some a', some b' => some (.clo f a' b')
  | _, _ => none
def tI (σ : Nat → Option Nat) : List AV → Option (List AV)
 | [] => some []
 | x :: l => match x.renO1 σ, tI σ l with
  | some y, some r => some (y :: r)
  | _, _ => none
def AV.renO (σ : Nat → Option Nat) : AV → Option AV
 | .tup l => match tI σ l with
  | some r => some (.tup r)
  | none => none
 | x => x.renO1 σ
def aQ.renO (σ : Nat → Option Nat) : aQ → Option aQ
 | .box ty cs => match my σ cs with
  | some r => some (.box ty r)
  | none => none
 | .row ty fro sz n f => some (.row ty fro sz n f)
section
variable {w : World} {ok ok' : Nat → Prop} {ρ ρ' : Ren} {σ : Nat → Option Nat}
theorem C.renO_ok {x y : C} {v : Value} (hok : ∀ b, ok b → ok' b) (hσ : ∀ i j l, σ i = some j → ρ i = some l → ρ' j = some l) (e : x.renO σ = some y) (h : RC w ok ρ x v) : RC w ok' ρ' y v := by
 cases x with
 | t x => simp only [C.renO, Ri] at e; subst e; exact RT.mono ⟨hok, fun _ _ => rfl⟩ _ _ h
 | ref id sz off n =>
  simp only [C.renO] at e
  split at e
  ·rename_i i hi; injection e with e; subst e; obtain ⟨l, h1, h2⟩ := h; exact ⟨l, hσ _ _ _ hi h1, h2⟩
  ·cases e
 | ptr id sz e0 sub =>
  simp only [C.renO] at e
  split at e
  ·rename_i i hi; injection e with e; subst e; obtain ⟨b, cap, h1, h2⟩ := h; exact ⟨b, cap, hσ _ _ _ hi h1, h2⟩
  ·cases e
theorem ww (hok : ∀ b, ok b → ok' b) (hσ : ∀ i j l, σ i = some j → ρ i = some l → ρ' j = some l) : ∀ {l r : List C} {vs : List Value}, my σ l = some r → aG (RC w ok ρ) l vs → aG (RC w ok' ρ') r vs
 | [], r, [], e, _ => by simp only [my, Ri] at e; subst e; trivial
 | x :: l, r, v :: vs, e, ⟨h1, h2⟩ => by
  simp only [my] at e
  split at e
  ·rename_i y r' hy hr; injection e with e; subst e; exact ⟨C.renO_ok hok hσ hy h1, ww hok hσ hr h2⟩
  ·cases e
 | [], _, _ :: _, _, h => h.elim
 | _ :: _, _, [], _, h => h.elim
theorem S1.renO_ok {x y : S1} {v : Value} (hok : ∀ b, ok b → ok' b) (hσ : ∀ i j l, σ i = some j → ρ i = some l → ρ' j = some l) (e : x.renO σ = some y) (h : RS w ok ρ x v) : RS w ok' ρ' y v := by
 cases x with
 | c x =>
  simp only [S1.renO] at e
  split at e
  ·rename_i y' hy; injection e with e; subst e; exact C.renO_ok hok hσ hy h
  ·cases e
 | agg l =>
  simp only [S1.renO] at e
  split at e
  ·rename_i y' hy; injection e with e; subst e; obtain ⟨ys, h1, h2⟩ := h; exact ⟨ys, h1, ww hok hσ hy h2⟩
  ·cases e
theorem zU (hok : ∀ b, ok b → ok' b) (hσ : ∀ i j l, σ i = some j → ρ i = some l → ρ' j = some l) : ∀ {l r : List S1} {vs : List Value}, pJ σ l = some r → aG (RS w ok ρ) l vs → aG (RS w ok' ρ') r vs
 | [], r, [], e, _ => by simp only [pJ, Ri] at e; subst e; trivial
 | x :: l, r, v :: vs, e, ⟨h1, h2⟩ => by
  simp only [pJ] at e
  split at e
  ·rename_i y r' hy hr; injection e with e; subst e; exact ⟨S1.renO_ok hok hσ hy h1, zU hok hσ hr h2⟩
  ·cases e
 | [], _, _ :: _, _, h => h.elim
 | _ :: _, _, [], _, h => h.elim
theorem QN {x y : AV} {v : Value} (hok : ∀ b, ok b → ok' b) (hσ : ∀ i j l, σ i = some j → ρ i = some l → ρ' j = some l) (e : x.renO1 σ = some y) (h : R1 w ok ρ x v) : R1 w ok' ρ' y v := by
 cases x with
 | c x =>
  simp only [AV.renO1] at e
  split at e
  ·rename_i y' hy; injection e with e; subst e; exact C.renO_ok hok hσ hy h
  ·cases e
 | agg l =>
  simp only [AV.renO1] at e
  split at e
  ·rename_i y' hy; injection e with e; subst e; obtain ⟨ys, h1, h2⟩ := h; exact ⟨ys, h1, ww hok hσ hy h2⟩
  ·cases e
 | fagg n f => simp only [AV.renO1, Ri] at e; subst e; obtain ⟨ys, h1, h2, h3⟩ := h; exact ⟨ys, h1, h2, fun i hi => let ⟨x, a, b⟩ := h3 i hi; ⟨x, a, RT.mono ⟨hok, fun _ _ => rfl⟩ _ _ b⟩⟩
 | tup l => exact h.elim
 | clo f a b =>
  simp only [AV.renO1] at e
  split at e
  ·rename_i a' b' ha hb
   injection e with e; subst e; obtain ⟨fs, cs, h1, h2, h3⟩ := h; exact ⟨fs, cs, h1, zU hok hσ ha h2, zU hok hσ hb h3⟩
  ·cases e
theorem E0 (hok : ∀ b, ok b → ok' b) (hσ : ∀ i j l, σ i = some j → ρ i = some l → ρ' j = some l) : ∀ {l r : List AV} {vs : List Value}, tI σ l = some r → aG (R1 w ok ρ) l vs → aG (R1 w ok' ρ') r vs
 | [], r, [], e, _ => by simp only [tI, Ri] at e; subst e; trivial
 | x :: l, r, v :: vs, e, ⟨h1, h2⟩ => by
  simp only [tI] at e
  split at e
  ·rename_i y r' hy hr; injection e with e; subst e; exact ⟨QN hok hσ hy h1, E0 hok hσ hr h2⟩
  ·cases e
 | [], _, _ :: _, _, h => h.elim
 | _ :: _, _, [], _, h => h.elim
theorem AV.renO_ok {x y : AV} {v : Value} (hok : ∀ b, ok b → ok' b) (hσ : ∀ i j l, σ i = some j → ρ i = some l → ρ' j = some l) (e : x.renO σ = some y) (h : RV w ok ρ x v) : RV w ok' ρ' y v := by
 cases x with
 | tup l =>
  simp only [AV.renO] at e
  split at e
  ·rename_i y' hy; injection e with e; subst e; obtain ⟨ys, h1, h2⟩ := h; exact ⟨ys, h1, E0 hok hσ hy h2⟩
  ·cases e
 | c x => exact pO (QN (x := .c x) hok hσ e h)
 | agg l => exact pO (QN (x := .agg l) hok hσ e h)
 | fagg n f => exact pO (QN (x := .fagg n f) hok hσ e h)
 | clo f a b => exact pO (QN (x := .clo f a b) hok hσ e h)
theorem aQ.renO_ok {x y : aQ} {l : fy} (hok : ∀ b, ok b → ok' b) (hσ : ∀ i j l, σ i = some j → ρ i = some l → ρ' j = some l) (e : x.renO σ = some y) (h : RB w ok ρ x l) : RB w ok' ρ' y l ∧ y.mut = x.mut ∧ y.isRow = x.isRow := by
 cases x with
 | box ty cs =>
  simp only [aQ.renO] at e
  split at e
  ·rename_i r hr; injection e with e; subst e; obtain ⟨b, vs, h1, h2, h3⟩ := h; exact ⟨⟨b, vs, h1, h2, ww hok hσ hr h3⟩, rfl, rfl⟩
  ·cases e
 | row ty fro sz n f =>
  simp only [aQ.renO, Ri] at e
  subst e
  refine ⟨?_, rfl, rfl⟩
  cases l with
  | nil => exact h
  | aT b cap =>
   obtain ⟨h0, vs, fz, h1, h2, h3, h4⟩ := h
   exact ⟨h0, vs, fz, h1, h2, h3, fun i hi j hj => let ⟨x, a, b⟩ := h4 i hi j hj; ⟨x, a, RT.mono ⟨hok, fun _ _ => rfl⟩ _ _ b⟩⟩
end
def mB (m : List (Nat × Nat)) (i : Nat) : Option Nat := match m with
 | [] => none
 | (n, o) :: l => bif Nat.beq o i then some n else mB l i
theorem FP : ∀ {m : List (Nat × Nat)} {i j : Nat}, mB m i = some j → (j, i) ∈ m
 | (n, o) :: l, i, j, h => by
  simp only [mB] at h
  by_cases e : o = i
  ·subst e; simp at h; subst h; simp
  ·have : Nat.beq o i = false := by simpa [← Nat.beq_eq] using e
   simp only [this, cond_false] at h
   exact Rx _ (FP h)
 | [], _, _, h => by cases h
def tJ (σ : Nat → Option Nat) (tm : Tm) : List Nat → Option (List (Nat × AV))
 | [] => some []
 | t :: l => match tm t with
  | some x => match x.renO σ, tJ σ tm l with
   | some y, some r => some ((t, y) :: r)
   | _, _ => none
  | none => none
def tK (σ : Nat → Option Nat) (h : Hp) : List (Nat × Nat) → Option (List (Nat × aQ))
 | [] => some []
 | (n, o) :: l => match h o with
  | some x => match x.renO σ, tK σ h l with
   | some y, some r => some ((n, y) :: r)
   | _, _ => none
  | none => none
def gD (m : List (Nat × Nat)) (slots : List Nat) (n : Nat) (S : St) : Option St :=
 match tJ (mB m) (look S.tm) slots, tK (mB m) (look S.h) m with
 | some tm, some h => some ⟨tm, h, n⟩
 | _, _ => none
theorem Eo {σ : Nat → Option Nat} {tm : Tm} : ∀ {l : List Nat} {r : List (Nat × AV)} {t : Nat} {y : AV}, tJ σ tm l = some r → look r t = some y → ∃ x, tm t = some x ∧ x.renO σ = some y
 | [], r, t, y, e, h => by simp only [tJ, Ri] at e; subst e; cases h
 | k :: l, r, t, y, e, h => by
  simp only [tJ] at e
  split at e
  ·rename_i x hx
   split at e
   ·rename_i y' r' hy hr
    injection e with e
    subst e
    rw [bK] at h
    split at h
    ·rename_i e1; injection h with h; subst e1; subst h; exact ⟨x, hx, hy⟩
    ·exact Eo hr h
   ·cases e
  ·cases e
theorem Ep {σ : Nat → Option Nat} {hp : Hp} : ∀ {l : List (Nat × Nat)} {r : List (Nat × aQ)} {i : Nat} {y : aQ}, tK σ hp l = some r → look r i = some y → ∃ o x, look l i = some o ∧ hp o = some x ∧ x.renO σ = some y
 | [], r, i, y, e, h => by simp only [tK, Ri] at e; subst e; cases h
 | (n, o) :: l, r, i, y, e, h => by
  simp only [tK] at e
  split at e
  ·rename_i x hx
   split at e
   ·rename_i y' r' hy hr
    injection e with e
    subst e
    rw [bK] at h
    split at h
    ·rename_i e1; injection h with h; subst e1; subst h; exact ⟨o, x, by rw [bK, if_pos rfl], hx, hy⟩
    ·rename_i e1
     obtain ⟨o', x', a1, a2, a3⟩ := Ep hr h
     exact ⟨o', x', by rw [bK, if_neg e1]; exact a1, a2, a3⟩
   ·cases e
  ·cases e
def jf (n : Nat) (m : List (Nat × Nat)) : Bool := m.all fun p => Nat.blt p.1 n
def wU (k : Nat) (m : List (Nat × Nat)) : Bool := match k with
 | 0 => true
 | k + 1 => (match look m k with
  | some o => Nat.beq o k
  | none => true) && wU k m
def gz (k n : Nat) (m : List (Nat × Nat)) : Bool := Nat.ble k n && wU k m
theorem Er {m : List (Nat × Nat)} : ∀ {k : Nat}, wU k m = true → ∀ i, i < k → look m i = some i ∨ look m i = none
 | 0, _, i, h => by omega
 | k + 1, hk, i, hi => by
  simp only [wU, Rv] at hk
  by_cases e : i = k
  ·subst e
   have := hk.1
   split at this
   ·rename_i o ho; left; rw [ho]; congr 1; exact Nat.eq_of_beq_eq_true this
   ·rename_i ho; right; exact ho
  ·exact Er hk.2 i (by omega)
theorem DU : ∀ {m : List (Nat × Nat)}, de (m.map (·.2)) = true → ∀ {i j o : Nat}, look m i = some o → look m j = some o → i = j
 | [], _, i, j, o, h, _ => by cases h
 | (n, p) :: l, hn, i, j, o, h1, h2 => by
  simp only [Sq, de, Rv] at hn
  have hmem : ∀ k, look l k = some p → False := fun k hk => by
   have h := hn.1
   have : p ∈ l.map (·.2) := R6.2 ⟨(k, p), wu hk, rfl⟩
   rw [Bool.not_eq_true'] at h
   simp at h
   obtain ⟨⟨x, y⟩, h3, h4⟩ := R6.1 this
   simp only at h4
   subst h4
   exact h x h3
  rw [bK] at h1 h2
  split at h1
  ·rename_i e1
   injection h1 with h1
   split at h2
   ·rename_i e2; omega
   ·rw [← h1] at h2; exact (hmem j h2).elim
  ·split at h2
   ·injection h2 with h2
    rw [← h2] at h1; exact (hmem i h1).elim
   ·exact DU hn.2 h1 h2
theorem wz {c : Fx} {S S' : St} (m : List (Nat × Nat)) (slots : List Nat) {n : Nat} (e : gD m slots n S = some S') (h1 : (de (m.map (·.2)) && de (m.map (·.1)) && jf n m && gz c.k n m) = true) : Conv c S S' := fun ρ a w R => by
 simp only [Rv] at h1
 obtain ⟨⟨⟨b1, b0⟩, b2⟩, b3⟩ := h1
 unfold gD at e
 split at e
 ·rename_i tm hp htm hhp
  injection e with e
  subst e
  simp only [gz, Rv] at b3
  obtain ⟨b3k, b3⟩ := b3
  have b3k : c.k ≤ n := Nat.le_of_ble_eq_true b3k
  let ρ' : Ren := fun i => match look m i with
   | some o => ρ o
   | none => if i < c.k then c.base.ρ0 i else none
  have hlook : ∀ i o, (i, o) ∈ m → look m i = some o := by
   have : ∀ (m : List (Nat × Nat)), de (m.map (·.1)) = true → ∀ i o, (i, o) ∈ m → look m i = some o := by
    intro m
    induction m with
    | nil => intro _ i o h; cases h
    | cons p m ih =>
     obtain ⟨x, y⟩ := p
     intro hn i o h
     simp only [Sq, de, Rv] at hn
     rw [bK]
     rcases Ry.1 h with h | h
     ·injection h with e1 e2; subst e1; subst e2; rw [if_pos rfl]
     ·have hne : x ≠ i := fun e => by
       subst e
       have h3 := hn.1
       rw [Bool.not_eq_true'] at h3
       simp at h3
       exact h3 o h
      rw [if_neg hne]
      exact ih hn.2 i o h
   exact this m b0
  have hσ : ∀ i j l, mB m i = some j → ρ i = some l → ρ' j = some l := fun i j l h1 h2 => by
   simp only [ρ', hlook j i (FP h1)]; exact h2
  have hback : ∀ i l, (∃ o, look m i = some o) → ρ' i = some l → ∃ o, look m i = some o ∧ ρ o = some l := fun i l ⟨o, ho⟩ h => by
   simp only [ρ', ho] at h
   exact ⟨o, ho, h⟩
  have hh : ∀ i y, look hp i = some y → ∃ o x, look m i = some o ∧ look S.h o = some x ∧ x.renO (mB m) = some y := fun i y h => Ep hhp h
  have hok : ∀ b, okOf c.base w ρ (look S.h) b → okOf c.base w ρ' (look hp) b := fun b ⟨o1, o2, o3⟩ => ⟨o1, o2, fun i blk cap k1 k2 k3 => by
   obtain ⟨o, x, x1, x2, x3⟩ := hh i blk k1
   obtain ⟨o', y1, y2⟩ := hback i _ ⟨_, x1⟩ k3
   rw [x1] at y1
   injection y1 with y1
   subst y1
   obtain ⟨l, _, l2, _⟩ := R.heap o x x2
   exact o3 o x cap x2 (by rw [← (aQ.renO_ok (ok := okOf c.base w ρ (look S.h)) (ok' := okOf c.base w ρ (look S.h)) (fun _ h => h) hσ x3 l2).2.1]; exact k2) y2⟩
  refine ⟨ρ', fun t av ht => ?_, fun i y hy => ?_, R.hX, fun i j b c1 c2 x y hx hy hk k1 k2 => ?_, fun id hid => ?_, R.upd, fun id l hl => ?_, R.size, R.defers⟩
  ·obtain ⟨x, x1, x2⟩ := Eo htm ht
   exact AV.renO_ok hok hσ x2 (R.tmp t x x1)
  ·obtain ⟨o, x, x1, x2, x3⟩ := hh i y hy
   obtain ⟨l, l1, l2, l3⟩ := R.heap o x x2
   exact ⟨l, by simp only [ρ', x1]; exact l1, (aQ.renO_ok hok hσ x3 l2).1, l3⟩
  ·obtain ⟨o1, x1, p1, p2, p3⟩ := hh i x hx
   obtain ⟨o2, x2, q1, q2, q3⟩ := hh j y hy
   obtain ⟨_, _, lp, _⟩ := R.heap o1 x1 p2
   obtain ⟨_, _, lq, _⟩ := R.heap o2 x2 q2
   have mp := (aQ.renO_ok (ok := okOf c.base w ρ (look S.h)) (ok' := okOf c.base w ρ (look S.h)) (fun _ h => h) hσ p3 lp).2.1
   have mq := (aQ.renO_ok (ok := okOf c.base w ρ (look S.h)) (ok' := okOf c.base w ρ (look S.h)) (fun _ h => h) hσ q3 lq).2.1
   obtain ⟨o1', r1, r2⟩ := hback i _ ⟨_, p1⟩ k1
   obtain ⟨o2', s1, s2⟩ := hback j _ ⟨_, q1⟩ k2
   rw [p1] at r1
   injection r1 with r1
   rw [q1] at s1
   injection s1 with s1
   subst r1; subst s1
   have := R.inj o1 o2 b c1 c2 _ _ p2 q2 (hk.imp (fun k => by rw [← mp]; exact k) (fun k => by rw [← mq]; exact k)) r2 s2
   subst this
   exact DU b1 p1 q1
  ·cases hl : ρ' id with
   | none => exact absurd hl hid
   | some l =>
    simp only [ρ'] at hl
    split at hl
    ·rename_i o ho
     have := Ru.1 b2 (id, o) (wu ho)
     simpa using this
    ·split at hl
     ·rename_i hlt; exact RY hlt b3k
     ·cases hl
  ·have hlt := c.hk id (by rw [hl]; simp)
   rcases Er b3 id hlt with h | h
   ·simp only [ρ', h]
    exact R.ext0 id l hl
   ·simp only [ρ', h, if_pos hlt]
    exact hl
 ·cases e
def tO {α : Type} : Nat → List α → List (Nat × α)
 | _, [] => []
 | i, x :: l => (i, x) :: tO (i + 1) l
theorem E1 {α : Type} : ∀ (l : List α) (i t : Nat) (x : α), look (tO i l) t = some x → i ≤ t ∧ l[t - i]? = some x
 | [], i, t, x, h => by cases h
 | y :: l, i, t, x, h => by
  simp only [tO, bK] at h
  split at h
  ·rename_i e; subst e; injection h with h; subst h; exact ⟨RR _, by simp⟩
  ·obtain ⟨h1, h2⟩ := E1 l (i + 1) t x h
   exact ⟨by omega, by rw [show t - i = (t - (i + 1)) + 1 by omega]; simpa using h2⟩
def xj (tt : TT) (tm : Tm) (h : Hp) : ResultVar → Option (AV × Prop)
 | .tmp t => match tm t with
  | some (.tup _) => none
  | some v => some (v, True)
  | none => none
 | .cell p t => match tm p with
  | some pv => ji tt t h pv
  | none => none
def tP (tt : TT) (tm : Tm) (h : Hp) : List ResultVar → Option (List AV × List Prop)
 | [] => some ([], [])
 | r :: l => match xj tt tm h r, tP tt tm h l with
  | some (v, p), some (vs, ps) => some (v :: vs, p :: ps)
  | _, _ => none
def PS : List AV → AV
 | [x] => x
 | l => .tup l
def kz (tt : TT) (S : St) (rs : List ResultVar) : Option (AV × List Prop) := match tP tt (look S.tm) (look S.h) rs with
 | some (vs, ps) => some (PS vs, ps)
 | none => none
section
variable {base : dC} {X : Nat → Prop} {nt : Nat} {used : Nat → Prop} {ρ : Ren} {tm : Tm} {h : Hp} {a : Act} {w : World} {P : Program}
theorem L1 {tt : TT} (hT : bH P tt) {t : TypeId} {p : AV} {r : AV × Prop} (e : ji tt t h p = some r) : ∀ l, r.1 ≠ .tup l := by
 unfold ji at e
 split at e
 ·split at e
  ·split at e
   ·cases e
   ·split at e
    ·injection e with e; subst e; intro l h; cases h
    ·cases e
  ·split at e
   ·injection e with e; subst e; intro l h; cases h
   ·cases e
 ·cases e
theorem Hk {ok : Nat → Prop} {v : AV} {y : Value} (hn : ∀ l, v ≠ .tup l) (h : RV w ok ρ v y) : R1 w ok ρ v y := by
 cases v with
 | tup l => exact absurd rfl (hn l)
 | c x => exact h
 | agg l => exact h
 | fagg n f => exact h
 | clo f a b => exact h
def xw (a : Act) : ResultVar → Sem Value
 | .tmp t => pure (a.tmps.getD t undef)
 | .cell p t => do loadVar t (← asAddr (a.tmps.getD p undef))
theorem Lc (fn : Func) (a : Act) : results fn a.tmps = (fn.results.mapM (xw a) >>= fun vs => pure (if h : vs.size = 1 then vs[0] else .tuple vs)) := by
 unfold results
 congr 1
theorem L2 {tt : TT} (hT : bH P tt) (R : aZ base X nt used ρ tm h a w) {rv : ResultVar} {r : AV × Prop} (e : xj tt tm h rv = some r) (hc : r.2) :
  ∃ v, (xw a rv).run P w = .ok v w ∧ R1 w (okOf base w ρ h) ρ r.1 v := by
 cases rv with
 | tmp t =>
  simp only [xj] at e
  split at e
  ·cases e
  ·rename_i v hn hv
   injection e with e
   subst e
   exact ⟨_, rfl, Hk (fun l h => hn l h) (R.tmp t v hv)⟩
  ·cases e
 | cell p t =>
  simp only [xj] at e
  split at e
  ·rename_i pv hp
   obtain ⟨v, v1, v2⟩ := ER hT e hc R (R.tmp p pv hp)
   refine ⟨v, ?_, Hk (L1 hT e) v2⟩
   rw [← v1]
   unfold Instr.loadAt xw
   rw [Sem.run_bind, Sem.run_bind]
   unfold Instr.loadAt at v1
   rw [Sem.run_bind] at v1
   cases hy : a.tmps.getD p undef with
   | pointer ad =>
    cases ad with
    | none => rw [hy] at v1; simp [Instr.sureAddr] at v1
    | some ad => rfl
   | _ => rw [hy] at v1; simp [Instr.sureAddr] at v1
  ·cases e
theorem E2 {tt : TT} (hT : bH P tt) (R : aZ base X nt used ρ tm h a w) : ∀ {rs : List ResultVar} {vs : List AV} {ps : List Prop}, tP tt tm h rs = some (vs, ps) → fp ps →
  ∃ ys, (rs.mapM (xw a)).run P w = .ok ys w ∧ aG (R1 w (okOf base w ρ h) ρ) vs ys
 | [], vs, ps, e, _ => by simp only [tP, Ri, Rr] at e; obtain ⟨rfl, rfl⟩ := e; exact ⟨[], by simp, trivial⟩
 | r :: l, vs, ps, e, hp => by
  simp only [tP] at e
  split at e
  ·rename_i v p vs' ps' hv hvs
   simp only [Ri, Rr] at e
   obtain ⟨rfl, rfl⟩ := e
   obtain ⟨y, y1, y2⟩ := L2 hT R hv hp.1
   obtain ⟨ys, z1, z2⟩ := E2 hT R hvs hp.2
   refine ⟨y :: ys, ?_, y2, z2⟩
   rw [List.mapM_cons, Sem.run_bind, y1, Result.andThen_ok, Sem.run_bind, z1]
   rfl
  ·cases e
theorem Ap {tt : TT} (hT : bH P tt) {S : St} {fn : Func} (R : aZ base X nt used ρ (look S.tm) (look S.h) a w) {out : AV} {ps : List Prop} (e : kz tt S fn.results.toList = some (out, ps)) (hp : fp ps) :
  ∃ v, (results fn a.tmps).run P w = .ok v w ∧ RV w (okOf base w ρ (look S.h)) ρ out v := by
 unfold kz at e
 split at e
 ·rename_i vs ps' hvs
  simp only [Ri, Rr] at e
  obtain ⟨rfl, rfl⟩ := e
  obtain ⟨ys, y1, y2⟩ := E2 hT R hvs hp
  refine ⟨if h : ys.toArray.size = 1 then ys.toArray[0] else .tuple ys.toArray, ?_, ?_⟩
  ·rw [Lc, Array.mapM_eq_mapM_toList, Sem.run_bind, Sem.run_map, y1]
   rfl
  ·cases vs with
   | nil =>
    cases ys with
    | nil => exact ⟨#[], rfl, trivial⟩
    | cons _ _ => exact y2.elim
   | cons v vs =>
    cases ys with
    | nil => exact y2.elim
    | cons y ys =>
     cases vs with
     | nil =>
      cases ys with
      | nil => exact pO y2.1
      | cons _ _ => exact y2.2.elim
     | cons v2 vs =>
      cases ys with
      | nil => exact y2.2.elim
      | cons y' ys => exact ⟨_, by rw [dif_neg (by simp)], y2⟩
 ·cases e
end
def gE (tt : TT) (rs : List ResultVar) (k : Nat) (S : St) (out : AV) (outb : List (Nat × aQ)) : Prop :=
 ∃ (out0 : AV) (ps : List Prop) (m : List (Nat × Nat)) (n : Nat), kz tt S rs = some (out0, ps) ∧ fp ps ∧ gD m [0] n ⟨[(0, out0)], S.h, S.n⟩ = some ⟨[(0, out)], outb, n⟩ ∧ (de (m.map (·.2)) && de (m.map (·.1)) && jf n m && gz k n m) = true
theorem gE.mk {tt : TT} {rs : List ResultVar} {k : Nat} {S : St} {out : AV} {outb : List (Nat × aQ)} (m : List (Nat × Nat)) (n : Nat) {out0 : AV} {ps : List Prop} (h1 : kz tt S rs = some (out0, ps)) (h2 : fp ps) (h3 : gD m [0] n ⟨[(0, out0)], S.h, S.n⟩ = some ⟨[(0, out)], outb, n⟩)
    (h4 : (de (m.map (·.2)) && de (m.map (·.1)) && jf n m && gz k n m) = true) : gE tt rs k S out outb := ⟨out0, ps, m, n, h1, h2, h3, h4⟩
def xx : List (Nat × aQ) → Nat → Bool
 | [], _ => true
 | (i, _) :: l, k => Nat.blt i k && xx l k
theorem Gz : ∀ {l : List (Nat × aQ)} {k : Nat}, xx l k = true → ∀ i b, look l i = some b → i < k
 | [], _, _, i, b, h => by cases h
 | (j, x) :: l, k, hb, i, b, h => by
  simp only [xx, Rv] at hb
  rw [bK] at h
  split at h
  ·rename_i e; injection h with h; subst e; simpa using hb.1
  ·exact Gz hb.2 i b h
theorem aw {P : Program} {tt : TT} (hT : bH P tt) {f : FuncId} {fn : Func} {code : Code} {args : List AV} {inb : List (Nat × aQ)} {out : AV} {outb : List (Nat × aQ)} (k : Nat) (hf : P.funcs[f]? = some fn) 
  (hb : fn.body = some code) 
  (H : ∀ (base : dC) (X : Nat → Prop) (hk : ∀ id, base.ρ0 id ≠ none → id < k), AW ⟨⟨P, base, X, fn.ntmps⟩, k, hk⟩ ⟨tO 0 args, inb, k⟩ code fun e S1 => ∃ S2, Conv ⟨⟨P, base, X, fn.ntmps⟩, k, hk⟩ S1 S2 ∧ (e = .normal ∨ e = .ret) ∧ gE tt fn.results.toList k S2 out outb) (hlen : (Nat.ble args.length fn.ntmps && Nat.blt 0 fn.ntmps && xx inb k) = true := by kernel_rfl) (hname : (fn.name == "runtime.NumGoroutine") = false := by kernel_rfl) : d7 P f args inb out outb := by
 have H := fun base X hk => AW.post (H base X hk)
 refine ⟨⟨fn, hf, hname, by rw [hb]; rfl⟩, fun w okA ρ vs hA hdom hin hinj hargs => ?_⟩
 simp only [Rv] at hlen
 obtain ⟨⟨hl1, hl2⟩, hl3⟩ := hlen
 have hl1 : args.length ≤ fn.ntmps := Nat.le_of_ble_eq_true hl1
 have hl2 : 0 < fn.ntmps := by simpa using hl2
 have hvl : vs.size = args.length := by have := hargs.length; simpa using this.symm
 have hk : ∀ id, ρ id ≠ none → id < k := fun id hid => by obtain ⟨b, hb⟩ := hdom id hid; exact Gz hl3 id b hb
 have hok : ∀ b, okA b → okOf ⟨w, okA, ρ⟩ w ρ (look inb) b := fun b hb => ⟨hA b hb, .inr (.inl hb), fun id blk cap h1 _ h3 => by
  obtain ⟨l, l1, _, l3⟩ := hin id blk h1
  rw [h3] at l1
  injection l1 with l1
  exact (l3 b cap l1.symm).2 hb⟩
 refine calls_of_wp hf hb ?_
 have R0 : cr (Fx.toCx ⟨⟨P, ⟨w, okA, ρ⟩, fun b => ∃ id cap, ρ id = some (.aT b cap), fn.ntmps⟩, k, hk⟩) ρ ⟨tO 0 args, inb, k⟩ { tmps := vs ++ Array.replicate (fn.ntmps - vs.size) undef, defers := [] } w := by
  refine ⟨fun t av ht => ?_, fun id blk hid => ?_, fun _ h => h, fun i j b c1 c2 _ _ _ _ _ => hinj i j b c1 c2, fun id hid => hk id hid, cy.refl _ _, QJ _, by simp; omega, rfl⟩
  ·obtain ⟨_, h2⟩ := E1 args 0 t av ht
   rw [Nat.sub_zero] at h2
   obtain ⟨y, y1, y2⟩ := aG.get hargs h2
   have hlt : t < vs.size := by
    rcases Sd t vs.size with h' | h'
    ·exact h'
    ·rw [Rh (by simpa using h')] at y1; cases y1
   have e1 : (vs ++ Array.replicate (fn.ntmps - vs.size) undef).getD t undef = y := by
    have y1' : vs[t]? = some y := by simpa using y1
    rw [RZ, Array.getElem?_append_left hlt, y1']
    rfl
   simp only [e1]
   exact RV.mono ⟨hok, fun _ _ => rfl⟩ (QJ _) _ _ y2
  ·obtain ⟨l, l1, l2, l3⟩ := hin id blk hid
   exact ⟨l, l1, RB.mono ⟨hok, fun _ _ => rfl⟩ (QJ _) _ _ (fun _ _ _ => rfl) l2, fun b cap e => ⟨(l3 b cap e).1, .inr ⟨id, cap, by rw [l1, e]⟩⟩⟩
 refine wp_mono (H ⟨w, okA, ρ⟩ (fun b => ∃ id cap, ρ id = some (.aT b cap)) hk ρ _ w R0) ?_
 rintro e a' w' ⟨S', ⟨he, out0, ps, m, n, o1, o2, o3, o4⟩, ρ1, R1⟩
 have fin : a'.defers = [] ∧ ∃ v, (results fn a'.tmps).run P w' = .ok v w' ∧ ∃ v' ρ', Ending.returned v = .returned v' ∧ b9 ρ ρ' ∧ cy (fun b => ∃ id cap, ρ id = some (.aT b cap)) w w' ∧ RV w' (okOf ⟨w, okA, ρ⟩ w' ρ' (look outb)) ρ' out v' ∧
   (∀ id blk, look outb id = some blk → ∃ l, ρ' id = some l ∧ RB w' (okOf ⟨w, okA, ρ⟩ w' ρ' (look outb)) ρ' blk l ∧ ∀ b cap, l = .aT b cap → b < w'.heap.size ∧ (w.heap.size ≤ b ∨ ∃ id cap, ρ id = some (.aT b cap))) ∧
   (∀ i j b c c' x y, look outb i = some x → look outb j = some y → (x.mut = true ∨ y.mut = true) → ρ' i = some (.aT b c) → ρ' j = some (.aT b c') → i = j) := by
  obtain ⟨v, v1, v2⟩ := Ap hT R1 o1 o2
  refine ⟨R1.defers, v, v1, v, ?_⟩
  have R2 : cr (Fx.toCx ⟨⟨P, ⟨w, okA, ρ⟩, fun b => ∃ id cap, ρ id = some (.aT b cap), fn.ntmps⟩, k, hk⟩) ρ1 ⟨[(0, out0)], S'.h, S'.n⟩ (a'.put (some 0) v) w' := by
   have := R1.put_tm (d := some 0) (y := v) (av := some out0) (fun t ht => by injection ht with ht; subst ht; exact hl2) (fun x hx => by injection hx with hx; subst hx; exact v2)
   refine this.weaken (fun t av ht => ?_) (fun _ _ h => h)
   rw [bK] at ht
   split at ht
   ·rename_i e0; subst e0; simp only [cm, if_true]; exact ht
   ·cases ht
  obtain ⟨ρ2, R3⟩ := wz (c := ⟨⟨P, ⟨w, okA, ρ⟩, fun b => ∃ id cap, ρ id = some (.aT b cap), fn.ntmps⟩, k, hk⟩) m [0] o3 o4 ρ1 _ w' R2
  refine ⟨ρ2, rfl, R3.ext0, R3.upd, ?_, fun id blk hid => ?_, R3.inj⟩
  ·have := R3.tmp 0 out (by rw [bK, if_pos rfl])
   rw [ij v (by rw [R1.size]; exact hl2)] at this
   exact this
  ·obtain ⟨l, l1, l2, l3⟩ := R3.heap id blk hid
   exact ⟨l, l1, l2, fun b cap e => ⟨(l3 b cap e).1, (l3 b cap e).2⟩⟩
 rcases he with rfl | rfl <;> exact fin
theorem L3 {P : Program} {f : FuncId} {args : List AV} {b : Bool} (h : d7 P f args [] (.c (.t (.v (.bool b)))) []) (w : World) (vs : Array Value) (hargs : aG (RV w (fun b => b < w.heap.size) fun _ => none) args vs.toList) :
  Calls P f vs w fun e w' => e = .returned (.bool b) ∧ Go.RowKit.Below w.heap.size w w' := by
 refine Calls.mono (h.2 w (fun b => b < w.heap.size) (fun _ => none) vs (fun _ h => h) (fun id hid => absurd rfl hid) (fun id blk hid => by cases hid) (fun i j b c c' hi => by cases hi) hargs) ?_
 rintro e w' ⟨v, ρ', rfl, _, hU, hv, _⟩
 obtain ⟨rfl, _⟩ := hv
 exact ⟨rfl, hU.os, hU.tape, hU.output, hU.size, fun k hk => hU.block k hk fun ⟨_, _, hh⟩ => by cases hh⟩
def Hl (P : Program) : List (Nat × TI) → Prop
 | [] => True
 | (t, i) :: l => di P t i ∧ Hl P l
theorem On {P : Program} {l : List (Nat × TI)} (h : Hl P l := by repeat' first | exact trivial | exact ⟨by kernel_rfl, by kernel_rfl, by kernel_rfl⟩ | refine ⟨?_, ?_⟩) : bH P (look l) := by
 intro t i ht
 induction l with
 | nil => cases ht
 | cons p l ih =>
  obtain ⟨k, v⟩ := p
  rw [bK] at ht
  split at ht
  ·rename_i e; injection ht with ht; subst e; subst ht; exact h.1
  ·exact ih h.2 ht
theorem aY {C : Prop} [Decidable C] {α : Type} {x : Option α} {r : α} (h : (if C then x else none) = some r) : C ∧ x = some r := by
 by_cases hc : C
 ·rw [if_pos hc] at h; exact ⟨hc, h⟩
 ·rw [if_neg hc] at h; cases h
theorem ap {α β : Type} {x : Option α} {f : α → Option β} {r : β} (h : x.bind f = some r) : ∃ y, x = some y ∧ f y = some r := by
 cases x with
 | none => cases h
 | some y => exact ⟨y, rfl, h⟩
theorem ay {α : Type} {x y : α} (h : some x = some y) : x = y := by injection h
theorem QO {Q : Exit → St → Prop} {id : Nat} {S : St} (h : Q .normal S) : AW.inBlock id Q (.exit id) S := by simp only [AW.inBlock, if_true]; exact h
theorem QP {Q : Exit → St → Prop} {id i : Nat} {S : St} (hne : Nat.beq i id = false) (h : Q (.exit i) S) : AW.inBlock id Q (.exit i) S := by
 simp only [AW.inBlock]; rw [if_neg (fun e => by subst e; simp at hne)]; exact h
def xk {ι : Type} (c : Fx) (st : ι → St) (k : ι → Prop) (Q : Exit → St → Prop) : Exit → St → Prop
 | .normal, S => ∃ i, k i ∧ Conv c S (st i)
 | e, S => Q e S
theorem AW.join {ι : Type} {c : Fx} {S : St} {x : Code} {Q : Exit → St → Prop} (st : ι → St) (k : ι → Prop) (hK : ∀ i, k i → Q .normal (st i)) (hx : AW c S x (xk c st k Q)) : AW c S x Q :=
 AW.post (AW.mono hx fun e S' h => by
  cases e with
  | normal => obtain ⟨i, h1, h2⟩ := h; exact ⟨st i, h2, hK i h1⟩
  | _ => exact ⟨S', Conv.refl _ _, h⟩)
def cn (k : IntKind) (x y : Int) : Int := k.wrap (BitVec.ofInt k.bits x &&& BitVec.ofInt k.bits y).toNat
def cw (k : IntKind) (x y : Int) : Int := k.wrap (BitVec.ofInt k.bits x ||| BitVec.ofInt k.bits y).toNat
def bq (k : IntKind) (x y : Int) : Int := k.wrap (BitVec.ofInt k.bits x ^^^ BitVec.ofInt k.bits y).toNat
def ck (k : IntKind) (x y : Int) : Int := k.wrap (x * 2 ^ min y.toNat k.bits)
def a7 (k : IntKind) (x y : Int) : Int := x.fdiv (2 ^ min y.toNat k.bits)
def bJ {τ : Type} (d : τ) (enc : τ → List T) (xs : List τ) : Nat → Nat → T := fun i j => (enc (xs.getD i d)).getD j (.v undef)
def dh (s : ByteArray) : List Int := s.data.toList.map fun b => (b.toNat : Int)
theorem DG (s : ByteArray) : s.size = (dh s).length := by
 rw [dh, RF, Array.length_toList]; rfl
theorem Ld {s : ByteArray} : ∀ i, i < s.size → ∀ j, j < 1 → pF s i j = bJ (0 : Int) (fun x => [.v (.int .u8 x)]) (dh s) i j := by
 intro i hi j hj
 obtain rfl : j = 0 := by omega
 simp only [pF, bJ, dh, Re, RO]
 cases s.data.toList[i]? <;> rfl
def strOf (xs : List Int) : ByteArray := pq xs.length (fun i => xs.getD i 0)
theorem L4 {τ : Type} {d : τ} {enc : τ → List T} {xs : List τ} {m : Nat} (i j : Nat) (h : i < (xs.take m).length) : bJ d enc xs i j = bJ d enc (xs.take m) i j := by
 unfold bJ
 rw [Ro] at h
 simp only [Re]
 rw [List.getElem?_take_of_lt (by omega)]
theorem tc {c : Fx} {S S' : St} (h : S = S') : Conv c S S' := h ▸ Conv.refl c S
open Classical in
def pK {α : Type} (p : Prop) (A B : Option α) : Option α := if p → A = B then B else none
theorem vF {α : Type} {p : Prop} {A B : Option α} {r : α} (h : pK p A B = some r) : (p → A = some r) ∧ B = some r := by
 unfold pK at h
 split at h
 ·rename_i k
  exact ⟨fun hp => (k hp).trans h, h⟩
 ·cases h
def kA : List T → Prop
 | [] => True
 | t :: l => ue t ∧ kA l
theorem E3 : ∀ {l : List T} (j : Nat), kA l → ue (l.getD j (.v undef))
 | [], _, _ => trivial
 | t :: l, 0, h => h.1
 | t :: l, j + 1, h => by simpa using E3 (l := l) j h.2
theorem bS {τ : Type} {d : τ} {enc : τ → List T} (h : ∀ x, kA (enc x)) (xs : List τ) (sz n : Nat) : ∀ i, i < n → ∀ j, j < sz → ue (bJ d enc xs i j) := fun i _ j _ => E3 j (h _)
section
variable {τ : Type} {d : τ} {enc : τ → List T}
theorem G6 {n sz : Nat} {z : Nat → T} {y : τ} (hz : ∀ j, j < sz → bn (z j) ((enc y).getD j (.v undef))) : n = (List.replicate n y).length ∧ ∀ i, i < (List.replicate n y).length → ∀ j, j < sz → bn (z j) (bJ d enc (List.replicate n y) i j) := by
 refine ⟨by simp, fun i hi j hj => ?_⟩
 rw [RG] at hi
 have h := hz j hj
 rw [Re] at h
 simpa only [bJ, Re, List.getElem?_replicate, if_pos hi, Option.getD_some] using h
theorem Ng {xs : List τ} {n e sub sz : Nat} {tl : List T} {y : τ} (hn : n = xs.length) (he : e < n) (hy : ∀ j, j < sz → bn (if sub ≤ j ∧ j < sub + tl.length then tl.getD (j - sub) (.v undef) else (enc (xs.getD e d)).getD j (.v undef)) ((enc y).getD j (.v undef))) :
  n = n ∧ ∀ i, i < n → ∀ j, j < sz → bn (ik (bJ d enc xs) e sub tl i j) (bJ d enc (xs.set e y) i j) := by
 subst hn
 refine ⟨rfl, fun i hi j hj => ?_⟩
 simp only [ik, bJ]
 by_cases h : i = e
 ·subst h
  have h1 : (xs.set i y).getD i d = y := by simp [Re, he]
  rw [h1]
  have h3 := hy j hj
  by_cases h2 : sub ≤ j ∧ j < sub + tl.length
  ·rw [if_pos ⟨rfl, h2⟩]; rw [if_pos h2] at h3; exact h3
  ·rw [if_neg (fun x => h2 x.2)]; rw [if_neg h2] at h3; exact h3
 ·have h1 : (xs.set e y).getD i d = xs.getD i d := by simp [Re, Ne.symm h]
  rw [if_neg (fun x => h x.1), h1]
  exact bn.refl _
theorem t7 {f g : Nat → Nat → T} {n m sz : Nat} (h : n = m ∧ ∀ i, i < m → ∀ j, j < sz → f i j = g i j) : n = m ∧ ∀ i, i < m → ∀ j, j < sz → bn (f i j) (g i j) := ⟨h.1, fun i hi j hj => by rw [h.2 i hi j hj]; exact bn.refl _⟩
theorem tA {xs ys : List τ} {n m sz : Nat} {f g : Nat → Nat → T} (hn : n = xs.length) (hm : m = ys.length) (hf : ∀ i, i < n → ∀ j, j < sz → f i j = bJ d enc xs i j) (hg : ∀ i, i < m → ∀ j, j < sz → g i j = bJ d enc ys i j) :
  n + m = (xs ++ ys).length ∧ ∀ i, i < (xs ++ ys).length → ∀ j, j < sz → da n f g i j = bJ d enc (xs ++ ys) i j := by
 subst hn; subst hm
 refine ⟨by simp, fun i hi j hj => ?_⟩
 rw [Rl] at hi
 simp only [da]
 by_cases h : i < xs.length
 ·rw [if_pos h, hf i h j hj]
  simp only [bJ, Re, RA h]
 ·rw [if_neg h, hg (i - xs.length) (by omega) j hj]
  simp only [bJ, Re, RD (Nat.le_of_not_lt h)]
theorem ig {f : Nat → Nat → T} {n sz : Nat} : ∀ i, i < n → ∀ j, j < sz → f i j = f i j := fun _ _ _ _ => rfl
end
def cu (x y : C) : Prop := ∀ (w : World) (ok : Nat → Prop) (ρ : Ren) (v : Value), RC w ok ρ x v → RC w ok ρ y v
theorem cu.refl (x : C) : cu x x := fun _ _ _ _ h => h
theorem cu.nil {n sz : Nat} {f : Nat → Nat → T} (hn : n = 0) : cu (.t (.v (.slice none 0 0))) (.t (.tree n sz f)) := fun w ok ρ v h => by
 obtain ⟨rfl, _⟩ := h
 subst hn
 exact ⟨none, 0, rfl, RR _, fun i hi => by omega⟩
theorem cu.tree {n m sz : Nat} {f g : Nat → Nat → T} (h : n = m ∧ ∀ i, i < m → ∀ j, j < sz → f i j = g i j) : cu (.t (.tree n sz f)) (.t (.tree m sz g)) := fun w ok ρ v k => by
 obtain ⟨rfl, hg⟩ := h
 obtain ⟨q, c, rfl, h1, h2⟩ := k
 exact ⟨q, c, rfl, h1, fun i hi j hj => let ⟨b, o, x, a1, a2, a3, a4⟩ := h2 i hi j hj; ⟨b, o, x, a1, a2, a3, by rw [← hg i hi j hj]; exact a4⟩⟩
theorem aN.c {x y : C} (h : cu x y) : aN (.c x) (.c y) := fun w ok ρ v k => h w ok ρ v k
theorem aN.agg {l m : List C} (h : aG cu l m) : aN (.agg l) (.agg m) := fun w ok ρ v ⟨ys, h1, h2⟩ => ⟨ys, h1, aG.comp (fun x y v k1 k2 => k1 w ok ρ v k2) h h2⟩
theorem QQ {h : Hp} {x y : C} (k : cu x y) : bv h x y := fun _ _ _ _ ρ _ _ w _ v hv => k w _ ρ v hv
def db : List Nat → Nat → Bool
 | [], _ => false
 | k :: l, i => Nat.beq k i || db l i
theorem QR {c : Fx} {y : Code} {Q : Exit → St → Prop} {i : Nat} {S : St} (h : Q (.exit i) S) : AW.thenQ c y Q (.exit i) S := h
theorem QS {Q : Exit → St → Prop} {S : St} (h : Q .ret S) : AW.noG Q .ret S := h
theorem QT {Q : Exit → St → Prop} {id : Nat} {S : St} (h : Q .ret S) : AW.inBlock id Q .ret S := h
theorem QU {Q : Exit → St → Prop} {id : Nat} {S : St} (h : Q .normal S) : AW.inBlock id Q .normal S := h
theorem Et {ι : Type} {c : Fx} {st : ι → St} {k : ι → Prop} {Q : Exit → St → Prop} {i : Nat} {S : St} (h : Q (.exit i) S) : xk c st k Q (.exit i) S := h
theorem sQ {ι : Type} {c : Fx} {st : ι → St} {k : ι → Prop} {Q : Exit → St → Prop} {S : St} (h : Q .ret S) : xk c st k Q .ret S := h
def tQ {σ τ : Type} (c : Fx) (st : σ → St) (out : τ → Exit × St) (o : σ ⊕ τ) : Exit → St → Prop := fun e S => match o with
 | .inl s => e = .normal ∧ Conv c S (st s)
 | .inr t => e = (out t).1 ∧ Conv c S (out t).2
def vY : Exit → Prop
 | .normal => False
 | _ => True
theorem QV {c : Fx} {Q : Exit → St → Prop} {σ τ : Type} {step : σ → Option (σ ⊕ τ)} {s0 : σ} {t : τ} {body : Code} (st : σ → St) (out : τ → Exit × St) (hl : Vm.loop step s0 = some t) (hne : ∀ t, vY (out t).1)
  (hbody : ∀ s o, step s = some o → AW c (st s) body (tQ c st out o)) (hA : Q (out t).1 (out t).2) : AW c (st s0) (.loop body) Q := by
 refine AW.post (AW.loop st hl fun s o ho => AW.mono (hbody s o ho) fun e S h => ?_)
 cases o with
 | inl s' => exact h
 | inr t' =>
  obtain ⟨he, hc⟩ := h
  intro ht
  subst ht
  have hn := hne t'
  refine ⟨fun e1 => ?_, (out t').2, hc, by rw [he]; exact hA⟩
  rw [← he, e1] at hn
  exact hn
theorem dr {c : Fx} {S : St} {id : Nat} {ty0 : TypeId} {cs : List C} (i : Nat) {ty : TypeId} {sz n : Nat} {f : Nat → Nat → T} (hid : look S.h id = some (.box ty0 cs)) (hi : cs[i]? = some (.t (.v (.slice none 0 0)))) (hn : n = 0) :
  Conv c S ⟨S.tm, (id, .box ty0 (cs.set i (.ref S.n sz 0 n))) :: (S.n, .row ty false sz n f) :: S.h, S.n + 1⟩ := fun ρ a w R => by
 subst hn
 have hlt : id < S.n := by
  obtain ⟨l, l1, _⟩ := R.heap id _ hid
  exact R.used id (by rw [l1]; simp)
 have R2 := R.add (w' := w) (nid := S.n) (used' := fun id => id < S.n + 1) (cy.refl _ _) (by omega) (fun id h => by omega) (by omega) (blk := .row ty false sz 0 f) (l := .nil) (fun b cap e => by cases e) (fun _ => rfl) none (fun t h => by cases h) none undef (fun _ x hx => by cases hx)
 have e1 : look ((S.n, aQ.row ty false sz 0 f) :: S.h) = bc (look S.h) [(S.n, some (.row ty false sz 0 f))] := by
  funext i; rw [bK]; rfl
 have R3 : cr c.toCx (ρ.set S.n .nil) ⟨S.tm, (S.n, .row ty false sz 0 f) :: S.h, S.n + 1⟩ a w := by
  unfold cr; rw [e1]; exact R2
 have hid2 : look ((S.n, aQ.row ty false sz 0 f) :: S.h) id = some (.box ty0 cs) := by rw [bK, if_neg (by omega)]; exact hid
 obtain ⟨l, l1, ⟨b, vs, v1, v2, v3⟩, l3⟩ := R3.heap id _ hid2
 have hok : ∀ x, okOf c.base w (ρ.set S.n .nil) (look ((S.n, aQ.row ty false sz 0 f) :: S.h)) x → okOf c.base w (ρ.set S.n .nil) (look ((id, .box ty0 (cs.set i (.ref S.n sz 0 0))) :: (S.n, aQ.row ty false sz 0 f) :: S.h)) x := fun x ⟨o1, o2, o3⟩ => ⟨o1, o2, fun k blk cap h1 h2 h3 => by
  rw [bK] at h1
  split at h1
  ·rename_i e; subst e; exact o3 id _ cap hid2 rfl h3
  ·exact o3 k blk cap h1 h2 h3⟩
 have hex : ∀ k x, look ((id, aQ.box ty0 (cs.set i (.ref S.n sz 0 0))) :: (S.n, aQ.row ty false sz 0 f) :: S.h) k = some x → ∃ y, look ((S.n, aQ.row ty false sz 0 f) :: S.h) k = some y ∧ (x.mut = true → y.mut = true) := fun k x hx => by
  rw [bK] at hx
  split at hx
  ·rename_i e; subst e; exact ⟨_, hid2, fun _ => rfl⟩
  ·exact ⟨x, hx, fun q => q⟩
 refine ⟨ρ.set S.n .nil, fun t av ht => RV.mono ⟨hok, fun _ _ => rfl⟩ (QJ _) _ _ (R3.tmp t av ht), fun k blk hk => ?_, R3.hX, fun i j b c1 c2 x y hi hj hk h1 h2 => by
  obtain ⟨x', a1, a2⟩ := hex i x hi
  obtain ⟨y', b1, b2⟩ := hex j y hj
  exact R3.inj i j b c1 c2 x' y' a1 b1 (hk.imp a2 b2) h1 h2, R3.used, R3.upd, R3.ext0, R3.size, R3.defers⟩
 ·simp only at hk
  rw [bK] at hk
  split at hk
  ·rename_i e
   injection hk with hk
   subst e; subst hk
   refine ⟨l, l1, ⟨b, vs, v1, v2, ?_⟩, l3⟩
   obtain ⟨y, y1, y2⟩ := aG.get v3 hi
   have h4 : aG (RC w (okOf c.base w (ρ.set S.n .nil) (look ((id, .box ty0 (cs.set i (.ref S.n sz 0 0))) :: (S.n, aQ.row ty false sz 0 f) :: S.h))) (ρ.set S.n .nil)) cs vs.toList := v3.mono (RC.mono ⟨hok, fun _ _ => rfl⟩ (QJ _))
   have h7 : RC w (okOf c.base w (ρ.set S.n .nil) (look ((id, .box ty0 (cs.set i (.ref S.n sz 0 0))) :: (S.n, aQ.row ty false sz 0 f) :: S.h))) (ρ.set S.n .nil) (.ref S.n sz 0 0) y := ⟨.nil, by simp [Ren.set], rfl, rfl, none, y2.1⟩
   have h5 := aG.set (i := i) h4 h7
   have h6 : vs.toList.set i y = vs.toList := by
    apply List.ext_getElem?
    intro j
    rw [Se]
    split
    ·rename_i e; subst e; rw [y1]; split <;> simp_all
    ·rfl
   rw [h6] at h5; exact h5
  ·obtain ⟨l, l1, l2, l3⟩ := R3.heap k blk hk
   exact ⟨l, l1, RB.mono ⟨hok, fun _ _ => rfl⟩ (QJ _) _ _ (fun _ _ _ => rfl) l2, l3⟩
@[reducible] def QE (x : Int) : AV := .c (.t (.v (.int .i8 x)))
@[reducible] def QF (x : Int) : C := .t (.v (.int .i8 x))
@[reducible] def Qx (x : Int) : AV := .c (.t (.v (.int .i16 x)))
@[reducible] def Qy (x : Int) : C := .t (.v (.int .i16 x))
@[reducible] def Qz (x : Int) : AV := .c (.t (.v (.int .i32 x)))
@[reducible] def QA (x : Int) : C := .t (.v (.int .i32 x))
@[reducible] def af (x : Int) : AV := .c (.t (.v (.int .i64 x)))
@[reducible] def ag (x : Int) : C := .t (.v (.int .i64 x))
@[reducible] def jv (x : Int) : AV := .c (.t (.v (.int .u8 x)))
@[reducible] def QG (x : Int) : C := .t (.v (.int .u8 x))
@[reducible] def QB (x : Int) : AV := .c (.t (.v (.int .u16 x)))
@[reducible] def QC (x : Int) : C := .t (.v (.int .u16 x))
@[reducible] def eZ (x : Int) : AV := .c (.t (.v (.int .u32 x)))
@[reducible] def QD (x : Int) : C := .t (.v (.int .u32 x))
@[reducible] def a6 (x : Int) : AV := .c (.t (.v (.int .u64 x)))
@[reducible] def aH (x : Int) : C := .t (.v (.int .u64 x))
@[reducible] def vb (x : Bool) : AV := .c (.t (.v (.bool x)))
@[reducible] def cb (x : Bool) : C := .t (.v (.bool x))
@[reducible] def vs (x : ByteArray) : AV := .c (.t (.v (.string x)))
@[reducible] def cs (x : ByteArray) : C := .t (.v (.string x))
@[reducible] def vl {τ : Type} (sz : Nat) (f : List τ → Nat → Nat → T) (xs : List τ) : AV := .c (.t (.tree xs.length sz (f xs)))
@[reducible] def cl {τ : Type} (sz : Nat) (f : List τ → Nat → Nat → T) (xs : List τ) : C := .t (.tree xs.length sz (f xs))
def aF {α β γ : Type} (x : Option (α × β)) (f : α → β → Option γ) : Option γ := x.bind fun p => f p.1 p.2
def ko {α β γ δ : Type} (x : Option (α × β × γ)) (f : α → β → γ → Option δ) : Option δ := x.bind fun p => f p.1 p.2.1 p.2.2
def mz {α β γ δ ε : Type} (x : Option (α × β × γ × δ)) (f : α → β → γ → δ → Option ε) : Option ε := x.bind fun p => f p.1 p.2.1 p.2.2.1 p.2.2.2
def fJ {α β γ δ ε ζ : Type} (x : Option (α × β × γ × δ × ε)) (f : α → β → γ → δ → ε → Option ζ) : Option ζ := x.bind fun p => f p.1 p.2.1 p.2.2.1 p.2.2.2.1 p.2.2.2.2
theorem aK {α β γ : Type} {x : Option (α × β)} {f : α → β → Option γ} {r : γ} (h : aF x f = some r) : ∃ a b, x = some (a, b) ∧ f a b = some r := by
 obtain ⟨⟨a, b⟩, h1, h2⟩ := ap h; exact ⟨a, b, h1, h2⟩
theorem sL {α β γ δ : Type} {x : Option (α × β × γ)} {f : α → β → γ → Option δ} {r : δ} (h : ko x f = some r) : ∃ a b c, x = some (a, b, c) ∧ f a b c = some r := by
 obtain ⟨⟨a, b, c⟩, h1, h2⟩ := ap h; exact ⟨a, b, c, h1, h2⟩
theorem sM {α β γ δ ε : Type} {x : Option (α × β × γ × δ)} {f : α → β → γ → δ → Option ε} {r : ε} (h : mz x f = some r) : ∃ a b c d, x = some (a, b, c, d) ∧ f a b c d = some r := by
 obtain ⟨⟨a, b, c, d⟩, h1, h2⟩ := ap h; exact ⟨a, b, c, d, h1, h2⟩
theorem gZ {α β γ δ ε ζ : Type} {x : Option (α × β × γ × δ × ε)} {f : α → β → γ → δ → ε → Option ζ} {r : ζ} (h : fJ x f = some r) : ∃ a b c d e, x = some (a, b, c, d, e) ∧ f a b c d e = some r := by
 obtain ⟨⟨a, b, c, d, e⟩, h1, h2⟩ := ap h; exact ⟨a, b, c, d, e, h1, h2⟩
def cD {α β γ : Type} (x : Option (α ⊕ β)) (f : α → Option γ) (g : β → Option γ) : Option γ := x.bind fun p => match p with
 | .inl a => f a
 | .inr b => g b
theorem Lf {α β γ : Type} {x : Option (α ⊕ β)} {f : α → Option γ} {g : β → Option γ} {r : γ} (h : cD x f g = some r) : (∃ a, x = some (.inl a) ∧ f a = some r) ∨ ∃ b, x = some (.inr b) ∧ g b = some r := by
 obtain ⟨p, h1, h2⟩ := ap h
 cases p with
 | inl a => exact .inl ⟨a, h1, h2⟩
 | inr b => exact .inr ⟨b, h1, h2⟩
theorem Nh {τ : Type} {d : τ} {enc : τ → List T} {xs : List τ} {l n sz : Nat} (h : l + n ≤ xs.length) : n = ((xs.drop l).take n).length ∧ ∀ i, i < ((xs.drop l).take n).length → ∀ j, j < sz → bJ d enc xs (l + i) j = bJ d enc ((xs.drop l).take n) i j := by
 have hlen : ((xs.drop l).take n).length = n := by simp; omega
 refine ⟨hlen.symm, fun i hi j hj => ?_⟩
 rw [hlen] at hi
 simp only [bJ]
 congr 2
 simp [Re, hi, List.getElem?_drop]
theorem pj {τ : Type} {d : τ} {enc : τ → List T} {xs : List τ} {n sz : Nat} (h : n ≤ xs.length) : n = (xs.take n).length ∧ ∀ i, i < (xs.take n).length → ∀ j, j < sz → bJ d enc xs i j = bJ d enc (xs.take n) i j := by
 have hlen : (xs.take n).length = n := by simp; omega
 refine ⟨hlen.symm, fun i hi j hj => ?_⟩
 rw [hlen] at hi
 simp only [bJ]
 congr 2
 simp [Re, hi]
theorem Ax {n : Nat} : 0 + n ≤ n := by omega
theorem tv : True := trivial
theorem QW {c : Fx} {y : Code} {Q : Exit → St → Prop} {S : St} (h : Q .ret S) : AW.thenQ c y Q .ret S := h
theorem QX {c : Fx} {y : Code} {Q : Exit → St → Prop} {S : St} (h : AW c S y Q) : AW.thenQ c y Q .normal S := h
def Lo {α : Type} (x y : Option α) : Prop := ∀ r, x = some r → y = some r
namespace Lo
variable {α β γ δ ε ζ η : Type}
theorem rfl_ {x : Option α} : Lo x x := fun _ h => h
theorem none_ {x : Option α} : Lo none x := fun _ h => by cases h
end Lo
structure HP where
 hi : Hi
 p : Prop
 h : p
def hn : HP := ⟨{}, True, trivial⟩
abbrev Ss (l : List HP) : List HP := hn :: hn :: l
abbrev Su (l : List HP) : List HP := hn :: hn :: hn :: l
abbrev Sv (l : List HP) : List HP := hn :: hn :: hn :: hn :: l
abbrev Sw (l : List HP) : List HP := hn :: hn :: hn :: hn :: hn :: l
abbrev Sy (l : List HP) : List HP := hn :: hn :: hn :: hn :: hn :: hn :: l
abbrev SA (l : List HP) : List HP := hn :: hn :: hn :: hn :: hn :: hn :: hn :: l
abbrev Sz (l : List HP) : List HP := hn :: hn :: hn :: hn :: hn :: hn :: hn :: hn :: l
def ho {p : Prop} (h : p) : HP := ⟨{}, p, h⟩
def hq {p q : Prop} (h : p) (k : q) : HP := ⟨{}, p ∧ q, ⟨h, k⟩⟩
def ht {b : Bool} (h : b = true) : HP := ⟨{ h := { b := some true } }, b = true, h⟩
def hf {b : Bool} (h : b = false) : HP := ⟨{ h := { b := some false } }, b = false, h⟩
def hr (n : Nat) (f : Nat → Nat → T) {p : Prop} (h : p) : HP := ⟨{ h := { row := some (n, f) } }, p, h⟩
def hi (g : Nat → Int) {p : Prop} (h : p) : HP := ⟨{ h := { ints := some g } }, p, h⟩
def hz (x : HP) (n : Nat) : HP := ⟨{ x.hi with h := { x.hi.h with frz := true } }, x.p ∧ n ≤ n, ⟨x.h, RR n⟩⟩
def xC (q : Int) (x : HP) {e : Int} (k : e = q) : HP := ⟨{ x.hi with h := { x.hi.h with ints := some fun _ => q } }, x.p ∧ e = q, ⟨x.h, k⟩⟩
def xl : List C → Prop
 | [] => True
 | _ :: l => True ∧ xl l
theorem Aq : ∀ l, xl l
 | [] => trivial
 | _ :: l => ⟨trivial, Aq l⟩
def tR : List S1 → Prop
 | [] => True
 | .c _ :: l => True ∧ tR l
 | .agg m :: l => xl m ∧ tR l
theorem wC : ∀ l, tR l
 | [] => trivial
 | .c _ :: l => ⟨trivial, wC l⟩
 | .agg m :: l => ⟨Aq m, wC l⟩
def Hm : AV → Prop
 | .agg l => xl l
 | .clo _ a b => tR a ∧ tR b
 | _ => True
theorem Ni : ∀ x, Hm x
 | .agg l => Aq l
 | .c _ => trivial
 | .fagg _ _ => trivial
 | .tup _ => trivial
 | .clo _ a b => ⟨wC a, wC b⟩
def tL : List AV → Prop
 | [] => True
 | x :: l => Hm x ∧ tL l
theorem vZ : ∀ l, tL l
 | [] => trivial
 | x :: l => ⟨Ni x, vZ l⟩
section
variable {P : Program} {f : FuncId} {args : List AV} {inb : List (Nat × aQ)} {out : AV} {outb : List (Nat × aQ)}
def hk (con : d7 P f args [] out []) : HP := ⟨{ call := some { ids := [], frz := [], flat := out.flat, cnt := 0, args := args, out := out, outb := [] } }, tL args ∧ aG aN args args ∧ (out.flat = true → jk []) ∧ d7 P f args [] out [], ⟨vZ _, zM, fun _ => trivial, con⟩⟩
def hl (ids frz : List Nat) (cnt : Nat) (con : d7 P f args inb out outb) : HP := ⟨{ call := some { ids := ids, frz := frz, flat := false, cnt := cnt, args := args, out := out, outb := outb } }, tL args ∧ aG aN args args ∧ (false = true → jk outb) ∧ d7 P f args inb out outb, ⟨vZ _, zM, fun h => Bool.noConfusion h, con⟩⟩
def hm (ids frz : List Nat) (cnt : Nat) (con : d7 P f args inb out outb) (hf : jk outb) : HP := ⟨{ call := some { ids := ids, frz := frz, flat := true, cnt := cnt, args := args, out := out, outb := outb } }, tL args ∧ aG aN args args ∧ (true = true → jk outb) ∧ d7 P f args inb out outb, ⟨vZ _, zM, fun _ => hf, con⟩⟩
def hg (ids frz : List Nat) (flat : Bool) (cnt : Nat) {q : Prop} (hq : q) {a0 : List AV} (con : d7 P f args inb out outb) (ha : aG aN a0 args) (hf : flat = true → jk outb) : HP := ⟨{ call := some { ids := ids, frz := frz, flat := flat, cnt := cnt, args := args, out := out, outb := outb } }, q ∧ aG aN a0 args ∧ (flat = true → jk outb) ∧ d7 P f args inb out outb, ⟨hq, ha, hf, con⟩⟩
end
section
variable {τ : Type} {d : τ} {enc : τ → List T}
theorem L5 {xs : List τ} {n e : Nat} {y : τ} (hn : n = xs.length) (he : e < n) : n = n ∧ ∀ i, i < n → ∀ j, j < (enc y).length → bn (ik (bJ d enc xs) e 0 (enc y) i j) (bJ d enc (xs.set e y) i j) := by
 have := (Ng (d := d) (enc := enc) (xs := xs) (n := n) (e := e) (sub := 0) (sz := (enc y).length) (tl := enc y) (y := y) hn he (fun j hj => by rw [if_pos ⟨Nat.zero_le _, by omega⟩]; exact bn.refl _))
 exact ⟨rfl, this.2⟩
def hset (d : τ) (enc : τ → List T) (xs : List τ) (e : Nat) (y : τ) {n : Nat} (he : e < n) (hn : n = xs.length) : HP := ⟨{ h := { row := some (n, bJ d enc (xs.set e y)) } }, e < n ∧ n = n ∧ ∀ i, i < n → ∀ j, j < (enc y).length → bn (ik (bJ d enc xs) e 0 (enc y) i j) (bJ d enc (xs.set e y) i j), ⟨he, L5 hn he⟩⟩
def cP (d : τ) (enc : τ → List T) (sz bytes : Nat) (xs ys : List τ) (hl : xs.length + ys.length ≤ 1099511627776) (hb : bytes ≤ 128) : HP := ⟨{ h := { row := some ((xs ++ ys).length, bJ d enc (xs ++ ys)) } }, xs.length = xs.length ∧ 0 + ys.length ≤ ys.length ∧ (xs.length + ys.length ≤ 1099511627776 ∧ bytes ≤ 128) ∧ xs.length + ys.length = (xs ++ ys).length ∧ ∀ i, i < (xs ++ ys).length → ∀ j, j < sz → bn (da xs.length (bJ d enc xs) (fun i j => bJ d enc ys (0 + i) j) i j) (bJ d enc (xs ++ ys) i j),
 ⟨rfl, Ax, ⟨hl, hb⟩, t7 (tA rfl rfl ig (fun i _ j _ => congrArg (fun k => bJ d enc ys k j) (R9 i)))⟩⟩
def gM (d : τ) (enc : τ → List T) (sz bytes : Nat) (zs : List Value) (he : enc d = zs.map T.v) (hz : zs.length = sz) (l c : Int) (h0 : 0 ≤ l) (h1 : l ≤ c) (h2 : c ≤ 1099511627776) (hb : bytes ≤ 128) : HP := ⟨{ h := { row := some ((List.replicate l.toNat d).length, bJ d enc (List.replicate l.toNat d)) } }, (0 ≤ l ∧ l ≤ c ∧ c ≤ 1099511627776 ∧ bytes ≤ 128) ∧ l.toNat = (List.replicate l.toNat d).length ∧ ∀ i, i < (List.replicate l.toNat d).length → ∀ j, j < sz → bn (.v (zs.getD j undef)) (bJ d enc (List.replicate l.toNat d) i j),
 ⟨⟨h0, h1, h2, hb⟩, G6 (z := fun j => .v (zs.getD j undef)) (fun j hj => by
  rw [he]
  have : (zs.map T.v).getD j (.v undef) = .v (zs.getD j undef) := by simp [Re, RO, Rf (by omega : j < zs.length)]
  rw [this]; exact bn.refl _)⟩⟩
theorem FQ {sz : Nat} (hs : ∀ x, (enc x).length = sz) : ∀ (xs : List τ) (i j : Nat), i < xs.length → j < sz → (xs.flatMap enc).getD (i * sz + j) (.v undef) = (enc (xs.getD i d)).getD j (.v undef)
 | [], i, j, h, _ => absurd h (RU _)
 | x :: xs, 0, j, _, hj => by
  rw [List.flatMap_cons, Nat.zero_mul, R9, Re, RA (by rw [hs]; exact hj)]
  rfl
 | x :: xs, i + 1, j, h, hj => by
  have := FQ hs xs i j (by simpa using h) hj
  rw [List.flatMap_cons, Re, RD (by rw [hs, Nat.add_mul]; omega), hs]
  rw [show (i + 1) * sz + j - sz = i * sz + j by rw [Nat.add_mul]; omega]
  exact this
def bB (d : τ) (enc : τ → List T) (sz : Nat) (hs : ∀ x, (enc x).length = sz) (xs : List τ) : HP := ⟨{ h := { row := some (xs.length, bJ d enc xs) } }, xs.length = xs.length ∧ ∀ i, i < xs.length → ∀ j, j < sz → bn (dp (xs.flatMap enc) sz i j) (bJ d enc xs i j), ⟨rfl, fun i hi j hj => by
 have := FQ (d := d) hs xs i j hi hj
 unfold dp bJ
 rw [this]; exact bn.refl _⟩⟩
end
def fa : Nat → List HP → List Prop
 | 0, _ => []
 | n + 1, [] => True :: fa n []
 | n + 1, x :: l => x.p :: fa n l
theorem pt : ∀ (n : Nat) (l : List HP), fp (fa n l)
 | 0, _ => trivial
 | n + 1, [] => ⟨trivial, pt n []⟩
 | n + 1, x :: l => ⟨x.h, pt n l⟩
def eI : List Oper → List Nat
 | [] => []
 | o :: l => match o.dst with
  | some d => d :: eI l
  | none => eI l
theorem Nj {t : Nat} : ∀ {l : List Oper} {o : Oper}, o ∈ l → o.dst = some t → db (eI l) t = true := by
 intro l
 induction l with
 | nil => intro o h; cases h
 | cons p l ih =>
  intro o h hd
  rcases Ry.1 h with rfl | h
  ·simp only [eI, hd, db, Nat.beq_refl, Bool.true_or]
  ·have h3 := ih h hd
   simp only [eI]
   split
   ·simp only [db, h3, Bool.or_true]
   ·exact h3
def dn {α : Type} (l : List (Nat × α)) : List Nat := l.map fun p => p.1
def ir (P : Program) (tt : TT) (ops : List Oper) : List Oper → List Hi → St → Option (St × List Prop × List Nat)
 | [], _, S => some (S, [], [])
 | o :: rest, xs, S =>
  let x := xs.headD {}
  match jn P tt ops (look S.tm) (look S.h) o S.n x with
  | some r => match ir P tt ops rest xs.tail ⟨mw S.tm o.dst (fG r), km S.h (dD r), S.n + x.cnt⟩ with
   | some (S', l, ks) => some (S', pI r :: l, dn (dD r) ++ ks)
   | none => none
  | none => none
theorem FR : ∀ {l : List Nat} {i : Nat}, db l i = true → i ∈ l
 | k :: l, i, h => by
  simp only [db, Bool.or_eq_true] at h
  rcases h with h | h
  ·exact Ry.2 (.inl (Nat.eq_of_beq_eq_true h).symm)
  ·exact Rx _ (FR h)
theorem Ar : ∀ {l : List Nat} {i : Nat}, i ∈ l → db l i = true
 | k :: l, i, h => by
  simp only [db, Bool.or_eq_true]
  rcases Ry.1 h with rfl | h
  ·exact .inl (Nat.beq_refl _)
  ·exact .inr (Ar h)
theorem L8 {W : List (Nat × Option aQ)} {id : Nat} (h : db (dn W) id = false) : eH W id = false := by
 cases hk : eH W id with
 | false => rfl
 | true =>
  simp only [eH, List.any_eq_true] at hk
  obtain ⟨p, h1, h2⟩ := hk
  have : db (dn W) id = true := Ar (R6.2 ⟨p, h1, Nat.eq_of_beq_eq_true h2⟩)
  rw [h] at this; cases this
theorem D3 {i : Nat} : ∀ {l m : List Nat}, db (l ++ m) i = (db l i || db m i)
 | [], m => by simp [db]
 | k :: l, m => by simp only [List.cons_append, db, D3, Bool.or_assoc]
theorem GA {P : Program} {tt : TT} {ops : List Oper} : ∀ {l : List Oper} {xs : List Hi} {S S' : St} {ps : List Prop} {ks : List Nat}, ir P tt ops l xs S = some (S', ps, ks) →
  eV P tt ops l xs S = some (S', ps) ∧ (∀ t, db (eI l) t = false → look S'.tm t = look S.tm t) ∧ ∀ id, db ks id = false → look S'.h id = look S.h id
 | [], xs, S, S', ps, ks, e => by
  simp only [ir, Ri, Rr] at e
  obtain ⟨rfl, rfl, rfl⟩ := e
  exact ⟨rfl, fun _ _ => rfl, fun _ _ => rfl⟩
 | o :: rest, xs, S, S', ps, ks, e => by
  simp only [ir] at e
  split at e
  ·rename_i r hr
   split at e
   ·rename_i S1 l ks1 he
    simp only [Ri, Rr] at e
    obtain ⟨rfl, rfl, rfl⟩ := e
    obtain ⟨h1, h2, h3⟩ := GA he
    refine ⟨by simp only [eV, hr, h1], fun t ht => ?_, fun id hid => ?_⟩
    ·have hd : db (eI rest) t = false ∧ o.dst ≠ some t := by
      simp only [eI] at ht
      split at ht
      ·rename_i d hd
       simp only [db, Bool.or_eq_false_iff] at ht
       exact ⟨ht.2, fun e => by rw [hd] at e; injection e with e; subst e; have := ht.1; simp at this⟩
      ·rename_i hd; exact ⟨ht, fun e => by rw [hd] at e; cases e⟩
     rw [h2 t hd.1, vN]
     simp only [cm]
     rw [if_neg (fun e => hd.2 e.symm)]
    ·rw [D3, Bool.or_eq_false_iff] at hid
     rw [h3 id hid.2, oR]
     exact zT _ (L8 hid.1)
   ·cases e
  ·cases e
def xy (ks : List Nat) (i : Nat) : Bool := !db ks i
def gN (S : St) (ds : List Nat) (tm : List (Nat × AV)) (ks : List Nat) (h : List (Nat × aQ)) (n : Nat) : St := ⟨tm ++ fI (xy ds) S.tm, h ++ fI (xy ks) S.h, n⟩
theorem vG {α : Type} (i : Nat) : ∀ (l m : List (Nat × α)), look (l ++ m) i = match look l i with
  | some x => some x
  | none => look m i
 | [], m => rfl
 | (k, v) :: l, m => by
  simp only [List.cons_append, bK]
  split
  ·rfl
  ·exact vG i l m
def eJ {α : Type} : List (Nat × α) → List (Option α)
 | [] => []
 | (_, x) :: l => some x :: eJ l
theorem As {α : Type} {g : Nat → Option α} {i : Nat} {x : α} : ∀ {l : List (Nat × α)}, (dn l).map g = eJ l → look l i = some x → g i = some x
 | [], _, h => by cases h
 | (k, v) :: l, e, h => by
  simp only [dn, Sq, eJ, List.cons.injEq] at e
  rw [bK] at h
  split at h
  ·rename_i e1; injection h with h; subst e1; subst h; exact e.1
  ·exact As e.2 h
theorem GB {c : Fx} {S S1 : St} {ds ks : List Nat} {tm : List (Nat × AV)} {h : List (Nat × aQ)} (ht : (dn tm).map (look S1.tm) = eJ tm) (hh : (dn h).map (look S1.h) = eJ h)
  (ft : ∀ t, db ds t = false → look S1.tm t = look S.tm t) (fh : ∀ id, db ks id = false → look S1.h id = look S.h id) : Conv c S1 (gN S ds tm ks h S1.n) := fun ρ a w R =>
 ⟨ρ, R.weaken (fun t av e => by
   simp only [gN, vG] at e
   split at e
   ·rename_i x hx
    injection e with e
    subst e
    exact As ht hx
   ·rw [o9] at e
    split at e
    ·rename_i h1
     simp only [xy, Bool.not_eq_true'] at h1
     rw [ft t h1]; exact e
    ·cases e) (fun id b e => by
   simp only [gN, vG] at e
   split at e
   ·rename_i x hx
    injection e with e
    subst e
    exact As hh hx
   ·rw [o9] at e
    split at e
    ·rename_i h1
     simp only [xy, Bool.not_eq_true'] at h1
     rw [fh id h1]; exact e
    ·cases e)⟩
def Hn (ks l : List Nat) : Bool := l.all fun i => db ks i
theorem L9 {ks l : List Nat} (h : Hn ks l = true) {i : Nat} (hi : db ks i = false) : db l i = false := by
 cases hl : db l i with
 | false => rfl
 | true =>
  have := Ru.1 h i (FR hl)
  rw [hi] at this; cases this
abbrev HI := Bool × List (Option AV) × List (Option aQ) × Nat × List Prop
def mH (nt : Nat) (ops : List Oper) (ts ids ks : List Nat) : Option (St × List Prop × List Nat) → Option HI
 | some (S1, ps, wk) => some (fK ops nt && Hn ks wk, ts.map (look S1.tm), ids.map (look S1.h), S1.n, ps)
 | none => none
abbrev pX (i s : Nat) : AV := .c (.ptr i s 0 0)
abbrev rX (i s n : Nat) : AV := .c (.ref i s 0 n)
abbrev ar : C := .t (.v (.slice none 0 0))
abbrev XQ := Exit → St → Prop
abbrev am := List ByteArray
theorem QY {c : Fx} {S : St} {Q : Exit → St → Prop} {tt : TT} (hT : bH c.P tt) {id : Nat} {ops : List Oper} (tm : List (Nat × AV)) (ks : List Nat) (h : List (Nat × aQ)) (n : Nat) (xs : List HP)
  (hQ : Q .normal (gN S (eI ops) tm ks h n)) (e : mH c.nt ops (dn tm) (dn h) ks (ir c.P tt ops ops (xs.map HP.hi) S) = some (true, eJ tm, eJ h, n, fa ops.length xs) := by kernel_rfl) : AW c S (.region id ops.toArray false) Q := by
 unfold mH at e
 split at e
 ·rename_i S1 ps wk hr
  simp only [Ri, Rr, Rv] at e
  obtain ⟨⟨e1, e2⟩, e3, e4, e5, e6⟩ := e
  obtain ⟨r1, r2, r3⟩ := GA hr
  subst e6; subst e5
  exact AW.post (AW.region hT e1 r1 (pt _ _) ⟨_, GB e3 e4 r2 (fun id hid => r3 id (L9 e2 hid)), hQ⟩)
 ·cases e
theorem QZ {c : Fx} {S : St} {Q : Exit → St → Prop} {tt : TT} (hT : bH c.P tt) {id : Nat} {ops : List Oper} {y : Code} (tm : List (Nat × AV)) (ks : List Nat) (h : List (Nat × aQ)) (n : Nat) (xs : List HP)
    (hQ : AW c (gN S (eI ops) tm ks h n) y Q) (e : mH c.nt ops (dn tm) (dn h) ks (ir c.P tt ops ops (xs.map HP.hi) S) = some (true, eJ tm, eJ h, n, fa ops.length xs) := by kernel_rfl) : AW c S (.seq (.region id ops.toArray false) y) Q := AW.seq (QY hT tm ks h n xs hQ e)
theorem ah {c : Fx} {S : St} {Q : Exit → St → Prop} {tt : TT} (hT : bH c.P tt) {id : Nat} {ops : List Oper} {y : Code} (tm : List (Nat × AV)) (n : Nat) (hQ : AW c (gN S (eI ops) tm [] [] n) y Q) (e : mH c.nt ops (dn tm) [] [] (ir c.P tt ops ops ([]) S) = some (true, eJ tm, [], n, fa ops.length []) := by kernel_rfl) : AW c S (.seq (.region id ops.toArray false) y) Q := QZ hT tm [] [] n [] hQ e
theorem aA {c : Fx} {S : St} {Q : Exit → St → Prop} {tt : TT} (hT : bH c.P tt) {id : Nat} {ops : List Oper} {y : Code} (tm : List (Nat × AV)) (n : Nat) (xs : List HP) (hQ : AW c (gN S (eI ops) tm [] [] n) y Q) (e : mH c.nt ops (dn tm) [] [] (ir c.P tt ops ops (xs.map HP.hi) S) = some (true, eJ tm, [], n, fa ops.length xs) := by kernel_rfl) : AW c S (.seq (.region id ops.toArray false) y) Q := QZ hT tm [] [] n xs hQ e
theorem ba {c : Fx} {S : St} {Q : Exit → St → Prop} {tt : TT} (hT : bH c.P tt) {id : Nat} {ops : List Oper} (tm : List (Nat × AV)) (n : Nat) (hQ : Q .normal (gN S (eI ops) tm [] [] n)) (e : mH c.nt ops (dn tm) [] [] (ir c.P tt ops ops ([]) S) = some (true, eJ tm, [], n, fa ops.length []) := by kernel_rfl) : AW c S (.region id ops.toArray false) Q := QY hT tm [] [] n [] hQ e
theorem ax {c : Fx} {S : St} {Q : Exit → St → Prop} {tt : TT} (hT : bH c.P tt) {id : Nat} {ops : List Oper} (tm : List (Nat × AV)) (n : Nat) (xs : List HP) (hQ : Q .normal (gN S (eI ops) tm [] [] n)) (e : mH c.nt ops (dn tm) [] [] (ir c.P tt ops ops (xs.map HP.hi) S) = some (true, eJ tm, [], n, fa ops.length xs) := by kernel_rfl) : AW c S (.region id ops.toArray false) Q := QY hT tm [] [] n xs hQ e
def AP : List Oper → List Nat → List Nat
 | [], acc => acc
 | o :: l, acc => AP l (acc ++ [kh acc o.after.toList])
def p9 : Nat → List (List Nat) → List (List Nat)
 | 0, _ => []
 | n + 1, [] => [] :: p9 n []
 | n + 1, x :: l => x :: p9 n l
def Ca (nt : Nat) (ops : List Oper) (ts ids : List Nat) : Option (St × List Prop) → Option HI
 | some (S1, ps) => some (fK ops nt, ts.map (look S1.tm), ids.map (look S1.h), S1.n, ps)
 | none => none
theorem J2 {P : Program} {tt : TT} {ops : List Oper} {masks : List Nat} {wk : List (List Nat)} {xs : List Hi} {S S1 : St} {ps : List Prop} (e : mh P tt ops masks wk xs S = some (S1, ps)) :
  (∀ t, db (eI ops) t = false → look S1.tm t = look S.tm t) ∧ ∀ id, db wk.flatten id = false → look S1.h id = look S.h id := by
 unfold mh at e
 split at e
 ·split at e
  ·rename_i l n hl
   simp only [Ri, Rr] at e
   obtain ⟨rfl, rfl⟩ := e
   obtain ⟨_, _, glen, g⟩ := zc ops 0 xs [] S.n l n rfl hl
   have hget : ∀ m o r, l[m]? = some (o, r) → o ∈ ops ∧ ∀ id, eH (dD r) id = true → id ∈ wk.getD m [] := fun m o r hm => by
    have hlt : m < ops.length := by
     have := (List.getElem?_eq_some_iff.1 hm).1
     omega
    obtain ⟨r', k1, _, k3⟩ := g m ops[m] (Rf hlt)
    rw [R9, hm] at k1
    injection k1 with k1
    injection k1 with k1 k2
    subst k1; subst k2
    exact ⟨Sb hlt, fun id hid => by have := k3 id hid; rwa [R9] at this⟩
   refine ⟨fun t ht => ?_, fun id hid => ?_⟩
   ·simp only [wQ]
    rw [pg (F := fun _ => false) l 0 (look S.tm) (look S.tm) rfl (fun m o e hm hd => by
     have := Nj (hget m o e hm).1 hd
     rw [ht] at this; cases this), AN (fun _ => rfl)]
   ·simp only [wR]
    rw [pi (F := fun _ => false) l 0 (look S.h) (look S.h) rfl (fun m o e hm hk => by
     have h1 := (hget m o e hm).2 id hk
     have : db wk.flatten id = true := Ar (List.mem_flatten.2 (by
      rcases Sd m wk.length with h' | h'
      ·refine ⟨wk[m], Sb h', ?_⟩
       rw [Re, Rf h'] at h1; exact h1
      ·rw [Re, Rh h'] at h1; simp at h1))
     rw [hid] at this; cases this), AO (fun _ => rfl)]
  ·cases e
 ·cases e
theorem Q0 {c : Fx} {S : St} {Q : Exit → St → Prop} {tt : TT} (hT : bH c.P tt) (hm : c.P.follows .mixedOrders = true) {id : Nat} {ops : List Oper} (wk : List (List Nat)) (tm : List (Nat × AV)) (h : List (Nat × aQ)) (n : Nat) (xs : List HP)
  (hQ : Q .normal (gN S (eI ops) tm (p9 ops.length wk).flatten h n)) (e : Ca c.nt ops (dn tm) (dn h) (mh c.P tt ops (AP ops []) (p9 ops.length wk) (xs.map HP.hi) S) = some (true, eJ tm, eJ h, n, fa ops.length xs) := by kernel_rfl) : AW c S (.region id ops.toArray true) Q := by
 unfold Ca at e
 split at e
 ·rename_i S1 ps hr
  simp only [Ri, Rr] at e
  obtain ⟨e1, e3, e4, e5, e6⟩ := e
  obtain ⟨r2, r3⟩ := J2 hr
  subst e6; subst e5
  exact AW.post (AW.regionD hT hm e1 hr (pt _ _) ⟨_, GB e3 e4 r2 r3, hQ⟩)
 ·cases e
theorem Q1 {c : Fx} {S : St} {Q : Exit → St → Prop} {tt : TT} (hT : bH c.P tt) (hm : c.P.follows .mixedOrders = true) {id : Nat} {ops : List Oper} {y : Code} (wk : List (List Nat)) (tm : List (Nat × AV)) (h : List (Nat × aQ)) (n : Nat) (xs : List HP)
    (hQ : AW c (gN S (eI ops) tm (p9 ops.length wk).flatten h n) y Q) (e : Ca c.nt ops (dn tm) (dn h) (mh c.P tt ops (AP ops []) (p9 ops.length wk) (xs.map HP.hi) S) = some (true, eJ tm, eJ h, n, fa ops.length xs) := by kernel_rfl) : AW c S (.seq (.region id ops.toArray true) y) Q := AW.seq (Q0 hT hm wk tm h n xs hQ e)
theorem aJ {α : Type} {p q : Prop} [Decidable p] [Decidable q] {x : Option α} {r : α} (h : (if p then (if q then x else none) else none) = some r) : p ∧ q ∧ x = some r := by
 obtain ⟨h1, h⟩ := aY h
 obtain ⟨h2, h⟩ := aY h
 exact ⟨h1, h2, h⟩
theorem aI {α : Type} {b : Bool} {x y : Option α} {r : α} (h : (if b = true then x else y) = some r) : (b = true ∧ x = some r) ∨ (b = false ∧ y = some r) := by
 cases b with
 | true => exact .inl ⟨rfl, h⟩
 | false => exact .inr ⟨rfl, h⟩
theorem Q2 {c : Fx} {S : St} {Q : Exit → St → Prop} {α : Type} {b : Bool} {x y : Option α} {r : α} (h : (if b = true then x else y) = some r) {o : Operand} {z w : Code} (h1 : b = true → x = some r → AW c S z Q) (h2 : b = false → y = some r → AW c S w Q) (hx : ev (look S.tm) o = some (.c (.t (.v (.bool b)))) := by kernel_rfl) : AW c S (.cond o z w) Q :=
 AW.cond hx (fun e => by subst e; exact h1 rfl h) (fun e => by subst e; exact h2 rfl h)
theorem cV {c : Fx} {S : St} (tm : List (Nat × AV)) (h : B1 (look S.h) (look S.tm) tm) : Conv c S ⟨tm ++ S.tm, S.h, S.n⟩ := fun ρ a w R =>
 ⟨ρ, ⟨fun t av e => by
   simp only [vG] at e
   split at e
   ·rename_i x hx
    injection e with e
    subst e
    obtain ⟨y, h1, h2⟩ := FN h hx
    exact h2 _ _ _ _ _ _ _ _ R _ (R.tmp t y h1)
   ·exact R.tmp t av e, R.heap, R.hX, R.inj, R.used, R.upd, R.ext0, R.size, R.defers⟩⟩
theorem ai {c : Fx} {S S' : St} (m : List (Nat × Nat)) (e : (gD m (dn S'.tm) S'.n S, de (m.map (·.2)) && de (m.map (·.1)) && jf S'.n m && gz c.k S'.n m) = (some S', true) := by kernel_rfl) : Conv c S S' := by
 simp only [Rr] at e
 exact wz m _ e.1 e.2
theorem bU.len {h : Hp} {id sz off n m : Nat} (e : n = m) : bU h (.c (.ref id sz off n)) (.c (.ref id sz off m)) := by subst e; exact bU.refl _ _
theorem eN {c : Fx} {S : St} (id : Nat) (ty : TypeId) (fro : Bool) (sz n m : Nat) (f : Nat → Nat → T) (hid : look S.h id = some (.row ty fro sz n f)) (hn : n = m) : Conv c S ⟨S.tm, (id, .row ty fro sz m f) :: S.h, S.n⟩ := FO hid (.inl rfl) hn ig
theorem qf {c : Fx} {S : St} (id : Nat) (ty : TypeId) (sz n : Nat) (f : Nat → Nat → T) (hid : look S.h id = some (.row ty false sz n f)) : Conv c S ⟨S.tm, (id, .row ty true sz n f) :: S.h, S.n⟩ := FO hid (.inr rfl) rfl ig
theorem jl {ι : Type} {c : Fx} {st : ι → St} {k : ι → Prop} {Q : Exit → St → Prop} {S : St} (i : ι) (h : k i) (hc : Conv c S (st i) := by exact ai []) : xk c st k Q .normal S := ⟨i, h, hc⟩
theorem bh {σ τ : Type} {c : Fx} {st : σ → St} {out : τ → Exit × St} {s : σ} {o : σ ⊕ τ} {S : St} (h : some (Sum.inl s) = some o) (hc : Conv c S (st s)) : tQ c st out o .normal S := by
 obtain rfl := ay h
 exact ⟨rfl, hc⟩
theorem aX {σ τ : Type} {c : Fx} {st : σ → St} {out : τ → Exit × St} {t : τ} {o : σ ⊕ τ} {e : Exit} {S : St} (h : some (Sum.inr t) = some o) (he : e = (out t).1) (hc : Conv c S (out t).2) : tQ c st out o e S := by
 obtain rfl := ay h
 exact ⟨he, hc⟩
theorem Q3 {c : Fx} {S : St} {Q : Exit → St → Prop} {σ τ : Type} {step : σ → Option (σ ⊕ τ)} {s0 : σ} {t : τ} {body : Code} (hl : Vm.loop step s0 = some t) (st : σ → St) (out : τ → Exit × St) (hc : Conv c S (st s0)) (hne : ∀ t, vY (out t).1)
    (hbody : ∀ s o, step s = some o → AW c (st s) body (tQ c st out o)) (hA : Q (out t).1 (out t).2) : AW c S (.loop body) Q := AW.pre hc (QV st out hl hne hbody hA)
theorem Q4 {c : Fx} {S : St} {Q : Exit → St → Prop} {σ A B γ : Type} {step : σ → Option (σ ⊕ (A ⊕ B))} {s0 : σ} {f : A → Option γ} {g : B → Option γ} {r : γ} {body : Code} (h : cD (Vm.loop step s0) f g = some r) (st : σ → St) (o1 : A → Exit × St) (o2 : B → Exit × St) (hc : Conv c S (st s0)) (n1 : ∀ t, vY (o1 t).1) (n2 : ∀ t, vY (o2 t).1)
  (hbody : ∀ s o, step s = some o → AW c (st s) body (tQ c st (fun t => match t with | .inl t => o1 t | .inr t => o2 t) o)) (hA : ∀ a, f a = some r → Q (o1 a).1 (o1 a).2) (hB : ∀ b, g b = some r → Q (o2 b).1 (o2 b).2) : AW c S (.loop body) Q := by
 rcases Lf h with ⟨t, hl, h⟩ | ⟨t, hl, h⟩
 ·exact Q3 hl st (fun t => match t with | .inl t => o1 t | .inr t => o2 t) hc (fun t => by cases t with | inl t => exact n1 t | inr t => exact n2 t) hbody (hA t h)
 ·exact Q3 hl st (fun t => match t with | .inl t => o1 t | .inr t => o2 t) hc (fun t => by cases t with | inl t => exact n1 t | inr t => exact n2 t) hbody (hB t h)
def pS {α : Type} : List α → List Prop
 | [] => []
 | _ :: l => True :: pS l
theorem FU {α : Type} : ∀ l : List α, fp (pS l)
 | [] => trivial
 | _ :: l => ⟨trivial, FU l⟩
theorem b6 {c : Fx} {S S1 : St} {tt : TT} {rs : List ResultVar} {k : Nat} {out : AV} {outb : List (Nat × aQ)} {e : Exit} (he : e = .normal ∨ e = .ret) (m : List (Nat × Nat)) (n : Nat) (out0 : AV) (hc : Conv c S S1)
  (q : (kz tt S1 rs, gD m [0] n ⟨[(0, out0)], S1.h, S1.n⟩, de (m.map (·.2)) && de (m.map (·.1)) && jf n m && gz k n m) = (some (out0, pS rs), some ⟨[(0, out)], outb, n⟩, true) := by kernel_rfl) : ∃ S2, Conv c S S2 ∧ (e = .normal ∨ e = .ret) ∧ gE tt rs k S2 out outb := by
 simp only [Rr] at q
 exact ⟨S1, hc, he, gE.mk m n q.1 (FU _) q.2.1 q.2.2⟩
theorem be {c : Fx} {S : St} {tt : TT} {rs : List ResultVar} {k : Nat} {out : AV} {outb : List (Nat × aQ)} {e : Exit} (he : e = .normal ∨ e = .ret) (m : List (Nat × Nat)) (n : Nat) (out0 : AV)
    (q : (kz tt S rs, gD m [0] n ⟨[(0, out0)], S.h, S.n⟩, de (m.map (·.2)) && de (m.map (·.1)) && jf n m && gz k n m) = (some (out0, pS rs), some ⟨[(0, out)], outb, n⟩, true) := by kernel_rfl) : ∃ S2, Conv c S S2 ∧ (e = .normal ∨ e = .ret) ∧ gE tt rs k S2 out outb := b6 he m n out0 (Conv.refl _ _) q
theorem Qb {β : Type} {a r : β} (h : some a = some r) {c : Fx} {S : St} {tt : TT} {rs : List ResultVar} {k : Nat} {out : β → AV} {outb : List (Nat × aQ)} (m : List (Nat × Nat)) (n : Nat) (out0 : AV)
  (q : (kz tt S rs, gD m [0] n ⟨[(0, out0)], S.h, S.n⟩, de (m.map (·.2)) && de (m.map (·.1)) && jf n m && gz k n m) = (some (out0, pS rs), some ⟨[(0, out a)], outb, n⟩, true) := by kernel_rfl) : ∃ S2, Conv c S S2 ∧ ((.ret : Exit) = .normal ∨ (.ret : Exit) = .ret) ∧ gE tt rs k S2 (out r) outb := by
 obtain rfl := ay h
 exact be (.inr rfl) m n out0 q
theorem au {β : Type} {a r : β} (h : some a = some r) {c : Fx} {S : St} {tt : TT} {rs : List ResultVar} {k : Nat} {out : β → AV} {outb : List (Nat × aQ)} (out0 : AV)
    (q : (kz tt S rs, gD [] [0] 0 ⟨[(0, out0)], S.h, S.n⟩, gz k 0 []) = (some (out0, pS rs), some ⟨[(0, out a)], outb, 0⟩, true) := by kernel_rfl) : ∃ S2, Conv c S S2 ∧ ((.ret : Exit) = .normal ∨ (.ret : Exit) = .ret) ∧ gE tt rs k S2 (out r) outb := Qb h [] 0 out0 q
abbrev SB (n : Int) : Int := IntKind.i64.wrap n
theorem az {n : Int} (h0 : -9223372036854775808 ≤ n := by omega) (h1 : n < 9223372036854775808 := by omega) : SB n = n := by
 show IntKind.i64.wrap n = _
 simp only [IntKind.wrap, IntKind.bits, IntKind.signed]
 simp
 omega
theorem Oo (n : Int) : SB n = (n + 9223372036854775808) % 18446744073709551616 - 9223372036854775808 := by
 show IntKind.i64.wrap n = _
 simp only [IntKind.wrap, IntKind.bits, IntKind.signed]
 simp
 omega
theorem gw (n : Int) : IntKind.u64.wrap n = n % 18446744073709551616 := by
 simp [IntKind.wrap, IntKind.bits, IntKind.signed]
theorem cJ {n : Int} (h0 : 0 ≤ n) (h1 : n < 18446744073709551616) : IntKind.u64.wrap n = n := by
 rw [gw]; omega
theorem tB (n : Int) : 0 ≤ IntKind.u64.wrap n := by rw [gw]; omega
theorem tC (n : Int) : IntKind.u64.wrap n < 18446744073709551616 := by rw [gw]; omega
theorem dJ {a b : Int} (h : 0 ≤ a) : a.tmod b = a % b := Int.tmod_eq_emod_of_nonneg h
theorem fk {a b : Int} (h : 0 ≤ a) : a.tdiv b = a / b := Int.tdiv_eq_ediv_of_nonneg h
theorem an {α β : Type} (a : α) (f : α → Option β) : (some a).bind f = f a := rfl
theorem aU {α β γ : Type} (a : α) (b : β) (f : α → β → Option γ) : aF (some (a, b)) f = f a b := rfl
theorem cz {α β γ δ : Type} (a : α) (b : β) (c : γ) (f : α → β → γ → Option δ) : ko (some (a, b, c)) f = f a b c := rfl
theorem cx {α β γ δ ε : Type} (a : α) (b : β) (c : γ) (d : δ) (f : α → β → γ → δ → Option ε) : mz (some (a, b, c, d)) f = f a b c d := rfl
theorem aO {α : Type} {c : Prop} [Decidable c] {a b : α} (h : c := by omega) : (if c then a else b) = a := if_pos h
theorem t8 {α : Type} {c : Prop} [Decidable c] {a b : α} (h : ¬c := by omega) : (if c then a else b) = b := if_neg h
theorem bX {α : Type} {c : Prop} [Decidable c] {a b : α} (h : c := by decide) : (if c then a else b) = a := if_pos h
theorem aV {α : Type} {c : Prop} [Decidable c] {a b : α} (h : ¬c := by decide) : (if c then a else b) = b := if_neg h
theorem b8 {α : Type} {c : Prop} [Decidable c] {a b : α} (h : ¬c := by simp) : (if c then a else b) = b := if_neg h
theorem dK {α : Type} {c : Prop} [Decidable c] {a b : α} (h : c := by (simp only [Rq]; omega)) : (if c then a else b) = a := if_pos h
theorem bG {α : Type} {c : Prop} [Decidable c] {a b : α} (h : c := by (simp only [RI]; omega)) : (if c then a else b) = a := if_pos h
theorem ct {α : Type} {c : Prop} [Decidable c] {a b : α} (h : ¬c := by (simp only [RI]; omega)) : (if c then a else b) = b := if_neg h
theorem kb {α β γ : Type} (a : α) (f : α → Option γ) (g : β → Option γ) : cD (some (.inl a)) f g = f a := rfl
theorem kc {α β γ : Type} (b : β) (f : α → Option γ) (g : β → Option γ) : cD (some (.inr b)) f g = g b := rfl
theorem dH {σ τ : Type} {step : σ → Option (σ ⊕ τ)} {s s' : σ} (h : step s = some (.inl s')) : loop step s = loop step s' := by
 rw [wT, h]
theorem dm {σ τ : Type} {step : σ → Option (σ ⊕ τ)} {s : σ} {t : τ} (h : step s = some (.inr t)) : loop step s = some t := by
 rw [wT, h]
theorem dI {σ τ : Type} {step : σ → Option (σ ⊕ τ)} (S : Nat → σ) (n : Nat) (t : τ) (h : ∀ i, i < n → step (S i) = some (.inl (S (i + 1)))) (hn : step (S n) = some (.inr t)) {s : σ} (hs : s = S 0) : loop step s = some t := by
 subst hs
 have H : ∀ k, k ≤ n → loop step (S (n - k)) = some t := by
  intro k
  induction k with
  | zero => intro _; exact dm hn
  | succ k ih =>
   intro hk
   rw [dH (h (n - (k + 1)) (by omega)), show n - (k + 1) + 1 = n - k by omega]
   exact ih (by omega)
 have := H n (RR n)
 rwa [Nat.sub_self] at this
theorem cC {σ τ : Type} {step : σ → Option (σ ⊕ τ)} (n : Nat) (I : Nat → σ → Prop) (R : τ → Prop) (h : ∀ i, i < n → ∀ s, I i s → (∃ s', step s = some (.inl s') ∧ I (i + 1) s') ∨ ∃ t, step s = some (.inr t) ∧ R t) (hn : ∀ s, I n s → ∃ t, step s = some (.inr t) ∧ R t) {s : σ} (hs : I 0 s) : ∃ t, loop step s = some t ∧ R t := by
 have H : ∀ k, k ≤ n → ∀ s, I (n - k) s → ∃ t, loop step s = some t ∧ R t := by
  intro k
  induction k with
  | zero =>
   intro _ s hs
   obtain ⟨t, h1, h2⟩ := hn s hs
   exact ⟨t, dm h1, h2⟩
  | succ k ih =>
   intro hk s hs
   rcases h (n - (k + 1)) (by omega) s hs with ⟨s', h1, h2⟩ | ⟨t, h1, h2⟩
   ·rw [show n - (k + 1) + 1 = n - k by omega] at h2
    obtain ⟨t, h3, h4⟩ := ih (by omega) s' h2
    exact ⟨t, by rw [dH h1]; exact h3, h4⟩
   ·exact ⟨t, dm h1, h2⟩
 have := H n (RR n)
 rw [Nat.sub_self] at this
 exact this s hs
end
end Vm
end Go.Proofs.YtfmhbcfklokmaaaGreatDoor
namespace Go.Proofs.YtfmhbcfklokmaaaGreatDoor
namespace Vm
open Go.ChangeShapes Go.WideShapes Go.ChangeAt Go.RowKit
open Go.ChangeMaps (open_string shut_string)
theorem Lg {w : World} {a : Addr} {v : Value} (h : w.cell? a = some v) : a.block < w.heap.size := by
 rcases Sd a.block w.heap.size with h1 | h1
 ·exact h1
 ·simp [World.cell?, Array.getElem?_eq_none h1] at h
theorem Ke {w : World} {x : Addr} {v : Value} (h : w.cell? x = some v) : x.spot = none := by
 unfold World.cell? at h
 split at h
 ·split at h
  ·cases h
  ·rename_i hs; cases hx : x.spot with
   | none => rfl
   | some _ => rw [hx] at hs; simp at hs
 ·cases h
theorem Pj {k : IntKind} {x : Int} (h : (Lit.int k x).wf = true) : k.min ≤ x ∧ x ≤ k.max := by simpa [Lit.wf] using h
theorem FW {α β : Type} {f : α → Option β} : ∀ {l : List α} {ys : List β}, l.mapM f = some ys → ys.length = l.length ∧ ∀ i (h : i < l.length), f l[i] = ys[i]? := by
 intro l
 induction l with
 | nil => intro ys h; simp at h; subst h; simp
 | cons a l ih =>
  intro ys h
  rw [List.mapM_cons] at h
  simp only [Option.bind_eq_bind, Option.bind_eq_some_iff] at h
  obtain ⟨y, h1, zs, h2, h3⟩ := h
  cases h3
  obtain ⟨k1, k2⟩ := ih h2
  refine ⟨by simp [k1], fun i hi => ?_⟩
  cases i with
  | zero => simpa using h1
  | succ i => simpa using k2 i (by simpa using hi)
theorem KG {α : Type} (p : Nat → α → Prop) (n : Nat) (h : ∀ i, i < n → ∃ x, p i x) : ∃ xs : List α, xs.length = n ∧ ∀ i x, xs[i]? = some x → p i x := by
 induction n with
 | zero => exact ⟨[], rfl, fun i x h => by simp at h⟩
 | succ n ih =>
  obtain ⟨xs, h1, h2⟩ := ih fun i hi => h i (by omega)
  obtain ⟨y, hy⟩ := h n (by omega)
  refine ⟨xs ++ [y], by simp [h1], fun i x hx => ?_⟩
  by_cases hi : i < n
  ·exact h2 i x (by rwa [RA (by omega)] at hx)
  ·rw [RD (by omega)] at hx
   have : i = n := by
    have := (List.getElem?_eq_some_iff.1 hx).1
    simp at this; omega
   subst this
   rw [h1, Nat.sub_self] at hx
   simp at hx; subst hx; exact hy
section
variable {P : Program} {W : World} {t e : TypeId}
def gO (P : Program) (W : World) (t : TypeId) {α : Type} (E : α → List T) (ok : α → Prop) : Prop :=
 ∀ (H : Type) (enc : TypeId × Value → H) (sp : Nat → Bool) (fuel : Nat) (cs : List Value) (d : DataW H) (p : List MemPlace), DataW.trod enc P W 0 sp true fuel t cs = some (d, p) → ∃ x, ok x ∧ aG (RT W fun b => b < W.heap.size) (E x) cs
theorem gO.map {α β : Type} {E : α → List T} {ok : α → Prop} {E' : β → List T} {ok' : β → Prop} (h : gO P W t E ok) (f : α → β) (hE : ∀ x, E' (f x) = E x) (hk : ∀ x, ok x → ok' (f x)) : gO P W t E' ok' := by
 intro H enc sp fuel cs d p h1
 obtain ⟨x, a, b⟩ := h H enc sp fuel cs d p h1
 exact ⟨f x, hk x a, by rw [hE]; exact b⟩
theorem Nk {k : IntKind} (ht : P.underlying t = some (.int k)) : gO P W t (fun x : Int => [.v (.int k x)]) (fun x => k.min ≤ x ∧ x ≤ k.max) := by
 intro H enc sp fuel cs d p h
 cases fuel with
 | zero => cases h
 | succ fuel =>
  unfold DataW.trod at h
  rw [ht] at h
  split at h <;> rename_i h1 <;> try (first | (cases h; done) | (injection h1 with h1; cases h1; done))
  injection h1 with h1
  injection h1 with h1
  subst h1
  split at h
  ·rename_i h2
   obtain ⟨rfl, h2⟩ := h2
   exact ⟨_, Pj h2, ⟨rfl, rfl⟩, trivial⟩
  ·cases h
theorem FY {a : Addr} {n : Nat} {cs : List Value} (h : W.cells? 0 a n = some cs) : cs.length = n ∧ ∀ j, j < n → W.cell? (a.add j) = cs[j]? := by
 unfold World.cells? at h
 rw [if_pos (Nat.zero_le _)] at h
 obtain ⟨h1, h2⟩ := FW h
 rw [Sc] at h1
 refine ⟨h1, fun j hj => ?_⟩
 have := h2 j (by rw [Sc]; exact hj)
 rwa [List.getElem_range] at this
theorem Lh {α : Type} {E : α → List T} {ok : α → Prop} {sz : Nat} (dflt : α) (ht : P.underlying t = some (.slice e)) (hc : P.cellsOf e = sz) (he : gO P W e E ok) : gO P W t (fun xs : List α => [.tree xs.length sz (bJ dflt E xs)]) (fun xs => (∀ x ∈ xs, ok x) ∧ xs.length ≤ maxLen) := by
 intro H enc sp fuel cs d p h
 cases fuel with
 | zero => cases h
 | succ fuel =>
  unfold DataW.trod at h
  rw [ht] at h
  split at h <;> rename_i h1 <;> try (first | (cases h; done) | (injection h1 with h1; cases h1; done))
  ·exact ⟨[], ⟨fun x hx => absurd hx (RE), Nat.zero_le _⟩, ⟨_, _, rfl, Nat.zero_le _, fun i hi => absurd hi (RU _)⟩, trivial⟩
  ·rename_i a len cap
   injection h1 with h1
   injection h1 with h1
   subst h1
   simp only at h
   split at h
   ·rename_i h2
    obtain ⟨_, h2, h3⟩ := h2
    rw [Option.bind_eq_some_iff] at h
    obtain ⟨ys, h4, _⟩ := h
    obtain ⟨h5, h6⟩ := FW h4
    rw [Sc] at h5
    obtain ⟨xs, x1, x2⟩ := KG (fun i x => ok x ∧ ∃ cs, W.cells? 0 (a.add (i * sz)) sz = some cs ∧ aG (RT W fun b => b < W.heap.size) (E x) cs) len (fun i hi => by
     have h7 := h6 i (by rw [Sc]; exact hi)
     rw [List.getElem_range, Rf (by omega), Option.bind_eq_some_iff] at h7
     obtain ⟨c, c1, c2⟩ := h7
     obtain ⟨x, k1, k2⟩ := he H enc sp fuel c _ _ c2
     rw [hc] at c1
     exact ⟨x, k1, c, c1, k2⟩)
    refine ⟨xs, ⟨fun x hx => ?_, by omega⟩, ⟨_, _, by rw [x1], by omega, fun i hi j hj => ?_⟩, trivial⟩
    ·obtain ⟨i, hi⟩ := List.getElem?_of_mem hx
     exact (x2 i x hi).1
    ·have hx : xs[i]? = some xs[i] := Rf hi
     obtain ⟨_, c, c1, c2⟩ := x2 i _ hx
     obtain ⟨c3, c4⟩ := FY c1
     have c5 := c4 j hj
     rw [Rf (by omega)] at c5
     have hsp : a.spot = none := by
      obtain ⟨_, c', c1', _⟩ := x2 0 _ (Rf (by omega))
      obtain ⟨c3', c4'⟩ := FY c1'
      have c5' := c4' 0 (by omega)
      rw [Rf (by omega), Nat.zero_mul] at c5'
      have := Ke c5'
      simpa [Addr.add] using this
     have hE : j < (E xs[i]).length := by rw [c2.length]; omega
     obtain ⟨y, y1, y2⟩ := c2.get (Rf hE)
     rw [Rf (by omega)] at y1
     injection y1 with y1
     have ha : (a.add (i * sz)).add j = ⟨a.block, a.off + i * sz + j, none⟩ := by
      obtain ⟨ab, ao, asp⟩ := a
      simp only at hsp
      subst hsp
      simp only [Addr.add]
      split <;> split <;> simp_all
     rw [ha] at c5
     refine ⟨a.block, a.off, y, by obtain ⟨ab, ao, asp⟩ := a; simp only at hsp; subst hsp; rfl, Lg (a := ⟨a.block, a.off + i * sz + j, none⟩) c5, by rw [c5, y1], ?_⟩
     have : bJ dflt E xs i j = (E xs[i])[j] := by
      unfold bJ
      have hg : xs.getD i dflt = xs[i] := by rw [Re, hx, Option.getD_some]
      rw [hg, Re, Rf hE, Option.getD_some]
     rw [this]; exact y2
   ·cases h
variable {H : Type} {enc : TypeId × Value → H} {base : Nat} {sp : Nat → Bool} {v : Value} {d : DataW H} {p : List MemPlace}
theorem gO.one {α : Type} {c : α → T} {ok : α → Prop} (h : gO P W t (fun x => [c x]) ok) (h1 : DataW.Trod enc P W 0 sp true t v d p) (hv : ∃ y, v.cells.toList = [y] ∧ v = y) : ∃ x, ok x ∧ RV W (fun b => b < W.heap.size) (fun _ => none) (.c (.t (c x))) v := by
 obtain ⟨fuel, h1⟩ := h1
 obtain ⟨x, a, b⟩ := h H enc sp fuel _ _ _ h1
 obtain ⟨y, e, rfl⟩ := hv
 rw [e] at b
 exact ⟨x, a, b.1⟩
theorem Q5 {w : World} {okb : Nat → Prop} {ρ : Ren} : ∀ {l : List T} {k : List Value}, aG (RT w okb) l k → aG (RC w okb ρ) (l.map C.t) k
 | [], [], _ => trivial
 | _ :: _, _ :: _, ⟨a, b⟩ => ⟨a, Q5 b⟩
 | [], _ :: _, x => x.elim
 | _ :: _, [], x => x.elim
theorem gO.agg {α : Type} {E : α → List T} {ok : α → Prop} (h : gO P W t E ok) (h1 : DataW.Trod enc P W 0 sp true t v d p) (hv : ∃ cs, v = .agg cs) : ∃ x, ok x ∧ RV W (fun b => b < W.heap.size) (fun _ => none) (.agg ((E x).map C.t)) v := by
 obtain ⟨fuel, h1⟩ := h1
 obtain ⟨x, a, b⟩ := h H enc sp fuel _ _ _ h1
 obtain ⟨cs, rfl⟩ := hv
 exact ⟨x, a, cs, rfl, Q5 b⟩
theorem Ma (ht : P.underlying t = some (.slice e)) (hv : Value.okWide P W .any base t v) : ∃ y, v.cells.toList = [y] ∧ v = y := by
 obtain ⟨a, b, c, rfl⟩ := okWide_slice ht hv; exact ⟨_, rfl, rfl⟩
end
end Vm
end Go.Proofs.YtfmhbcfklokmaaaGreatDoor
namespace Go.Proofs.YtfmhbcfklokmaaaGreatDoor
namespace Vm
def B8 (l : List Int) : Prop := ∀ x ∈ l, 0 ≤ x ∧ x < 256
theorem B8.nil : B8 [] := fun _ hx => absurd hx (RE)
theorem B8.cons {x : Int} {l : List Int} (h : 0 ≤ x ∧ x < 256) (hl : B8 l) : B8 (x :: l) := by
 intro y hy
 rcases Ry.1 hy with rfl | hy
 ·exact h
 ·exact hl y hy
theorem B8.append {l k : List Int} (h : B8 l) (h' : B8 k) : B8 (l ++ k) := by
 intro x hx
 rcases Rz.1 hx with hx | hx
 ·exact h x hx
 ·exact h' x hx
theorem B8.get {l : List Int} (h : B8 l) {i : Nat} (hi : i < l.length) : 0 ≤ l.getD i 0 ∧ l.getD i 0 < 256 := by
 rw [Re, Rf hi]
 exact h _ (Sb hi)
theorem B8.take {l : List Int} (h : B8 l) (n : Nat) : B8 (l.take n) := fun x hx => h x (List.mem_of_mem_take hx)
theorem B8.drop {l : List Int} (h : B8 l) (n : Nat) : B8 (l.drop n) := fun x hx => h x (List.mem_of_mem_drop hx)
theorem Mb (s : ByteArray) : B8 (dh s) := by
 intro x hx
 obtain ⟨b, _, rfl⟩ := R6.1 hx
 have := b.toNat_lt
 omega
theorem Eu (xs : List Int) : (strOf xs).data.toList = xs.map fun x => UInt8.ofNat x.toNat := by
 unfold strOf pq
 simp only
 apply List.ext_getElem?
 intro i
 by_cases hi : i < xs.length
 ·rw [ka _ _ _ _ hi, RO, Rf hi, R9, Re, Rf hi]
  rfl
 ·rw [Rh (by rw [gY]; omega), Rh (by simp; omega)]
theorem Kf {xs : List Int} (h : B8 xs) : dh (strOf xs) = xs := by
 unfold dh
 rw [Eu, List.map_map]
 conv => rhs; rw [← List.map_id xs]
 apply List.map_congr_left
 intro x hx
 have := h x hx
 simp only [Function.comp, id, UInt8.toNat_ofNat']
 omega
theorem Li (xs : List Int) : (strOf xs).size = xs.length := by
 have h : (strOf xs).size = (strOf xs).data.toList.length := by rw [Array.length_toList]; rfl
 rw [h, Eu]
 simp
theorem zt {s t : ByteArray} : dh s = dh t ↔ s = t := by
 constructor
 ·intro h
  unfold dh at h
  have : s.data.toList = t.data.toList := by
   apply List.map_inj_right (f := fun b : UInt8 => (b.toNat : Int)) (by intro a b hab; exact UInt8.toNat_inj.1 (Int.ofNat.inj hab)) |>.1 h
  cases s; cases t
  simp only at this
  rw [Array.toList_inj.1 this]
 ·rintro rfl; rfl
theorem Kg (s : ByteArray) : strOf (dh s) = s := zt.1 (Kf (Mb s))
theorem ki (s t : ByteArray) : (s.toList == t.toList) = decide (s = t) := by
 rw [Go.ByteArray.toList_eq, Go.ByteArray.toList_eq]
 by_cases h : s = t
 ·subst h; simp
 ·rw [RJ h]
  apply Bool.eq_false_iff.2
  intro h'
  apply h
  have := eq_of_beq h'
  cases s; cases t
  simp only at this
  rw [Array.toList_inj.1 this]
theorem J3 (s t : ByteArray) : dh (s ++ t) = dh s ++ dh t := by
 unfold dh
 rw [ByteArray.data_append, Array.toList_append, Sm]
theorem JJ (s : ByteArray) (i j : Nat) : dh (s.extract i j) = ((dh s).drop i).take (j - i) := by
 unfold dh
 rw [ByteArray.data_extract, Array.toList_extract, List.extract_eq_take_drop, List.map_take, List.map_drop]
end Vm
end Go.Proofs.YtfmhbcfklokmaaaGreatDoor
namespace Go.Proofs.YtfmhbcfklokmaaaGreatDoor
open Go.RowKit
namespace Vm
theorem yV {P : Program} {f : FuncId} {args : List AV} {out : AV} {n : Nat} (he : kg P f)
  (H : ∀ (w : World) (ok : Nat → Prop) (vs : Array Value), (∀ b, ok b → b < w.heap.size) → aG (RV w ok fun _ => none) args vs.toList → CallsIn Fence.wide n P f vs w fun e w' => ∃ v, e = .returned v ∧ Below w.heap.size w w' ∧ ∀ ok' ρ', RV w' ok' ρ' out v) : d7 P f args [] out [] := by
 refine ⟨he, fun w ok ρ vs hok hdom _ hinj ha => ?_⟩
 obtain rfl : ρ = fun _ => none := by
  funext id
  cases e : ρ id with
  | none => rfl
  | some l => obtain ⟨b, hb⟩ := hdom id (by rw [e]; exact fun h => by cases h); cases hb
 refine Calls.mono (callsIn_wide.1 (H w ok vs hok ha)) ?_
 rintro e w' ⟨v, rfl, hB, hv⟩
 exact ⟨v, _, rfl, QJ _, ⟨hB.os, hB.tape, hB.output, hB.size, fun b hb _ => hB.block b hb⟩, hv _ _, (fun id blk h => by cases h), fun i j b c c' x y hx => by cases hx⟩
end Vm
end Go.Proofs.YtfmhbcfklokmaaaGreatDoor
namespace Go.Proofs.YtfmhbcfklokmaaaGreatDoor
namespace Vm
theorem B3 {P : Program} {w : World} {ok : Nat → Prop} {ρ : Ren} {nt : Nat} {S : St} {a : Act} (hok : ∀ b, ok b → b < w.heap.size) (hdom : ∀ id, ρ id ≠ none → id < S.n)
  (htm : ∀ t av, look S.tm t = some av → RV w ok ρ av (a.tmps.getD t undef)) (hh : ∀ id blk, look S.h id = some blk → ∃ l, ρ id = some l ∧ RB w ok ρ blk l ∧ ∀ b cap, l = .aT b cap → b < w.heap.size ∧ ¬ ok b)
  (hinj : ∀ i j b c c', ρ i = some (.aT b c) → ρ j = some (.aT b c') → i = j) (hs : a.tmps.size = nt) (hd : a.defers = []) :
  cr ⟨P, ⟨w, ok, ρ⟩, fun b => ∃ id cap, ρ id = some (.aT b cap), nt⟩ ρ S a w := by
 have hk : ∀ b, ok b → okOf ⟨w, ok, ρ⟩ w ρ (look S.h) b := fun b hb => ⟨hok b hb, .inr (.inl hb), fun id blk cap h1 _ h3 => by
  obtain ⟨l, l1, _, l3⟩ := hh id blk h1
  rw [h3] at l1
  injection l1 with l1
  exact (l3 b cap l1.symm).2 hb⟩
 refine ⟨fun t av ht => RV.mono ⟨hk, fun _ _ => rfl⟩ (QJ _) _ _ (htm t av ht), fun id blk hid => ?_, fun _ h => h, fun i j b c1 c2 _ _ _ _ _ => hinj i j b c1 c2, fun id hid => hdom id hid, cy.refl _ _, QJ _, hs, hd⟩
 obtain ⟨l, l1, l2, l3⟩ := hh id blk hid
 exact ⟨l, l1, RB.mono ⟨hk, fun _ _ => rfl⟩ (QJ _) _ _ (fun _ _ _ => rfl) l2, fun b cap e => ⟨(l3 b cap e).1, .inr ⟨id, cap, by rw [l1, e]⟩⟩⟩
theorem fo {c : Fx} {S Sx : St} {code : Code} {x : Exit} (h : AW c S code fun e S' => e = x ∧ Conv c S' Sx) {ρ : Ren} {a : Act} {w : World} (R : cr c.toCx ρ S a w) {Q : Exit → Act → World → Prop} (k : ∀ ρ' a' w', cr c.toCx ρ' Sx a' w' → Q x a' w') : code.wp c.P Q a w :=
 wp_mono (h ρ a w R) fun e a' w' ⟨S', ⟨he, hc⟩, ρ', R'⟩ => by
  obtain ⟨ρ2, R2⟩ := hc ρ' a' w' R'
  subst he
  exact k ρ2 a' w' R2
def HV (l : fy) (sz n : Nat) (v : Value) : Prop := match l with
 | .nil => n = 0 ∧ ∃ q, v = .slice q 0 0
 | .aT b cap => (∃ c, v = .slice (some ⟨b, 0 * sz, none⟩) n c ∧ n ≤ c ∧ 0 + c ≤ cap) ∨ (n = 0 ∧ ∃ q, v = .slice q 0 0)
theorem HV.of {w : World} {ok : Nat → Prop} {ρ : Ren} {id sz n : Nat} {v : Value} (h : RC w ok ρ (.ref id sz 0 n) v) : ∃ l, ρ id = some l ∧ HV l sz n v := by
 obtain ⟨l, h1, h2⟩ := h
 refine ⟨l, h1, ?_⟩
 cases l with
 | nil => exact ⟨h2.2.1, h2.2.2⟩
 | aT b cap => exact h2
theorem PT {w : World} {ok ok' : Nat → Prop} {ρ ρ' : Ren} {ty : TypeId} {fro : Bool} {sz n : Nat} {f : Nat → Nat → T} {l : fy} (hk : ∀ b, ok b → ok' b) (h : RB w ok ρ (.row ty fro sz n f) l) : RB w ok' ρ' (.row ty fro sz n f) l := by
 cases l with
 | nil => exact h
 | aT b cap =>
  obtain ⟨h0, vs, fz, h1, h2, h3, h4⟩ := h
  exact ⟨h0, vs, fz, h1, h2, h3, fun i hi j hj => let ⟨x, a, r⟩ := h4 i hi j hj; ⟨x, a, RT.mono ⟨hk, fun _ _ => rfl⟩ _ _ r⟩⟩
theorem Nl {vs : Array Value} {n t : Nat} {y : Value} (h : vs[t]? = some y) : (vs ++ Array.replicate n undef).getD t undef = y := by
 have hlt := (Array.getElem?_eq_some_iff.1 h).1
 rw [RZ, Array.getElem?_append_left hlt, h]
 rfl
theorem Ev {c : Cx} {tt : TT} (hT : bH c.P tt) {ops : List Oper} (hds : fK ops c.nt = true) {Q : Exit → Act → World → Prop} : ∀ (l : List Oper) (k m : Nat) (xs : List Hi) (S S' : St) (ps : List Prop) (ρ : Ren) (a : Act) (w : World), (∀ j, j < l.length → l[j]? = ops[k + j]?) → cr c ρ S a w → eV c.P tt ops l xs S = some (S', ps) → fp ps →
  (∀ ρ' a' w', cr c ρ' S' a' w' → wpOps c.P ops.toArray Q (List.range' (k + l.length) m) a' w') → wpOps c.P ops.toArray Q (List.range' k (l.length + m)) a w
 | [], k, m, xs, S, S', ps, ρ, a, w, hl, R, e, hp, hQ => by
  simp only [eV, Ri, Rr] at e
  obtain ⟨rfl, rfl⟩ := e
  simpa using hQ ρ a w R
 | o :: rest, k, m, xs, S, S', ps, ρ, a, w, hl, R, e, hp, hQ => by
  simp only [eV] at e
  split at e
  ·rename_i r hr
   split at e
   ·rename_i S1 ps1 he
    simp only [Ri, Rr] at e
    obtain ⟨rfl, rfl⟩ := e
    obtain ⟨p1, p2⟩ := hp
    rw [show (o :: rest).length + m = (rest.length + m) + 1 by simp; omega, List.range'_succ, wpOps_cons]
    have ho : ops[k]? = some o := by have := hl 0 (by simp); simpa using this.symm
    refine Ao (used' := fun id => id < S.n + (xs.headD {}).cnt) R hT (AM hds) ho (fun id h1 h2 => by omega) (fun id h => by omega) (fun id h1 h2 => by omega) hr p1 fun ρ' a' w' R' => ?_
    refine Ev hT hds rest (k + 1) m xs.tail _ S1 ps1 ρ' a' w' (fun j hj => ?_) ?_ he p2 fun ρ2 a2 w2 R2 => ?_
    ·have := hl (j + 1) (by simp; omega); simp only [List.getElem?_cons_succ] at this; rw [this]; congr 1; omega
    ·unfold cr; rw [vN, oR]; exact R'
    ·have := hQ ρ2 a2 w2 R2
     rwa [show k + (o :: rest).length = k + 1 + rest.length by simp; omega] at this
   ·cases e
  ·cases e
def pT (m : List (Nat × Nat)) (ks : List Nat) (n : Nat) : Option (St × List Prop) → Option (Option St × List Prop)
 | some (S1, ps) => some (gD m ks n S1, ps)
 | none => none
theorem Ew {m : List (Nat × Nat)} {ks : List Nat} {n : Nat} {q : Option (St × List Prop)} {Sx : St} {ps : List Prop} (e : pT m ks n q = some (some Sx, ps)) : ∃ S1, q = some (S1, ps) ∧ gD m ks n S1 = some Sx := by
 cases q with
 | none => cases e
 | some p =>
  obtain ⟨S1, qs⟩ := p
  simp only [pT, Ri, Rr] at e
  exact ⟨S1, by rw [e.2], e.1⟩
theorem Lj {c : Fx} {tt : TT} (hT : bH c.P tt) {id : Nat} {ops : List Oper} (n1 n2 : Nat) {Q : Exit → Act → World → Prop} {S Sx : St} (m : List (Nat × Nat)) (xs : List HP)
  (e : (fK ops c.nt, pT m (dn Sx.tm) Sx.n (eV c.P tt ops (ops.take n1) (xs.map HP.hi) S), de (m.map (·.2)) && de (m.map (·.1)) && jf Sx.n m && gz c.k Sx.n m, Nat.beq ops.length (n1 + n2)) = (true, some (some Sx, fa n1 xs), true, true)) {ρ : Ren} {a : Act} {w : World} (R : cr c.toCx ρ S a w)
  (k : ∀ ρ' a' w', cr c.toCx ρ' Sx a' w' → wpOps c.P ops.toArray Q (List.range' n1 n2) a' w') : (Code.region id ops.toArray false).wp c.P Q a w := by
 simp only [Rr] at e
 obtain ⟨e1, e2, e3, e4⟩ := e
 obtain ⟨S1, f1, f2⟩ := Ew e2
 have hlen := Nat.eq_of_beq_eq_true e4
 refine wp_region ?_
 have hl : (ops.take n1).length = n1 := by rw [Ro]; omega
 have := Ev (Q := Q) hT e1 (ops.take n1) 0 n2 _ S S1 _ ρ a w (fun j hj => by rw [R9, List.getElem?_take_of_lt (by omega)]) R f1 (pt _ _) fun ρ' a' w' R' => by
  obtain ⟨ρ2, R2⟩ := wz (c := c) m (dn Sx.tm) f2 e3 ρ' a' w' R'
  rw [hl, R9]
  exact k ρ2 a' w' R2
 rw [hl, ← hlen] at this
 simpa [List.range_eq_range'] using this
theorem zd {c : Fx} {tt : TT} (hT : bH c.P tt) {ops : List Oper} (n1 n2 : Nat) {Q : Exit → Act → World → Prop} {S Sx : St} (m : List (Nat × Nat)) (xs : List HP)
  (e : (fK ops c.nt, pT m (dn Sx.tm) Sx.n (eV c.P tt ops (ops.drop n1) (xs.map HP.hi) S), de (m.map (·.2)) && de (m.map (·.1)) && jf Sx.n m && gz c.k Sx.n m, Nat.beq ops.length (n1 + n2)) = (true, some (some Sx, fa n2 xs), true, true)) {ρ : Ren} {a : Act} {w : World} (R : cr c.toCx ρ S a w)
  (k : ∀ ρ' a' w', cr c.toCx ρ' Sx a' w' → Q .normal a' w') : wpOps c.P ops.toArray Q (List.range' n1 n2) a w := by
 simp only [Rr] at e
 obtain ⟨e1, e2, e3, e4⟩ := e
 obtain ⟨S1, f1, f2⟩ := Ew e2
 have hlen := Nat.eq_of_beq_eq_true e4
 have hl : (ops.drop n1).length = n2 := by rw [Rp]; omega
 have := zS (Q := Q) hT e1 (ops.drop n1) n1 _ S S1 _ ρ a w (fun j => by rw [List.getElem?_drop]) R f1 (pt _ _) fun ρ' a' w' R' => by
  obtain ⟨ρ2, R2⟩ := wz (c := c) m (dn Sx.tm) f2 e3 ρ' a' w' R'
  exact k ρ2 a' w' R2
 rwa [hl] at this
theorem Ex {P : Program} {f : FuncId} {args : List AV} {e : TypeId} {sz n : Nat} {g : Nat → Nat → T} {xs : List Value} (he : kg P f) (hx : xs.length = n * sz) (hsz : 0 < sz) (hc : ∀ i, i < n → ∀ j, j < sz → ∃ x, xs[i * sz + j]? = some x ∧ ∀ (w : World) (ok : Nat → Prop), RT w ok (g i j) x)
  (H : ∀ (w : World) (ok : Nat → Prop) (vs : Array Value), (∀ b, ok b → b < w.heap.size) → aG (RV w ok fun _ => none) args vs.toList → Calls P f vs w fun e' w' => ∃ v, e' = .returned v ∧ Go.RowKit.Below w.heap.size w w' ∧ w'.ownsRow w.heap.size e sz v n xs) : d7 P f args [] (.c (.ref 0 sz 0 n)) [(0, .row e false sz n g)] := by
 refine ⟨he, fun w ok ρ vs hok hdom _ hinj ha => ?_⟩
 obtain rfl : ρ = fun _ => none := by
  funext id
  cases e' : ρ id with
  | none => rfl
  | some l => obtain ⟨b, hb⟩ := hdom id (by rw [e']; exact fun h => by cases h); cases hb
 refine Calls.mono (H w ok vs hok ha) ?_
 rintro e' w' ⟨v, rfl, hB, hl, hr⟩
 have hU : cy (fun b => ∃ id cap, (fun _ => none : Ren) id = some (.aT b cap)) w w' := ⟨hB.os, hB.tape, hB.output, hB.size, fun b hb _ => hB.block b hb⟩
 rcases hr with ⟨rfl, rfl⟩ | ⟨b, cap, cur, rfl, hb, hg, hn, hm, hs, ht⟩
 ·refine ⟨_, fun id => if id = 0 then some .nil else none, rfl, fun _ _ h => (by cases h), hU, ⟨.nil, by simp, rfl, rfl, none, rfl⟩, fun id blk h => ?_, fun i j b c c' x y h1 h2 _ h3 _ => ?_⟩
  ·match id, h with
   | 0, h => obtain rfl := ay h; exact ⟨.nil, by simp, rfl, fun b c e => (by cases e)⟩
   | n + 1, h => cases h
  ·simp only at h3
   split at h3
   ·injection h3 with h3; cases h3
   ·cases h3
 ·refine ⟨_, fun id => if id = 0 then some (.aT b cap) else none, rfl, fun _ _ h => (by cases h), hU, ⟨.aT b cap, by simp, .inl ⟨cap, by simp, hn, by omega⟩⟩, fun id blk h => ?_, fun i j b' c c' x y h1 h2 _ h3 h4 => ?_⟩
  ·match id, h with
   | 0, h =>
    obtain rfl := ay h
    refine ⟨.aT b cap, by simp, ⟨hn, cur, (0, 0), hg, hs, fun _ => ⟨.inl (RR _), hm⟩, fun i hi j hj => ?_⟩, fun b' c e => ?_⟩
    ·obtain ⟨x, x1, x2⟩ := hc i hi j hj
     refine ⟨x, ?_, x2 _ _⟩
     rw [← ht, List.getElem?_take] at x1
     split at x1
     ·simpa using x1
     ·cases x1
    ·injection e with e1 e2
     subst e1
     exact ⟨tq hg, .inl hb⟩
   | n + 1, h => cases h
  ·match i, h1, j, h2 with
   | 0, _, 0, _ => rfl
   | n + 1, h, _, _ => cases h
   | 0, _, n + 1, h => cases h
theorem zV {c : Fx} {S : St} {ρ : Ren} {a : Act} {w : World} (R : cr c.toCx ρ S a w) {ops : Array Oper} {i d : Nat} {o : Oper} {f : FuncId} {cl : Call} {K : Act → World → Prop} {Q : Exit → Act → World → Prop} (ho : ops[i]? = some o) (hg : o.guard = none) (hop : o.op = .call cl) (hcl : cl.callee = .value (.func f)) (hd : o.dst = some d) (hE : kg c.P f) {vs : Array Value} (hv : cl.args.map a.eval = vs)
  (H : Calls c.P f vs w fun e w' => ∃ v, e = .returned v ∧ K (a.put (some d) v) w') : wpOp c.P ops Q i K a w := by
 refine Dp (o := o) ho (fun v w' => K (a.put (some d) v) w') (fun v w' h => by rw [hd]; exact h) ?_
 rw [if_pos (by unfold Region.wanted; rw [hg])]
 obtain ⟨⟨fs⟩, ⟨cs⟩, hfs, hcs, er⟩ := Ek (o := o) (c := c.toCx) (f := f) (s1 := []) (s2 := []) R (cl := cl) (by rw [hcl]; rfl) hop hE
 rw [er]
 obtain rfl : fs = [] := by cases fs with | nil => rfl | cons _ _ => exact hfs.elim
 obtain rfl : cs = [] := by cases cs with | nil => rfl | cons _ _ => exact hcs.elim
 show Calls _ _ _ _ _
 have e : (#[] ++ cl.args.map a.eval ++ #[] : Array Value) = vs := by simp [hv]
 rw [e]
 exact H
end Vm
end Go.Proofs.YtfmhbcfklokmaaaGreatDoor
namespace Go.Proofs.YtfmhbcfklokmaaaGreatDoor
open Go.RowKit
namespace Vm
section
variable {P : Program} {nt : Nat} {k : TypeId} {R : Value → Option (DataW Unit × List MemPlace)} {b n0 : Nat} {w0 : World} {tm tm' : List (Nat × AV)} {n : Nat} {D : DataW Unit} {a : Act} {w w' : World}
end
theorem PU {n : Int} (h0 : -9223372036854775808 ≤ n) (h1 : n < 9223372036854775808) : SB n = n := by
 show IntKind.i64.wrap n = _
 simp only [IntKind.wrap, IntKind.bits, IntKind.signed]
 simp
 omega
end Vm
end Go.Proofs.YtfmhbcfklokmaaaGreatDoor
namespace Go.Proofs.YtfmhbcfklokmaaaGreatDoor
open Go.Shelf
def Dq : Go.Shelf.Ren := ⟨fun | 156 => 233 | 165 => 267 | 166 => 258 | 169 => 260 | 240 => 272 | 241 => 278 | 276 => 283 | 277 => 287 | n => n, fun | 31 => 28 | 9 => 9 | 3 => 3 | 4 => 4 | 0 => 0 | 20 => 20 | 72 => 325 | 76 => 329 | 70 => 323 | 37 => 151 | 75 => 328 | 127 => 348 | 164 => 359 | 5 => 5 | 80 => 94 | n => n, fun | n => n⟩
theorem vP : Go.Proofs.Lays.n156 Tryz.prog Dq := {
 mixed := by kernel_rfl
 f156 := Tryz.func233.trans (congrArg some (by kernel_rfl))
 f165 := Tryz.func267.trans (congrArg some (by kernel_rfl))
 f166 := Tryz.func258.trans (congrArg some (by kernel_rfl))
 f169 := Tryz.func260.trans (congrArg some (by kernel_rfl))
 f240 := Tryz.func272.trans (congrArg some (by kernel_rfl))
 f241 := Tryz.func278.trans (congrArg some (by kernel_rfl))
 f276 := Tryz.func283.trans (congrArg some (by kernel_rfl))
 f277 := Tryz.func287.trans (congrArg some (by kernel_rfl))
 t0 := Tryz.underlying0
 a0 := Tryz.isAgg0
 z0 := Tryz.sizeOf0
 v0 := Tryz.zeroValue0
 t3 := Tryz.underlying3
 a3 := Tryz.isAgg3
 z3 := Tryz.sizeOf3
 v3 := Tryz.zeroValue3
 t4 := Tryz.underlying4
 a4 := Tryz.isAgg4
 z4 := Tryz.sizeOf4
 v4 := Tryz.zeroValue4
 t9 := Tryz.underlying9
 a9 := Tryz.isAgg9
 z9 := Tryz.sizeOf9
 v9 := Tryz.zeroValue9
 t20 := Tryz.underlying20
 a20 := Tryz.isAgg20
 z20 := Tryz.sizeOf20
 v20 := Tryz.zeroValue20
 t31 := Tryz.underlying28
 a31 := Tryz.isAgg28
 z31 := Tryz.sizeOf28
 v31 := Tryz.zeroValue28
 t37 := Tryz.underlying151
 a37 := Tryz.isAgg151
 z37 := Tryz.sizeOf151
 v37 := Tryz.zeroValue151
 t70 := Tryz.underlying323
 a70 := Tryz.isAgg323
 z70 := Tryz.sizeOf323
 v70 := Tryz.zeroValue323
 t72 := Tryz.underlying325
 a72 := Tryz.isAgg325
 z72 := Tryz.sizeOf325
 v72 := Tryz.zeroValue325
 t75 := Tryz.underlying328
 a75 := Tryz.isAgg328
 z75 := Tryz.sizeOf328
 v75 := Tryz.zeroValue328
 t76 := Tryz.underlying329
 a76 := Tryz.isAgg329
 z76 := Tryz.sizeOf329
 v76 := Tryz.zeroValue329
 t127 := Tryz.underlying348
 a127 := Tryz.isAgg348
 z127 := Tryz.sizeOf348
 v127 := Tryz.zeroValue348
 t164 := Tryz.underlying359
 a164 := Tryz.isAgg359
 z164 := Tryz.sizeOf359
 v164 := Tryz.zeroValue359 }
theorem uB : Builder.Extra Tryz.prog Dq := {
 sizeBuilder := by kernel_rfl
 liesBuilder := by kernel_rfl
 t5 := Tryz.underlying5
 a5 := Tryz.isAgg5
 z5 := Tryz.sizeOf5
 v5 := Tryz.zeroValue5
 infoByte := by kernel_rfl
 cellsByte := by kernel_rfl
 sizeByte := by kernel_rfl
 neB5 := by decide }
open Go.RowKit in
theorem Ix (a : Option Addr) (c : Nat) (sep : ByteArray) (w : World) :
    Calls Tryz.prog 233 #[.slice a 0 c, .string sep] w fun e w' => e = .returned (.string ⟨#[]⟩) ∧ w' = w := Any.strings_Join_none vP uB a c sep w
open Go.RowKit in
theorem Jv (bk o c : Nat) (xs : List ByteArray) (sep : ByteArray) (w : World) (hcells : ∀ (j : Nat) x, xs[j]? = some x → w.cell? ⟨bk, o + j, none⟩ = some (.string x)) (hbk : bk < w.heap.size) (hN : xs.length ≤ 140737488355328) (hcap : xs.length ≤ c) (hlen : (Lib.join (xs.map (·.data.toList)) sep.data.toList).length ≤ 140737488355328) :
    Calls Tryz.prog 233 #[.slice (some ⟨bk, o, none⟩) xs.length c, .string sep] w fun e w' => e = .returned (.string ⟨(Lib.join (xs.map (·.data.toList)) sep.data.toList).toArray⟩) ∧ Below w.heap.size w w' := Any.strings_Join vP uB bk o c xs sep w hcells hbk hN hcap hlen
def JK : Go.Shelf.Ren := ⟨fun | 229 => 247 | n => n, fun | 9 => 9 | 40 => 316 | 31 => 28 | 152 => 345 | 3 => 3 | 0 => 0 | 4 => 4 | 21 => 21 | 154 => 347 | n => n, fun | n => n⟩
theorem Lk : Go.Proofs.Lays.n229 Tryz.prog JK := {
 mixed := by kernel_rfl
 f229 := Tryz.func247.trans (congrArg some (by kernel_rfl))
 t0 := Tryz.underlying0
 a0 := Tryz.isAgg0
 z0 := Tryz.sizeOf0
 v0 := Tryz.zeroValue0
 t3 := Tryz.underlying3
 a3 := Tryz.isAgg3
 z3 := Tryz.sizeOf3
 v3 := Tryz.zeroValue3
 t4 := Tryz.underlying4
 a4 := Tryz.isAgg4
 z4 := Tryz.sizeOf4
 v4 := Tryz.zeroValue4
 t9 := Tryz.underlying9
 a9 := Tryz.isAgg9
 z9 := Tryz.sizeOf9
 v9 := Tryz.zeroValue9
 t21 := Tryz.underlying21
 a21 := Tryz.isAgg21
 z21 := Tryz.sizeOf21
 v21 := Tryz.zeroValue21
 t31 := Tryz.underlying28
 a31 := Tryz.isAgg28
 z31 := Tryz.sizeOf28
 v31 := Tryz.zeroValue28
 t40 := Tryz.underlying316
 a40 := Tryz.isAgg316
 z40 := Tryz.sizeOf316
 v40 := Tryz.zeroValue316
 t152 := Tryz.underlying345
 a152 := Tryz.isAgg345
 z152 := Tryz.sizeOf345
 v152 := Tryz.zeroValue345
 t154 := Tryz.underlying347
 a154 := Tryz.isAgg347
 z154 := Tryz.sizeOf347
 v154 := Tryz.zeroValue347 }
open Go.RowKit Go.Lib in
theorem Is (g : Nat) (lb : Array Value) (eg : ∀ args w, (callFunc g args).run Tryz.prog w = .ok (.enter g args) w) (p : Nat → Bool) (s : ByteArray) (w : World) (hs : s.size ≤ 4294967296) (hp : PredAt Tryz.prog g lb encR p w) :
  Calls Tryz.prog 247 #[.string s, .func (.func g) #[] lb] w fun e w' => ∃ A, e = .returned (.slice (some ⟨A, 0, none⟩) (Lib.goFieldsP p s).length (Lib.goFieldsP p s).length) ∧ w.heap.size ≤ A ∧
   w'.ownsRow w.heap.size 9 1 (.slice (some ⟨A, 0, none⟩) (Lib.goFieldsP p s).length (Lib.goFieldsP p s).length) (Lib.goFieldsP p s).length ((Lib.goFieldsP p s).map Value.string) ∧ Below w.heap.size w w' := Any.strings_FieldsFunc Lk g lb eg p s w hs hp (by kernel_rfl) (by kernel_rfl)
def Dr : Go.Shelf.Ren := ⟨fun | 7 => 262 | 10 => 276 | n => n, fun | 23 => 337 | 26 => 9 | 3 => 338 | 28 => 334 | 0 => 0 | 27 => 333 | 33 => 146 | 4 => 4 | n => n, fun | n => n⟩
theorem Ey : Go.Proofs.SlLaysZ.n7 Tryz.prog Dr := {
 mixed := by kernel_rfl
 f7 := ⟨Tryz.f262.name, by decide, Tryz.func262.trans (congrArg some (by kernel_rfl))⟩
 f10 := ⟨Tryz.f276.name, by decide, Tryz.func276.trans (congrArg some (by kernel_rfl))⟩
 t0 := Tryz.underlying0
 a0 := Tryz.isAgg0
 z0 := Tryz.sizeOf0
 v0 := Tryz.zeroValue0
 t4 := Tryz.underlying4
 a4 := Tryz.isAgg4
 z4 := Tryz.sizeOf4
 v4 := Tryz.zeroValue4
 t23 := Tryz.underlying337
 a23 := Tryz.isAgg337
 z23 := Tryz.sizeOf337
 v23 := Tryz.zeroValue337
 t26 := Tryz.underlying9
 a26 := Tryz.isAgg9
 z26 := Tryz.sizeOf9
 v26 := Tryz.zeroValue9
 t27 := Tryz.underlying333
 a27 := Tryz.isAgg333
 z27 := Tryz.sizeOf333
 v27 := Tryz.zeroValue333
 t28 := Tryz.underlying334
 a28 := Tryz.isAgg334
 z28 := Tryz.sizeOf334
 v28 := Tryz.zeroValue334
 t33 := Tryz.underlying146
 a33 := Tryz.isAgg146
 z33 := Tryz.sizeOf146
 v33 := Tryz.zeroValue146 }
def C4 : Go.Shelf.Ren := ⟨fun | 6 => 261 | 8 => 274 | 9 => 275 | 11 => 284 | 13 => 110 | 12 => 285 | 23 => 152 | 24 => 153 | 14 => 291 | 15 => 292 | 16 => 293 | 17 => 294 | 18 => 295 | 19 => 296 | 20 => 297 | 21 => 298 | 22 => 299 | 25 => 302 | 26 => 185 | 27 => 186 | 28 => 303 | 29 => 304 | 30 => 305 | 31 => 310 | n => n, fun | 26 => 9 | 28 => 334 | 24 => 28 | 0 => 0 | 3 => 3 | 37 => 150 | 48 => 243 | 50 => 37 | 4 => 4 | 40 => 237 | 39 => 236 | 45 => 113 | 5 => 5 | 9 => 9 | 51 => 271 | 55 => 274 | 57 => 299 | 58 => 300 | 33 => 146 | n => n, fun | n => n⟩
theorem Kh : Go.Proofs.SlLaysZ.n6 Tryz.prog C4 := {
 mixed := by kernel_rfl
 f6 := ⟨Tryz.f261.name, by decide, Tryz.func261.trans (congrArg some (by kernel_rfl))⟩
 f8 := ⟨Tryz.f274.name, by decide, Tryz.func274.trans (congrArg some (by kernel_rfl))⟩
 f11 := ⟨Tryz.f284.name, by decide, Tryz.func284.trans (congrArg some (by kernel_rfl))⟩
 t0 := Tryz.underlying0
 a0 := Tryz.isAgg0
 z0 := Tryz.sizeOf0
 v0 := Tryz.zeroValue0
 t24 := Tryz.underlying28
 a24 := Tryz.isAgg28
 z24 := Tryz.sizeOf28
 v24 := Tryz.zeroValue28
 t26 := Tryz.underlying9
 a26 := Tryz.isAgg9
 z26 := Tryz.sizeOf9
 v26 := Tryz.zeroValue9
 t28 := Tryz.underlying334
 a28 := Tryz.isAgg334
 z28 := Tryz.sizeOf334
 v28 := Tryz.zeroValue334
 i26 := by kernel_rfl }
def JL : Go.Shelf.Ren := ⟨fun | 6 => 275 | 8 => 110 | 9 => 285 | 19 => 152 | 20 => 153 | 21 => 291 | 22 => 292 | 23 => 293 | 24 => 294 | 25 => 295 | 26 => 296 | 27 => 297 | 28 => 298 | 29 => 299 | 36 => 302 | 31 => 185 | 32 => 186 | 37 => 303 | 38 => 304 | 39 => 305 | 41 => 310 | n => n, fun | 27 => 28 | 29 => 9 | 3 => 3 | 32 => 150 | 26 => 28 | 0 => 0 | 44 => 243 | 46 => 37 | 4 => 4 | 36 => 237 | 35 => 236 | 41 => 113 | 5 => 5 | 9 => 9 | 53 => 271 | 57 => 274 | 63 => 299 | 64 => 300 | n => n, fun | n => n⟩
theorem Ez : Go.Proofs.SlLaysM.n6 Tryz.prog JL := {
 mixed := by kernel_rfl
 f6 := ⟨Tryz.f275.name, by decide, Tryz.func275.trans (congrArg some (by kernel_rfl))⟩
 f8 := Tryz.func110.trans (congrArg some (by kernel_rfl))
 f9 := ⟨Tryz.f285.name, by decide, Tryz.func285.trans (congrArg some (by kernel_rfl))⟩
 f19 := Tryz.func152.trans (congrArg some (by kernel_rfl))
 f20 := Tryz.func153.trans (congrArg some (by kernel_rfl))
 f21 := ⟨Tryz.f291.name, by decide, Tryz.func291.trans (congrArg some (by kernel_rfl))⟩
 f22 := ⟨Tryz.f292.name, by decide, Tryz.func292.trans (congrArg some (by kernel_rfl))⟩
 f23 := ⟨Tryz.f293.name, by decide, Tryz.func293.trans (congrArg some (by kernel_rfl))⟩
 f24 := ⟨Tryz.f294.name, by decide, Tryz.func294.trans (congrArg some (by kernel_rfl))⟩
 f25 := ⟨Tryz.f295.name, by decide, Tryz.func295.trans (congrArg some (by kernel_rfl))⟩
 f26 := ⟨Tryz.f296.name, by decide, Tryz.func296.trans (congrArg some (by kernel_rfl))⟩
 f27 := ⟨Tryz.f297.name, by decide, Tryz.func297.trans (congrArg some (by kernel_rfl))⟩
 f28 := ⟨Tryz.f298.name, by decide, Tryz.func298.trans (congrArg some (by kernel_rfl))⟩
 f29 := ⟨Tryz.f299.name, by decide, Tryz.func299.trans (congrArg some (by kernel_rfl))⟩
 f31 := Tryz.func185.trans (congrArg some (by kernel_rfl))
 f32 := Tryz.func186.trans (congrArg some (by kernel_rfl))
 f36 := ⟨Tryz.f302.name, by decide, Tryz.func302.trans (congrArg some (by kernel_rfl))⟩
 f37 := ⟨Tryz.f303.name, by decide, Tryz.func303.trans (congrArg some (by kernel_rfl))⟩
 f38 := ⟨Tryz.f304.name, by decide, Tryz.func304.trans (congrArg some (by kernel_rfl))⟩
 f39 := ⟨Tryz.f305.name, by decide, Tryz.func305.trans (congrArg some (by kernel_rfl))⟩
 f41 := ⟨Tryz.f310.name, by decide, Tryz.func310.trans (congrArg some (by kernel_rfl))⟩
 t0 := Tryz.underlying0
 a0 := Tryz.isAgg0
 z0 := Tryz.sizeOf0
 v0 := Tryz.zeroValue0
 t3 := Tryz.underlying3
 a3 := Tryz.isAgg3
 z3 := Tryz.sizeOf3
 v3 := Tryz.zeroValue3
 t4 := Tryz.underlying4
 a4 := Tryz.isAgg4
 z4 := Tryz.sizeOf4
 v4 := Tryz.zeroValue4
 t5 := Tryz.underlying5
 a5 := Tryz.isAgg5
 z5 := Tryz.sizeOf5
 v5 := Tryz.zeroValue5
 t9 := Tryz.underlying9
 a9 := Tryz.isAgg9
 z9 := Tryz.sizeOf9
 v9 := Tryz.zeroValue9
 t26 := Tryz.underlying28
 a26 := Tryz.isAgg28
 z26 := Tryz.sizeOf28
 v26 := Tryz.zeroValue28
 t27 := Tryz.underlying28
 a27 := Tryz.isAgg28
 z27 := Tryz.sizeOf28
 v27 := Tryz.zeroValue28
 t29 := Tryz.underlying9
 a29 := Tryz.isAgg9
 z29 := Tryz.sizeOf9
 v29 := Tryz.zeroValue9
 t32 := Tryz.underlying150
 a32 := Tryz.isAgg150
 z32 := Tryz.sizeOf150
 v32 := Tryz.zeroValue150
 t35 := Tryz.underlying236
 a35 := Tryz.isAgg236
 z35 := Tryz.sizeOf236
 v35 := Tryz.zeroValue236
 t36 := Tryz.underlying237
 a36 := Tryz.isAgg237
 z36 := Tryz.sizeOf237
 v36 := Tryz.zeroValue237
 t41 := Tryz.underlying113
 a41 := Tryz.isAgg113
 z41 := Tryz.sizeOf113
 v41 := Tryz.zeroValue113
 t44 := Tryz.underlying243
 a44 := Tryz.isAgg243
 z44 := Tryz.sizeOf243
 v44 := Tryz.zeroValue243
 t46 := Tryz.underlying37
 a46 := Tryz.isAgg37
 z46 := Tryz.sizeOf37
 v46 := Tryz.zeroValue37
 t53 := Tryz.underlying271
 a53 := Tryz.isAgg271
 z53 := Tryz.sizeOf271
 v53 := Tryz.zeroValue271
 t57 := Tryz.underlying274
 a57 := Tryz.isAgg274
 z57 := Tryz.sizeOf274
 v57 := Tryz.zeroValue274
 t63 := Tryz.underlying299
 a63 := Tryz.isAgg299
 z63 := Tryz.sizeOf299
 v63 := Tryz.zeroValue299
 t64 := Tryz.underlying300
 a64 := Tryz.isAgg300
 z64 := Tryz.sizeOf300
 v64 := Tryz.zeroValue300 }
section
open Go.RowKit Go.Maps Go.Sort Go.Shelf
theorem KH (m : Nat) : AnyZ.SortsIn Tryz.prog C4 Fence.wide m :=
  ⟨fun blk off cap ss W hH hblk hsz => callsIn_wide.2 (AnyM.slices_Sort_string Ez blk off cap ss W hH hblk hsz),
   fun p cap W => callsIn_wide.2 (AnyM.slices_Sort_string_none Ez p cap W)⟩
theorem Jh (mb : Option Nat) (W : World) : CallsIn Fence.wide 5 Tryz.prog 262 #[.map mb] W fun e w' => e = .returned (.func (.func 276) #[] #[.pointer (some ⟨W.heap.size, 0, none⟩)]) ∧ w' = W.alloc (.cells #[.map mb] 337) :=
 AnyZ.keys_in Ey Fence.wide 5 trivial rfl mb W
set_option maxHeartbeats 1000000 in
theorem H7 {H : Type} (b nn : Nat) (D0 : DataW H) (R : Value → Option (DataW H × List MemPlace)) (w : World) (hown : w.ownsMap Tryz.prog 9 R b nn D0) (hmax : Maps.size D0 ≤ maxLen) (hbytes : Maps.size D0 * 16 ≤ 140737488355328) :
  CallsIn Fence.wide 5 Tryz.prog 261 #[.func (.func 276) #[] #[.pointer (some ⟨w.heap.size, 0, none⟩)]] (w.alloc (.cells #[.map (some b)] 337)) fun e w' => ∃ (v : Value) (ss : List (List UInt8)), e = .returned v ∧ ss.Perm (strKeys D0) ∧
   w'.ownsRow (w.alloc (.cells #[.map (some b)] 337)).heap.size 9 1 v ss.length ((ss.mergeSort (fun x y => decide (x ≤ y))).map encStr) ∧ (v = .slice none 0 0 ↔ ss = []) ∧ Below (w.alloc (.cells #[.map (some b)] 337)).heap.size (w.alloc (.cells #[.map (some b)] 337)) w' := by
 have hbl := hown.lt
 have hseq : SeqGives Fence.wide 2 Tryz.prog 276 #[.pointer (some ⟨w.heap.size, 0, none⟩)] encStr (fun ss => ss.Perm (strKeys D0)) (Maps.size D0) (w.alloc (.cells #[.map (some b)] 337)) :=
  AnyZ.keys_gives (ρ := Dr) { Ey with } Fence.wide _ trivial rfl (by omega) w.heap.size b nn D0 _ (by simp) (by simp) (by
   obtain ⟨es, clock, hb, Ft, hs, hD⟩ := hown
   exact ⟨es, clock, (Below.heap_alloc _ _ b hbl).trans hb, Ft, hs, hD⟩)
 exact AnyZ.sorted_in Kh Fence.wide 5 trivial trivial trivial trivial rfl (by omega) (KH _) (enters_of Tryz.func275 (by kernel_rfl) rfl) 276 #[.pointer (some ⟨w.heap.size, 0, none⟩)] trivial (enters_of Tryz.func276 (by kernel_rfl) rfl) _ _ hmax hbytes _ hseq
end
end Go.Proofs.YtfmhbcfklokmaaaGreatDoor
namespace Go.Proofs.YtfmhbcfklokmaaaGreatDoor
namespace Vm
def cU (st : List (List UInt8) × List UInt8) (c : UInt8) : List (List UInt8) × List UInt8 := if c = 32 then (if st.2 = [] then st else (st.1 ++ [st.2], [])) else (st.1, st.2 ++ [c])
def eK (st : List (List UInt8) × List UInt8) : List (List UInt8) := if st.2 = [] then st.1 else st.1 ++ [st.2]
def cg (l : List UInt8) : List (List UInt8) := eK (l.foldl cU ([], []))
def ak (l : List UInt8) : ByteArray := ⟨l.toArray⟩
theorem eS (l : List UInt8) : (ak l).data.toList = l := rfl
theorem AQ (s : ByteArray) : ak s.data.toList = s := by cases s; rfl
theorem eT {a b : List UInt8} : ak a = ak b ↔ a = b := ⟨fun h => by have := congrArg (fun s : ByteArray => s.data.toList) h; exact this, fun h => h ▸ rfl⟩
theorem bO (l : List UInt8) : (ak l).size = l.length := rfl
def ascii (l : List UInt8) : Prop := ∀ x ∈ l, x.toNat < 128
theorem EA (l : List UInt8) (a pos : Nat) (h : a ≤ pos) (hp : pos < l.length) : Lib.pieceU l a (pos + 1) = Lib.pieceU l a pos ++ [l.getD pos 0] := by
 rw [← Lib.pieceU_grow l a pos 1 h, Re, Rf hp, List.take_one, List.head?_drop, Rf hp]
 rfl
theorem sR (s : ByteArray) (ha : ascii s.data.toList) : ∀ (f pos : Nat) (st : Option Nat) (acc : List (Nat × Nat)), s.size ≤ pos + f → pos ≤ s.size → (∀ a, st = some a → a < pos) →
  (Lib.closeSpans s (Lib.spansFromP (fun x => x == 32) s f pos st acc)).map (fun p => Lib.pieceU s.data.toList p.1 p.2) = eK ((s.data.toList.drop pos).foldl cU (acc.map (fun p => Lib.pieceU s.data.toList p.1 p.2), Lib.openPiece s.data.toList st pos))
 | f, pos, st, acc, h, hp, hst => by
  have hsl : s.data.toList.length = s.size := by rw [Array.length_toList]; rfl
  by_cases hlt : pos < s.size
  ·obtain ⟨f, rfl⟩ : ∃ g, f = g + 1 := ⟨f - 1, by omega⟩
   have hx := ha _ (Sb (show pos < s.data.toList.length by omega))
   have e0 : s[pos]'hlt = s.data.toList[pos]'(by omega) := by simp; rfl
   have hdec := decode_ascii s pos hlt (by rw [e0]; exact hx)
   rw [List.drop_eq_getElem_cons (by omega), Sp]
   generalize hg : s.data.toList[pos]'(by omega) = c at hx e0
   have hgd : s.data.toList.getD pos 0 = c := by rw [Re, Rf (by omega), hg]; rfl
   simp only [Lib.spansFromP, if_pos hlt, hdec, e0]
   by_cases hc : c = 32
   ·subst hc
    rw [if_pos (by decide)]
    cases st with
    | none =>
     have ih := sR s ha f (pos + 1) none acc (by omega) (by omega) (fun a h => by cases h)
     simpa [Lib.openPiece, cU] using ih
    | some a =>
     have hpn := Lib.pieceU_ne s.data.toList a pos (hst a rfl) (by omega)
     have ih := sR s ha f (pos + 1) none (acc ++ [(a, pos)]) (by omega) (by omega) (fun a h => by cases h)
     simpa [Lib.openPiece, cU, hpn] using ih
   ·have hc' : (c.toNat == 32) = false := by
     rw [beq_eq_false_iff_ne]
     intro h'
     exact hc (UInt8.toNat_inj.1 h')
    rw [if_neg (by rw [hc']; decide)]
    cases st with
    | none =>
     have ih := sR s ha f (pos + 1) (some pos) acc (by omega) (by omega) (fun a h => by cases h; omega)
     have e : Lib.pieceU s.data.toList pos (pos + 1) = [c] := by rw [EA _ _ _ (RR _) (by omega), hgd]; simp [Lib.pieceU]
     simpa [Lib.openPiece, cU, hc, e] using ih
    | some a =>
     have ih := sR s ha f (pos + 1) (some a) acc (by omega) (by omega) (fun b h => by cases h; have := hst a rfl; omega)
     have e := EA s.data.toList a pos (Nat.le_of_lt (hst a rfl)) (by omega)
     rw [hgd] at e
     simpa [Lib.openPiece, cU, hc, e] using ih
  ·obtain rfl : pos = s.size := by omega
   have hd : s.data.toList.drop s.size = [] := List.drop_eq_nil_of_le (by omega)
   rw [hd, Lib.spansFromP_end _ s _ _ _ _ hlt]
   cases st with
   | none => simp [Lib.closeSpans, Lib.openPiece, eK]
   | some a =>
    have := Lib.pieceU_ne s.data.toList a s.size (hst a rfl) (by omega)
    simp [Lib.closeSpans, Lib.openPiece, this, eK]
 termination_by f => f
theorem Mc (s : ByteArray) (ha : ascii s.data.toList) : Lib.goFieldsP (fun x => x == 32) s = (cg s.data.toList).map ak := by
 have h := sR s ha s.size 0 none [] (by omega) (Nat.zero_le _) (fun a h => by cases h)
 simp only [List.map_nil, Lib.openPiece, List.drop_zero] at h
 unfold cg Lib.goFieldsP Lib.spansOfP
 rw [← h, List.map_map]
 refine List.map_congr_left fun p _ => ?_
 apply (show ∀ a b : ByteArray, a.data.toList = b.data.toList → a = b from fun a b hab => by cases a; cases b; simp only at hab; rw [Array.toList_inj.1 hab])
 simp [Lib.pieceU, ak]
def okW (l : List (List UInt8)) : Prop := ∀ x ∈ l, x ≠ [] ∧ (32 : UInt8) ∉ x
theorem zW (x : List UInt8) (h : (32 : UInt8) ∉ x) (st : List (List UInt8) × List UInt8) : x.foldl cU st = (st.1, st.2 ++ x) := by
 induction x generalizing st with
 | nil => simp
 | cons c x ih =>
  have hc : c ≠ 32 := fun e => h (e ▸ Rw)
  rw [Sp, ih (fun hx => h (Rx _ hx))]
  simp [cU, hc]
theorem GD : ∀ (l : List UInt8) (st : List (List UInt8) × List UInt8), okW st.1 → (32 : UInt8) ∉ st.2 → okW (eK (l.foldl cU st))
 | [], st, h1, h2 => by
  unfold eK
  rw [List.foldl_nil]
  by_cases hne : st.2 = []
  ·rw [if_pos hne]; exact h1
  ·rw [if_neg hne]
   intro x hx
   rcases Rz.1 hx with hx | hx
   ·exact h1 x hx
   ·rw [Rn.1 hx]; exact ⟨hne, h2⟩
 | c :: l, st, h1, h2 => by
  rw [Sp]
  refine GD l _ ?_ ?_
  ·unfold cU
   split
   ·split
    ·exact h1
    ·rename_i hne
     intro x hx
     rcases Rz.1 hx with hx | hx
     ·exact h1 x hx
     ·rw [Rn.1 hx]; exact ⟨hne, h2⟩
   ·exact h1
  ·unfold cU
   split
   ·split
    ·exact h2
    ·simp
   ·rename_i hc
    intro hm
    rcases Rz.1 hm with hm | hm
    ·exact h2 hm
    ·exact hc (Rn.1 hm).symm
theorem zX (l : List UInt8) : okW (cg l) := GD l _ (fun x hx => by cases hx) (by simp)
theorem F0 {p : UInt8 → Prop} : ∀ (l : List UInt8) (st : List (List UInt8) × List UInt8), (∀ x ∈ l, p x) → (∀ x ∈ st.1, ∀ c ∈ x, p c) → (∀ c ∈ st.2, p c) → ∀ x ∈ eK (l.foldl cU st), ∀ c ∈ x, p c
 | [], st, h, h1, h2 => by
  unfold eK
  rw [List.foldl_nil]
  by_cases hne : st.2 = []
  ·rw [if_pos hne]; exact h1
  ·rw [if_neg hne]
   intro x hx
   rcases Rz.1 hx with hx | hx
   ·exact h1 x hx
   ·rw [Rn.1 hx]; exact h2
 | c :: l, st, h, h1, h2 => by
  rw [Sp]
  refine F0 l _ (fun x hx => h x (Rx _ hx)) ?_ ?_
  ·unfold cU
   split
   ·split
    ·exact h1
    ·intro x hx
     rcases Rz.1 hx with hx | hx
     ·exact h1 x hx
     ·rw [Rn.1 hx]; exact h2
   ·exact h1
  ·unfold cU
   split
   ·split
    ·exact h2
    ·simp
   ·intro d hd
    rcases Rz.1 hd with hd | hd
    ·exact h2 d hd
    ·rw [Rn.1 hd]; exact h c Rw
theorem zu {p : UInt8 → Prop} {l : List UInt8} (h : ∀ x ∈ l, p x) : ∀ x ∈ cg l, ∀ c ∈ x, p c := F0 l _ h (fun x hx => by cases hx) (by simp)
def bM : List (List UInt8) → List UInt8
 | [] => []
 | [x] => x
 | x :: y :: l => x ++ 32 :: bM (y :: l)
theorem EC : ∀ (l : List (List UInt8)), okW l → ∀ (a : List (List UInt8)), eK ((bM l).foldl cU (a, [])) = a ++ l
 | [], _, a => by simp [bM, eK]
 | [x], h, a => by
  have hx := h x Rw
  simp [bM, zW x hx.2, eK, hx.1]
 | x :: y :: l, h, a => by
  have hx := h x Rw
  have e : cU (a, x) 32 = (a ++ [x], []) := by simp [cU, hx.1]
  rw [bM, Sk, zW x hx.2, R8, Sp, e, EC (y :: l) (fun z hz => h z (Rx _ hz))]
  simp
theorem jY {l : List (List UInt8)} (h : okW l) : cg (bM l) = l := by
 have := EC l h []
 simpa [cg] using this
theorem iY {p : UInt8 → Prop} (hs : p 32) : ∀ {l : List (List UInt8)}, (∀ x ∈ l, ∀ c ∈ x, p c) → ∀ c ∈ bM l, p c
 | [], _, c, hc => by simp [bM] at hc
 | [x], h, c, hc => h x Rw c hc
 | x :: y :: l, h, c, hc => by
  rw [bM] at hc
  rcases Rz.1 hc with hc | hc
  ·exact h x Rw c hc
  ·rcases Ry.1 hc with rfl | hc
   ·exact hs
   ·exact iY hs (fun z hz => h z (Rx _ hz)) c hc
theorem E6 : ∀ {l : List (List UInt8)}, l ≠ [] → (bM l).length + 1 = (l.map fun x => x.length + 1).sum
 | [], h => absurd rfl h
 | [x], _ => by simp [bM]
 | x :: y :: l, _ => by
  have ih := E6 (l := y :: l) (by simp)
  rw [bM, Sq, Sr, ← ih]
  simp only [Rl, Rk]
  omega
theorem ED : ∀ l : List (List UInt8), Lib.join l [32] = bM l
 | [] => rfl
 | [x] => Lib.join_one x [32]
 | x :: y :: l => by
  rw [Lib.join_cons, bM, ← ED (y :: l), Lib.join_cons]
  simp [Lib.joinTail]
end Vm
end Go.Proofs.YtfmhbcfklokmaaaGreatDoor
