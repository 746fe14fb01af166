/- Lemmas for the statement TopEncodes: Go functions told as pure functions, and laws about these; texts joined and shortened by a program of mine; no condition. -/
import Derived.Test.YtfmhbcfklokmaaaGreatDoorSQ0
import Derived.Scope
import Derived.WalkKit
import Derived.ProofKit
import Derived.OpenShut
import Derived.ShutString
import Derived.ChangeOld
import Derived.ChangeSame
import Derived.Below
import Derived.Deep.Strs
import Derived.Laws.Strings
import Derived.RangeFuncNested
import Derived.RangeFuncBound
import Derived.RangeFuncCalls
import Derived.RangeFuncLeaves
import Derived.Shelf.Abstract
import Derived.Shelf.RegionOpen
import Derived.OwnWalkIn
import Derived.TacticsInMore
import Derived.LoopNIn
import Derived.LoopIn
import Derived.RangeFuncBox
import Derived.Maps.AppendAt
import Derived.Maps.OwnIn
import Derived.Maps.RangeWalk
import Derived.Test.YtfmhbcfklokmaaaGreatDoorRows
import Derived.Shelf.Strings.OnBuilder
import Derived.Shelf.Strings.FieldsFuncAny
import Derived.Shelf.SlIter.Nil
import Derived.Shelf.SortM.Plain
import Derived.Shelf.SortM.SortNone
import Derived.Ground.GgzProg
import Derived.Ground.SlgmProg
import Derived.Lib.Overlaps
import Derived.Lib.AppendZerosOnto
import Derived.WideKeyEntry
import Derived.DeepKeys4
import Derived.Maps.OwnSet
import Derived.Shelf.RegionOpenPlain
import Derived.Laws.NewBlocks
import Derived.Shelf.SlSortCmp.NoneTotal
import Derived.Ground.SlsfProg
import Derived.Lib.FieldsP
import Derived.Lib.Join
import Derived.Laws.RangeString
set_option linter.unusedVariables false
set_option linter.unusedSimpArgs false
set_option linter.defProp false
namespace Go.Proofs.YtfmhbcfklokmaaaGreatDoor
namespace Vm
structure Hi where
 h : bC := {}
 call : Option CI := none
def Hi.cnt (x : Hi) : Nat := match x.call with
 | some ci => ci.cnt
 | none => 1
def callee (tm : Tm) : Callee → Option (FuncId × List S1 × List S1)
 | .value (.func f) => some (f, [], [])
 | .value x => match ev tm x with
  | some (.c (.t (.v (.func (.func f) first cap)))) => match first.toList, cap.toList with
   | [], [] => some (f, [], [])
   | _, _ => none
  | some (.clo f a b) => some (f, a, b)
  | _ => none
 | _ => none
def Cd : Op → Bool
 | .lookup _ _ _ false => true
 | _ => false
def sy (P : Program) (tm : Tm) (o : Oper) : Option aT := match o.op with
 | .lookup t m x false => match ev tm m, ev tm x with
  | some (.c (.t (.mp P' t' l))), some (.c (.t (.v (.int .i64 k)))) => match jO l k with
   | some v => some ⟨some (.c (.t (.v v))), [], (P' = P ∧ t' = t) ∧ v.oneCell' = true⟩
   | none => none
  | _, _ => none
 | _ => none
def ik (P : Program) (tt : TT) (tm : Tm) (h : Hp) (o : Oper) (nid : Nat) (x : Hi) : Option aT :=
 match x.call with
 | none => match Cd o.op with
  | true => sy P tm o
  | false => iq tt tm h o nid x.h
 | some ci => match o.op with
  | .call cl => match callee tm cl.callee with
   | some (f, a, b) => fU P tm h f a b cl.args.toList nid ci
   | none => none
  | _ => none
section
variable {c : Cx} {used used' : Nat → Prop} {ρ ρ' : Ren} {tm tm' : Tm} {h h' : Hp} {a : Act} {w w' : World} {o : Oper} {nid : Nat}
theorem va {base : cx} {X : Nat → Prop} {nt : Nat} (R : aI base X nt used ρ tm h a w) {cl : Call} {f : FuncId} {s1 s2 : List S1} (e : callee tm cl.callee = some (f, s1, s2)) (ho : o.op = .call cl) (hE : eF c.P f) :
  ∃ fs cs : Array Value, ap (RS w (okOf base w ρ h) ρ) s1 fs.toList ∧ ap (RS w (okOf base w ρ h) ρ) s2 cs.toList ∧ (execOp a.eval o).run c.P w = .ok (.enter f (fs ++ cl.args.map a.eval ++ cs)) w := by
 unfold callee at e
 split at e
 ·rename_i f' hf'
  simp only [FL, FV] at e
  obtain ⟨rfl, rfl, rfl⟩ := e
  have := hE.run w (cl.args.map a.eval)
  refine ⟨#[], #[], trivial, trivial, ?_⟩
  simp [execOp, ho, resolve, hf', Act.eval, Deferred.ofValue, invoke]
  exact this
 ·rename_i x hx
  split at e
  ·rename_i f' first cap hev
   split at e
   ·rename_i h1 h2
    simp only [FL, FV] at e
    obtain ⟨rfl, rfl, rfl⟩ := e
    refine ⟨#[], #[], trivial, trivial, ?_⟩
    have hv := bU R hev
    have e1 : first = #[] := by apply Array.ext'; simpa using h1
    have e2 : cap = #[] := by apply Array.ext'; simpa using h2
    subst e1; subst e2
    have := hE.run w (cl.args.map a.eval)
    simp [execOp, ho, resolve, hx, hv, Deferred.ofValue, invoke]
    exact this
   ·cases e
  ·rename_i f' s1' s2' hev
   simp only [FL, FV] at e
   obtain ⟨rfl, rfl, rfl⟩ := e
   obtain ⟨fs, cs, hv, h1, h2⟩ := bF R hev
   have := hE.run w (fs ++ cl.args.map a.eval ++ cs)
   refine ⟨fs, cs, h1, h2, ?_⟩
   simp [execOp, ho, resolve, hx, hv, Deferred.ofValue, invoke]
   simpa using this
  ·cases e
 ·cases e
theorem AH (R : aI c.base c.X c.nt used ρ tm h a w) {tt : TT} (hT : bb c.P tt) {x : Hi} (hfresh : ∀ id, nid ≤ id → id < nid + x.cnt → ¬ used id) (hu : ∀ id, used id → used' id) (hn : ∀ id, nid ≤ id → id < nid + x.cnt → used' id) (hd : ∀ t, o.dst = some t → t < c.nt)
  {r : aT} (e : ik c.P tt tm h o nid x = some r) (hc : r.chk) : ct c used' tm h a o r.val r.W ((execOp a.eval o).run c.P w) := by
 unfold ik at e
 split at e
 ·rename_i hx
  have hcnt : x.cnt = 1 := by simp [Hi.cnt, hx]
  rw [hcnt] at hfresh hn
  split at e
  ·unfold sy at e
   split at e
   ·rename_i t m x ho
    split at e
    ·rename_i P' t' l k hm hx'
     split at e
     ·rename_i v hl
      injection e with e
      subst e
      obtain ⟨⟨rfl, rfl⟩, h1⟩ := hc
      obtain ⟨b, ob, e1, _, e2, e3⟩ := bF R hm
      have e4 := bU R hx'
      have hrv : RV w (okOf c.base w ρ h) ρ (.c (.t (.v v))) v := ⟨rfl, h1⟩
      exact b7 R hu hd hrv (by simp [execOp, ho, e1, e4, e3 w e2 k v hl])
     ·cases e
    ·cases e
   ·cases e
  ·exact Bu R (hfresh nid (F9 _) (by omega)) hu (hn nid (F9 _) (by omega)) hd hT e hc
 ·rename_i ci hx
  have hcnt : x.cnt = ci.cnt := by simp [Hi.cnt, hx]
  rw [hcnt] at hfresh hn
  split at e
  ·rename_i cl ho
   split at e
   ·rename_i f s1 s2 hf
    have hE : eF c.P f := by
     unfold fU at e
     simp only at e
     split at e
     ·split at e
      ·injection e with e; subst e; exact hc.2.2.2.1
      ·cases e
     ·cases e
    obtain ⟨fs, cs, k1, k2, k3⟩ := va (o := o) R hf ho hE
    exact Ai R hfresh hu hn hd e hc (vs := fs ++ cl.args.map a.eval ++ cs) k1 k2 (by simp) k3
   ·cases e
  ·cases e
theorem rf (L : Le tm tm' h h') {ci : CI} {x : C} {r : C × Prop} (e : Hw h ci x = some r) : Hw h' ci x = some r := by
 cases x with
 | t x => exact e
 | ref id sz off n =>
  simp only [Hw] at e ⊢
  split at e
  ·exact e
  ·split at e
   ·rename_i hid
    simp only [L.hp _ _ hid]; exact e
   ·cases e
 | ptr id sz e0 sub => exact e
theorem rh (L : Le tm tm' h h') {ci : CI} : ∀ {x : List C} {r : List C × Prop}, eR h ci x = some r → eR h' ci x = some r
 | [], r, e => e
 | x :: l, r, e => by
  simp only [eR] at e ⊢
  split at e
  ·rename_i h1 h2; simp only [rf L h1, rh L h2]; exact e
  ·cases e
theorem AI (L : Le tm tm' h h') {ci : CI} {x : S1} {r : S1 × Prop} (e : fx h ci x = some r) : fx h' ci x = some r := by
 cases x with
 | c x =>
  simp only [fx] at e ⊢
  split at e
  ·rename_i h1; simp only [rf L h1]; exact e
  ·cases e
 | agg l =>
  simp only [fx] at e ⊢
  split at e
  ·rename_i h1; simp only [rh L h1]; exact e
  ·cases e
theorem qS (L : Le tm tm' h h') {ci : CI} : ∀ {x : List S1} {r : List S1 × Prop}, eK h ci x = some r → eK h' ci x = some r
 | [], r, e => e
 | x :: l, r, e => by
  simp only [eK] at e ⊢
  split at e
  ·rename_i h1 h2; simp only [AI L h1, qS L h2]; exact e
  ·cases e
theorem AJ (L : Le tm tm' h h') {ci : CI} {x : AV} {r : AV × Prop} (e : d7 h ci x = some r) : d7 h' ci x = some r := by
 cases x with
 | c x =>
  simp only [d7] at e ⊢
  split at e
  ·rename_i h1; simp only [rf L h1]; exact e
  ·cases e
 | agg l =>
  simp only [d7] at e ⊢
  split at e
  ·rename_i h1; simp only [rh L h1]; exact e
  ·cases e
 | fagg n f => exact e
 | tup l => exact e
 | clo f a b =>
  simp only [d7] at e ⊢
  split at e
  ·rename_i h1 h2; simp only [qS L h1, qS L h2]; exact e
  ·cases e
theorem vX (L : Le tm tm' h h') : ∀ {x : List Operand} {r : List AV}, fD tm x = some r → fD tm' x = some r
 | [], r, e => e
 | x :: l, r, e => by
  simp only [fD] at e ⊢
  split at e
  ·rename_i h1 h2; simp only [bE L h1, vX L h2]; exact e
  ·cases e
theorem vd (L : Le tm tm' h h') {ci : CI} : ∀ {x : List AV} {r : List AV × Prop}, fq h ci x = some r → fq h' ci x = some r
 | [], r, e => e
 | x :: l, r, e => by
  simp only [fq] at e ⊢
  split at e
  ·rename_i h1 h2; simp only [AJ L h1, vd L h2]; exact e
  ·cases e
theorem zQ (L : Le tm tm' h h') {ci : CI} {a b : List S1} {x : List Operand} {r : List AV × Prop} (e : IV tm h ci a b x = some r) : IV tm' h' ci a b x = some r := by
 unfold IV at e ⊢
 split at e
 ·rename_i h1; simp only [vX L h1]; exact vd L e
 ·cases e
theorem ri (L : Le tm tm' h h') : ∀ {l : List Nat} {i : Nat} {r : List (Nat × az)}, ew h l i = some r → ew h' l i = some r
 | [], i, r, e => e
 | k :: l, i, r, e => by
  simp only [ew] at e ⊢
  split at e
  ·rename_i h1 h2; simp only [L.hp _ _ h1, ri L h2]; exact e
  ·rename_i h1 h2; simp only [L.hp _ _ h1, ri L h2]; exact e
  ·cases e
theorem vC (L : Le tm tm' h h') : ∀ {l : List Nat} {r : List (Nat × Option az)}, fy h l = some r → fy h' l = some r
 | [], r, e => e
 | k :: l, r, e => by
  simp only [fy] at e ⊢
  split at e
  ·rename_i h1 h2; simp only [L.hp _ _ h1, vC L h2]; exact e
  ·cases e
theorem Aj (L : Le tm tm' h h') {P : Program} {f : FuncId} {s1 s2 : List S1} {args : List Operand} {ci : CI} {r : aT} (e : fU P tm h f s1 s2 args nid ci = some r) : fU P tm' h' f s1 s2 args nid ci = some r := by
 unfold fU at e ⊢
 simp only at e ⊢
 split at e
 ·rename_i h1 h2 h3
  simp only [zQ L h1, ri L h2, vC L h3]; exact e
 ·cases e
theorem zR (L : Le tm tm' h h') {cl : Callee} {f : FuncId × List S1 × List S1} (e : callee tm cl = some f) : callee tm' cl = some f := by
 unfold callee at e ⊢
 split at e
 ·exact e
 ·split at e
  ·rename_i hev; simp only [bE L hev]; exact e
  ·rename_i hev; simp only [bE L hev]; exact e
  ·cases e
 ·cases e
theorem AK (L : Le tm tm' h h') {P : Program} {tt : TT} {x : Hi} {r : aT} (e : ik P tt tm h o nid x = some r) : ik P tt tm' h' o nid x = some r := by
 unfold ik at e ⊢
 split at e
 ·split at e
  ·unfold sy at e ⊢
   split at e
   ·split at e
    ·rename_i hm hx'
     simp only [bE L hm, bE L hx']
     exact e
    ·cases e
   ·cases e
  ·exact Bv L e
 ·split at e
  ·split at e
   ·rename_i hf; simp only [zR L hf]; exact Aj L e
   ·cases e
  ·cases e
def mY (ops : List Oper) (j : Nat) : Option Tmp := match ops[j]? with
 | some o => o.dst
 | none => none
def gU (tm : Tm) (ops : List Oper) (o : Oper) : Option Bool := match o.guard with
 | none => some true
 | some (j, b) => match mY ops j with
  | some t => match tm t with
   | some (.c (.t (.v (.bool x)))) => some (match x, b with
    | true, true => true
    | false, false => true
    | _, _ => false)
   | some (.tup []) => some false
   | _ => none
  | none => none
theorem ve {base : cx} {X : Nat → Prop} {nt : Nat} (R : aI base X nt used ρ tm h a w) {ops : List Oper} (hd : ∀ (j : Nat) (p : Oper) (t : Nat), ops[j]? = some p → p.dst = some t → t < nt) {b : Bool} (e : gU tm ops o = some b) : Region.wanted o (yielded ops.toArray a.tmps) = b := by
 unfold gU at e
 unfold Region.wanted
 split at e
 ·rename_i hg; injection e with e; subst e; simp [hg]
 ·rename_i j want hg
  simp only [hg]
  split at e
  ·rename_i t ht
   split at e
   ·rename_i x hx
    have hv : a.tmps.getD t undef = .bool x := (R.tmp t _ hx).1
    have hlt : t < a.tmps.size := by
     rw [R.size]
     unfold mY at ht
     split at ht
     ·rename_i p hp; exact hd j p t hp ht
     ·cases ht
    have hy : yielded ops.toArray a.tmps j = some x := by
     unfold yielded
     unfold mY at ht
     split at ht
     ·rename_i p hp
      have hp' : ops.toArray[j]? = some p := by simpa using hp
      have : a.tmps[t]? = some (.bool x) := by
       rw [Gl hlt]
       rw [Gc, Gl hlt] at hv
       simpa using hv
      simp [hp', ht, this]
     ·cases ht
    rw [hy]
    injection e with e
    rw [← e]
    cases x <;> cases want <;> rfl
   ·rename_i hx
    injection e with e
    obtain ⟨ys, hv, _⟩ := R.tmp t _ hx
    have hy : yielded ops.toArray a.tmps j = none := by
     unfold yielded
     unfold mY at ht
     split at ht
     ·rename_i p hp
      have hp' : ops.toArray[j]? = some p := by simpa using hp
      simp only [hp', ht, Option.bind_some]
      rw [Gc] at hv
      cases hq : a.tmps[t]? with
      | none => rfl
      | some v => rw [hq] at hv; simp only [Option.getD_some] at hv; rw [hv]
     ·cases ht
    rw [hy, ← e]; rfl
   ·cases e
  ·cases e
theorem uI (L : Le tm tm' h h') {ops : List Oper} {b : Bool} (e : gU tm ops o = some b) : gU tm' ops o = some b := by
 unfold gU at e ⊢
 split at e
 ·exact e
 ·split at e
  ·split at e
   ·rename_i hx; simp only [L.tm _ _ hx]; exact e
   ·rename_i hx; simp only [L.tm _ _ hx]; exact e
   ·cases e
  ·cases e
def eL (P : Program) (tt : TT) (ops : List Oper) (tm : Tm) (h : Hp) (o : Oper) (nid : Nat) (x : Hi) : Option (Option aT) :=
 match gU tm ops o with
 | some true => match ik P tt tm h o nid x with
  | some r => some (some r)
  | none => none
 | some false => some none
 | none => none
theorem Ak (L : Le tm tm' h h') {P : Program} {tt : TT} {ops : List Oper} {x : Hi} {r : Option aT} (e : eL P tt ops tm h o nid x = some r) : eL P tt ops tm' h' o nid x = some r := by
 unfold eL at e ⊢
 split at e
 ·rename_i hw
  simp only [uI L hw]
  split at e
  ·rename_i he; simp only [AK L he]; exact e
  ·cases e
 ·rename_i hw; simp only [uI L hw]; exact e
 ·cases e
def dL : Option aT → Option AV
 | some r => r.val
 | none => some (.tup [])
def cy : Option aT → List (Nat × Option az)
 | some r => r.W
 | none => []
def hP : Option aT → Prop
 | some r => r.chk
 | none => True
theorem jc {P : Program} {ops : Array Oper} {i : Nat} {K : Act → World → Prop} {Q : Exit → Act → World → Prop} (ho : ops[i]? = some o) (G : Value → World → Prop) (hK : ∀ v w', G v w' → K (a.put o.dst v) w')
  (h : if Region.wanted o (yielded ops a.tmps) = true then fm P G ((execOp a.eval o).run P w) else G undef w) : wpOp P ops Q i K a w := by
 unfold wpOp
 simp only [ho]
 split
 ·rename_i hw
  rw [if_pos hw] at h
  refine .inl ?_
  unfold Oper.wp
  generalize (execOp a.eval o).run P w = r at h
  cases r with
  | ok x w' =>
   cases x <;> simp only [fm] at h
   case value v => exact hK v w' h
   case skip => exact hK _ w' h
   case enter f args =>
    refine Calls.mono h ?_
    rintro e w'' ⟨v, rfl, hg⟩
    exact hK v w'' hg
  | halt x w' => exact h.elim
 ·rename_i hw
  rw [if_neg hw] at h
  exact hK _ _ h
theorem rK (R : aI c.base c.X c.nt used ρ tm h a w) {tt : TT} (hT : bb c.P tt) {ops : List Oper} (hds : ∀ (j : Nat) (p : Oper) (t : Nat), ops[j]? = some p → p.dst = some t → t < c.nt) {i : Nat} (ho : ops[i]? = some o) {x : Hi}
  (hfresh : ∀ id, nid ≤ id → id < nid + x.cnt → ¬ used id) (hu : ∀ id, used id → used' id) (hn : ∀ id, nid ≤ id → id < nid + x.cnt → used' id) {r : Option aT} (e : eL c.P tt ops tm h o nid x = some r) (hc : hP r) {K : Act → World → Prop} {Q : Exit → Act → World → Prop}
  (hK : ∀ ρ' a' w', aI c.base c.X c.nt used' ρ' (bG tm o.dst (dL r)) (aQ h (cy r)) a' w' → K a' w') : wpOp c.P ops.toArray Q i K a w := by
 refine jc (o := o) (by simpa using ho) (fun v w' => ∃ ρ', aI c.base c.X c.nt used' ρ' (bG tm o.dst (dL r)) (aQ h (cy r)) (a.put o.dst v) w') (fun v w' ⟨ρ', R'⟩ => hK ρ' _ w' R') ?_
 have hd : ∀ t, o.dst = some t → t < c.nt := fun t ht => hds i o t ho ht
 unfold eL at e
 split at e
 ·rename_i hw
  rw [ve R hds hw, if_pos rfl]
  split at e
  ·rename_i r' he
   injection e with e
   subst e
   exact AH R hT hfresh hu hn hd he hc
  ·cases e
 ·rename_i hw
  rw [ve R hds hw, if_neg (by simp)]
  injection e with e
  subst e
  exact ⟨ρ, by simp only [cy, dL, Lk]; exact (R.used_mono hu).put_tm hd fun x hx => by injection hx with hx; subst hx; exact ⟨#[], rfl, trivial⟩⟩
 ·cases e
end
structure St where
 tm : List (Nat × AV)
 h : List (Nat × az)
 n : Nat
def eI {α : Type} (k : Nat) : List (Nat × α) → List (Nat × α)
 | [] => []
 | (i, v) :: l => bif Nat.beq i k then eI k l else (i, v) :: eI k l
theorem gF {α : Type} (k : Nat) : ∀ (l : List (Nat × α)) (i : Nat), look (eI k l) i = if k = i then none else look l i
 | [], i => by simp [eI, look]
 | (j, v) :: l, i => by
  simp only [eI]
  by_cases h : j = k
  ·subst h
   simp only [Nat.beq_refl, cond_true, gF j l i, bo]
   split <;> rfl
  ·have : Nat.beq j k = false := by simpa [← Nat.beq_eq] using h
   simp only [this, cond_false, bo, gF k l i]
   by_cases h1 : j = i
   ·subst h1; simp [Ne.symm h]
   ·simp [h1]
def fV (l : List (Nat × AV)) (d : Option Tmp) (v : Option AV) : List (Nat × AV) := match d with
 | none => l
 | some d => match v with
  | some v => (d, v) :: eI d l
  | none => eI d l
theorem mh (l : List (Nat × AV)) (d : Option Tmp) (v : Option AV) : look (fV l d v) = bG (look l) d v := by
 funext t
 cases d with
 | none => simp [fV, bG]
 | some d =>
  cases v with
  | none =>
   simp only [fV, gF, bG, FL]
   by_cases h : d = t
   ·subst h; simp
   ·simp [h, Ne.symm h]
  | some v =>
   simp only [fV, bo, gF, bG, FL]
   by_cases h : d = t
   ·subst h; simp
   ·simp [h, Ne.symm h]
def fu (l : List (Nat × az)) : List (Nat × Option az) → List (Nat × az)
 | [] => l
 | (k, some b) :: W => (k, b) :: eI k (fu l W)
 | (k, none) :: W => eI k (fu l W)
theorem gG (l : List (Nat × az)) : ∀ (W : List (Nat × Option az)), look (fu l W) = aQ (look l) W
 | [] => by funext i; rfl
 | (k, some b) :: W => by
  funext i
  simp only [fu, bo, gF, gG l W, aQ]
  by_cases h : k = i <;> simp [h]
 | (k, none) :: W => by
  funext i
  simp only [fu, gF, gG l W, aQ]
def bH (c : Cx) (ρ : Ren) (S : St) (a : Act) (w : World) : Prop := aI c.base c.X c.nt (fun id => id < S.n) ρ (look S.tm) (look S.h) a w
def cI (P : Program) (tt : TT) (ops : List Oper) : List Oper → List Hi → St → Option (St × List Prop)
 | [], _, S => some (S, [])
 | o :: rest, xs, S =>
  let x := xs.headD {}
  match eL P tt ops (look S.tm) (look S.h) o S.n x with
  | some r => match cI P tt ops rest xs.tail ⟨fV S.tm o.dst (dL r), fu S.h (cy r), S.n + x.cnt⟩ with
   | some (S', l) => some (S', hP r :: l)
   | none => none
  | none => none
def dx : List Prop → Prop
 | [] => True
 | p :: l => p ∧ dx l
def cE (ops : List Oper) (nt : Nat) : Bool := ops.all fun o => match o.dst with
 | some t => Nat.blt t nt
 | none => true
theorem mZ {ops : List Oper} {nt : Nat} (h : cE ops nt = true) (j : Nat) (p : Oper) (t : Nat) (hj : ops[j]? = some p) (ht : p.dst = some t) : t < nt := by
 have := FX.1 h p (F5 hj)
 simp only [ht] at this
 simpa using this
theorem rj {c : Cx} {tt : TT} (hT : bb c.P tt) {ops : List Oper} (hds : cE ops c.nt = true) {Q : Exit → Act → World → Prop} : ∀ (l : List Oper) (k : Nat) (xs : List Hi) (S S' : St) (ps : List Prop) (ρ : Ren) (a : Act) (w : World), (∀ j, l[j]? = ops[k + j]?) → bH c ρ S a w → cI c.P tt ops l xs S = some (S', ps) → dx ps →
  (∀ ρ' a' w', bH c ρ' S' a' w' → Q .normal a' w') → wpOps c.P ops.toArray Q (List.range' k l.length) a w
 | [], k, xs, S, S', ps, ρ, a, w, hl, R, e, hp, hQ => by
  simp only [cI, FL, FV] at e
  obtain ⟨rfl, rfl⟩ := e
  simp only [FP, List.range'_zero, wpOps]
  exact hQ ρ a w R
 | o :: rest, k, xs, S, S', ps, ρ, a, w, hl, R, e, hp, hQ => by
  simp only [cI] at e
  split at e
  ·rename_i r hr
   split at e
   ·rename_i S1 ps1 he
    simp only [FL, FV] at e
    obtain ⟨rfl, rfl⟩ := e
    obtain ⟨p1, p2⟩ := hp
    simp only [FN, List.range'_succ, wpOps_cons]
    have ho : ops[k]? = some o := by have := hl 0; simpa using this.symm
    refine rK (used' := fun id => id < S.n + (xs.headD {}).cnt) R hT (mZ hds) ho (fun id h1 h2 => by omega) (fun id h => by omega) (fun id h1 h2 => by omega) hr p1 fun ρ' a' w' R' => ?_
    refine rj hT hds rest (k + 1) xs.tail _ S1 ps1 ρ' a' w' (fun j => ?_) ?_ he p2 hQ
    ·have := hl (j + 1); simp only [List.getElem?_cons_succ] at this; rw [this]; congr 1; omega
    ·unfold bH; rw [mh, gG]; exact R'
   ·cases e
  ·cases e
theorem MS {c : Cx} {tt : TT} (hT : bb c.P tt) {id : Nat} {ops : List Oper} (hds : cE ops c.nt = true) {xs : List Hi} {S S' : St} {ps : List Prop} (e : cI c.P tt ops ops xs S = some (S', ps)) (hp : dx ps) {ρ : Ren} {a : Act} {w : World} (R : bH c ρ S a w) {Q : Exit → Act → World → Prop}
  (hQ : ∀ ρ' a' w', bH c ρ' S' a' w' → Q .normal a' w') : (Code.region id ops.toArray false).wp c.P Q a w := by
 refine wp_region ?_
 have := rj hT hds ops 0 xs S S' ps ρ a w (fun j => by simp) R e hp hQ
 simpa [List.range_eq_range'] using this
abbrev OE := Oper × Option aT
def FT (E : Nat → Bool) : List OE → Nat → Tm → Tm
 | [], _, tm => tm
 | (o, e) :: r, j, tm => FT E r (j + 1) (if E j then bG tm o.dst (dL e) else tm)
def FH (E : Nat → Bool) : List OE → Nat → Hp → Hp
 | [], _, h => h
 | (_, e) :: r, j, h => FH E r (j + 1) (if E j then aQ h (cy e) else h)
def GT (W : List (Nat × Option az)) (id : Nat) : Bool := W.any fun p => Nat.beq p.1 id
theorem rk {W : List (Nat × Option az)} {id : Nat} (h : Hp) (k : GT W id = false) : aQ h W id = h id := by
 induction W with
 | nil => rfl
 | cons p W ih =>
  obtain ⟨i, b⟩ := p
  simp only [GT, List.any_cons, Bool.or_eq_false_iff] at k
  simp only [aQ]
  rw [if_neg (fun e => by subst e; simp at k)]
  exact ih k.2
theorem vY {W : List (Nat × Option az)} {id : Nat} (h h' : Hp) (k : GT W id = true) : aQ h W id = aQ h' W id := by
 induction W with
 | nil => cases k
 | cons p W ih =>
  obtain ⟨i, b⟩ := p
  simp only [aQ]
  by_cases e : i = id
  ·simp [e]
  ·rw [if_neg e, if_neg e]
   refine ih ?_
   have e' : Nat.beq i id = false := by simpa [← Nat.beq_eq] using e
   simpa [GT, e'] using k
section
variable {E F : Nat → Bool}
theorem gO {t : Nat} : ∀ (l : List OE) (j : Nat) (tm tm' : Tm), tm t = tm' t → (∀ m o e, l[m]? = some (o, e) → o.dst = some t → E (j + m) = F (j + m)) → FT E l j tm t = FT F l j tm' t
 | [], j, tm, tm', h, _ => h
 | (o, e) :: r, j, tm, tm', h, hw => by
  simp only [FT]
  refine gO r (j + 1) _ _ ?_ (fun m o' e' hm hd => by have := hw (m + 1) o' e' (by simpa using hm) hd; rwa [show j + (m + 1) = j + 1 + m by omega] at this)
  by_cases hd : o.dst = some t
  ·have := hw 0 o e (by simp) hd
   simp only [Nat.add_zero] at this
   rw [this]
   split
   ·simp [bG, hd]
   ·exact h
  ·have h1 : ∀ (b : Bool) (u : Tm), (if b then bG u o.dst (dL e) else u) t = u t := fun b u => by
    cases b
    ·rfl
    ·simp only [if_true, bG]; rw [if_neg (fun x => hd x.symm)]
   rw [h1, h1]; exact h
theorem gP {id : Nat} : ∀ (l : List OE) (j : Nat) (h h' : Hp), h id = h' id → (∀ m o e, l[m]? = some (o, e) → GT (cy e) id = true → E (j + m) = F (j + m)) → FH E l j h id = FH F l j h' id
 | [], j, h, h', hh, _ => hh
 | (o, e) :: r, j, h, h', hh, hw => by
  simp only [FH]
  refine gP r (j + 1) _ _ ?_ (fun m o' e' hm hd => by have := hw (m + 1) o' e' (by simpa using hm) hd; rwa [show j + (m + 1) = j + 1 + m by omega] at this)
  cases hd : GT (cy e) id with
  | true =>
   have := hw 0 o e (by simp) hd
   simp only [Nat.add_zero] at this
   rw [this]
   split
   ·exact vY _ _ hd
   ·exact hh
  | false =>
   have h1 : ∀ (b : Bool) (u : Hp), (if b then aQ u (cy e) else u) id = u id := fun b u => by
    cases b
    ·rfl
    ·exact rk _ hd
   rw [h1, h1]; exact hh
theorem wx {t i : Nat} {o : Oper} {e : Option aT} : ∀ (l : List OE) (j : Nat) (tm : Tm), l[i]? = some (o, e) → o.dst = some t → E (j + i) = true → (∀ m o' e', i < m → l[m]? = some (o', e') → o'.dst = some t → E (j + m) = false) → FT E l j tm t = dL e
 | [], _, _, h, _, _, _ => by simp at h
 | (o1, e1) :: r, j, tm, h, hd, hE, hw => by
  cases i with
  | zero =>
   simp at h
   obtain ⟨rfl, rfl⟩ := h
   simp only [FT]
   simp only [Nat.add_zero] at hE
   rw [hE, if_pos rfl]
   have h2 : FT E r (j + 1) (bG tm o1.dst (dL e1)) t = FT (fun _ => false) r (j + 1) (bG tm o1.dst (dL e1)) t :=
    gO r (j + 1) _ _ rfl (fun m o' e' hm hd' => by have := hw (m + 1) o' e' (by omega) (by simpa using hm) hd'; rwa [show j + (m + 1) = j + 1 + m by omega] at this)
   have h3 : ∀ (r : List OE) (j : Nat) (u : Tm), FT (fun _ => false) r j u = u := by
    intro r
    induction r with
    | nil => intro j u; rfl
    | cons p r ih => intro j u; obtain ⟨a, b⟩ := p; simp only [FT]; exact ih _ _
   rw [h2, h3]; simp [bG, hd]
  | succ i =>
   simp only [FT]
   exact wx r (j + 1) _ (by simpa using h) hd (by rw [← hE]; congr 1; omega) (fun m o' e' hm hl hd' => by have := hw (m + 1) o' e' (by omega) (by simpa using hl) hd'; rwa [show j + (m + 1) = j + 1 + m by omega] at this)
theorem wy {id i : Nat} {o : Oper} {e : Option aT} : ∀ (l : List OE) (j : Nat) (h : Hp), l[i]? = some (o, e) → GT (cy e) id = true → E (j + i) = true → (∀ m o' e', i < m → l[m]? = some (o', e') → GT (cy e') id = true → E (j + m) = false) → ∀ h0 : Hp, FH E l j h id = aQ h0 (cy e) id
 | [], _, _, h, _, _, _, _ => by simp at h
 | (o1, e1) :: r, j, h, hl, hd, hE, hw, h0 => by
  cases i with
  | zero =>
   simp at hl
   obtain ⟨rfl, rfl⟩ := hl
   simp only [FH]
   simp only [Nat.add_zero] at hE
   rw [hE, if_pos rfl]
   have h2 : FH E r (j + 1) (aQ h (cy e1)) id = FH (fun _ => false) r (j + 1) (aQ h (cy e1)) id :=
    gP r (j + 1) _ _ rfl (fun m o' e' hm hd' => by have := hw (m + 1) o' e' (by omega) (by simpa using hm) hd'; rwa [show j + (m + 1) = j + 1 + m by omega] at this)
   have h3 : ∀ (r : List OE) (j : Nat) (u : Hp), FH (fun _ => false) r j u = u := by
    intro r
    induction r with
    | nil => intro j u; rfl
    | cons p r ih => intro j u; obtain ⟨a, b⟩ := p; simp only [FH]; exact ih _ _
   rw [h2, h3]; exact vY _ _ hd
  | succ i =>
   simp only [FH]
   exact wy r (j + 1) _ (by simpa using hl) hd (by rw [← hE]; congr 1; omega) (fun m o' e' hm hl hd' => by have := hw (m + 1) o' e' (by omega) (by simpa using hl) hd'; rwa [show j + (m + 1) = j + 1 + m by omega] at this) h0
theorem AL {i : Nat} {o : Oper} {e : Option aT} {l : List OE} {tm : Tm} (hi : l[i]? = some (o, e)) (hE : E i = false) (hF : ∀ m, F m = (E m || Nat.beq m i)) (hw : ∀ m o' e' t, i < m → l[m]? = some (o', e') → o'.dst = some t → o.dst = some t → E m = false) :
  FT F l 0 tm = bG (FT E l 0 tm) o.dst (dL e) := by
 funext t
 by_cases hd : o.dst = some t
 ·rw [wx l 0 tm hi hd (by rw [hF]; simp) (fun m o' e' hm hl hd' => by
   rw [Gg, hF, hw m o' e' t hm hl hd' hd]
   have : Nat.beq m i = false := by simpa [← Nat.beq_eq] using (by omega : m ≠ i)
   simp [this])]
  simp [bG, hd]
 ·rw [bG, if_neg (fun x => hd x.symm)]
  refine gO l 0 _ _ rfl fun m o' e' hm hd' => ?_
  rw [Gg, hF]
  have : m ≠ i := fun x => by subst x; rw [hi] at hm; injection hm with hm; injection hm with h1 _; subst h1; exact hd hd'
  have : Nat.beq m i = false := by simpa [← Nat.beq_eq] using this
  simp [this]
theorem AM {i : Nat} {o : Oper} {e : Option aT} {l : List OE} {h : Hp} (hi : l[i]? = some (o, e)) (hE : E i = false) (hF : ∀ m, F m = (E m || Nat.beq m i)) (hw : ∀ m o' e' id, i < m → l[m]? = some (o', e') → GT (cy e') id = true → GT (cy e) id = true → E m = false) :
  FH F l 0 h = aQ (FH E l 0 h) (cy e) := by
 funext id
 cases hd : GT (cy e) id with
 | true =>
  exact wy l 0 h hi hd (by rw [hF]; simp) (fun m o' e' hm hl hd' => by
   rw [Gg, hF, hw m o' e' id hm hl hd' hd]
   have : Nat.beq m i = false := by simpa [← Nat.beq_eq] using (by omega : m ≠ i)
   simp [this]) _
 | false =>
  rw [rk _ hd]
  refine gP l 0 _ _ rfl fun m o' e' hm hd' => ?_
  rw [Gg, hF]
  have : m ≠ i := fun x => by subst x; rw [hi] at hm; injection hm with hm; injection hm with _ h1; subst h1; rw [hd] at hd'; cases hd'
  have : Nat.beq m i = false := by simpa [← Nat.beq_eq] using this
  simp [this]
end
theorem r6 {E : Nat → Bool} (h : ∀ i, E i = false) : ∀ (r : List OE) (j : Nat) (u : Tm), FT E r j u = u
 | [], j, u => rfl
 | (o, e) :: r, j, u => by
  have := h j
  simp only [FT, this]
  exact r6 h r _ _
theorem r7 {E : Nat → Bool} (h : ∀ i, E i = false) : ∀ (r : List OE) (j : Nat) (u : Hp), FH E r j u = u
 | [], j, u => rfl
 | (o, e) :: r, j, u => by
  have := h j
  simp only [FH, this]
  exact r7 h r _ _
def LT (E : Nat → Bool) : List OE → Nat → List (Nat × AV) → List (Nat × AV)
 | [], _, l => l
 | (o, e) :: r, j, l => LT E r (j + 1) (bif E j then fV l o.dst (dL e) else l)
def LH (E : Nat → Bool) : List OE → Nat → List (Nat × az) → List (Nat × az)
 | [], _, l => l
 | (_, e) :: r, j, l => LH E r (j + 1) (bif E j then fu l (cy e) else l)
theorem JK (E : Nat → Bool) : ∀ (l : List OE) (j : Nat) (s : List (Nat × AV)), look (LT E l j s) = FT E l j (look s)
 | [], j, s => rfl
 | (o, e) :: r, j, s => by
  simp only [LT, FT]
  rw [JK E r (j + 1)]
  cases E j
  ·rfl
  ·simp only [cond_true, mh]; rfl
theorem m5 (E : Nat → Bool) : ∀ (l : List OE) (j : Nat) (s : List (Nat × az)), look (LH E l j s) = FH E l j (look s)
 | [], j, s => rfl
 | (o, e) :: r, j, s => by
  simp only [LH, FH]
  rw [m5 E r (j + 1)]
  cases E j
  ·rfl
  ·simp only [cond_true, gG]; rfl
def dD {α : Type} (p : Nat → Bool) : List (Nat × α) → List (Nat × α)
 | [] => []
 | (k, v) :: l => bif p k then (k, v) :: dD p l else dD p l
theorem fc {α : Type} (p : Nat → Bool) : ∀ (l : List (Nat × α)) (i : Nat), look (dD p l) i = if p i then look l i else none
 | [], i => by simp [dD, look]
 | (k, v) :: l, i => by
  simp only [dD]
  cases h : p k with
  | true =>
   simp only [cond_true, bo, fc p l i]
   by_cases e : k = i
   ·subst e; simp [h]
   ·simp [e]
  | false =>
   simp only [cond_false, bo, fc p l i]
   by_cases e : k = i
   ·subst e; simp [h]
   ·simp [e]
def bP (masks : List Nat) (j i : Nat) : Bool := (masks.getD j 0).testBit i
def fp (masks : List Nat) : List Edge → Nat
 | [] => 0
 | e :: l => bif Region.binds .any e then (2 ^ e.on ||| masks.getD e.on 0) ||| fp masks l else fp masks l
def Cu (i : Nat) (l : List Edge) : Bool := l.all fun e => !Region.binds .any e || Nat.blt e.on i
def na (masks : List Nat) : List Oper → Nat → Bool
 | [], _ => true
 | o :: l, i => Cu i o.after.toList && Nat.beq (masks.getD i 0) (fp masks o.after.toList) && na masks l (i + 1)
def P4 (masks : List Nat) (ops : List Oper) (i t : Nat) : Bool := (ops.zipIdx).all fun p => match p.1.dst with
 | some d => !Nat.beq d t || Nat.beq p.2 i || bP masks i p.2 || bP masks p.2 i
 | none => true
def P5 (masks : List Nat) (wk : List (List Nat)) (i id : Nat) : Bool := (wk.zipIdx).all fun p => !p.1.contains id || Nat.beq p.2 i || bP masks i p.2 || bP masks p.2 i
def CG (masks : List Nat) (ops : List Oper) : Bool := (ops.zipIdx).all fun p => (ops.zipIdx).all fun q => match p.1.dst, q.1.dst with
 | some d, some t => !Nat.beq d t || Nat.ble q.2 p.2 || bP masks q.2 p.2
 | _, _ => true
def CH (masks : List Nat) (wk : List (List Nat)) : Bool := (wk.zipIdx).all fun p => (wk.zipIdx).all fun q => Nat.ble q.2 p.2 || bP masks q.2 p.2 || p.1.all fun x => !q.1.contains x
def jJ (P : Program) (tt : TT) (ops : List Oper) (masks : List Nat) (wk : List (List Nat)) (S : St) : List Oper → Nat → List Hi → List OE → Nat → Option (List OE × Nat)
 | [], _, _, acc, nid => some (acc, nid)
 | o :: rest, i, xs, acc, nid =>
  let x := xs.headD {}
  match eL P tt ops (look (dD (P4 masks ops i) (LT (bP masks i) acc 0 S.tm))) (look (dD (P5 masks wk i) (LH (bP masks i) acc 0 S.h))) o nid x with
  | some r => if (cy r).all fun p => (wk.getD i []).contains p.1 then jJ P tt ops masks wk S rest (i + 1) xs.tail (acc ++ [(o, r)]) (nid + x.cnt) else none
  | none => none
def nq : Nat → Bool := fun _ => true
def fj (P : Program) (tt : TT) (ops : List Oper) (masks : List Nat) (wk : List (List Nat)) (xs : List Hi) (S : St) : Option (St × List Prop) :=
 if na masks ops 0 && Nat.beq wk.length ops.length && Nat.beq masks.length ops.length && CG masks ops && CH masks wk then
  match jJ P tt ops masks wk S ops 0 xs [] S.n with
  | some (l, n) => some (⟨LT nq l 0 S.tm, LH nq l 0 S.h, n⟩, l.map fun p => hP p.2)
  | none => none
 else none
def di (n : Nat) : List Hi → Nat → Nat
 | _, 0 => n
 | xs, i + 1 => di (n + (xs.headD {}).cnt) xs.tail i
theorem gH : ∀ (i n : Nat) (xs : List Hi), di n xs (i + 1) = di n xs i + (xs.getD i {}).cnt
 | 0, n, xs => by cases xs <;> simp [di]
 | i + 1, n, xs => by
  rw [di, gH i]
  cases xs <;> simp [di]
theorem jD (n : Nat) (xs : List Hi) : ∀ {i j : Nat}, i ≤ j → di n xs i ≤ di n xs j := by
  intro i j h
  induction j with
  | zero => have : i = 0 := by omega
            subst this; exact F9 _
  | succ j ih =>
    rcases Gi i (j + 1) with h1 | h1
    · have := ih (by omega); rw [gH]; omega
    · have : i = j + 1 := by omega
      subst this; exact F9 _
theorem qE {P : Program} {tt : TT} {ops : List Oper} {masks : List Nat} {wk : List (List Nat)} {S : St} : ∀ (rest : List Oper) (i : Nat) (xs : List Hi) (acc : List OE) (nid : Nat) (l : List OE) (n : Nat), acc.length = i → jJ P tt ops masks wk S rest i xs acc nid = some (l, n) →
  n = di nid xs rest.length ∧ l.take i = acc ∧ l.length = i + rest.length ∧ ∀ m o, rest[m]? = some o → ∃ r, l[i + m]? = some (o, r) ∧
   eL P tt ops (look (dD (P4 masks ops (i + m)) (LT (bP masks (i + m)) (l.take (i + m)) 0 S.tm))) (look (dD (P5 masks wk (i + m)) (LH (bP masks (i + m)) (l.take (i + m)) 0 S.h))) o (di nid xs m) (xs.getD m {}) = some r ∧ ∀ id, GT (cy r) id = true → id ∈ wk.getD (i + m) []
 | [], i, xs, acc, nid, l, n, ha, e => by
  simp only [jJ, FL, FV] at e
  obtain ⟨rfl, rfl⟩ := e
  exact ⟨rfl, by rw [Gk (by omega)], by simp [ha], fun m o hm => by simp at hm⟩
 | o :: rest, i, xs, acc, nid, l, n, ha, e => by
  simp only [jJ] at e
  split at e
  ·rename_i r hr
   split at e
   ·rename_i hk
    obtain ⟨h1, h2, h3, h4⟩ := qE rest (i + 1) xs.tail (acc ++ [(o, r)]) _ l n (by simp [ha]) e
    have htake : l.take i = acc := by
     have := congrArg (List.take i) h2
     rw [List.take_take, Nat.min_eq_left (by omega), List.take_append_of_le_length (by omega), Gk (by omega : acc.length ≤ i)] at this
     exact this
    have hli : l[i]? = some (o, r) := by
     have := congrArg (fun x => x[i]?) h2
     simp only [List.getElem?_take, List.getElem?_append] at this
     rw [if_pos (by omega), if_neg (by omega)] at this
     rw [this]; simp [ha]
    refine ⟨by rw [h1]; simp [di], htake, by rw [h3]; simp; omega, fun m o' hm => ?_⟩
    cases m with
    | zero =>
     simp at hm
     subst hm
     refine ⟨r, by simpa using hli, ?_, fun id hid => ?_⟩
     ·simp only [Nat.add_zero, di]
      rw [htake]
      have : xs.getD 0 ({} : Hi) = xs.headD {} := by cases xs <;> rfl
      rw [this]; exact hr
     ·simp only [GT, List.any_eq_true] at hid
      obtain ⟨p, hp, hpe⟩ := hid
      have := FX.1 hk p hp
      have hpi : p.1 = id := Nat.eq_of_beq_eq_true hpe
      rw [hpi] at this
      simpa using this
    | succ m =>
     obtain ⟨r', k1, k2, k3⟩ := h4 m o' (by simpa using hm)
     have e1 : i + 1 + m = i + (m + 1) := by omega
     rw [e1] at k1 k2 k3
     refine ⟨r', k1, ?_, k3⟩
     have e2 : di nid xs (m + 1) = di (nid + (xs.headD {}).cnt) xs.tail m := rfl
     have e3 : xs.getD (m + 1) ({} : Hi) = xs.tail.getD m {} := by cases xs <;> simp
     rw [e2, e3]; exact k2
   ·cases e
  ·cases e
theorem mi {masks : List Nat} : ∀ {l : List Edge} {k : Nat}, (fp masks l).testBit k = true → ∃ e ∈ l, Region.binds .any e = true ∧ (k = e.on ∨ bP masks e.on k = true)
 | [], k, h => by simp [fp] at h
 | e :: l, k, h => by
  simp only [fp] at h
  cases hb : Region.binds .any e with
  | true =>
   simp only [hb, cond_true, Nat.testBit_or, Bool.or_eq_true] at h
   rcases h with (h | h) | h
   ·rw [Nat.testBit_two_pow] at h
    exact ⟨e, by simp, hb, .inl (by simpa using h : e.on = k).symm⟩
   ·exact ⟨e, by simp, hb, .inr h⟩
   ·obtain ⟨e', h1, h2, h3⟩ := mi h
    exact ⟨e', by simp [h1], h2, h3⟩
  | false =>
   simp only [hb, cond_false] at h
   obtain ⟨e', h1, h2, h3⟩ := mi h
   exact ⟨e', by simp [h1], h2, h3⟩
theorem uT {masks : List Nat} : ∀ {l : List Oper} {i : Nat}, na masks l i = true → ∀ m o, l[m]? = some o → (∀ e ∈ o.after.toList, Region.binds .any e = true → e.on < i + m) ∧ masks.getD (i + m) 0 = fp masks o.after.toList
 | [], i, _, m, o, hm => by simp at hm
 | p :: l, i, h, m, o, hm => by
  simp only [na, FY] at h
  cases m with
  | zero =>
   simp at hm
   subst hm
   refine ⟨fun e he hb => ?_, Nat.eq_of_beq_eq_true h.1.2⟩
   have := FX.1 h.1.1 e he
   simp [hb] at this
   simpa using this
  | succ m =>
   have := uT h.2 m o (by simpa using hm)
   rw [show i + 1 + m = i + (m + 1) by omega] at this
   exact this
theorem eD {ls : Array Bool} {i : Nat} (hi : i < ls.size) (m : Nat) : (ls.setIfInBounds i true).getD m false = (ls.getD m false || Nat.beq m i) := by
 by_cases h : m = i
 ·subst h; simp [Gc, hi]
 ·have h2 : Nat.beq m i = false := by simpa [← Nat.beq_eq] using h
  simp only [Gc, Array.getElem?_setIfInBounds_ne (Ne.symm h), h2, Bool.or_false]
def du (ls : Array Bool) (n : Nat) : Nat := (List.range n).countP fun i => !ls.getD i false
theorem rm : ∀ (n i : Nat) (ls : Array Bool), i < n → i < ls.size → ls.getD i false = false → du (ls.setIfInBounds i true) n + 1 = du ls n
 | 0, _, _, h, _, _ => by omega
 | n + 1, i, ls, h, hs, hu => by
  unfold du
  rw [List.range_succ, List.countP_append, List.countP_append]
  by_cases hin : i = n
  ·subst hin
   have h1 : (List.range i).countP (fun j => !(ls.setIfInBounds i true).getD j false) = (List.range i).countP fun j => !ls.getD j false :=
    List.countP_congr fun j hj => by
     have : Nat.beq j i = false := by simpa [← Nat.beq_eq] using (by have := List.mem_range.1 hj; omega : j ≠ i)
     rw [eD hs, this, Bool.or_false]
   rw [h1, List.countP_singleton, List.countP_singleton, eD hs, hu]
   simp
  ·have := rm n i ls (by omega) hs hu
   unfold du at this
   have h2 : Nat.beq n i = false := by simpa [← Nat.beq_eq] using (by omega : n ≠ i)
   rw [List.countP_singleton, List.countP_singleton, eD hs, h2, Bool.or_false]
   omega
theorem vf {n : Nat} {ls : Array Bool} (h : du ls n = 0) : ∀ i, i < n → ls.getD i false = true := fun i hi => by
 unfold du at h
 rw [List.countP_eq_zero] at h
 simpa using h i (List.mem_range.2 hi)
theorem mj {ops : Array Oper} {ls : Array Bool} {i : Nat} (h : i ∈ Region.ready .any ops ls) (hs : ls.size = ops.size) : i < ops.size ∧ ls.getD i false = false ∧ ∃ o, ops[i]? = some o ∧ ∀ e ∈ o.after.toList, Region.binds .any e = true → ls.getD e.on false = true := by
 unfold Region.ready at h
 obtain ⟨h1, h2⟩ := List.mem_filter.1 h
 have hi := List.mem_range.1 h1
 simp only [FY] at h2
 obtain ⟨h2, h3⟩ := h2
 have ho : ops[i]? = some ops[i] := by simp [hi]
 refine ⟨hi, ?_, _, ho, fun e he hb => ?_⟩
 ·have : i < ls.size := by omega
  simp [Gc, this] at h2 ⊢
  exact h2
 ·rw [ho] at h3
  simp only [Option.map_some, Option.getD_some] at h3
  rw [← Array.all_toList] at h3
  have := FX.1 h3 e he
  simpa [hb] using this
theorem zS {c : Cx} {tt : TT} (hT : bb c.P tt) (hm : c.P.follows .mixedOrders = true) {id : Nat} {ops : List Oper} (hds : cE ops c.nt = true) {masks : List Nat} {wk : List (List Nat)} {xs : List Hi} {S S' : St} {ps : List Prop} (e : fj c.P tt ops masks wk xs S = some (S', ps)) (hp : dx ps) {ρ : Ren} {a : Act} {w : World} (R : bH c ρ S a w) {Q : Exit → Act → World → Prop}
  (hQ : ∀ ρ' a' w', bH c ρ' S' a' w' → Q .normal a' w') : (Code.region id ops.toArray true).wp c.P Q a w := by
 unfold fj at e
 split at e
 ·rename_i hB
  simp only [FY] at hB
  obtain ⟨⟨⟨⟨b1, b2⟩, b3⟩, b4⟩, b5⟩ := hB
  split at e
  ·rename_i l n hgo
   simp only [FL, FV] at e
   obtain ⟨rfl, rfl⟩ := e
   obtain ⟨g1, g2, g3, g4⟩ := qE ops 0 xs [] S.n l n rfl hgo
   simp only [Gg] at g3 g4
   have hops : ∀ i o, ops[i]? = some o → ∃ r, l[i]? = some (o, r) := fun i o ho => let ⟨r, h, _⟩ := g4 i o ho; ⟨r, h⟩
   have hl : ∀ i o r, l[i]? = some (o, r) → ops[i]? = some o := fun i o r hi => by
    have hlt : i < ops.length := by
     rw [← g3]
     rcases Gi i l.length with h' | h'
     ·exact h'
     ·rw [FK h'] at hi; cases hi
    obtain ⟨r', h'⟩ := hops i _ (FJ hlt)
    rw [hi] at h'
    injection h' with h'
    injection h' with h1 _
    rw [FJ hlt, h1]
   have hmask := fun m o ho => uT b1 m o ho
   simp only [Gg] at hmask
   have hlow : ∀ i, i < ops.length → ∀ k, bP masks i k = true → k < i := by
    intro i
    induction i using Nat.strongRecOn with
    | _ i ih =>
     intro hi k hk
     have ho := FJ hi
     obtain ⟨m1, m2⟩ := hmask i _ ho
     unfold bP at hk
     rw [m2] at hk
     obtain ⟨ed, h1, h2, h3⟩ := mi hk
     have := m1 ed h1 h2
     rcases h3 with h3 | h3
     ·omega
     ·have := ih ed.on this (by omega) k h3; omega
   have hclosed : ∀ (ls : Array Bool), (∀ i, ls.getD i false = true → ∀ k, bP masks i k = true → ls.getD k false = true) → ∀ i o, ops[i]? = some o → (∀ ed ∈ o.after.toList, Region.binds .any ed = true → ls.getD ed.on false = true) → ∀ k, bP masks i k = true → ls.getD k false = true := fun ls hc i o ho hr k hk => by
    obtain ⟨m1, m2⟩ := hmask i _ ho
    unfold bP at hk
    rw [m2] at hk
    obtain ⟨ed, h1, h2, h3⟩ := mi hk
    have hed := hr ed h1 h2
    rcases h3 with h3 | h3
    ·rw [h3]; exact hed
    ·exact hc ed.on hed k h3
   let usedE : Array Bool → Nat → Prop := fun ls id => id < S.n ∨ ∃ i, ls.getD i false = true ∧ i < ops.length ∧ di S.n xs i ≤ id ∧ id < di S.n xs i + (xs.getD i {}).cnt
   refine wp_region_any hm ?_
   have main : ∀ (f : Nat) (ls : Array Bool) (a : Act) (w : World), du ls ops.length = f → ls.size = ops.length → (∀ i, ls.getD i false = true → ∀ k, bP masks i k = true → ls.getD k false = true) →
     (∃ ρ, aI c.base c.X c.nt (usedE ls) ρ (FT (fun i => ls.getD i false) l 0 (look S.tm)) (FH (fun i => ls.getD i false) l 0 (look S.h)) a w) → wpAny c.P .any ops.toArray Q f ls a w := by
    intro f
    induction f with
    | zero =>
     rintro ls a w hf hs hc ⟨ρ, R⟩
     have hall := vf hf
     refine ⟨?_, hQ ρ a w ?_⟩
     ·cases hr : Region.ready .any ops.toArray ls with
      | nil => rfl
      | cons i r =>
       have := mj (i := i) (by rw [hr]; simp) (by simpa using hs)
       rw [hall i (by simpa using this.1)] at this
       cases this.2.1
     ·unfold bH
      rw [JK, m5]
      have e1 : FT nq l 0 (look S.tm) = FT (fun i => ls.getD i false) l 0 (look S.tm) := by
       funext t
       refine gO l 0 _ _ rfl fun m o ee hm _ => ?_
       rw [Gg]
       refine (hall m ?_).symm
       rw [← g3]
       rcases Gi m l.length with h' | h'
       ·exact h'
       ·rw [FK h'] at hm; cases hm
      have e2 : FH nq l 0 (look S.h) = FH (fun i => ls.getD i false) l 0 (look S.h) := by
       funext t
       refine gP l 0 _ _ rfl fun m o ee hm _ => ?_
       rw [Gg]
       refine (hall m ?_).symm
       rw [← g3]
       rcases Gi m l.length with h' | h'
       ·exact h'
       ·rw [FK h'] at hm; cases hm
      rw [e1, e2]
      refine R.used_mono fun id hid => ?_
      rw [g1]
      rcases hid with hid | ⟨i, _, hi, _, h2⟩
      ·exact Gb hid (jD S.n xs (Nat.zero_le _))
      ·refine Gb h2 ?_
       rw [← gH]
       exact jD S.n xs hi
    | succ f ih =>
     rintro ls a w hf hs hc ⟨ρ, R⟩
     refine ⟨fun h0 => ?_, fun i hi => ?_⟩
     ·exfalso
      have hex : ∃ i, i < ops.length ∧ ls.getD i false = false := by
       have hpos : 0 < du ls ops.length := by omega
       unfold du at hpos
       obtain ⟨i, hi, hv⟩ := List.countP_pos_iff.1 hpos
       exact ⟨i, List.mem_range.1 hi, by simpa using hv⟩
      obtain ⟨i, hi, hv⟩ := hex
      induction i using Nat.strongRecOn with
      | _ i ih2 =>
       by_cases hlow' : ∃ j, j < i ∧ ls.getD j false = false
       ·obtain ⟨j, hj, hjv⟩ := hlow'
        exact ih2 j hj (by omega) hjv
       ·have : i ∈ Region.ready .any ops.toArray ls := by
         unfold Region.ready
         refine List.mem_filter.2 ⟨List.mem_range.2 (by simpa using hi), ?_⟩
         have his : i < ls.size := by omega
         have ho : ops.toArray[i]? = some ops[i] := by simp [hi]
         rw [ho]
         simp only [Option.map_some, Option.getD_some, FY]
         refine ⟨by simp [Gc, his] at hv ⊢; exact hv, ?_⟩
         rw [← Array.all_toList, FX]
         intro ed hed
         cases hb : Region.binds .any ed with
         | false => rfl
         | true =>
          have hlt := (hmask i _ (FJ hi)).1 ed hed hb
          cases hv' : ls.getD ed.on false with
          | true => rfl
          | false => exact absurd ⟨ed.on, hlt, hv'⟩ hlow'
        rw [h0] at this
        cases this
     ·obtain ⟨r1, r2, o, r3, r4⟩ := mj hi (by simpa using hs)
      have hio : ops[i]? = some o := by simpa using r3
      have hil : i < ops.length := by simpa using r1
      obtain ⟨r, q1, q2, q3⟩ := g4 i o hio
      have hD := hclosed ls hc i o hio r4
      have hnotin : ∀ j, bP masks j i = true → ls.getD j false = false := fun j hj => by
       cases hv : ls.getD j false with
       | false => rfl
       | true => have := hc j hv i hj; rw [r2] at this; cases this
      have L : Le (look (dD (P4 masks ops i) (LT (bP masks i) (l.take i) 0 S.tm))) (FT (fun i => ls.getD i false) l 0 (look S.tm)) (look (dD (P5 masks wk i) (LH (bP masks i) (l.take i) 0 S.h))) (FH (fun i => ls.getD i false) l 0 (look S.h)) := by
       have ext1 : ∀ (r : List OE) (j : Nat) (u : Tm) (t : Nat), FT (bP masks i) r j u t = FT (bP masks i) (r.take (i - j)) j u t := by
        intro r
        induction r with
        | nil => intro j u t; simp
        | cons p r ih3 =>
         obtain ⟨o1, e1⟩ := p
         intro j u t
         rcases Gi j i with h' | h'
         ·rw [show i - j = (i - (j + 1)) + 1 by omega, List.take_succ_cons]
          simp only [FT]
          exact ih3 _ _ _
         ·rw [show i - j = 0 by omega, List.take_zero]
          have : ∀ (r : List OE) (k : Nat) (u : Tm), i ≤ k → FT (bP masks i) r k u = u := by
           intro r
           induction r with
           | nil => intro k u _; rfl
           | cons p r ih4 =>
            obtain ⟨o2, e2⟩ := p
            intro k u hk
            have : bP masks i k = false := by
             cases hb : bP masks i k with
             | false => rfl
             | true => have := hlow i hil k hb; omega
            simp only [FT, this]
            exact ih4 _ _ (by omega)
          rw [this _ _ _ h']; rfl
       have ext2 : ∀ (r : List OE) (j : Nat) (u : Hp) (t : Nat), FH (bP masks i) r j u t = FH (bP masks i) (r.take (i - j)) j u t := by
        intro r
        induction r with
        | nil => intro j u t; simp
        | cons p r ih3 =>
         obtain ⟨o1, e1⟩ := p
         intro j u t
         rcases Gi j i with h' | h'
         ·rw [show i - j = (i - (j + 1)) + 1 by omega, List.take_succ_cons]
          simp only [FH]
          exact ih3 _ _ _
         ·rw [show i - j = 0 by omega, List.take_zero]
          have : ∀ (r : List OE) (k : Nat) (u : Hp), i ≤ k → FH (bP masks i) r k u = u := by
           intro r
           induction r with
           | nil => intro k u _; rfl
           | cons p r ih4 =>
            obtain ⟨o2, e2⟩ := p
            intro k u hk
            have : bP masks i k = false := by
             cases hb : bP masks i k with
             | false => rfl
             | true => have := hlow i hil k hb; omega
            simp only [FH, this]
            exact ih4 _ _ (by omega)
          rw [this _ _ _ h']; rfl
       refine ⟨fun t v ht => ?_, fun k v hk => ?_⟩
       ·rw [fc] at ht
        split at ht
        ·rename_i hsee
         rw [JK] at ht
         rw [← ht]
         have e0 := ext1 l 0 (look S.tm) t
         rw [Nat.sub_zero] at e0
         rw [← e0]
         refine gO l 0 _ _ rfl fun m o' e' hm hd => ?_
         rw [Gg]
         have hm' := hl m o' e' hm
         have hz : (o', m) ∈ ops.zipIdx := by
          rw [List.mem_iff_getElem?]
          exact ⟨m, by simp [hm']⟩
         have := FX.1 hsee (o', m) hz
         simp only [hd, Nat.beq_refl, Bool.not_true, Bool.false_or, Bool.or_eq_true] at this
         rcases this with (h1 | h1) | h1
         ·have : m = i := Nat.eq_of_beq_eq_true h1
          subst this
          rw [r2]
          cases hb : bP masks m m with
          | false => rfl
          | true => have := hlow m hil m hb; omega
         ·rw [h1]; exact hD m h1
         ·rw [hnotin m h1]
          cases hb : bP masks i m with
          | false => rfl
          | true => have := hD m hb; rw [hnotin m h1] at this; cases this
        ·cases ht
       ·rw [fc] at hk
        split at hk
        ·rename_i hsee
         rw [m5] at hk
         rw [← hk]
         have e0 := ext2 l 0 (look S.h) k
         rw [Nat.sub_zero] at e0
         rw [← e0]
         refine gP l 0 _ _ rfl fun m o' e' hm hd => ?_
         rw [Gg]
         have hm' := hl m o' e' hm
         obtain ⟨r', k1, _, k3⟩ := g4 m o' hm'
         rw [hm] at k1
         injection k1 with k1
         injection k1 with _ k1
         subst k1
         have hwk := k3 k hd
         have hmw : m < wk.length := by
          rcases Gi m wk.length with h' | h'
          ·exact h'
          ·rw [FI, FK h'] at hwk; simp at hwk
         have hz : (wk[m], m) ∈ wk.zipIdx := by
          rw [List.mem_iff_getElem?]
          exact ⟨m, by simp [hmw]⟩
         have hwk' : k ∈ wk[m] := by rw [FI, FJ hmw] at hwk; exact hwk
         have := FX.1 hsee (wk[m], m) hz
         have hcon : wk[m].contains k = true := by simpa using hwk'
         simp only [hcon, Bool.not_true, Bool.false_or, Bool.or_eq_true] at this
         rcases this with (h1 | h1) | h1
         ·have : m = i := Nat.eq_of_beq_eq_true h1
          subst this
          rw [r2]
          cases hb : bP masks m m with
          | false => rfl
          | true => have := hlow m hil m hb; omega
         ·rw [h1]; exact hD m h1
         ·rw [hnotin m h1]
          cases hb : bP masks i m with
          | false => rfl
          | true => have := hD m hb; rw [hnotin m h1] at this; cases this
        ·cases hk
      have q2' := Ak L q2
      have hcnt := gH i S.n xs
      have his : i < ls.size := by omega
      refine rK (used' := usedE (ls.setIfInBounds i true)) R hT (mZ hds) hio (fun id h1 h2 hu => ?_) (fun id hu => ?_) (fun id h1 h2 => .inr ⟨i, by rw [eD his]; simp, hil, h1, h2⟩) q2' ?_ (fun ρ' a' w' R' => ?_)
      ·rcases hu with hu | ⟨j, j1, j2, j3, j4⟩
       ·have := jD S.n xs (Nat.zero_le i); simp only [di] at this; omega
       ·rcases Nat.lt_trichotomy i j with h' | h' | h'
        ·have := jD S.n xs h'; rw [gH] at this; omega
        ·subst h'; rw [r2] at j1; cases j1
        ·have := jD S.n xs h'; rw [gH] at this; omega
      ·rcases hu with hu | ⟨j, j1, j2, j3, j4⟩
       ·exact .inl hu
       ·exact .inr ⟨j, by rw [eD his, j1]; rfl, j2, j3, j4⟩
      ·have : hP r ∈ l.map fun p => hP p.2 := Pz.2 ⟨(o, r), F5 q1, rfl⟩
       have hall : ∀ (ps : List Prop), dx ps → ∀ p ∈ ps, p := by
        intro ps
        induction ps with
        | nil => intro _ p hp; cases hp
        | cons x ps ih5 =>
         intro h p hp
         rcases F1.1 hp with rfl | hp
         ·exact h.1
         ·exact ih5 h.2 p hp
       exact hall _ hp _ this
      ·refine ih (ls.setIfInBounds i true) a' w' ?_ (by simpa using hs) (fun j hj k hk => ?_) ⟨ρ', ?_⟩
       ·have := rm ops.length i ls hil his r2; omega
       ·rw [eD his] at hj ⊢
        simp only [Bool.or_eq_true] at hj
        rcases hj with hj | hj
        ·rw [hc j hj k hk]; rfl
        ·have : j = i := Nat.eq_of_beq_eq_true hj
         subst this
         rw [hD k hk]; rfl
       ·have f1 : FT (fun m => (ls.setIfInBounds i true).getD m false) l 0 (look S.tm) = bG (FT (fun i => ls.getD i false) l 0 (look S.tm)) o.dst (dL r) := by
         refine AL q1 r2 (fun m => eD his m) fun m o' e' t hm hlm hd hd' => ?_
         have hm' := hl m o' e' hlm
         have z1 : (o, i) ∈ ops.zipIdx := by rw [List.mem_iff_getElem?]; exact ⟨i, by simp [hio]⟩
         have z2 : (o', m) ∈ ops.zipIdx := by rw [List.mem_iff_getElem?]; exact ⟨m, by simp [hm']⟩
         have := FX.1 (FX.1 b4 (o, i) z1) (o', m) z2
         simp only [hd, hd', Nat.beq_refl, Bool.not_true, Bool.false_or, Bool.or_eq_true] at this
         rcases this with h1 | h1
         ·have : m ≤ i := Nat.le_of_ble_eq_true h1
          omega
         ·exact hnotin m h1
        have f2 : FH (fun m => (ls.setIfInBounds i true).getD m false) l 0 (look S.h) = aQ (FH (fun i => ls.getD i false) l 0 (look S.h)) (cy r) := by
         refine AM q1 r2 (fun m => eD his m) fun m o' e' k hm hlm hd hd' => ?_
         have hm' := hl m o' e' hlm
         obtain ⟨r', k1, _, k3⟩ := g4 m o' hm'
         rw [hlm] at k1
         injection k1 with k1
         injection k1 with _ k1
         subst k1
         have w1 := k3 k hd
         have w2 := q3 k hd'
         have hlen : ∀ j, k ∈ wk.getD j [] → ∃ hj : j < wk.length, k ∈ wk[j] := fun j hj => by
          rcases Gi j wk.length with h' | h'
          ·exact ⟨h', by rw [FI, FJ h'] at hj; exact hj⟩
          ·rw [FI, FK h'] at hj; simp at hj
         obtain ⟨l1, w1⟩ := hlen m w1
         obtain ⟨l2, w2⟩ := hlen i w2
         have z1 : (wk[i], i) ∈ wk.zipIdx := by rw [List.mem_iff_getElem?]; exact ⟨i, by simp [l2]⟩
         have z2 : (wk[m], m) ∈ wk.zipIdx := by rw [List.mem_iff_getElem?]; exact ⟨m, by simp [l1]⟩
         have := FX.1 (FX.1 b5 (wk[i], i) z1) (wk[m], m) z2
         simp only [Bool.or_eq_true] at this
         rcases this with (h1 | h1) | h1
         ·have : m ≤ i := Nat.le_of_ble_eq_true h1
          omega
         ·exact hnotin m h1
         ·have := FX.1 h1 k w2
          simp [w1] at this
        rw [f1, f2]; exact R'
   have hrep : ∀ i, (Array.replicate ops.toArray.size false).getD i false = false := fun i => by
    simp only [Gc, Array.getElem?_replicate]; split <;> rfl
   have h0 : du (Array.replicate ops.toArray.size false) ops.length = ops.toArray.size := by
    unfold du
    have : ∀ m, (List.range m).countP (fun i => !(Array.replicate ops.toArray.size false).getD i false) = m := by
     intro m
     induction m with
     | zero => rfl
     | succ m ih => rw [List.range_succ, List.countP_append, ih, List.countP_singleton, hrep]; rfl
    rw [this]; simp
   refine main ops.toArray.size _ a _ h0 (by simp) (fun i hi => by rw [hrep] at hi; cases hi) ⟨ρ, ?_⟩
   rw [r6 hrep, r7 hrep]
   exact (R.upd_w (w' := { w with drawn := w.drawn + 1 }) ⟨rfl, rfl, rfl, F9 _, fun _ _ _ => rfl⟩).used_mono fun id hid => .inl hid
  ·cases e
 ·cases e
structure Fx extends Cx where
 k : Nat
 hk : ∀ id, base.ρ0 id ≠ none → id < k
def AW (c : Fx) (S : St) (code : Code) (Q : Exit → St → Prop) : Prop := ∀ ρ a w, bH c.toCx ρ S a w → code.wp c.P (fun e a' w' => ∃ S', Q e S' ∧ ∃ ρ', bH c.toCx ρ' S' a' w') a w
def Conv (c : Fx) (S S' : St) : Prop := ∀ ρ a w, bH c.toCx ρ S a w → ∃ ρ', bH c.toCx ρ' S' a w
theorem Conv.refl (c : Fx) (S : St) : Conv c S S := fun ρ _ _ R => ⟨ρ, R⟩
theorem Conv.trans {c : Fx} {S S' S'' : St} (h : Conv c S S') (k : Conv c S' S'') : Conv c S S'' := fun ρ a w R => let ⟨ρ', R'⟩ := h ρ a w R; k ρ' a w R'
namespace AW
variable {c : Fx} {S S' : St} {Q : Exit → St → Prop}
theorem mono {code : Code} {Q' : Exit → St → Prop} (h : AW c S code Q') (hq : ∀ e S, Q' e S → Q e S) : AW c S code Q := fun ρ a w R =>
 wp_mono (h ρ a w R) fun e a' w' ⟨S', q, r⟩ => ⟨S', hq e S' q, r⟩
theorem pre {code : Code} (k : Conv c S S') (h : AW c S' code Q) : AW c S code Q := fun ρ a w R => let ⟨ρ', R'⟩ := k ρ a w R; h ρ' a w R'
theorem post {code : Code} (h : AW c S code fun e S1 => ∃ S2, Conv c S1 S2 ∧ Q e S2) : AW c S code Q := fun ρ a w R =>
 wp_mono (h ρ a w R) fun e a' w' ⟨S1, ⟨S2, k, q⟩, ρ', R'⟩ => ⟨S2, q, k ρ' a' w' R'⟩
theorem skip (h : Q .normal S) : AW c S .skip Q := fun ρ a w R => wp_skip ⟨S, h, ρ, R⟩
theorem ret (h : Q .ret S) : AW c S .ret Q := fun ρ a w R => wp_ret ⟨S, h, ρ, R⟩
theorem exit {id : Nat} (h : Q (.exit id) S) : AW c S (.exit id) Q := fun ρ a w R => wp_exit ⟨S, h, ρ, R⟩
def thenQ (c : Fx) (y : Code) (Q : Exit → St → Prop) : Exit → St → Prop
 | .normal, S => AW c S y Q
 | e, S => Q e S
theorem seq {x y : Code} (h : AW c S x (thenQ c y Q)) : AW c S (.seq x y) Q := fun ρ a w R => by
 refine wp_seq (wp_mono (h ρ a w R) fun e a' w' ⟨S', q, ρ', R'⟩ => ?_)
 cases e with
 | normal => exact q ρ' a' w' R'
 | _ => exact ⟨S', q, ρ', R'⟩
theorem cond_true {x : Operand} {y z : Code} (hx : ev (look S.tm) x = some (.c (.t (.v (.bool true))))) (h : AW c S y Q) : AW c S (.cond x y z) Q := fun ρ a w R => wp_cond_true (bU R hx) (h ρ a w R)
theorem cond_false {x : Operand} {y z : Code} (hx : ev (look S.tm) x = some (.c (.t (.v (.bool false))))) (h : AW c S z Q) : AW c S (.cond x y z) Q := fun ρ a w R => wp_cond_false (bU R hx) (h ρ a w R)
theorem cond {x : Operand} {y z : Code} {b : Bool} (hx : ev (look S.tm) x = some (.c (.t (.v (.bool b))))) (h1 : b = true → AW c S y Q) (h2 : b = false → AW c S z Q) : AW c S (.cond x y z) Q := fun ρ a w R => by
 cases b with
 | true => exact wp_cond_true (bU R hx) (h1 rfl ρ a w R)
 | false => exact wp_cond_false (bU R hx) (h2 rfl ρ a w R)
def inBlock (id : Nat) (Q : Exit → St → Prop) : Exit → St → Prop
 | .exit i, S => if i = id then Q .normal S else Q (.exit i) S
 | e, S => Q e S
theorem block {id : Nat} {x : Code} (h : AW c S x (inBlock id Q)) : AW c S (.block id x) Q := fun ρ a w R => by
 refine wp_block (wp_mono (h ρ a w R) fun e a' w' ⟨S', q, ρ', R'⟩ => ?_)
 cases e with
 | exit i =>
  simp only [inBlock] at q
  simp only [Exit.inBlock]
  split at q
  ·rename_i e; rw [if_pos e]; exact ⟨S', q, ρ', R'⟩
  ·rename_i e; rw [if_neg e]; exact ⟨S', q, ρ', R'⟩
 | _ => exact ⟨S', q, ρ', R'⟩
theorem region {tt : TT} (hT : bb c.P tt) {id : Nat} {ops : List Oper} {xs : List Hi} {S' : St} {ps : List Prop} (hds : cE ops c.nt = true) (e : cI c.P tt ops ops xs S = some (S', ps)) (hp : dx ps) (hQ : Q .normal S') : AW c S (.region id ops.toArray false) Q := fun ρ a w R =>
 MS hT hds e hp R fun ρ' a' w' R' => ⟨S', hQ, ρ', R'⟩
theorem regionD {tt : TT} (hT : bb c.P tt) (hm : c.P.follows .mixedOrders = true) {id : Nat} {ops : List Oper} {masks : List Nat} {wk : List (List Nat)} {xs : List Hi} {S' : St} {ps : List Prop} (hds : cE ops c.nt = true) (e : fj c.P tt ops masks wk xs S = some (S', ps)) (hp : dx ps) (hQ : Q .normal S') :
    AW c S (.region id ops.toArray true) Q := fun ρ a w R => zS hT hm hds e hp R fun ρ' a' w' R' => ⟨S', hQ, ρ', R'⟩
end AW
def da {σ τ : Type} (step : σ → Option (σ ⊕ τ)) : Nat → σ → Option τ
 | 0, _ => none
 | n + 1, s => match step s with
  | none => none
  | some (.inl s') => da step n s'
  | some (.inr t) => some t
open Classical in
noncomputable def loop {σ τ : Type} (step : σ → Option (σ ⊕ τ)) (s : σ) : Option τ := if h : ∃ n t, da step n s = some t then some (Classical.choose (Classical.choose_spec h)) else none
theorem qT {σ τ : Type} {step : σ → Option (σ ⊕ τ)} : ∀ {n : Nat} {s : σ} {t : τ}, da step n s = some t → ∀ m, da step (n + m) s = some t
 | 0, _, _, h, _ => by cases h
 | n + 1, s, t, h, m => by
  rw [show n + 1 + m = (n + m) + 1 by omega]
  simp only [da] at h ⊢
  split at h
  ·cases h
  ·rename_i s' hs; exact qT h m
  ·exact h
theorem gQ {σ τ : Type} {step : σ → Option (σ ⊕ τ)} {s : σ} {t : τ} : loop step s = some t ↔ ∃ n, da step n s = some t := by
 unfold loop
 constructor
 ·intro h
  split at h
  ·rename_i hex
   injection h with h
   exact ⟨Classical.choose hex, by rw [← h]; exact Classical.choose_spec (Classical.choose_spec hex)⟩
  ·cases h
 ·rintro ⟨n, hn⟩
  have hex : ∃ n t, da step n s = some t := ⟨n, t, hn⟩
  rw [dif_pos hex]
  have h1 := qT (Classical.choose_spec (Classical.choose_spec hex)) n
  have h2 := qT hn (Classical.choose hex)
  rw [Nat.add_comm] at h2
  rw [h2] at h1
  injection h1 with h1
  rw [← h1]
theorem m6 {σ τ : Type} (step : σ → Option (σ ⊕ τ)) (s : σ) : loop step s = match step s with
  | none => none
  | some (.inl s') => loop step s'
  | some (.inr t) => some t := by
 apply Option.ext
 intro t
 rw [gQ]
 constructor
 ·rintro ⟨n, hn⟩
  cases n with
  | zero => cases hn
  | succ n =>
   simp only [da] at hn
   split at hn
   ·cases hn
   ·rename_i s' hs; (try simp only [hs]); exact gQ.2 ⟨n, hn⟩
   ·rename_i t' hs; (try simp only [hs]); exact hn
 ·intro h
  split at h
  ·cases h
  ·rename_i s' hs
   obtain ⟨n, hn⟩ := gQ.1 h
   exact ⟨n + 1, by simp only [da, hs]; exact hn⟩
  ·rename_i t' hs; exact ⟨1, by simp only [da, hs]; exact h⟩
theorem DV {σ τ : Type} {step : σ → Option (σ ⊕ τ)} (I : σ → Prop) (μ : σ → Nat) (R : τ → Prop) (h : ∀ s, I s → (∃ s', step s = some (.inl s') ∧ I s' ∧ μ s' < μ s) ∨ ∃ t, step s = some (.inr t) ∧ R t) : ∀ s, I s → ∃ t, loop step s = some t ∧ R t := by
 intro s
 generalize hn : μ s = n
 induction n using Nat.strongRecOn generalizing s with
 | _ n ih =>
  intro hs
  rcases h s hs with ⟨s', h1, h2, h3⟩ | ⟨t, h1, h2⟩
  ·obtain ⟨t, k1, k2⟩ := ih (μ s') (by omega) s' rfl h2
   exact ⟨t, by rw [m6, h1]; exact k1, k2⟩
  ·exact ⟨t, by rw [m6, h1], h2⟩
theorem AW.loop {c : Fx} {Q : Exit → St → Prop} {σ τ : Type} {step : σ → Option (σ ⊕ τ)} {s0 : σ} {t : τ} {body : Code} (st : σ → St) (hl : Vm.loop step s0 = some t)
  (hbody : ∀ s o, step s = some o → AW c (st s) body fun e S' => match o with
   | .inl s' => e = .normal ∧ Conv c S' (st s')
   | .inr t' => t' = t → e ≠ .normal ∧ Q e S') : AW c (st s0) (.loop body) Q := by
 intro ρ a w R b k cs
 obtain ⟨n, hn⟩ := gQ.1 hl
 have key : ∀ (n : Nat) (s : σ) (ρ : Ren) (a : Act) (w : World), da step n s = some t → bH c.toCx ρ (st s) a w →
   ∃ e a' w', (∃ S', Q e S' ∧ ∃ ρ', bH c.toCx ρ' S' a' w') ∧ Arrives c.P (lone (b.at a (.code body :: .inLoop body :: k)) cs w) b k cs e a' w' := by
  intro n
  induction n with
  | zero => intro s ρ a w hs; cases hs
  | succ n ih =>
   intro s ρ a w hs R
   simp only [da] at hs
   cases ho : step s with
   | none => rw [ho] at hs; cases hs
   | some o =>
    rw [ho] at hs
    obtain ⟨e, a₁, w₁, ⟨S', hq, ρ', R'⟩, harr⟩ := hbody s o ho ρ a w R b (.inLoop body :: k) cs
    cases o with
    | inl s' =>
     obtain ⟨rfl, hcv⟩ := hq
     obtain ⟨ρ2, R2⟩ := hcv ρ' a₁ w₁ R'
     obtain ⟨e₂, a₂, w₂, hq₂, harr₂⟩ := ih s' ρ2 a₁ w₁ hs R2
     exact ⟨e₂, a₂, w₂, hq₂, .of_steps (Steps.trans harr (.one step_inLoop)) harr₂⟩
    | inr t' =>
     injection hs with hs
     obtain ⟨hne, hq⟩ := hq hs
     refine ⟨e, a₁, w₁, ⟨S', hq, ρ', R'⟩, ?_⟩
     cases e with
     | normal => exact absurd rfl hne
     | exit id => exact .pass (x := .inLoop body) rfl (fun _ _ => .inl (by simp)) harr
     | goto l => exact .pass (x := .inLoop body) rfl (fun _ _ => .inl (by simp)) harr
     | ret => exact .pass (x := .inLoop body) rfl (fun _ _ => .inl (by simp)) harr
     | panic ch => exact .pass (x := .inLoop body) rfl (fun _ _ => .inl (by simp)) harr
     | outgrown => exact .pass (x := .inLoop body) rfl (fun _ _ => .inl (by simp)) harr
 obtain ⟨e, a', w', hq, harr⟩ := key n s0 ρ a w hn R
 exact ⟨e, a', w', hq, .of_steps (.one step_loop) harr⟩
theorem ap.comp {α β γ : Type} {A : α → β → Prop} {B : α → γ → Prop} {D : β → γ → Prop} (h : ∀ x y v, A x y → B x v → D y v) : ∀ {l : List α} {m : List β} {vs : List γ}, ap A l m → ap B l vs → ap D m vs
 | [], [], [], _, _ => trivial
 | _ :: _, _ :: _, _ :: _, ⟨a, b⟩, ⟨c, d⟩ => ⟨h _ _ _ a c, ap.comp h b d⟩
 | [], _ :: _, _, x, _ => x.elim
 | _ :: _, [], _, x, _ => x.elim
 | _ :: _, _ :: _, [], _, x => x.elim
 | [], [], _ :: _, _, x => x.elim
def cf (h : Hp) (x y : C) : Prop := ∀ (base : cx) (X : Nat → Prop) (nt : Nat) (used : Nat → Prop) (ρ : Ren) (tm : Tm) (a : Act) (w : World), aI base X nt used ρ tm h a w → ∀ v, RC w (okOf base w ρ h) ρ x v → RC w (okOf base w ρ h) ρ y v
theorem cf.refl (h : Hp) (x : C) : cf h x x := fun _ _ _ _ _ _ _ _ _ _ k => k
theorem cf.nil {h : Hp} {n sz : Nat} {f : Nat → Nat → T} (hn : n = 0) : cf h (.t (.v (.slice none 0 0))) (.t (.tree n sz f)) := fun _ _ _ _ _ _ _ _ _ v k => by
 obtain ⟨rfl, _⟩ := k
 subst hn
 exact ⟨none, 0, rfl, F9 _, fun i hi => by omega⟩
theorem cf.tree {h : Hp} {n m sz : Nat} {f g : Nat → Nat → T} (hn : n = m) (hg : ∀ i, i < m → ∀ j, j < sz → f i j = g i j) : cf h (.t (.tree n sz f)) (.t (.tree m sz g)) := fun _ _ _ _ _ _ _ _ _ v k => by
 subst hn
 obtain ⟨q, c, rfl, h1, h2⟩ := k
 exact ⟨q, c, rfl, h1, fun i hi j hj => let ⟨b, o, x, a1, a2, a3, a4⟩ := h2 i hi j hj; ⟨b, o, x, a1, a2, a3, by rw [← hg i hi j hj]; exact a4⟩⟩
theorem cf.ref {h : Hp} {id sz off n m : Nat} {ty : TypeId} {f : Nat → Nat → T} (hid : h id = some (.row ty true sz m f)) (hle : off + n ≤ m) : cf h (.ref id sz off n) (.t (.tree n sz (j6 off f))) := fun base X nt used ρ tm a w R v k => by
 obtain ⟨l, h1, h2⟩ := k
 obtain ⟨l', m1, m2, m3⟩ := R.heap id _ hid
 rw [h1] at m1
 injection m1 with m1
 subst m1
 cases l with
 | nil => obtain ⟨_, rfl, q, rfl⟩ := h2; exact ⟨q, 0, rfl, F9 _, fun i hi => by omega⟩
 | _ b cap =>
  rcases h2 with ⟨_, rfl, hlc, hle2⟩ | ⟨rfl, q, rfl⟩
  ·obtain ⟨_, vs, fz, v1, v2, _, v4⟩ := m2
   refine ⟨_, _, rfl, by omega, fun i hi j hj => ?_⟩
   obtain ⟨x, x1, x2⟩ := v4 (off + i) (by omega) j hj
   refine ⟨b, off * sz, x, rfl, ⟨(m3 b cap rfl).1, R.mid hid h1, fun id2 blk2 cap2 k1 k2 k3 => ?_⟩, ?_, ?_⟩
   ·have := R.inj id2 id b cap2 cap _ _ k1 hid (.inl k2) k3 h1
    subst this
    rw [hid] at k1
    injection k1 with k1
    subst k1
    cases k2
   ·rw [cell_of_row w _ _ vs ty fz v1, ← x1, Nat.add_mul]
   ·rw [rZ]; exact x2
  ·exact ⟨q, 0, rfl, F9 _, fun i hi => by omega⟩
theorem cf.trans {h : Hp} {x y z : C} (a : cf h x y) (b : cf h y z) : cf h x z := fun base X nt used ρ tm ac w R v k => b base X nt used ρ tm ac w R v (a base X nt used ρ tm ac w R v k)
def cG (h : Hp) (x y : AV) : Prop := ∀ (base : cx) (X : Nat → Prop) (nt : Nat) (used : Nat → Prop) (ρ : Ren) (tm : Tm) (a : Act) (w : World), aI base X nt used ρ tm h a w → ∀ v, RV w (okOf base w ρ h) ρ x v → RV w (okOf base w ρ h) ρ y v
theorem cG.refl (h : Hp) (x : AV) : cG h x x := fun _ _ _ _ _ _ _ _ _ _ k => k
theorem cG.c {h : Hp} {x y : C} (k : cf h x y) : cG h (.c x) (.c y) := fun base X nt used ρ tm a w R v hv => k base X nt used ρ tm a w R v hv
theorem cG.agg {h : Hp} {l m : List C} (k : ap (cf h) l m) : cG h (.agg l) (.agg m) := fun base X nt used ρ tm a w R v ⟨ys, h1, h2⟩ => by
 refine ⟨ys, h1, ?_⟩
 exact ap.comp (fun x y v k1 k2 => k1 base X nt used ρ tm _ w R v k2) k h2
theorem cG.fagg {h : Hp} {l : List C} {r : List T} {n : Nat} {f : Nat → T} (ht : dq l = some r) (hn : r.length = n) (hf : ∀ i, i < n → r.getD i (.v undef) = f i) : cG h (.agg l) (.fagg n f) := fun base X nt used ρ tm a w R v ⟨ys, h1, h2⟩ => by
 have h3 := eE ht h2
 refine ⟨ys, h1, by have := h3.length; simp at this; omega, fun i hi => ?_⟩
 obtain ⟨y, y1, y2⟩ := ap.get h3 (FJ (by omega : i < r.length))
 refine ⟨y, by simpa using y1, ?_⟩
 rw [← hf i hi]
 rw [FI, FJ (by omega : i < r.length)]
 exact y2
def nr (h : Hp) (tm : Tm) : List (Nat × AV) → Prop
 | [] => True
 | (t, y) :: l => (∃ x, tm t = some x ∧ cG h x y) ∧ nr h tm l
theorem rL {h : Hp} {tm : Tm} : ∀ {l : List (Nat × AV)} {t : Nat} {y : AV}, nr h tm l → look l t = some y → ∃ x, tm t = some x ∧ cG h x y
 | [], _, _, _, h => by cases h
 | (k, v) :: l, t, y, ⟨h1, h2⟩, hl => by
  rw [bo] at hl
  split at hl
  ·rename_i e; injection hl with hl; subst e; subst hl; exact h1
  ·exact rL h2 hl
theorem mN {c : Fx} {S : St} {id : Nat} {ty : TypeId} {cs ds : List C} (hid : look S.h id = some (.box ty cs)) (h : ap (cf (look S.h)) cs ds) : Conv c S ⟨S.tm, (id, .box ty ds) :: S.h, S.n⟩ := fun ρ a w R => by
 have hok : ∀ b, okOf c.base w ρ (look S.h) b → okOf c.base w ρ (look ((id, az.box ty ds) :: S.h)) b := fun b ⟨o1, o2, o3⟩ => ⟨o1, o2, fun k blk cap h1 h2 h3 => by
  rw [bo] at h1
  split at h1
  ·rename_i e; subst e; exact o3 id _ cap hid rfl h3
  ·exact o3 k blk cap h1 h2 h3⟩
 have hex : ∀ k x, look ((id, az.box ty ds) :: S.h) k = some x → ∃ y, look S.h k = some y ∧ (x.mut = true → y.mut = true) := fun k x hx => by
  rw [bo] at hx
  split at hx
  ·rename_i e; subst e; exact ⟨_, hid, fun _ => rfl⟩
  ·exact ⟨x, hx, fun q => q⟩
 refine ⟨ρ, fun t av ht => RV.mono ⟨hok, fun _ _ => rfl⟩ (E1 _) _ _ (R.tmp t av ht), fun k blk hk => ?_, R.hX, fun i j b c1 c2 x y hi hj hk h1 h2 => by
  obtain ⟨x', a1, a2⟩ := hex i x hi
  obtain ⟨y', b1, b2⟩ := hex j y hj
  exact R.inj i j b c1 c2 x' y' a1 b1 (hk.imp a2 b2) h1 h2, R.used, R.upd, R.ext0, R.size, R.defers⟩
 ·simp only at hk
  rw [bo] at hk
  split at hk
  ·rename_i e
   injection hk with hk
   subst e; subst hk
   obtain ⟨l, l1, ⟨b, vs, v1, v2, v3⟩, l3⟩ := R.heap id _ hid
   refine ⟨l, l1, ⟨b, vs, v1, v2, ?_⟩, l3⟩
   exact ap.comp (fun x y v k1 k2 => RC.mono ⟨hok, fun _ _ => rfl⟩ (E1 _) _ _ (k1 _ _ _ _ ρ _ a w R v k2)) h v3
  ·obtain ⟨l, l1, l2, l3⟩ := R.heap k blk hk
   exact ⟨l, l1, RB.mono ⟨hok, fun _ _ => rfl⟩ (E1 _) _ _ (fun _ _ _ => rfl) l2, l3⟩
theorem vZ {c : Fx} {S : St} {id : Nat} {ty : TypeId} {fro fro' : Bool} {sz n m : Nat} {f g : Nat → Nat → T} (hid : look S.h id = some (.row ty fro sz n f)) (hfro : fro = fro' ∨ fro' = true) (hn : n = m) (hg : ∀ i, i < m → ∀ j, j < sz → f i j = g i j) : Conv c S ⟨S.tm, (id, .row ty fro' sz m g) :: S.h, S.n⟩ := fun ρ a w R => by
 subst hn
 have hok : ∀ b, okOf c.base w ρ (look S.h) b → okOf c.base w ρ (look ((id, az.row ty fro' sz n g) :: S.h)) b := fun b ⟨o1, o2, o3⟩ => ⟨o1, o2, fun k blk cap h1 h2 h3 => by
  rw [bo] at h1
  split at h1
  ·rename_i e
   injection h1 with h1
   subst e; subst h1
   rcases hfro with hfro | hfro
   ·subst hfro; exact o3 id _ cap hid h2 h3
   ·subst hfro; cases h2
  ·exact o3 k blk cap h1 h2 h3⟩
 have hex : ∀ k x, look ((id, az.row ty fro' sz n g) :: S.h) k = some x → ∃ y, look S.h k = some y ∧ (x.mut = true → y.mut = true) := fun k x hx => by
  rw [bo] at hx
  split at hx
  ·rename_i e
   injection hx with hx
   subst e; subst hx
   refine ⟨_, hid, fun q => ?_⟩
   rcases hfro with hfro | hfro
   ·subst hfro; exact q
   ·subst hfro; cases q
  ·exact ⟨x, hx, fun q => q⟩
 refine ⟨ρ, fun t av ht => RV.mono ⟨hok, fun _ _ => rfl⟩ (E1 _) _ _ (R.tmp t av ht), fun k blk hk => ?_, R.hX, fun i j b c1 c2 x y hi hj hk h1 h2 => by
  obtain ⟨x', a1, a2⟩ := hex i x hi
  obtain ⟨y', b1, b2⟩ := hex j y hj
  exact R.inj i j b c1 c2 x' y' a1 b1 (hk.imp a2 b2) h1 h2, R.used, R.upd, R.ext0, R.size, R.defers⟩
 ·simp only at hk
  rw [bo] at hk
  split at hk
  ·rename_i e
   injection hk with hk
   subst e; subst hk
   obtain ⟨l, l1, l2, l3⟩ := R.heap id _ hid
   refine ⟨l, l1, ?_, l3⟩
   cases l with
   | nil => exact l2
   | _ b cap =>
    obtain ⟨v0, vs, fz, v1, v2, v3, v4⟩ := l2
    refine ⟨v0, vs, fz, v1, v2, fun h => v3 ?_, fun i hi j hj => ?_⟩
    ·rcases hfro with hfro | hfro
     ·rw [hfro]; exact h
     ·rw [hfro] at h; cases h
    ·obtain ⟨x, x1, x2⟩ := v4 i hi j hj
     exact ⟨x, x1, by rw [← hg i hi j hj]; exact RT.mono ⟨hok, fun _ _ => rfl⟩ _ _ x2⟩
  ·obtain ⟨l, l1, l2, l3⟩ := R.heap k blk hk
   exact ⟨l, l1, RB.mono ⟨hok, fun _ _ => rfl⟩ (E1 _) _ _ (fun _ _ _ => rfl) l2, l3⟩
theorem cg {c : Fx} {S : St} {t : Nat} {ty : TypeId} {sz n : Nat} {f : Nat → Nat → T} (ht : look S.tm t = some (.c (.t (.v (.slice none 0 0))))) (hn : n = 0) : Conv c S ⟨(t, .c (.ref S.n sz 0 n)) :: S.tm, (S.n, .row ty false sz n f) :: S.h, S.n + 1⟩ := fun ρ a w R => by
 subst hn
 have hput : a.tmps.getD t undef = .slice none 0 0 := (R.tmp t _ ht).1
 have R2 := R.add (w' := w) (nid := S.n) (used' := fun id => id < S.n + 1) (bM.refl _ _) (by omega) (fun id h => by omega) (by omega) (blk := .row ty false sz 0 f) (l := .nil) (fun b cap e => by cases e) (fun _ => rfl) none (fun t h => by cases h) none undef (fun _ x hx => by cases hx)
 refine ⟨ρ.set S.n .nil, ?_⟩
 have e1 : look ((S.n, az.row ty false sz 0 f) :: S.h) = aQ (look S.h) [(S.n, some (.row ty false sz 0 f))] := by
  funext i; rw [bo]; rfl
 have R3 : aI c.base c.X c.nt (fun id => id < S.n + 1) (ρ.set S.n .nil) (look S.tm) (aQ (look S.h) [(S.n, some (.row ty false sz 0 f))]) a w := R2
 unfold bH
 rw [e1]
 exact ⟨fun u av hu => by
  rw [bo] at hu
  split at hu
  ·rename_i e
   injection hu with hu
   subst e; subst hu
   exact ⟨.nil, by simp [Ren.set], rfl, rfl, none, hput⟩
  ·exact R3.tmp u av hu, R3.heap, R3.hX, R3.inj, R3.used, R3.upd, R3.ext0, R3.size, R3.defers⟩
def C.renO (σ : Nat → Option Nat) : C → Option C
 | .t x => some (.t x)
 | .ref id sz off n => match σ id with
  | some i => some (.ref i sz off n)
  | none => none
 | .ptr id sz e sub => match σ id with
  | some i => some (.ptr i sz e sub)
  | none => none
def fW (σ : Nat → Option Nat) : List C → Option (List C)
 | [] => some []
 | x :: l => match x.renO σ, fW σ l with
  | some y, some r => some (y :: r)
  | _, _ => none
def S1.renO (σ : Nat → Option Nat) : S1 → Option S1
 | .c x => match x.renO σ with
  | some y => some (.c y)
  | none => none
 | .agg l => match fW σ l with
  | some r => some (.agg r)
  | none => none
def IW (σ : Nat → Option Nat) : List S1 → Option (List S1)
 | [] => some []
 | x :: l => match x.renO σ, IW σ l with
  | some y, some r => some (y :: r)
  | _, _ => none
def AV.renO1 (σ : Nat → Option Nat) : AV → Option AV
 | .c x => match x.renO σ with
  | some y => some (.c y)
  | none => none
 | .agg l => match fW σ l with
  | some r => some (.agg r)
  | none => none
 | .fagg n f => some (.fagg n f)
 | .tup l => none
 | .clo f a b => match IW σ a, IW σ b with
  | some a', some b' => some (.clo f a' b')
  | _, _ => none
def jK (σ : Nat → Option Nat) : List AV → Option (List AV)
 | [] => some []
 | x :: l => match x.renO1 σ, jK σ l with
  | some y, some r => some (y :: r)
  | _, _ => none
def AV.renO (σ : Nat → Option Nat) : AV → Option AV
 | .tup l => match jK σ l with
  | some r => some (.tup r)
  | none => none
 | x => x.renO1 σ
def az.renO (σ : Nat → Option Nat) : az → Option az
 | .box ty cs => match fW σ cs with
  | some r => some (.box ty r)
  | none => none
 | .row ty fro sz n f => some (.row ty fro sz n f)
section
variable {w : World} {ok ok' : Nat → Prop} {ρ ρ' : Ren} {σ : Nat → Option Nat}
theorem C.renO_ok {x y : C} {v : Value} (hok : ∀ b, ok b → ok' b) (hσ : ∀ i j l, σ i = some j → ρ i = some l → ρ' j = some l) (e : x.renO σ = some y) (h : RC w ok ρ x v) : RC w ok' ρ' y v := by
 cases x with
 | t x => simp only [C.renO, FL] at e; subst e; exact RT.mono ⟨hok, fun _ _ => rfl⟩ _ _ h
 | ref id sz off n =>
  simp only [C.renO] at e
  split at e
  ·rename_i i hi; injection e with e; subst e; obtain ⟨l, h1, h2⟩ := h; exact ⟨l, hσ _ _ _ hi h1, h2⟩
  ·cases e
 | ptr id sz e0 sub =>
  simp only [C.renO] at e
  split at e
  ·rename_i i hi; injection e with e; subst e; obtain ⟨b, cap, h1, h2⟩ := h; exact ⟨b, cap, hσ _ _ _ hi h1, h2⟩
  ·cases e
theorem mO (hok : ∀ b, ok b → ok' b) (hσ : ∀ i j l, σ i = some j → ρ i = some l → ρ' j = some l) : ∀ {l r : List C} {vs : List Value}, fW σ l = some r → ap (RC w ok ρ) l vs → ap (RC w ok' ρ') r vs
 | [], r, [], e, _ => by simp only [fW, FL] at e; subst e; trivial
 | x :: l, r, v :: vs, e, ⟨h1, h2⟩ => by
  simp only [fW] at e
  split at e
  ·rename_i y r' hy hr; injection e with e; subst e; exact ⟨C.renO_ok hok hσ hy h1, mO hok hσ hr h2⟩
  ·cases e
 | [], _, _ :: _, _, h => h.elim
 | _ :: _, _, [], _, h => h.elim
theorem S1.renO_ok {x y : S1} {v : Value} (hok : ∀ b, ok b → ok' b) (hσ : ∀ i j l, σ i = some j → ρ i = some l → ρ' j = some l) (e : x.renO σ = some y) (h : RS w ok ρ x v) : RS w ok' ρ' y v := by
 cases x with
 | c x =>
  simp only [S1.renO] at e
  split at e
  ·rename_i y' hy; injection e with e; subst e; exact C.renO_ok hok hσ hy h
  ·cases e
 | agg l =>
  simp only [S1.renO] at e
  split at e
  ·rename_i y' hy; injection e with e; subst e; obtain ⟨ys, h1, h2⟩ := h; exact ⟨ys, h1, mO hok hσ hy h2⟩
  ·cases e
theorem rn (hok : ∀ b, ok b → ok' b) (hσ : ∀ i j l, σ i = some j → ρ i = some l → ρ' j = some l) : ∀ {l r : List S1} {vs : List Value}, IW σ l = some r → ap (RS w ok ρ) l vs → ap (RS w ok' ρ') r vs
 | [], r, [], e, _ => by simp only [IW, FL] at e; subst e; trivial
 | x :: l, r, v :: vs, e, ⟨h1, h2⟩ => by
  simp only [IW] at e
  split at e
  ·rename_i y r' hy hr; injection e with e; subst e; exact ⟨S1.renO_ok hok hσ hy h1, rn hok hσ hr h2⟩
  ·cases e
 | [], _, _ :: _, _, h => h.elim
 | _ :: _, _, [], _, h => h.elim
theorem E5 {x y : AV} {v : Value} (hok : ∀ b, ok b → ok' b) (hσ : ∀ i j l, σ i = some j → ρ i = some l → ρ' j = some l) (e : x.renO1 σ = some y) (h : R1 w ok ρ x v) : R1 w ok' ρ' y v := by
 cases x with
 | c x =>
  simp only [AV.renO1] at e
  split at e
  ·rename_i y' hy; injection e with e; subst e; exact C.renO_ok hok hσ hy h
  ·cases e
 | agg l =>
  simp only [AV.renO1] at e
  split at e
  ·rename_i y' hy; injection e with e; subst e; obtain ⟨ys, h1, h2⟩ := h; exact ⟨ys, h1, mO hok hσ hy h2⟩
  ·cases e
 | fagg n f => simp only [AV.renO1, FL] at e; subst e; obtain ⟨ys, h1, h2, h3⟩ := h; exact ⟨ys, h1, h2, fun i hi => let ⟨x, a, b⟩ := h3 i hi; ⟨x, a, RT.mono ⟨hok, fun _ _ => rfl⟩ _ _ b⟩⟩
 | tup l => exact h.elim
 | clo f a b =>
  simp only [AV.renO1] at e
  split at e
  ·rename_i a' b' ha hb
   injection e with e; subst e; obtain ⟨fs, cs, h1, h2, h3⟩ := h; exact ⟨fs, cs, h1, rn hok hσ ha h2, rn hok hσ hb h3⟩
  ·cases e
theorem vD (hok : ∀ b, ok b → ok' b) (hσ : ∀ i j l, σ i = some j → ρ i = some l → ρ' j = some l) : ∀ {l r : List AV} {vs : List Value}, jK σ l = some r → ap (R1 w ok ρ) l vs → ap (R1 w ok' ρ') r vs
 | [], r, [], e, _ => by simp only [jK, FL] at e; subst e; trivial
 | x :: l, r, v :: vs, e, ⟨h1, h2⟩ => by
  simp only [jK] at e
  split at e
  ·rename_i y r' hy hr; injection e with e; subst e; exact ⟨E5 hok hσ hy h1, vD hok hσ hr h2⟩
  ·cases e
 | [], _, _ :: _, _, h => h.elim
 | _ :: _, _, [], _, h => h.elim
theorem AV.renO_ok {x y : AV} {v : Value} (hok : ∀ b, ok b → ok' b) (hσ : ∀ i j l, σ i = some j → ρ i = some l → ρ' j = some l) (e : x.renO σ = some y) (h : RV w ok ρ x v) : RV w ok' ρ' y v := by
 cases x with
 | tup l =>
  simp only [AV.renO] at e
  split at e
  ·rename_i y' hy; injection e with e; subst e; obtain ⟨ys, h1, h2⟩ := h; exact ⟨ys, h1, vD hok hσ hy h2⟩
  ·cases e
 | c x => exact hZ (E5 (x := .c x) hok hσ e h)
 | agg l => exact hZ (E5 (x := .agg l) hok hσ e h)
 | fagg n f => exact hZ (E5 (x := .fagg n f) hok hσ e h)
 | clo f a b => exact hZ (E5 (x := .clo f a b) hok hσ e h)
theorem az.renO_ok {x y : az} {l : dd} (hok : ∀ b, ok b → ok' b) (hσ : ∀ i j l, σ i = some j → ρ i = some l → ρ' j = some l) (e : x.renO σ = some y) (h : RB w ok ρ x l) : RB w ok' ρ' y l ∧ y.mut = x.mut ∧ y.isRow = x.isRow := by
 cases x with
 | box ty cs =>
  simp only [az.renO] at e
  split at e
  ·rename_i r hr; injection e with e; subst e; obtain ⟨b, vs, h1, h2, h3⟩ := h; exact ⟨⟨b, vs, h1, h2, mO hok hσ hr h3⟩, rfl, rfl⟩
  ·cases e
 | row ty fro sz n f =>
  simp only [az.renO, FL] at e
  subst e
  refine ⟨?_, rfl, rfl⟩
  cases l with
  | nil => exact h
  | _ b cap =>
   obtain ⟨h0, vs, fz, h1, h2, h3, h4⟩ := h
   exact ⟨h0, vs, fz, h1, h2, h3, fun i hi j hj => let ⟨x, a, b⟩ := h4 i hi j hj; ⟨x, a, RT.mono ⟨hok, fun _ _ => rfl⟩ _ _ b⟩⟩
end
def f5 (m : List (Nat × Nat)) (i : Nat) : Option Nat := match m with
 | [] => none
 | (n, o) :: l => bif Nat.beq o i then some n else f5 l i
theorem LD : ∀ {m : List (Nat × Nat)} {i j : Nat}, f5 m i = some j → (j, i) ∈ m
 | (n, o) :: l, i, j, h => by
  simp only [f5] at h
  by_cases e : o = i
  ·subst e; simp at h; subst h; simp
  ·have : Nat.beq o i = false := by simpa [← Nat.beq_eq] using e
   simp only [this, cond_false] at h
   exact F0 _ (LD h)
 | [], _, _, h => by cases h
def jL (σ : Nat → Option Nat) (tm : Tm) : List Nat → Option (List (Nat × AV))
 | [] => some []
 | t :: l => match tm t with
  | some x => match x.renO σ, jL σ tm l with
   | some y, some r => some ((t, y) :: r)
   | _, _ => none
  | none => none
def jM (σ : Nat → Option Nat) (h : Hp) : List (Nat × Nat) → Option (List (Nat × az))
 | [] => some []
 | (n, o) :: l => match h o with
  | some x => match x.renO σ, jM σ h l with
   | some y, some r => some ((n, y) :: r)
   | _, _ => none
  | none => none
def dX (m : List (Nat × Nat)) (slots : List Nat) (n : Nat) (S : St) : Option St :=
 match jL (f5 m) (look S.tm) slots, jM (f5 m) (look S.h) m with
 | some tm, some h => some ⟨tm, h, n⟩
 | _, _ => none
theorem vg {σ : Nat → Option Nat} {tm : Tm} : ∀ {l : List Nat} {r : List (Nat × AV)} {t : Nat} {y : AV}, jL σ tm l = some r → look r t = some y → ∃ x, tm t = some x ∧ x.renO σ = some y
 | [], r, t, y, e, h => by simp only [jL, FL] at e; subst e; cases h
 | k :: l, r, t, y, e, h => by
  simp only [jL] at e
  split at e
  ·rename_i x hx
   split at e
   ·rename_i y' r' hy hr
    injection e with e
    subst e
    rw [bo] at h
    split at h
    ·rename_i e1; injection h with h; subst e1; subst h; exact ⟨x, hx, hy⟩
    ·exact vg hr h
   ·cases e
  ·cases e
theorem vh {σ : Nat → Option Nat} {hp : Hp} : ∀ {l : List (Nat × Nat)} {r : List (Nat × az)} {i : Nat} {y : az}, jM σ hp l = some r → look r i = some y → ∃ o x, look l i = some o ∧ hp o = some x ∧ x.renO σ = some y
 | [], r, i, y, e, h => by simp only [jM, FL] at e; subst e; cases h
 | (n, o) :: l, r, i, y, e, h => by
  simp only [jM] at e
  split at e
  ·rename_i x hx
   split at e
   ·rename_i y' r' hy hr
    injection e with e
    subst e
    rw [bo] at h
    split at h
    ·rename_i e1; injection h with h; subst e1; subst h; exact ⟨o, x, by rw [bo, if_pos rfl], hx, hy⟩
    ·rename_i e1
     obtain ⟨o', x', a1, a2, a3⟩ := vh hr h
     exact ⟨o', x', by rw [bo, if_neg e1]; exact a1, a2, a3⟩
   ·cases e
  ·cases e
def dW (n : Nat) (m : List (Nat × Nat)) : Bool := m.all fun p => Nat.blt p.1 n
def m7 (k : Nat) (m : List (Nat × Nat)) : Bool := match k with
 | 0 => true
 | k + 1 => (match look m k with
  | some o => Nat.beq o k
  | none => true) && m7 k m
def dM (k n : Nat) (m : List (Nat × Nat)) : Bool := Nat.ble k n && m7 k m
theorem vi {m : List (Nat × Nat)} : ∀ {k : Nat}, m7 k m = true → ∀ i, i < k → look m i = some i ∨ look m i = none
 | 0, _, i, h => by omega
 | k + 1, hk, i, hi => by
  simp only [m7, FY] at hk
  by_cases e : i = k
  ·subst e
   have := hk.1
   split at this
   ·rename_i o ho; left; rw [ho]; congr 1; exact Nat.eq_of_beq_eq_true this
   ·rename_i ho; right; exact ho
  ·exact vi hk.2 i (by omega)
theorem uJ : ∀ {m : List (Nat × Nat)}, bT (m.map (·.2)) = true → ∀ {i j o : Nat}, look m i = some o → look m j = some o → i = j
 | [], _, i, j, o, h, _ => by cases h
 | (n, p) :: l, hn, i, j, o, h1, h2 => by
  simp only [Gr, bT, FY] at hn
  have hmem : ∀ k, look l k = some p → False := fun k hk => by
   have h := hn.1
   have : p ∈ l.map (·.2) := Pz.2 ⟨(k, p), mM hk, rfl⟩
   rw [Bool.not_eq_true'] at h
   simp at h
   obtain ⟨⟨x, y⟩, h3, h4⟩ := Pz.1 this
   simp only at h4
   subst h4
   exact h x h3
  rw [bo] at h1 h2
  split at h1
  ·rename_i e1
   injection h1 with h1
   split at h2
   ·rename_i e2; omega
   ·rw [← h1] at h2; exact (hmem j h2).elim
  ·split at h2
   ·injection h2 with h2
    rw [← h2] at h1; exact (hmem i h1).elim
   ·exact uJ hn.2 h1 h2
theorem mP {c : Fx} {S S' : St} (m : List (Nat × Nat)) (slots : List Nat) {n : Nat} (e : dX m slots n S = some S') (h1 : (bT (m.map (·.2)) && bT (m.map (·.1)) && dW n m && dM c.k n m) = true) : Conv c S S' := fun ρ a w R => by
 simp only [FY] at h1
 obtain ⟨⟨⟨b1, b0⟩, b2⟩, b3⟩ := h1
 unfold dX at e
 split at e
 ·rename_i tm hp htm hhp
  injection e with e
  subst e
  simp only [dM, FY] at b3
  obtain ⟨b3k, b3⟩ := b3
  have b3k : c.k ≤ n := Nat.le_of_ble_eq_true b3k
  let ρ' : Ren := fun i => match look m i with
   | some o => ρ o
   | none => if i < c.k then c.base.ρ0 i else none
  have hlook : ∀ i o, (i, o) ∈ m → look m i = some o := by
   have : ∀ (m : List (Nat × Nat)), bT (m.map (·.1)) = true → ∀ i o, (i, o) ∈ m → look m i = some o := by
    intro m
    induction m with
    | nil => intro _ i o h; cases h
    | cons p m ih =>
     obtain ⟨x, y⟩ := p
     intro hn i o h
     simp only [Gr, bT, FY] at hn
     rw [bo]
     rcases F1.1 h with h | h
     ·injection h with e1 e2; subst e1; subst e2; rw [if_pos rfl]
     ·have hne : x ≠ i := fun e => by
       subst e
       have h3 := hn.1
       rw [Bool.not_eq_true'] at h3
       simp at h3
       exact h3 o h
      rw [if_neg hne]
      exact ih hn.2 i o h
   exact this m b0
  have hσ : ∀ i j l, f5 m i = some j → ρ i = some l → ρ' j = some l := fun i j l h1 h2 => by
   simp only [ρ', hlook j i (LD h1)]; exact h2
  have hback : ∀ i l, (∃ o, look m i = some o) → ρ' i = some l → ∃ o, look m i = some o ∧ ρ o = some l := fun i l ⟨o, ho⟩ h => by
   simp only [ρ', ho] at h
   exact ⟨o, ho, h⟩
  have hh : ∀ i y, look hp i = some y → ∃ o x, look m i = some o ∧ look S.h o = some x ∧ x.renO (f5 m) = some y := fun i y h => vh hhp h
  have hok : ∀ b, okOf c.base w ρ (look S.h) b → okOf c.base w ρ' (look hp) b := fun b ⟨o1, o2, o3⟩ => ⟨o1, o2, fun i blk cap k1 k2 k3 => by
   obtain ⟨o, x, x1, x2, x3⟩ := hh i blk k1
   obtain ⟨o', y1, y2⟩ := hback i _ ⟨_, x1⟩ k3
   rw [x1] at y1
   injection y1 with y1
   subst y1
   obtain ⟨l, _, l2, _⟩ := R.heap o x x2
   exact o3 o x cap x2 (by rw [← (az.renO_ok (ok := okOf c.base w ρ (look S.h)) (ok' := okOf c.base w ρ (look S.h)) (fun _ h => h) hσ x3 l2).2.1]; exact k2) y2⟩
  refine ⟨ρ', fun t av ht => ?_, fun i y hy => ?_, R.hX, fun i j b c1 c2 x y hx hy hk k1 k2 => ?_, fun id hid => ?_, R.upd, fun id l hl => ?_, R.size, R.defers⟩
  ·obtain ⟨x, x1, x2⟩ := vg htm ht
   exact AV.renO_ok hok hσ x2 (R.tmp t x x1)
  ·obtain ⟨o, x, x1, x2, x3⟩ := hh i y hy
   obtain ⟨l, l1, l2, l3⟩ := R.heap o x x2
   exact ⟨l, by simp only [ρ', x1]; exact l1, (az.renO_ok hok hσ x3 l2).1, l3⟩
  ·obtain ⟨o1, x1, p1, p2, p3⟩ := hh i x hx
   obtain ⟨o2, x2, q1, q2, q3⟩ := hh j y hy
   obtain ⟨_, _, lp, _⟩ := R.heap o1 x1 p2
   obtain ⟨_, _, lq, _⟩ := R.heap o2 x2 q2
   have mp := (az.renO_ok (ok := okOf c.base w ρ (look S.h)) (ok' := okOf c.base w ρ (look S.h)) (fun _ h => h) hσ p3 lp).2.1
   have mq := (az.renO_ok (ok := okOf c.base w ρ (look S.h)) (ok' := okOf c.base w ρ (look S.h)) (fun _ h => h) hσ q3 lq).2.1
   obtain ⟨o1', r1, r2⟩ := hback i _ ⟨_, p1⟩ k1
   obtain ⟨o2', s1, s2⟩ := hback j _ ⟨_, q1⟩ k2
   rw [p1] at r1
   injection r1 with r1
   rw [q1] at s1
   injection s1 with s1
   subst r1; subst s1
   have := R.inj o1 o2 b c1 c2 _ _ p2 q2 (hk.imp (fun k => by rw [← mp]; exact k) (fun k => by rw [← mq]; exact k)) r2 s2
   subst this
   exact uJ b1 p1 q1
  ·cases hl : ρ' id with
   | none => exact absurd hl hid
   | some l =>
    simp only [ρ'] at hl
    split at hl
    ·rename_i o ho
     have := FX.1 b2 (id, o) (mM ho)
     simpa using this
    ·split at hl
     ·rename_i hlt; exact Gb hlt b3k
     ·cases hl
  ·have hlt := c.hk id (by rw [hl]; simp)
   rcases vi b3 id hlt with h | h
   ·simp only [ρ', h]
    exact R.ext0 id l hl
   ·simp only [ρ', h, if_pos hlt]
    exact hl
 ·cases e
def jR {α : Type} : Nat → List α → List (Nat × α)
 | _, [] => []
 | i, x :: l => (i, x) :: jR (i + 1) l
theorem vE {α : Type} : ∀ (l : List α) (i t : Nat) (x : α), look (jR i l) t = some x → i ≤ t ∧ l[t - i]? = some x
 | [], i, t, x, h => by cases h
 | y :: l, i, t, x, h => by
  simp only [jR, bo] at h
  split at h
  ·rename_i e; subst e; injection h with h; subst h; exact ⟨F9 _, by simp⟩
  ·obtain ⟨h1, h2⟩ := vE l (i + 1) t x h
   exact ⟨by omega, by rw [show t - i = (t - (i + 1)) + 1 by omega]; simpa using h2⟩
def nh (tt : TT) (tm : Tm) (h : Hp) : ResultVar → Option (AV × Prop)
 | .tmp t => match tm t with
  | some (.tup _) => none
  | some v => some (v, True)
  | none => none
 | .cell p t => match tm p with
  | some pv => eJ tt t h pv
  | none => none
def jS (tt : TT) (tm : Tm) (h : Hp) : List ResultVar → Option (List AV × List Prop)
 | [] => some ([], [])
 | r :: l => match nh tt tm h r, jS tt tm h l with
  | some (v, p), some (vs, ps) => some (v :: vs, p :: ps)
  | _, _ => none
def Cl : List AV → AV
 | [x] => x
 | l => .tup l
def fA (tt : TT) (S : St) (rs : List ResultVar) : Option (AV × List Prop) := match jS tt (look S.tm) (look S.h) rs with
 | some (vs, ps) => some (Cl vs, ps)
 | none => none
section
variable {base : cx} {X : Nat → Prop} {nt : Nat} {used : Nat → Prop} {ρ : Ren} {tm : Tm} {h : Hp} {a : Act} {w : World} {P : Program}
theorem AN {tt : TT} (hT : bb P tt) {t : TypeId} {p : AV} {r : AV × Prop} (e : eJ tt t h p = some r) : ∀ l, r.1 ≠ .tup l := by
 unfold eJ at e
 split at e
 ·split at e
  ·split at e
   ·cases e
   ·split at e
    ·injection e with e; subst e; intro l h; cases h
    ·cases e
  ·split at e
   ·injection e with e; subst e; intro l h; cases h
   ·cases e
 ·cases e
theorem wS {ok : Nat → Prop} {v : AV} {y : Value} (hn : ∀ l, v ≠ .tup l) (h : RV w ok ρ v y) : R1 w ok ρ v y := by
 cases v with
 | tup l => exact absurd rfl (hn l)
 | c x => exact h
 | agg l => exact h
 | fagg n f => exact h
 | clo f a b => exact h
def ns (a : Act) : ResultVar → Sem Value
 | .tmp t => pure (a.tmps.getD t undef)
 | .cell p t => do loadVar t (← asAddr (a.tmps.getD p undef))
theorem Am (fn : Func) (a : Act) : results fn a.tmps = (fn.results.mapM (ns a) >>= fun vs => pure (if h : vs.size = 1 then vs[0] else .tuple vs)) := by
 unfold results
 congr 1
theorem AO {tt : TT} (hT : bb P tt) (R : aI base X nt used ρ tm h a w) {rv : ResultVar} {r : AV × Prop} (e : nh tt tm h rv = some r) (hc : r.2) :
  ∃ v, (ns a rv).run P w = .ok v w ∧ R1 w (okOf base w ρ h) ρ r.1 v := by
 cases rv with
 | tmp t =>
  simp only [nh] at e
  split at e
  ·cases e
  ·rename_i v hn hv
   injection e with e
   subst e
   exact ⟨_, rfl, wS (fun l h => hn l h) (R.tmp t v hv)⟩
  ·cases e
 | cell p t =>
  simp only [nh] at e
  split at e
  ·rename_i pv hp
   obtain ⟨v, v1, v2⟩ := vw hT e hc R (R.tmp p pv hp)
   refine ⟨v, ?_, wS (AN hT e) v2⟩
   rw [← v1]
   unfold Instr.loadAt ns
   rw [Sem.run_bind, Sem.run_bind]
   unfold Instr.loadAt at v1
   rw [Sem.run_bind] at v1
   cases hy : a.tmps.getD p undef with
   | pointer ad =>
    cases ad with
    | none => rw [hy] at v1; simp [Instr.sureAddr] at v1
    | some ad => rfl
   | _ => rw [hy] at v1; simp [Instr.sureAddr] at v1
  ·cases e
theorem vF {tt : TT} (hT : bb P tt) (R : aI base X nt used ρ tm h a w) : ∀ {rs : List ResultVar} {vs : List AV} {ps : List Prop}, jS tt tm h rs = some (vs, ps) → dx ps →
  ∃ ys, (rs.mapM (ns a)).run P w = .ok ys w ∧ ap (R1 w (okOf base w ρ h) ρ) vs ys
 | [], vs, ps, e, _ => by simp only [jS, FL, FV] at e; obtain ⟨rfl, rfl⟩ := e; exact ⟨[], by simp, trivial⟩
 | r :: l, vs, ps, e, hp => by
  simp only [jS] at e
  split at e
  ·rename_i v p vs' ps' hv hvs
   simp only [FL, FV] at e
   obtain ⟨rfl, rfl⟩ := e
   obtain ⟨y, y1, y2⟩ := AO hT R hv hp.1
   obtain ⟨ys, z1, z2⟩ := vF hT R hvs hp.2
   refine ⟨y :: ys, ?_, y2, z2⟩
   rw [List.mapM_cons, Sem.run_bind, y1, Result.andThen_ok, Sem.run_bind, z1]
   rfl
  ·cases e
theorem jE {tt : TT} (hT : bb P tt) {S : St} {fn : Func} (R : aI base X nt used ρ (look S.tm) (look S.h) a w) {out : AV} {ps : List Prop} (e : fA tt S fn.results.toList = some (out, ps)) (hp : dx ps) :
  ∃ v, (results fn a.tmps).run P w = .ok v w ∧ RV w (okOf base w ρ (look S.h)) ρ out v := by
 unfold fA at e
 split at e
 ·rename_i vs ps' hvs
  simp only [FL, FV] at e
  obtain ⟨rfl, rfl⟩ := e
  obtain ⟨ys, y1, y2⟩ := vF hT R hvs hp
  refine ⟨if h : ys.toArray.size = 1 then ys.toArray[0] else .tuple ys.toArray, ?_, ?_⟩
  ·rw [Am, Array.mapM_eq_mapM_toList, Sem.run_bind, Sem.run_map, y1]
   rfl
  ·cases vs with
   | nil =>
    cases ys with
    | nil => exact ⟨#[], rfl, trivial⟩
    | cons _ _ => exact y2.elim
   | cons v vs =>
    cases ys with
    | nil => exact y2.elim
    | cons y ys =>
     cases vs with
     | nil =>
      cases ys with
      | nil => exact hZ y2.1
      | cons _ _ => exact y2.2.elim
     | cons v2 vs =>
      cases ys with
      | nil => exact y2.2.elim
      | cons y' ys => exact ⟨_, by rw [dif_neg (by simp)], y2⟩
 ·cases e
end
def dY (tt : TT) (rs : List ResultVar) (k : Nat) (S : St) (out : AV) (outb : List (Nat × az)) : Prop :=
 ∃ (out0 : AV) (ps : List Prop) (m : List (Nat × Nat)) (n : Nat), fA tt S rs = some (out0, ps) ∧ dx ps ∧ dX m [0] n ⟨[(0, out0)], S.h, S.n⟩ = some ⟨[(0, out)], outb, n⟩ ∧ (bT (m.map (·.2)) && bT (m.map (·.1)) && dW n m && dM k n m) = true
theorem dY.mk {tt : TT} {rs : List ResultVar} {k : Nat} {S : St} {out : AV} {outb : List (Nat × az)} (m : List (Nat × Nat)) (n : Nat) {out0 : AV} {ps : List Prop} (h1 : fA tt S rs = some (out0, ps)) (h2 : dx ps) (h3 : dX m [0] n ⟨[(0, out0)], S.h, S.n⟩ = some ⟨[(0, out)], outb, n⟩)
    (h4 : (bT (m.map (·.2)) && bT (m.map (·.1)) && dW n m && dM k n m) = true) : dY tt rs k S out outb := ⟨out0, ps, m, n, h1, h2, h3, h4⟩
def nu : List (Nat × az) → Nat → Bool
 | [], _ => true
 | (i, _) :: l, k => Nat.blt i k && nu l k
theorem wz : ∀ {l : List (Nat × az)} {k : Nat}, nu l k = true → ∀ i b, look l i = some b → i < k
 | [], _, _, i, b, h => by cases h
 | (j, x) :: l, k, hb, i, b, h => by
  simp only [nu, FY] at hb
  rw [bo] at h
  split at h
  ·rename_i e; injection h with h; subst e; simpa using hb.1
  ·exact wz hb.2 i b h
theorem an {P : Program} {tt : TT} (hT : bb P tt) {f : FuncId} {fn : Func} {code : Code} {args : List AV} {inb : List (Nat × az)} {out : AV} {outb : List (Nat × az)} (k : Nat) (hf : P.funcs[f]? = some fn) 
  (hb : fn.body = some code) 
  (H : ∀ (base : cx) (X : Nat → Prop) (hk : ∀ id, base.ρ0 id ≠ none → id < k), AW ⟨⟨P, base, X, fn.ntmps⟩, k, hk⟩ ⟨jR 0 args, inb, k⟩ code fun e S1 => ∃ S2, Conv ⟨⟨P, base, X, fn.ntmps⟩, k, hk⟩ S1 S2 ∧ (e = .normal ∨ e = .ret) ∧ dY tt fn.results.toList k S2 out outb) (hlen : (Nat.ble args.length fn.ntmps && Nat.blt 0 fn.ntmps && nu inb k) = true := by kernel_rfl) (hname : (fn.name == "runtime.NumGoroutine") = false := by kernel_rfl) : cz P f args inb out outb := by
 have H := fun base X hk => AW.post (H base X hk)
 refine ⟨⟨fn, hf, hname, by rw [hb]; rfl⟩, fun w okA ρ vs hA hdom hin hinj hargs => ?_⟩
 simp only [FY] at hlen
 obtain ⟨⟨hl1, hl2⟩, hl3⟩ := hlen
 have hl1 : args.length ≤ fn.ntmps := Nat.le_of_ble_eq_true hl1
 have hl2 : 0 < fn.ntmps := by simpa using hl2
 have hvl : vs.size = args.length := by have := hargs.length; simpa using this.symm
 have hk : ∀ id, ρ id ≠ none → id < k := fun id hid => by obtain ⟨b, hb⟩ := hdom id hid; exact wz hl3 id b hb
 have hok : ∀ b, okA b → okOf ⟨w, okA, ρ⟩ w ρ (look inb) b := fun b hb => ⟨hA b hb, .inr (.inl hb), fun id blk cap h1 _ h3 => by
  obtain ⟨l, l1, _, l3⟩ := hin id blk h1
  rw [h3] at l1
  injection l1 with l1
  exact (l3 b cap l1.symm).2 hb⟩
 refine calls_of_wp hf hb ?_
 have R0 : bH (Fx.toCx ⟨⟨P, ⟨w, okA, ρ⟩, fun b => ∃ id cap, ρ id = some (.at b cap), fn.ntmps⟩, k, hk⟩) ρ ⟨jR 0 args, inb, k⟩ { tmps := vs ++ Array.replicate (fn.ntmps - vs.size) undef, defers := [] } w := by
  refine ⟨fun t av ht => ?_, fun id blk hid => ?_, fun _ h => h, fun i j b c1 c2 _ _ _ _ _ => hinj i j b c1 c2, fun id hid => hk id hid, bM.refl _ _, E1 _, by simp; omega, rfl⟩
  ·obtain ⟨_, h2⟩ := vE args 0 t av ht
   rw [Nat.sub_zero] at h2
   obtain ⟨y, y1, y2⟩ := ap.get hargs h2
   have hlt : t < vs.size := by
    rcases Gi t vs.size with h' | h'
    ·exact h'
    ·rw [FK (by simpa using h')] at y1; cases y1
   have e1 : (vs ++ Array.replicate (fn.ntmps - vs.size) undef).getD t undef = y := by
    have y1' : vs[t]? = some y := by simpa using y1
    rw [Gc, Array.getElem?_append_left hlt, y1']
    rfl
   simp only [e1]
   exact RV.mono ⟨hok, fun _ _ => rfl⟩ (E1 _) _ _ y2
  ·obtain ⟨l, l1, l2, l3⟩ := hin id blk hid
   exact ⟨l, l1, RB.mono ⟨hok, fun _ _ => rfl⟩ (E1 _) _ _ (fun _ _ _ => rfl) l2, fun b cap e => ⟨(l3 b cap e).1, .inr ⟨id, cap, by rw [l1, e]⟩⟩⟩
 refine wp_mono (H ⟨w, okA, ρ⟩ (fun b => ∃ id cap, ρ id = some (.at b cap)) hk ρ _ w R0) ?_
 rintro e a' w' ⟨S', ⟨he, out0, ps, m, n, o1, o2, o3, o4⟩, ρ1, R1⟩
 have fin : a'.defers = [] ∧ ∃ v, (results fn a'.tmps).run P w' = .ok v w' ∧ ∃ v' ρ', Ending.returned v = .returned v' ∧ bA ρ ρ' ∧ bM (fun b => ∃ id cap, ρ id = some (.at b cap)) w w' ∧ RV w' (okOf ⟨w, okA, ρ⟩ w' ρ' (look outb)) ρ' out v' ∧
   (∀ id blk, look outb id = some blk → ∃ l, ρ' id = some l ∧ RB w' (okOf ⟨w, okA, ρ⟩ w' ρ' (look outb)) ρ' blk l ∧ ∀ b cap, l = .at b cap → b < w'.heap.size ∧ (w.heap.size ≤ b ∨ ∃ id cap, ρ id = some (.at b cap))) ∧
   (∀ i j b c c' x y, look outb i = some x → look outb j = some y → (x.mut = true ∨ y.mut = true) → ρ' i = some (.at b c) → ρ' j = some (.at b c') → i = j) := by
  obtain ⟨v, v1, v2⟩ := jE hT R1 o1 o2
  refine ⟨R1.defers, v, v1, v, ?_⟩
  have R2 : bH (Fx.toCx ⟨⟨P, ⟨w, okA, ρ⟩, fun b => ∃ id cap, ρ id = some (.at b cap), fn.ntmps⟩, k, hk⟩) ρ1 ⟨[(0, out0)], S'.h, S'.n⟩ (a'.put (some 0) v) w' := by
   have := R1.put_tm (d := some 0) (y := v) (av := some out0) (fun t ht => by injection ht with ht; subst ht; exact hl2) (fun x hx => by injection hx with hx; subst hx; exact v2)
   refine this.weaken (fun t av ht => ?_) (fun _ _ h => h)
   rw [bo] at ht
   split at ht
   ·rename_i e0; subst e0; simp only [bG, if_true]; exact ht
   ·cases ht
  obtain ⟨ρ2, R3⟩ := mP (c := ⟨⟨P, ⟨w, okA, ρ⟩, fun b => ∃ id cap, ρ id = some (.at b cap), fn.ntmps⟩, k, hk⟩) m [0] o3 o4 ρ1 _ w' R2
  refine ⟨ρ2, rfl, R3.ext0, R3.upd, ?_, fun id blk hid => ?_, R3.inj⟩
  ·have := R3.tmp 0 out (by rw [bo, if_pos rfl])
   rw [dU v (by rw [R1.size]; exact hl2)] at this
   exact this
  ·obtain ⟨l, l1, l2, l3⟩ := R3.heap id blk hid
   exact ⟨l, l1, l2, fun b cap e => ⟨(l3 b cap e).1, (l3 b cap e).2⟩⟩
 rcases he with rfl | rfl <;> exact fin
theorem Do {P : Program} {f : FuncId} {args : List AV} {b : Bool} (h : cz P f args [] (.c (.t (.v (.bool b)))) []) (w : World) (vs : Array Value) (hargs : ap (RV w (fun b => b < w.heap.size) fun _ => none) args vs.toList) :
  Calls P f vs w fun e w' => e = .returned (.bool b) ∧ Go.RowKit.Below w.heap.size w w' := by
 refine Calls.mono (h.2 w (fun b => b < w.heap.size) (fun _ => none) vs (fun _ h => h) (fun id hid => absurd rfl hid) (fun id blk hid => by cases hid) (fun i j b c c' hi => by cases hi) hargs) ?_
 rintro e w' ⟨v, ρ', rfl, _, hU, hv, _⟩
 obtain ⟨rfl, _⟩ := hv
 exact ⟨rfl, hU.os, hU.tape, hU.output, hU.size, fun k hk => hU.block k hk fun ⟨_, _, hh⟩ => by cases hh⟩
def wT (P : Program) : List (Nat × TI) → Prop
 | [] => True
 | (t, i) :: l => ce P t i ∧ wT P l
theorem BV {P : Program} {l : List (Nat × TI)} (h : wT P l := by repeat' first | exact trivial | exact ⟨by kernel_rfl, by kernel_rfl, by kernel_rfl⟩ | refine ⟨?_, ?_⟩) : bb P (look l) := by
 intro t i ht
 induction l with
 | nil => cases ht
 | cons p l ih =>
  obtain ⟨k, v⟩ := p
  rw [bo] at ht
  split at ht
  ·rename_i e; injection ht with ht; subst e; subst ht; exact h.1
  ·exact ih h.2 ht
theorem aN {C : Prop} [Decidable C] {α : Type} {x : Option α} {r : α} (h : (if C then x else none) = some r) : C ∧ x = some r := by
 by_cases hc : C
 ·rw [if_pos hc] at h; exact ⟨hc, h⟩
 ·rw [if_neg hc] at h; cases h
theorem ak {α β : Type} {x : Option α} {f : α → Option β} {r : β} (h : x.bind f = some r) : ∃ y, x = some y ∧ f y = some r := by
 cases x with
 | none => cases h
 | some y => exact ⟨y, rfl, h⟩
theorem am {α : Type} {x y : α} (h : some x = some y) : x = y := by injection h
theorem E6 {Q : Exit → St → Prop} {id : Nat} {S : St} (h : Q .normal S) : AW.inBlock id Q (.exit id) S := by simp only [AW.inBlock, if_true]; exact h
theorem E7 {Q : Exit → St → Prop} {id i : Nat} {S : St} (hne : Nat.beq i id = false) (h : Q (.exit i) S) : AW.inBlock id Q (.exit i) S := by
 simp only [AW.inBlock]; rw [if_neg (fun e => by subst e; simp at hne)]; exact h
def jT {ι : Type} (c : Fx) (st : ι → St) (k : ι → Prop) (Q : Exit → St → Prop) : Exit → St → Prop
 | .normal, S => ∃ i, k i ∧ Conv c S (st i)
 | e, S => Q e S
theorem AW.join {ι : Type} {c : Fx} {S : St} {x : Code} {Q : Exit → St → Prop} (st : ι → St) (k : ι → Prop) (hK : ∀ i, k i → Q .normal (st i)) (hx : AW c S x (jT c st k Q)) : AW c S x Q :=
 AW.post (AW.mono hx fun e S' h => by
  cases e with
  | normal => obtain ⟨i, h1, h2⟩ := h; exact ⟨st i, h2, hK i h1⟩
  | _ => exact ⟨S', Conv.refl _ _, h⟩)
def dG (k : IntKind) (x y : Int) : Int := k.wrap (BitVec.ofInt k.bits x &&& BitVec.ofInt k.bits y).toNat
def GA (k : IntKind) (x y : Int) : Int := k.wrap (BitVec.ofInt k.bits x ||| BitVec.ofInt k.bits y).toNat
def bw (k : IntKind) (x y : Int) : Int := k.wrap (BitVec.ofInt k.bits x ^^^ BitVec.ofInt k.bits y).toNat
def dl (k : IntKind) (x y : Int) : Int := k.wrap (x * 2 ^ min y.toNat k.bits)
def bJ (k : IntKind) (x y : Int) : Int := x.fdiv (2 ^ min y.toNat k.bits)
def be {τ : Type} (d : τ) (enc : τ → List T) (xs : List τ) : Nat → Nat → T := fun i j => (enc (xs.getD i d)).getD j (.v undef)
def bQ (s : ByteArray) : List Int := s.data.toList.map fun b => (b.toNat : Int)
theorem zq (s : ByteArray) : s.size = (bQ s).length := by
 rw [bQ, Ps, Array.length_toList]; rfl
theorem An {s : ByteArray} : ∀ i, i < s.size → ∀ j, j < 1 → IT s i j = be (0 : Int) (fun x => [.v (.int .u8 x)]) (bQ s) i j := by
 intro i hi j hj
 obtain rfl : j = 0 := by omega
 simp only [IT, be, bQ, FI, F6]
 cases s.data.toList[i]? <;> rfl
def strOf (xs : List Int) : ByteArray := fN xs.length (fun i => xs.getD i 0)
theorem rM {c : Fx} {S S' : St} (h : S = S') : Conv c S S' := h ▸ Conv.refl c S
def d8 : List T → Prop
 | [] => True
 | t :: l => j8 t ∧ d8 l
theorem vG : ∀ {l : List T} (j : Nat), d8 l → j8 (l.getD j (.v undef))
 | [], _, _ => trivial
 | t :: l, 0, h => h.1
 | t :: l, j + 1, h => by simpa using vG (l := l) j h.2
theorem bV {τ : Type} {d : τ} {enc : τ → List T} (h : ∀ x, d8 (enc x)) (xs : List τ) (sz n : Nat) : ∀ i, i < n → ∀ j, j < sz → j8 (be d enc xs i j) := fun i _ j _ => vG j (h _)
section
variable {τ : Type} {d : τ} {enc : τ → List T}
theorem Ce {n sz : Nat} {z : Nat → T} {y : τ} (hz : ∀ j, j < sz → aZ (z j) ((enc y).getD j (.v undef))) : n = (List.replicate n y).length ∧ ∀ i, i < (List.replicate n y).length → ∀ j, j < sz → aZ (z j) (be d enc (List.replicate n y) i j) := by
 refine ⟨by simp, fun i hi j hj => ?_⟩
 rw [Pt] at hi
 have h := hz j hj
 rw [FI] at h
 simpa only [be, FI, List.getElem?_replicate, if_pos hi, Option.getD_some] using h
theorem Bw {xs : List τ} {n e sub sz : Nat} {tl : List T} {y : τ} (hn : n = xs.length) (he : e < n) (hy : ∀ j, j < sz → aZ (if sub ≤ j ∧ j < sub + tl.length then tl.getD (j - sub) (.v undef) else (enc (xs.getD e d)).getD j (.v undef)) ((enc y).getD j (.v undef))) :
  n = n ∧ ∀ i, i < n → ∀ j, j < sz → aZ (Hu (be d enc xs) e sub tl i j) (be d enc (xs.set e y) i j) := by
 subst hn
 refine ⟨rfl, fun i hi j hj => ?_⟩
 simp only [Hu, be]
 by_cases h : i = e
 ·subst h
  have h1 : (xs.set i y).getD i d = y := by simp [FI, he]
  rw [h1]
  have h3 := hy j hj
  by_cases h2 : sub ≤ j ∧ j < sub + tl.length
  ·rw [if_pos ⟨rfl, h2⟩]; rw [if_pos h2] at h3; exact h3
  ·rw [if_neg (fun x => h2 x.2)]; rw [if_neg h2] at h3; exact h3
 ·have h1 : (xs.set e y).getD i d = xs.getD i d := by simp [FI, Ne.symm h]
  rw [if_neg (fun x => h x.1), h1]
  exact aZ.refl _
theorem sQ {f g : Nat → Nat → T} {n m sz : Nat} (h : n = m ∧ ∀ i, i < m → ∀ j, j < sz → f i j = g i j) : n = m ∧ ∀ i, i < m → ∀ j, j < sz → aZ (f i j) (g i j) := ⟨h.1, fun i hi j hj => by rw [h.2 i hi j hj]; exact aZ.refl _⟩
theorem r8 {xs ys : List τ} {n m sz : Nat} {f g : Nat → Nat → T} (hn : n = xs.length) (hm : m = ys.length) (hf : ∀ i, i < n → ∀ j, j < sz → f i j = be d enc xs i j) (hg : ∀ i, i < m → ∀ j, j < sz → g i j = be d enc ys i j) :
  n + m = (xs ++ ys).length ∧ ∀ i, i < (xs ++ ys).length → ∀ j, j < sz → ck n f g i j = be d enc (xs ++ ys) i j := by
 subst hn; subst hm
 refine ⟨by simp, fun i hi j hj => ?_⟩
 rw [FO] at hi
 simp only [ck]
 by_cases h : i < xs.length
 ·rw [if_pos h, hf i h j hj]
  simp only [be, FI, F3 h]
 ·rw [if_neg h, hg (i - xs.length) (by omega) j hj]
  simp only [be, FI, F4 (Nat.le_of_not_lt h)]
theorem m8 {f : Nat → Nat → T} {n sz : Nat} : ∀ i, i < n → ∀ j, j < sz → f i j = f i j := fun _ _ _ _ => rfl
end
theorem aR.nil {n sz : Nat} {f : Nat → Nat → T} (hn : n = 0) : aR (.c (.t (.v (.slice none 0 0)))) (.c (.t (.tree n sz f))) := fun w ok ρ v h => by
 obtain ⟨rfl, _⟩ := h
 subst hn
 exact ⟨none, 0, rfl, F9 _, fun i hi => by omega⟩
def bO (x y : C) : Prop := ∀ (w : World) (ok : Nat → Prop) (ρ : Ren) (v : Value), RC w ok ρ x v → RC w ok ρ y v
theorem bO.refl (x : C) : bO x x := fun _ _ _ _ h => h
theorem bO.nil {n sz : Nat} {f : Nat → Nat → T} (hn : n = 0) : bO (.t (.v (.slice none 0 0))) (.t (.tree n sz f)) := fun w ok ρ v h => by
 obtain ⟨rfl, _⟩ := h
 subst hn
 exact ⟨none, 0, rfl, F9 _, fun i hi => by omega⟩
theorem bO.tree {n m sz : Nat} {f g : Nat → Nat → T} (h : n = m ∧ ∀ i, i < m → ∀ j, j < sz → f i j = g i j) : bO (.t (.tree n sz f)) (.t (.tree m sz g)) := fun w ok ρ v k => by
 obtain ⟨rfl, hg⟩ := h
 obtain ⟨q, c, rfl, h1, h2⟩ := k
 exact ⟨q, c, rfl, h1, fun i hi j hj => let ⟨b, o, x, a1, a2, a3, a4⟩ := h2 i hi j hj; ⟨b, o, x, a1, a2, a3, by rw [← hg i hi j hj]; exact a4⟩⟩
theorem aR.c {x y : C} (h : bO x y) : aR (.c x) (.c y) := fun w ok ρ v k => h w ok ρ v k
theorem aR.agg {l m : List C} (h : ap bO l m) : aR (.agg l) (.agg m) := fun w ok ρ v ⟨ys, h1, h2⟩ => ⟨ys, h1, ap.comp (fun x y v k1 k2 => k1 w ok ρ v k2) h h2⟩
theorem E8 {h : Hp} {x y : C} (k : bO x y) : cf h x y := fun _ _ _ _ ρ _ _ w _ v hv => k w _ ρ v hv
theorem cf.bool {h : Hp} {b c : Bool} (e : b = c) : cf h (.t (.v (.bool b))) (.t (.v (.bool c))) := by subst e; exact cf.refl _ _
def bX : List Nat → Nat → Bool
 | [], _ => false
 | k :: l, i => Nat.beq k i || bX l i
theorem Fb {c : Fx} {y : Code} {Q : Exit → St → Prop} {i : Nat} {S : St} (h : Q (.exit i) S) : AW.thenQ c y Q (.exit i) S := h
theorem Fi {Q : Exit → St → Prop} {id : Nat} {S : St} (h : Q .ret S) : AW.inBlock id Q .ret S := h
theorem Fj {Q : Exit → St → Prop} {id : Nat} {S : St} (h : Q .normal S) : AW.inBlock id Q .normal S := h
theorem vj {ι : Type} {c : Fx} {st : ι → St} {k : ι → Prop} {Q : Exit → St → Prop} {i : Nat} {S : St} (h : Q (.exit i) S) : jT c st k Q (.exit i) S := h
theorem jy {ι : Type} {c : Fx} {st : ι → St} {k : ι → Prop} {Q : Exit → St → Prop} {S : St} (h : Q .ret S) : jT c st k Q .ret S := h
def fX {σ τ : Type} (c : Fx) (st : σ → St) (out : τ → Exit × St) (o : σ ⊕ τ) : Exit → St → Prop := fun e S => match o with
 | .inl s => e = .normal ∧ Conv c S (st s)
 | .inr t => e = (out t).1 ∧ Conv c S (out t).2
def mA : Exit → Prop
 | .normal => False
 | _ => True
theorem Fl {c : Fx} {Q : Exit → St → Prop} {σ τ : Type} {step : σ → Option (σ ⊕ τ)} {s0 : σ} {t : τ} {body : Code} (st : σ → St) (out : τ → Exit × St) (hl : Vm.loop step s0 = some t) (hne : ∀ t, mA (out t).1)
  (hbody : ∀ s o, step s = some o → AW c (st s) body (fX c st out o)) (hA : Q (out t).1 (out t).2) : AW c (st s0) (.loop body) Q := by
 refine AW.post (AW.loop st hl fun s o ho => AW.mono (hbody s o ho) fun e S h => ?_)
 cases o with
 | inl s' => exact h
 | inr t' =>
  obtain ⟨he, hc⟩ := h
  intro ht
  subst ht
  have hn := hne t'
  refine ⟨fun e1 => ?_, (out t').2, hc, by rw [he]; exact hA⟩
  rw [← he, e1] at hn
  exact hn
theorem cX {c : Fx} {S : St} {id : Nat} {ty0 : TypeId} {cs : List C} (i : Nat) {ty : TypeId} {sz n : Nat} {f : Nat → Nat → T} (hid : look S.h id = some (.box ty0 cs)) (hi : cs[i]? = some (.t (.v (.slice none 0 0)))) (hn : n = 0) :
  Conv c S ⟨S.tm, (id, .box ty0 (cs.set i (.ref S.n sz 0 n))) :: (S.n, .row ty false sz n f) :: S.h, S.n + 1⟩ := fun ρ a w R => by
 subst hn
 have hlt : id < S.n := by
  obtain ⟨l, l1, _⟩ := R.heap id _ hid
  exact R.used id (by rw [l1]; simp)
 have R2 := R.add (w' := w) (nid := S.n) (used' := fun id => id < S.n + 1) (bM.refl _ _) (by omega) (fun id h => by omega) (by omega) (blk := .row ty false sz 0 f) (l := .nil) (fun b cap e => by cases e) (fun _ => rfl) none (fun t h => by cases h) none undef (fun _ x hx => by cases hx)
 have e1 : look ((S.n, az.row ty false sz 0 f) :: S.h) = aQ (look S.h) [(S.n, some (.row ty false sz 0 f))] := by
  funext i; rw [bo]; rfl
 have R3 : bH c.toCx (ρ.set S.n .nil) ⟨S.tm, (S.n, .row ty false sz 0 f) :: S.h, S.n + 1⟩ a w := by
  unfold bH; rw [e1]; exact R2
 have hid2 : look ((S.n, az.row ty false sz 0 f) :: S.h) id = some (.box ty0 cs) := by rw [bo, if_neg (by omega)]; exact hid
 obtain ⟨l, l1, ⟨b, vs, v1, v2, v3⟩, l3⟩ := R3.heap id _ hid2
 have hok : ∀ x, okOf c.base w (ρ.set S.n .nil) (look ((S.n, az.row ty false sz 0 f) :: S.h)) x → okOf c.base w (ρ.set S.n .nil) (look ((id, .box ty0 (cs.set i (.ref S.n sz 0 0))) :: (S.n, az.row ty false sz 0 f) :: S.h)) x := fun x ⟨o1, o2, o3⟩ => ⟨o1, o2, fun k blk cap h1 h2 h3 => by
  rw [bo] at h1
  split at h1
  ·rename_i e; subst e; exact o3 id _ cap hid2 rfl h3
  ·exact o3 k blk cap h1 h2 h3⟩
 have hex : ∀ k x, look ((id, az.box ty0 (cs.set i (.ref S.n sz 0 0))) :: (S.n, az.row ty false sz 0 f) :: S.h) k = some x → ∃ y, look ((S.n, az.row ty false sz 0 f) :: S.h) k = some y ∧ (x.mut = true → y.mut = true) := fun k x hx => by
  rw [bo] at hx
  split at hx
  ·rename_i e; subst e; exact ⟨_, hid2, fun _ => rfl⟩
  ·exact ⟨x, hx, fun q => q⟩
 refine ⟨ρ.set S.n .nil, fun t av ht => RV.mono ⟨hok, fun _ _ => rfl⟩ (E1 _) _ _ (R3.tmp t av ht), fun k blk hk => ?_, R3.hX, fun i j b c1 c2 x y hi hj hk h1 h2 => by
  obtain ⟨x', a1, a2⟩ := hex i x hi
  obtain ⟨y', b1, b2⟩ := hex j y hj
  exact R3.inj i j b c1 c2 x' y' a1 b1 (hk.imp a2 b2) h1 h2, R3.used, R3.upd, R3.ext0, R3.size, R3.defers⟩
 ·simp only at hk
  rw [bo] at hk
  split at hk
  ·rename_i e
   injection hk with hk
   subst e; subst hk
   refine ⟨l, l1, ⟨b, vs, v1, v2, ?_⟩, l3⟩
   obtain ⟨y, y1, y2⟩ := ap.get v3 hi
   have h4 : ap (RC w (okOf c.base w (ρ.set S.n .nil) (look ((id, .box ty0 (cs.set i (.ref S.n sz 0 0))) :: (S.n, az.row ty false sz 0 f) :: S.h))) (ρ.set S.n .nil)) cs vs.toList := v3.mono (RC.mono ⟨hok, fun _ _ => rfl⟩ (E1 _))
   have h7 : RC w (okOf c.base w (ρ.set S.n .nil) (look ((id, .box ty0 (cs.set i (.ref S.n sz 0 0))) :: (S.n, az.row ty false sz 0 f) :: S.h))) (ρ.set S.n .nil) (.ref S.n sz 0 0) y := ⟨.nil, by simp [Ren.set], rfl, rfl, none, y2.1⟩
   have h5 := ap.set (i := i) h4 h7
   have h6 : vs.toList.set i y = vs.toList := by
    apply List.ext_getElem?
    intro j
    rw [Gj]
    split
    ·rename_i e; subst e; rw [y1]; split <;> simp_all
    ·rfl
   rw [h6] at h5; exact h5
  ·obtain ⟨l, l1, l2, l3⟩ := R3.heap k blk hk
   exact ⟨l, l1, RB.mono ⟨hok, fun _ _ => rfl⟩ (E1 _) _ _ (fun _ _ _ => rfl) l2, l3⟩
@[reducible] def ES (x : Int) : AV := .c (.t (.v (.int .i8 x)))
@[reducible] def ET (x : Int) : C := .t (.v (.int .i8 x))
@[reducible] def Ey (x : Int) : AV := .c (.t (.v (.int .i16 x)))
@[reducible] def Ez (x : Int) : C := .t (.v (.int .i16 x))
@[reducible] def EA (x : Int) : AV := .c (.t (.v (.int .i32 x)))
@[reducible] def QD (x : Int) : C := .t (.v (.int .i32 x))
@[reducible] def af (x : Int) : AV := .c (.t (.v (.int .i64 x)))
@[reducible] def ag (x : Int) : C := .t (.v (.int .i64 x))
@[reducible] def cK (x : Int) : AV := .c (.t (.v (.int .u8 x)))
@[reducible] def EU (x : Int) : C := .t (.v (.int .u8 x))
@[reducible] def EC (x : Int) : AV := .c (.t (.v (.int .u16 x)))
@[reducible] def ED (x : Int) : C := .t (.v (.int .u16 x))
@[reducible] def EE (x : Int) : AV := .c (.t (.v (.int .u32 x)))
@[reducible] def EF (x : Int) : C := .t (.v (.int .u32 x))
@[reducible] def aV (x : Int) : AV := .c (.t (.v (.int .u64 x)))
@[reducible] def aw (x : Int) : C := .t (.v (.int .u64 x))
@[reducible] def vb (x : Bool) : AV := .c (.t (.v (.bool x)))
@[reducible] def cb (x : Bool) : C := .t (.v (.bool x))
@[reducible] def vs (x : ByteArray) : AV := .c (.t (.v (.string x)))
@[reducible] def cs (x : ByteArray) : C := .t (.v (.string x))
@[reducible] def vl {τ : Type} (sz : Nat) (f : List τ → Nat → Nat → T) (xs : List τ) : AV := .c (.t (.tree xs.length sz (f xs)))
@[reducible] def cl {τ : Type} (sz : Nat) (f : List τ → Nat → Nat → T) (xs : List τ) : C := .t (.tree xs.length sz (f xs))
def aM {α β γ : Type} (x : Option (α × β)) (f : α → β → Option γ) : Option γ := x.bind fun p => f p.1 p.2
def ni {α β γ δ : Type} (x : Option (α × β × γ)) (f : α → β → γ → Option δ) : Option δ := x.bind fun p => f p.1 p.2.1 p.2.2
def dZ {α β γ δ ε : Type} (x : Option (α × β × γ × δ)) (f : α → β → γ → δ → Option ε) : Option ε := x.bind fun p => f p.1 p.2.1 p.2.2.1 p.2.2.2
def eM {α β γ δ ε ζ : Type} (x : Option (α × β × γ × δ × ε)) (f : α → β → γ → δ → ε → Option ζ) : Option ζ := x.bind fun p => f p.1 p.2.1 p.2.2.1 p.2.2.2.1 p.2.2.2.2
theorem aO {α β γ : Type} {x : Option (α × β)} {f : α → β → Option γ} {r : γ} (h : aM x f = some r) : ∃ a b, x = some (a, b) ∧ f a b = some r := by
 obtain ⟨⟨a, b⟩, h1, h2⟩ := ak h; exact ⟨a, b, h1, h2⟩
theorem Db {α β γ δ : Type} {x : Option (α × β × γ)} {f : α → β → γ → Option δ} {r : δ} (h : ni x f = some r) : ∃ a b c, x = some (a, b, c) ∧ f a b c = some r := by
 obtain ⟨⟨a, b, c⟩, h1, h2⟩ := ak h; exact ⟨a, b, c, h1, h2⟩
theorem fJ {α β γ δ ε : Type} {x : Option (α × β × γ × δ)} {f : α → β → γ → δ → Option ε} {r : ε} (h : dZ x f = some r) : ∃ a b c d, x = some (a, b, c, d) ∧ f a b c d = some r := by
 obtain ⟨⟨a, b, c, d⟩, h1, h2⟩ := ak h; exact ⟨a, b, c, d, h1, h2⟩
theorem gI {α β γ δ ε ζ : Type} {x : Option (α × β × γ × δ × ε)} {f : α → β → γ → δ → ε → Option ζ} {r : ζ} (h : eM x f = some r) : ∃ a b c d e, x = some (a, b, c, d, e) ∧ f a b c d e = some r := by
 obtain ⟨⟨a, b, c, d, e⟩, h1, h2⟩ := ak h; exact ⟨a, b, c, d, e, h1, h2⟩
def ca {α β γ : Type} (x : Option (α ⊕ β)) (f : α → Option γ) (g : β → Option γ) : Option γ := x.bind fun p => match p with
 | .inl a => f a
 | .inr b => g b
theorem Ao {α β γ : Type} {x : Option (α ⊕ β)} {f : α → Option γ} {g : β → Option γ} {r : γ} (h : ca x f g = some r) : (∃ a, x = some (.inl a) ∧ f a = some r) ∨ ∃ b, x = some (.inr b) ∧ g b = some r := by
 obtain ⟨p, h1, h2⟩ := ak h
 cases p with
 | inl a => exact .inl ⟨a, h1, h2⟩
 | inr b => exact .inr ⟨b, h1, h2⟩
theorem rN {τ : Type} {d : τ} {enc : τ → List T} {xs : List τ} {l n sz : Nat} (h : l + n ≤ xs.length) : n = ((xs.drop l).take n).length ∧ ∀ i, i < ((xs.drop l).take n).length → ∀ j, j < sz → be d enc xs (l + i) j = be d enc ((xs.drop l).take n) i j := by
 have hlen : ((xs.drop l).take n).length = n := by simp; omega
 refine ⟨hlen.symm, fun i hi j hj => ?_⟩
 rw [hlen] at hi
 simp only [be]
 congr 2
 simp [FI, hi, List.getElem?_drop]
theorem v8 {τ : Type} {d : τ} {enc : τ → List T} {xs : List τ} {n sz : Nat} (h : n ≤ xs.length) : n = (xs.take n).length ∧ ∀ i, i < (xs.take n).length → ∀ j, j < sz → be d enc xs i j = be d enc (xs.take n) i j := by
 have hlen : (xs.take n).length = n := by simp; omega
 refine ⟨hlen.symm, fun i hi j hj => ?_⟩
 rw [hlen] at hi
 simp only [be]
 congr 2
 simp [FI, hi]
theorem br {n : Nat} : 0 + n ≤ n := by omega
theorem tv : True := trivial
theorem Fo {c : Fx} {y : Code} {Q : Exit → St → Prop} {S : St} (h : Q .ret S) : AW.thenQ c y Q .ret S := h
theorem Fp {c : Fx} {y : Code} {Q : Exit → St → Prop} {S : St} (h : AW c S y Q) : AW.thenQ c y Q .normal S := h
def Lo {α : Type} (x y : Option α) : Prop := ∀ r, x = some r → y = some r
namespace Lo
variable {α β γ δ ε ζ η : Type}
theorem rfl_ {x : Option α} : Lo x x := fun _ h => h
theorem none_ {x : Option α} : Lo none x := fun _ h => by cases h
end Lo
structure HP where
 hi : Hi
 p : Prop
 h : p
def hn : HP := ⟨{}, True, trivial⟩
def ho {p : Prop} (h : p) : HP := ⟨{}, p, h⟩
def hq {p q : Prop} (h : p) (k : q) : HP := ⟨{}, p ∧ q, ⟨h, k⟩⟩
def ht {b : Bool} (h : b = true) : HP := ⟨{ h := { b := some true } }, b = true, h⟩
def hf {b : Bool} (h : b = false) : HP := ⟨{ h := { b := some false } }, b = false, h⟩
def hr (n : Nat) (f : Nat → Nat → T) {p : Prop} (h : p) : HP := ⟨{ h := { row := some (n, f) } }, p, h⟩
def hi (g : Nat → Int) {p : Prop} (h : p) : HP := ⟨{ h := { ints := some g } }, p, h⟩
def hz (x : HP) (n : Nat) : HP := ⟨{ x.hi with h := { x.hi.h with frz := true } }, x.p ∧ n ≤ n, ⟨x.h, F9 n⟩⟩
def eU (q : Int) (x : HP) {e : Int} (k : e = q) : HP := ⟨{ x.hi with h := { x.hi.h with ints := some fun _ => q } }, x.p ∧ e = q, ⟨x.h, k⟩⟩
def nj : List C → Prop
 | [] => True
 | _ :: l => True ∧ nj l
theorem rO : ∀ l, nj l
 | [] => trivial
 | _ :: l => ⟨trivial, rO l⟩
def jV : List S1 → Prop
 | [] => True
 | .c _ :: l => True ∧ jV l
 | .agg m :: l => nj m ∧ jV l
theorem mQ : ∀ l, jV l
 | [] => trivial
 | .c _ :: l => ⟨trivial, mQ l⟩
 | .agg m :: l => ⟨rO m, mQ l⟩
def wW : AV → Prop
 | .agg l => nj l
 | .clo _ a b => jV a ∧ jV b
 | _ => True
theorem By : ∀ x, wW x
 | .agg l => rO l
 | .c _ => trivial
 | .fagg _ _ => trivial
 | .tup _ => trivial
 | .clo _ a b => ⟨mQ a, mQ b⟩
def jN : List AV → Prop
 | [] => True
 | x :: l => wW x ∧ jN l
theorem mB : ∀ l, jN l
 | [] => trivial
 | x :: l => ⟨By x, mB l⟩
section
variable {P : Program} {f : FuncId} {args : List AV} {inb : List (Nat × az)} {out : AV} {outb : List (Nat × az)}
def hk (con : cz P f args [] out []) : HP := ⟨{ call := some { ids := [], frz := [], flat := out.flat, cnt := 0, args := args, out := out, outb := [] } }, jN args ∧ ap aR args args ∧ (out.flat = true → flatB []) ∧ cz P f args [] out [], ⟨mB _, Kj, fun _ => trivial, con⟩⟩
def hl (ids frz : List Nat) (cnt : Nat) (con : cz P f args inb out outb) : HP := ⟨{ call := some { ids := ids, frz := frz, flat := false, cnt := cnt, args := args, out := out, outb := outb } }, jN args ∧ ap aR args args ∧ (false = true → flatB outb) ∧ cz P f args inb out outb, ⟨mB _, Kj, fun h => Bool.noConfusion h, con⟩⟩
def hm (ids frz : List Nat) (cnt : Nat) (con : cz P f args inb out outb) (hf : flatB outb) : HP := ⟨{ call := some { ids := ids, frz := frz, flat := true, cnt := cnt, args := args, out := out, outb := outb } }, jN args ∧ ap aR args args ∧ (true = true → flatB outb) ∧ cz P f args inb out outb, ⟨mB _, Kj, fun _ => hf, con⟩⟩
def hg (ids frz : List Nat) (flat : Bool) (cnt : Nat) {q : Prop} (hq : q) {a0 : List AV} (con : cz P f args inb out outb) (ha : ap aR a0 args) (hf : flat = true → flatB outb) : HP := ⟨{ call := some { ids := ids, frz := frz, flat := flat, cnt := cnt, args := args, out := out, outb := outb } }, q ∧ ap aR a0 args ∧ (flat = true → flatB outb) ∧ cz P f args inb out outb, ⟨hq, ha, hf, con⟩⟩
end
section
variable {τ : Type} {d : τ} {enc : τ → List T}
theorem AQ {xs : List τ} {n e : Nat} {y : τ} (hn : n = xs.length) (he : e < n) : n = n ∧ ∀ i, i < n → ∀ j, j < (enc y).length → aZ (Hu (be d enc xs) e 0 (enc y) i j) (be d enc (xs.set e y) i j) := by
 have := (Bw (d := d) (enc := enc) (xs := xs) (n := n) (e := e) (sub := 0) (sz := (enc y).length) (tl := enc y) (y := y) hn he (fun j hj => by rw [if_pos ⟨Nat.zero_le _, by omega⟩]; exact aZ.refl _))
 exact ⟨rfl, this.2⟩
def hset (d : τ) (enc : τ → List T) (xs : List τ) (e : Nat) (y : τ) {n : Nat} (he : e < n) (hn : n = xs.length) : HP := ⟨{ h := { row := some (n, be d enc (xs.set e y)) } }, e < n ∧ n = n ∧ ∀ i, i < n → ∀ j, j < (enc y).length → aZ (Hu (be d enc xs) e 0 (enc y) i j) (be d enc (xs.set e y) i j), ⟨he, AQ hn he⟩⟩
def bY (d : τ) (enc : τ → List T) (sz bytes : Nat) (xs ys : List τ) (hl : xs.length + ys.length ≤ 1099511627776) (hb : bytes ≤ 128) : HP := ⟨{ h := { row := some ((xs ++ ys).length, be d enc (xs ++ ys)) } }, xs.length = xs.length ∧ 0 + ys.length ≤ ys.length ∧ (xs.length + ys.length ≤ 1099511627776 ∧ bytes ≤ 128) ∧ xs.length + ys.length = (xs ++ ys).length ∧ ∀ i, i < (xs ++ ys).length → ∀ j, j < sz → aZ (ck xs.length (be d enc xs) (fun i j => be d enc ys (0 + i) j) i j) (be d enc (xs ++ ys) i j),
 ⟨rfl, br, ⟨hl, hb⟩, sQ (r8 rfl rfl m8 (fun i _ j _ => congrArg (fun k => be d enc ys k j) (Gg i)))⟩⟩
def j9 (d : τ) (enc : τ → List T) (sz bytes : Nat) (zs : List Value) (he : enc d = zs.map T.v) (hz : zs.length = sz) (l c : Int) (h0 : 0 ≤ l) (h1 : l ≤ c) (h2 : c ≤ 1099511627776) (hb : bytes ≤ 128) : HP := ⟨{ h := { row := some ((List.replicate l.toNat d).length, be d enc (List.replicate l.toNat d)) } }, (0 ≤ l ∧ l ≤ c ∧ c ≤ 1099511627776 ∧ bytes ≤ 128) ∧ l.toNat = (List.replicate l.toNat d).length ∧ ∀ i, i < (List.replicate l.toNat d).length → ∀ j, j < sz → aZ (.v (zs.getD j undef)) (be d enc (List.replicate l.toNat d) i j),
 ⟨⟨h0, h1, h2, hb⟩, Ce (z := fun j => .v (zs.getD j undef)) (fun j hj => by
  rw [he]
  have : (zs.map T.v).getD j (.v undef) = .v (zs.getD j undef) := by simp [FI, F6, FJ (by omega : j < zs.length)]
  rw [this]; exact aZ.refl _)⟩⟩
theorem we {sz : Nat} (hs : ∀ x, (enc x).length = sz) : ∀ (xs : List τ) (i j : Nat), i < xs.length → j < sz → (xs.flatMap enc).getD (i * sz + j) (.v undef) = (enc (xs.getD i d)).getD j (.v undef)
 | [], i, j, h, _ => absurd h (Px _)
 | x :: xs, 0, j, _, hj => by
  rw [List.flatMap_cons, Nat.zero_mul, Gg, FI, F3 (by rw [hs]; exact hj)]
  rfl
 | x :: xs, i + 1, j, h, hj => by
  have := we hs xs i j (by simpa using h) hj
  rw [List.flatMap_cons, FI, F4 (by rw [hs, Nat.add_mul]; omega), hs]
  rw [show (i + 1) * sz + j - sz = i * sz + j by rw [Nat.add_mul]; omega]
  exact this
def bh (d : τ) (enc : τ → List T) (sz : Nat) (hs : ∀ x, (enc x).length = sz) (xs : List τ) : HP := ⟨{ h := { row := some (xs.length, be d enc xs) } }, xs.length = xs.length ∧ ∀ i, i < xs.length → ∀ j, j < sz → aZ (cq (xs.flatMap enc) sz i j) (be d enc xs i j), ⟨rfl, fun i hi j hj => by
 have := we (d := d) hs xs i j hi hj
 unfold cq be
 rw [this]; exact aZ.refl _⟩⟩
end
def cP : Nat → List HP → List Prop
 | 0, _ => []
 | n + 1, [] => True :: cP n []
 | n + 1, x :: l => x.p :: cP n l
theorem gV : ∀ (n : Nat) (l : List HP), dx (cP n l)
 | 0, _ => trivial
 | n + 1, [] => ⟨trivial, gV n []⟩
 | n + 1, x :: l => ⟨x.h, gV n l⟩
def dm : List Oper → List Nat
 | [] => []
 | o :: l => match o.dst with
  | some d => d :: dm l
  | none => dm l
theorem Bz {t : Nat} : ∀ {l : List Oper} {o : Oper}, o ∈ l → o.dst = some t → bX (dm l) t = true := by
 intro l
 induction l with
 | nil => intro o h; cases h
 | cons p l ih =>
  intro o h hd
  rcases F1.1 h with rfl | h
  ·simp only [dm, hd, bX, Nat.beq_refl, Bool.true_or]
  ·have h3 := ih h hd
   simp only [dm]
   split
   ·simp only [bX, h3, Bool.or_true]
   ·exact h3
def bW {α : Type} (l : List (Nat × α)) : List Nat := l.map fun p => p.1
def Hy (P : Program) (tt : TT) (ops : List Oper) : List Oper → List Hi → St → Option (St × List Prop × List Nat)
 | [], _, S => some (S, [], [])
 | o :: rest, xs, S =>
  let x := xs.headD {}
  match eL P tt ops (look S.tm) (look S.h) o S.n x with
  | some r => match Hy P tt ops rest xs.tail ⟨fV S.tm o.dst (dL r), fu S.h (cy r), S.n + x.cnt⟩ with
   | some (S', l, ks) => some (S', hP r :: l, bW (cy r) ++ ks)
   | none => none
  | none => none
theorem wg : ∀ {l : List Nat} {i : Nat}, bX l i = true → i ∈ l
 | k :: l, i, h => by
  simp only [bX, Bool.or_eq_true] at h
  rcases h with h | h
  ·exact F1.2 (.inl (Nat.eq_of_beq_eq_true h).symm)
  ·exact F0 _ (wg h)
theorem rP : ∀ {l : List Nat} {i : Nat}, i ∈ l → bX l i = true
 | k :: l, i, h => by
  simp only [bX, Bool.or_eq_true]
  rcases F1.1 h with rfl | h
  ·exact .inl (Nat.beq_refl _)
  ·exact .inr (rP h)
theorem AR {W : List (Nat × Option az)} {id : Nat} (h : bX (bW W) id = false) : GT W id = false := by
 cases hk : GT W id with
 | false => rfl
 | true =>
  simp only [GT, List.any_eq_true] at hk
  obtain ⟨p, h1, h2⟩ := hk
  have : bX (bW W) id = true := rP (Pz.2 ⟨p, h1, Nat.eq_of_beq_eq_true h2⟩)
  rw [h] at this; cases this
theorem uV {i : Nat} : ∀ {l m : List Nat}, bX (l ++ m) i = (bX l i || bX m i)
 | [], m => by simp [bX]
 | k :: l, m => by simp only [List.cons_append, bX, uV, Bool.or_assoc]
theorem wA {P : Program} {tt : TT} {ops : List Oper} : ∀ {l : List Oper} {xs : List Hi} {S S' : St} {ps : List Prop} {ks : List Nat}, Hy P tt ops l xs S = some (S', ps, ks) →
  cI P tt ops l xs S = some (S', ps) ∧ (∀ t, bX (dm l) t = false → look S'.tm t = look S.tm t) ∧ ∀ id, bX ks id = false → look S'.h id = look S.h id
 | [], xs, S, S', ps, ks, e => by
  simp only [Hy, FL, FV] at e
  obtain ⟨rfl, rfl, rfl⟩ := e
  exact ⟨rfl, fun _ _ => rfl, fun _ _ => rfl⟩
 | o :: rest, xs, S, S', ps, ks, e => by
  simp only [Hy] at e
  split at e
  ·rename_i r hr
   split at e
   ·rename_i S1 l ks1 he
    simp only [FL, FV] at e
    obtain ⟨rfl, rfl, rfl⟩ := e
    obtain ⟨h1, h2, h3⟩ := wA he
    refine ⟨by simp only [cI, hr, h1], fun t ht => ?_, fun id hid => ?_⟩
    ·have hd : bX (dm rest) t = false ∧ o.dst ≠ some t := by
      simp only [dm] at ht
      split at ht
      ·rename_i d hd
       simp only [bX, Bool.or_eq_false_iff] at ht
       exact ⟨ht.2, fun e => by rw [hd] at e; injection e with e; subst e; have := ht.1; simp at this⟩
      ·rename_i hd; exact ⟨ht, fun e => by rw [hd] at e; cases e⟩
     rw [h2 t hd.1, mh]
     simp only [bG]
     rw [if_neg (fun e => hd.2 e.symm)]
    ·rw [uV, Bool.or_eq_false_iff] at hid
     rw [h3 id hid.2, gG]
     exact rk _ (AR hid.1)
   ·cases e
  ·cases e
def nv (ks : List Nat) (i : Nat) : Bool := !bX ks i
def Hl (S : St) (ds : List Nat) (tm : List (Nat × AV)) (ks : List Nat) (h : List (Nat × az)) (n : Nat) : St := ⟨tm ++ dD (nv ds) S.tm, h ++ dD (nv ks) S.h, n⟩
theorem JA {α : Type} (i : Nat) : ∀ (l m : List (Nat × α)), look (l ++ m) i = match look l i with
  | some x => some x
  | none => look m i
 | [], m => rfl
 | (k, v) :: l, m => by
  simp only [List.cons_append, bo]
  split
  ·rfl
  ·exact JA i l m
def dn {α : Type} : List (Nat × α) → List (Option α)
 | [] => []
 | (_, x) :: l => some x :: dn l
theorem rQ {α : Type} {g : Nat → Option α} {i : Nat} {x : α} : ∀ {l : List (Nat × α)}, (bW l).map g = dn l → look l i = some x → g i = some x
 | [], _, h => by cases h
 | (k, v) :: l, e, h => by
  simp only [bW, Gr, dn, List.cons.injEq] at e
  rw [bo] at h
  split at h
  ·rename_i e1; injection h with h; subst e1; subst h; exact e.1
  ·exact rQ e.2 h
theorem wB {c : Fx} {S S1 : St} {ds ks : List Nat} {tm : List (Nat × AV)} {h : List (Nat × az)} (ht : (bW tm).map (look S1.tm) = dn tm) (hh : (bW h).map (look S1.h) = dn h)
  (ft : ∀ t, bX ds t = false → look S1.tm t = look S.tm t) (fh : ∀ id, bX ks id = false → look S1.h id = look S.h id) : Conv c S1 (Hl S ds tm ks h S1.n) := fun ρ a w R =>
 ⟨ρ, R.weaken (fun t av e => by
   simp only [Hl, JA] at e
   split at e
   ·rename_i x hx
    injection e with e
    subst e
    exact rQ ht hx
   ·rw [fc] at e
    split at e
    ·rename_i h1
     simp only [nv, Bool.not_eq_true'] at h1
     rw [ft t h1]; exact e
    ·cases e) (fun id b e => by
   simp only [Hl, JA] at e
   split at e
   ·rename_i x hx
    injection e with e
    subst e
    exact rQ hh hx
   ·rw [fc] at e
    split at e
    ·rename_i h1
     simp only [nv, Bool.not_eq_true'] at h1
     rw [fh id h1]; exact e
    ·cases e)⟩
def wX (ks l : List Nat) : Bool := l.all fun i => bX ks i
theorem AS {ks l : List Nat} (h : wX ks l = true) {i : Nat} (hi : bX ks i = false) : bX l i = false := by
 cases hl : bX l i with
 | false => rfl
 | true =>
  have := FX.1 h i (wg hl)
  rw [hi] at this; cases this
abbrev xj := Bool × List (Option AV) × List (Option az) × Nat × List Prop
def gh (nt : Nat) (ops : List Oper) (ts ids ks : List Nat) : Option (St × List Prop × List Nat) → Option xj
 | some (S1, ps, wk) => some (cE ops nt && wX ks wk, ts.map (look S1.tm), ids.map (look S1.h), S1.n, ps)
 | none => none
abbrev pX (i s : Nat) : AV := .c (.ptr i s 0 0)
abbrev rX (i s n : Nat) : AV := .c (.ref i s 0 n)
abbrev ax : C := .t (.v (.slice none 0 0))
abbrev aj := List ByteArray
theorem AW.rg {c : Fx} {S : St} {Q : Exit → St → Prop} {tt : TT} (hT : bb c.P tt) {id : Nat} {ops : List Oper} (tm : List (Nat × AV)) (ks : List Nat) (h : List (Nat × az)) (n : Nat) (xs : List HP)
  (hQ : Q .normal (Hl S (dm ops) tm ks h n)) (e : gh c.nt ops (bW tm) (bW h) ks (Hy c.P tt ops ops (xs.map HP.hi) S) = some (true, dn tm, dn h, n, cP ops.length xs) := by kernel_rfl) : AW c S (.region id ops.toArray false) Q := by
 unfold gh at e
 split at e
 ·rename_i S1 ps wk hr
  simp only [FL, FV, FY] at e
  obtain ⟨⟨e1, e2⟩, e3, e4, e5, e6⟩ := e
  obtain ⟨r1, r2, r3⟩ := wA hr
  subst e6; subst e5
  exact AW.post (AW.region hT e1 r1 (gV _ _) ⟨_, wB e3 e4 r2 (fun id hid => r3 id (AS e2 hid)), hQ⟩)
 ·cases e
theorem Fs {c : Fx} {S : St} {Q : Exit → St → Prop} {tt : TT} (hT : bb c.P tt) {id : Nat} {ops : List Oper} {y : Code} (tm : List (Nat × AV)) (ks : List Nat) (h : List (Nat × az)) (n : Nat) (xs : List HP)
    (hQ : AW c (Hl S (dm ops) tm ks h n) y Q) (e : gh c.nt ops (bW tm) (bW h) ks (Hy c.P tt ops ops (xs.map HP.hi) S) = some (true, dn tm, dn h, n, cP ops.length xs) := by kernel_rfl) : AW c S (.seq (.region id ops.toArray false) y) Q := AW.seq (AW.rg hT tm ks h n xs hQ e)
theorem ah {c : Fx} {S : St} {Q : Exit → St → Prop} {tt : TT} (hT : bb c.P tt) {id : Nat} {ops : List Oper} {y : Code} (tm : List (Nat × AV)) (n : Nat) (hQ : AW c (Hl S (dm ops) tm [] [] n) y Q) (e : gh c.nt ops (bW tm) [] [] (Hy c.P tt ops ops ([]) S) = some (true, dn tm, [], n, cP ops.length []) := by kernel_rfl) : AW c S (.seq (.region id ops.toArray false) y) Q := Fs hT tm [] [] n [] hQ e
theorem ay {c : Fx} {S : St} {Q : Exit → St → Prop} {tt : TT} (hT : bb c.P tt) {id : Nat} {ops : List Oper} {y : Code} (tm : List (Nat × AV)) (n : Nat) (xs : List HP) (hQ : AW c (Hl S (dm ops) tm [] [] n) y Q) (e : gh c.nt ops (bW tm) [] [] (Hy c.P tt ops ops (xs.map HP.hi) S) = some (true, dn tm, [], n, cP ops.length xs) := by kernel_rfl) : AW c S (.seq (.region id ops.toArray false) y) Q := Fs hT tm [] [] n xs hQ e
theorem aS {c : Fx} {S : St} {Q : Exit → St → Prop} {tt : TT} (hT : bb c.P tt) {id : Nat} {ops : List Oper} (tm : List (Nat × AV)) (n : Nat) (hQ : Q .normal (Hl S (dm ops) tm [] [] n)) (e : gh c.nt ops (bW tm) [] [] (Hy c.P tt ops ops ([]) S) = some (true, dn tm, [], n, cP ops.length []) := by kernel_rfl) : AW c S (.region id ops.toArray false) Q := AW.rg hT tm [] [] n [] hQ e
theorem au {c : Fx} {S : St} {Q : Exit → St → Prop} {tt : TT} (hT : bb c.P tt) {id : Nat} {ops : List Oper} (tm : List (Nat × AV)) (n : Nat) (xs : List HP) (hQ : Q .normal (Hl S (dm ops) tm [] [] n)) (e : gh c.nt ops (bW tm) [] [] (Hy c.P tt ops ops (xs.map HP.hi) S) = some (true, dn tm, [], n, cP ops.length xs) := by kernel_rfl) : AW c S (.region id ops.toArray false) Q := AW.rg hT tm [] [] n xs hQ e
def sa : List Oper → List Nat → List Nat
 | [], acc => acc
 | o :: l, acc => sa l (acc ++ [fp acc o.after.toList])
def il : Nat → List (List Nat) → List (List Nat)
 | 0, _ => []
 | n + 1, [] => [] :: il n []
 | n + 1, x :: l => x :: il n l
def sV (nt : Nat) (ops : List Oper) (ts ids : List Nat) : Option (St × List Prop) → Option xj
 | some (S1, ps) => some (cE ops nt, ts.map (look S1.tm), ids.map (look S1.h), S1.n, ps)
 | none => none
theorem zr {P : Program} {tt : TT} {ops : List Oper} {masks : List Nat} {wk : List (List Nat)} {xs : List Hi} {S S1 : St} {ps : List Prop} (e : fj P tt ops masks wk xs S = some (S1, ps)) :
  (∀ t, bX (dm ops) t = false → look S1.tm t = look S.tm t) ∧ ∀ id, bX wk.flatten id = false → look S1.h id = look S.h id := by
 unfold fj at e
 split at e
 ·split at e
  ·rename_i l n hl
   simp only [FL, FV] at e
   obtain ⟨rfl, rfl⟩ := e
   obtain ⟨_, _, glen, g⟩ := qE ops 0 xs [] S.n l n rfl hl
   have hget : ∀ m o r, l[m]? = some (o, r) → o ∈ ops ∧ ∀ id, GT (cy r) id = true → id ∈ wk.getD m [] := fun m o r hm => by
    have hlt : m < ops.length := by
     have := (List.getElem?_eq_some_iff.1 hm).1
     omega
    obtain ⟨r', k1, _, k3⟩ := g m ops[m] (FJ hlt)
    rw [Gg, hm] at k1
    injection k1 with k1
    injection k1 with k1 k2
    subst k1; subst k2
    exact ⟨Gh hlt, fun id hid => by have := k3 id hid; rwa [Gg] at this⟩
   refine ⟨fun t ht => ?_, fun id hid => ?_⟩
   ·simp only [JK]
    rw [gO (F := fun _ => false) l 0 (look S.tm) (look S.tm) rfl (fun m o e hm hd => by
     have := Bz (hget m o e hm).1 hd
     rw [ht] at this; cases this), r6 (fun _ => rfl)]
   ·simp only [m5]
    rw [gP (F := fun _ => false) l 0 (look S.h) (look S.h) rfl (fun m o e hm hk => by
     have h1 := (hget m o e hm).2 id hk
     have : bX wk.flatten id = true := rP (List.mem_flatten.2 (by
      rcases Gi m wk.length with h' | h'
      ·refine ⟨wk[m], Gh h', ?_⟩
       rw [FI, FJ h'] at h1; exact h1
      ·rw [FI, FK h'] at h1; simp at h1))
     rw [hid] at this; cases this), r7 (fun _ => rfl)]
  ·cases e
 ·cases e
theorem Fu {c : Fx} {S : St} {Q : Exit → St → Prop} {tt : TT} (hT : bb c.P tt) (hm : c.P.follows .mixedOrders = true) {id : Nat} {ops : List Oper} (wk : List (List Nat)) (tm : List (Nat × AV)) (h : List (Nat × az)) (n : Nat) (xs : List HP)
  (hQ : Q .normal (Hl S (dm ops) tm (il ops.length wk).flatten h n)) (e : sV c.nt ops (bW tm) (bW h) (fj c.P tt ops (sa ops []) (il ops.length wk) (xs.map HP.hi) S) = some (true, dn tm, dn h, n, cP ops.length xs) := by kernel_rfl) : AW c S (.region id ops.toArray true) Q := by
 unfold sV at e
 split at e
 ·rename_i S1 ps hr
  simp only [FL, FV] at e
  obtain ⟨e1, e3, e4, e5, e6⟩ := e
  obtain ⟨r2, r3⟩ := zr hr
  subst e6; subst e5
  exact AW.post (AW.regionD hT hm e1 hr (gV _ _) ⟨_, wB e3 e4 r2 r3, hQ⟩)
 ·cases e
theorem Fv {c : Fx} {S : St} {Q : Exit → St → Prop} {tt : TT} (hT : bb c.P tt) (hm : c.P.follows .mixedOrders = true) {id : Nat} {ops : List Oper} {y : Code} (wk : List (List Nat)) (tm : List (Nat × AV)) (h : List (Nat × az)) (n : Nat) (xs : List HP)
    (hQ : AW c (Hl S (dm ops) tm (il ops.length wk).flatten h n) y Q) (e : sV c.nt ops (bW tm) (bW h) (fj c.P tt ops (sa ops []) (il ops.length wk) (xs.map HP.hi) S) = some (true, dn tm, dn h, n, cP ops.length xs) := by kernel_rfl) : AW c S (.seq (.region id ops.toArray true) y) Q := AW.seq (Fu hT hm wk tm h n xs hQ e)
theorem aG {α : Type} {p q : Prop} [Decidable p] [Decidable q] {x : Option α} {r : α} (h : (if p then (if q then x else none) else none) = some r) : p ∧ q ∧ x = some r := by
 obtain ⟨h1, h⟩ := aN h
 obtain ⟨h2, h⟩ := aN h
 exact ⟨h1, h2, h⟩
theorem aD {α : Type} {b : Bool} {x y : Option α} {r : α} (h : (if b = true then x else y) = some r) : (b = true ∧ x = some r) ∨ (b = false ∧ y = some r) := by
 cases b with
 | true => exact .inl ⟨rfl, h⟩
 | false => exact .inr ⟨rfl, h⟩
theorem Fw {c : Fx} {S : St} {Q : Exit → St → Prop} {α : Type} {b : Bool} {x y : Option α} {r : α} (h : (if b = true then x else y) = some r) {o : Operand} {z w : Code} (h1 : b = true → x = some r → AW c S z Q) (h2 : b = false → y = some r → AW c S w Q) (hx : ev (look S.tm) o = some (.c (.t (.v (.bool b)))) := by kernel_rfl) : AW c S (.cond o z w) Q :=
 AW.cond hx (fun e => by subst e; exact h1 rfl h) (fun e => by subst e; exact h2 rfl h)
theorem fK {c : Fx} {S : St} (tm : List (Nat × AV)) (h : nr (look S.h) (look S.tm) tm) : Conv c S ⟨tm ++ S.tm, S.h, S.n⟩ := fun ρ a w R =>
 ⟨ρ, ⟨fun t av e => by
   simp only [JA] at e
   split at e
   ·rename_i x hx
    injection e with e
    subst e
    obtain ⟨y, h1, h2⟩ := rL h hx
    exact h2 _ _ _ _ _ _ _ _ R _ (R.tmp t y h1)
   ·exact R.tmp t av e, R.heap, R.hX, R.inj, R.used, R.upd, R.ext0, R.size, R.defers⟩⟩
theorem ai {c : Fx} {S S' : St} (m : List (Nat × Nat)) (e : (dX m (bW S'.tm) S'.n S, bT (m.map (·.2)) && bT (m.map (·.1)) && dW S'.n m && dM c.k S'.n m) = (some S', true) := by kernel_rfl) : Conv c S S' := by
 simp only [FV] at e
 exact mP m _ e.1 e.2
theorem cG.len {h : Hp} {id sz off n m : Nat} (e : n = m) : cG h (.c (.ref id sz off n)) (.c (.ref id sz off m)) := by subst e; exact cG.refl _ _
theorem gJ {c : Fx} {S : St} (id : Nat) (ty : TypeId) (fro : Bool) (sz n m : Nat) (f : Nat → Nat → T) (hid : look S.h id = some (.row ty fro sz n f)) (hn : n = m) : Conv c S ⟨S.tm, (id, .row ty fro sz m f) :: S.h, S.n⟩ := vZ hid (.inl rfl) hn m8
theorem Iw {c : Fx} {S : St} (id : Nat) (ty : TypeId) (sz n : Nat) (f : Nat → Nat → T) (hid : look S.h id = some (.row ty false sz n f)) : Conv c S ⟨S.tm, (id, .row ty true sz n f) :: S.h, S.n⟩ := vZ hid (.inr rfl) rfl m8
theorem jl {ι : Type} {c : Fx} {st : ι → St} {k : ι → Prop} {Q : Exit → St → Prop} {S : St} (i : ι) (h : k i) (hc : Conv c S (st i) := by exact ai []) : jT c st k Q .normal S := ⟨i, h, hc⟩
theorem bu {σ τ : Type} {c : Fx} {st : σ → St} {out : τ → Exit × St} {s : σ} {o : σ ⊕ τ} {S : St} (h : some (Sum.inl s) = some o) (hc : Conv c S (st s)) : fX c st out o .normal S := by
 obtain rfl := am h
 exact ⟨rfl, hc⟩
theorem aU {σ τ : Type} {c : Fx} {st : σ → St} {out : τ → Exit × St} {t : τ} {o : σ ⊕ τ} {e : Exit} {S : St} (h : some (Sum.inr t) = some o) (he : e = (out t).1) (hc : Conv c S (out t).2) : fX c st out o e S := by
 obtain rfl := am h
 exact ⟨he, hc⟩
theorem Fy {c : Fx} {S : St} {Q : Exit → St → Prop} {σ τ : Type} {step : σ → Option (σ ⊕ τ)} {s0 : σ} {t : τ} {body : Code} (hl : Vm.loop step s0 = some t) (st : σ → St) (out : τ → Exit × St) (hc : Conv c S (st s0)) (hne : ∀ t, mA (out t).1)
    (hbody : ∀ s o, step s = some o → AW c (st s) body (fX c st out o)) (hA : Q (out t).1 (out t).2) : AW c S (.loop body) Q := AW.pre hc (Fl st out hl hne hbody hA)
theorem FA {c : Fx} {S : St} {Q : Exit → St → Prop} {σ A B γ : Type} {step : σ → Option (σ ⊕ (A ⊕ B))} {s0 : σ} {f : A → Option γ} {g : B → Option γ} {r : γ} {body : Code} (h : ca (Vm.loop step s0) f g = some r) (st : σ → St) (o1 : A → Exit × St) (o2 : B → Exit × St) (hc : Conv c S (st s0)) (n1 : ∀ t, mA (o1 t).1) (n2 : ∀ t, mA (o2 t).1)
  (hbody : ∀ s o, step s = some o → AW c (st s) body (fX c st (fun t => match t with | .inl t => o1 t | .inr t => o2 t) o)) (hA : ∀ a, f a = some r → Q (o1 a).1 (o1 a).2) (hB : ∀ b, g b = some r → Q (o2 b).1 (o2 b).2) : AW c S (.loop body) Q := by
 rcases Ao h with ⟨t, hl, h⟩ | ⟨t, hl, h⟩
 ·exact Fy hl st (fun t => match t with | .inl t => o1 t | .inr t => o2 t) hc (fun t => by cases t with | inl t => exact n1 t | inr t => exact n2 t) hbody (hA t h)
 ·exact Fy hl st (fun t => match t with | .inl t => o1 t | .inr t => o2 t) hc (fun t => by cases t with | inl t => exact n1 t | inr t => exact n2 t) hbody (hB t h)
def ig {α : Type} : List α → List Prop
 | [] => []
 | _ :: l => True :: ig l
theorem wh {α : Type} : ∀ l : List α, dx (ig l)
 | [] => trivial
 | _ :: l => ⟨trivial, wh l⟩
theorem cB {c : Fx} {S S1 : St} {tt : TT} {rs : List ResultVar} {k : Nat} {out : AV} {outb : List (Nat × az)} {e : Exit} (he : e = .normal ∨ e = .ret) (m : List (Nat × Nat)) (n : Nat) (out0 : AV) (hc : Conv c S S1)
  (q : (fA tt S1 rs, dX m [0] n ⟨[(0, out0)], S1.h, S1.n⟩, bT (m.map (·.2)) && bT (m.map (·.1)) && dW n m && dM k n m) = (some (out0, ig rs), some ⟨[(0, out)], outb, n⟩, true) := by kernel_rfl) : ∃ S2, Conv c S S2 ∧ (e = .normal ∨ e = .ret) ∧ dY tt rs k S2 out outb := by
 simp only [FV] at q
 exact ⟨S1, hc, he, dY.mk m n q.1 (wh _) q.2.1 q.2.2⟩
theorem aW {c : Fx} {S : St} {tt : TT} {rs : List ResultVar} {k : Nat} {out : AV} {outb : List (Nat × az)} {e : Exit} (he : e = .normal ∨ e = .ret) (m : List (Nat × Nat)) (n : Nat) (out0 : AV)
    (q : (fA tt S rs, dX m [0] n ⟨[(0, out0)], S.h, S.n⟩, bT (m.map (·.2)) && bT (m.map (·.1)) && dW n m && dM k n m) = (some (out0, ig rs), some ⟨[(0, out)], outb, n⟩, true) := by kernel_rfl) : ∃ S2, Conv c S S2 ∧ (e = .normal ∨ e = .ret) ∧ dY tt rs k S2 out outb := cB he m n out0 (Conv.refl _ _) q
theorem Cv {β : Type} {a r : β} (h : some a = some r) {c : Fx} {S : St} {tt : TT} {rs : List ResultVar} {k : Nat} {out : β → AV} {outb : List (Nat × az)} (m : List (Nat × Nat)) (n : Nat) (out0 : AV)
  (q : (fA tt S rs, dX m [0] n ⟨[(0, out0)], S.h, S.n⟩, bT (m.map (·.2)) && bT (m.map (·.1)) && dW n m && dM k n m) = (some (out0, ig rs), some ⟨[(0, out a)], outb, n⟩, true) := by kernel_rfl) : ∃ S2, Conv c S S2 ∧ ((.ret : Exit) = .normal ∨ (.ret : Exit) = .ret) ∧ dY tt rs k S2 (out r) outb := by
 obtain rfl := am h
 exact aW (.inr rfl) m n out0 q
theorem al {β : Type} {a r : β} (h : some a = some r) {c : Fx} {S : St} {tt : TT} {rs : List ResultVar} {k : Nat} {out : β → AV} {outb : List (Nat × az)} (out0 : AV)
    (q : (fA tt S rs, dX [] [0] 0 ⟨[(0, out0)], S.h, S.n⟩, dM k 0 []) = (some (out0, ig rs), some ⟨[(0, out a)], outb, 0⟩, true) := by kernel_rfl) : ∃ S2, Conv c S S2 ∧ ((.ret : Exit) = .normal ∨ (.ret : Exit) = .ret) ∧ dY tt rs k S2 (out r) outb := Cv h [] 0 out0 q
theorem EI {n : Int} (h0 : -9223372036854775808 ≤ n) (h1 : n < 9223372036854775808) : IntKind.i64.wrap n = n := by
 simp only [IntKind.wrap, IntKind.bits, IntKind.signed]
 simp
 omega
theorem D1 (n : Int) : IntKind.i64.wrap n = (n + 9223372036854775808) % 18446744073709551616 - 9223372036854775808 := by
 simp only [IntKind.wrap, IntKind.bits, IntKind.signed]
 simp
 omega
theorem sb (n : Int) : IntKind.u64.wrap n = n % 18446744073709551616 := by
 simp [IntKind.wrap, IntKind.bits, IntKind.signed]
theorem EJ {n : Int} (h0 : 0 ≤ n) (h1 : n < 18446744073709551616) : IntKind.u64.wrap n = n := by
 rw [sb]; omega
theorem D2 (n : Int) : 0 ≤ IntKind.u64.wrap n := by rw [sb]; omega
theorem D3 (n : Int) : IntKind.u64.wrap n < 18446744073709551616 := by rw [sb]; omega
theorem D4 {a b : Int} (h : 0 ≤ a) : a.tmod b = a % b := Int.tmod_eq_emod_of_nonneg h
theorem D5 {a b : Int} (h : 0 ≤ a) : a.tdiv b = a / b := Int.tdiv_eq_ediv_of_nonneg h
theorem Dd {α β : Type} (a : α) (f : α → Option β) : (some a).bind f = f a := rfl
theorem De {α β γ : Type} (a : α) (b : β) (f : α → β → Option γ) : aM (some (a, b)) f = f a b := rfl
theorem Df {α β γ δ : Type} (a : α) (b : β) (c : γ) (f : α → β → γ → Option δ) : ni (some (a, b, c)) f = f a b c := rfl
theorem Dh {α β γ δ ε : Type} (a : α) (b : β) (c : γ) (d : δ) (f : α → β → γ → δ → Option ε) : dZ (some (a, b, c, d)) f = f a b c d := rfl
theorem EK {α : Type} {c : Prop} [Decidable c] {a b : α} (h : c := by omega) : (if c then a else b) = a := if_pos h
theorem EL {α : Type} {c : Prop} [Decidable c] {a b : α} (h : ¬c := by omega) : (if c then a else b) = b := if_neg h
theorem EM {α : Type} {c : Prop} [Decidable c] {a b : α} (h : c := by decide) : (if c then a else b) = a := if_pos h
theorem EN {α : Type} {c : Prop} [Decidable c] {a b : α} (h : ¬c := by decide) : (if c then a else b) = b := if_neg h
theorem EO {α : Type} {c : Prop} [Decidable c] {a b : α} (h : ¬c := by simp) : (if c then a else b) = b := if_neg h
theorem EP {α : Type} {c : Prop} [Decidable c] {a b : α} (h : c := by (simp only [Pq]; omega)) : (if c then a else b) = a := if_pos h
theorem EQ {α : Type} {c : Prop} [Decidable c] {a b : α} (h : c := by (simp only [Pu]; omega)) : (if c then a else b) = a := if_pos h
theorem ER {α : Type} {c : Prop} [Decidable c] {a b : α} (h : ¬c := by (simp only [Pu]; omega)) : (if c then a else b) = b := if_neg h
theorem D6 {α β γ : Type} (a : α) (f : α → Option γ) (g : β → Option γ) : ca (some (.inl a)) f g = f a := rfl
theorem vH {σ τ : Type} {step : σ → Option (σ ⊕ τ)} {s s' : σ} (h : step s = some (.inl s')) : loop step s = loop step s' := by
 rw [m6, h]
theorem rR {σ τ : Type} {step : σ → Option (σ ⊕ τ)} {s : σ} {t : τ} (h : step s = some (.inr t)) : loop step s = some t := by
 rw [m6, h]
theorem DF {σ τ : Type} {step : σ → Option (σ ⊕ τ)} (S : Nat → σ) (n : Nat) (t : τ) (h : ∀ i, i < n → step (S i) = some (.inl (S (i + 1)))) (hn : step (S n) = some (.inr t)) {s : σ} (hs : s = S 0) : loop step s = some t := by
 subst hs
 have H : ∀ k, k ≤ n → loop step (S (n - k)) = some t := by
  intro k
  induction k with
  | zero => intro _; exact rR hn
  | succ k ih =>
   intro hk
   rw [vH (h (n - (k + 1)) (by omega)), show n - (k + 1) + 1 = n - k by omega]
   exact ih (by omega)
 have := H n (F9 n)
 rwa [Nat.sub_self] at this
theorem DG {σ τ : Type} {step : σ → Option (σ ⊕ τ)} (n : Nat) (I : Nat → σ → Prop) (R : τ → Prop) (h : ∀ i, i < n → ∀ s, I i s → (∃ s', step s = some (.inl s') ∧ I (i + 1) s') ∨ ∃ t, step s = some (.inr t) ∧ R t) (hn : ∀ s, I n s → ∃ t, step s = some (.inr t) ∧ R t) {s : σ} (hs : I 0 s) : ∃ t, loop step s = some t ∧ R t := by
 have H : ∀ k, k ≤ n → ∀ s, I (n - k) s → ∃ t, loop step s = some t ∧ R t := by
  intro k
  induction k with
  | zero =>
   intro _ s hs
   obtain ⟨t, h1, h2⟩ := hn s hs
   exact ⟨t, rR h1, h2⟩
  | succ k ih =>
   intro hk s hs
   rcases h (n - (k + 1)) (by omega) s hs with ⟨s', h1, h2⟩ | ⟨t, h1, h2⟩
   ·rw [show n - (k + 1) + 1 = n - k by omega] at h2
    obtain ⟨t, h3, h4⟩ := ih (by omega) s' h2
    exact ⟨t, by rw [vH h1]; exact h3, h4⟩
   ·exact ⟨t, rR h1, h2⟩
 have := H n (F9 n)
 rw [Nat.sub_self] at this
 exact this s hs
end Vm
end Go.Proofs.YtfmhbcfklokmaaaGreatDoor
namespace Go.Proofs.YtfmhbcfklokmaaaGreatDoor
namespace Vm
open Go.ChangeShapes Go.WideShapes Go.ChangeAt Go.RowKit
open Go.ChangeMaps (open_string shut_string)
theorem Ap {w : World} {a : Addr} {v : Value} (h : w.cell? a = some v) : a.block < w.heap.size := by
 rcases Gi a.block w.heap.size with h1 | h1
 ·exact h1
 ·simp [World.cell?, Array.getElem?_eq_none h1] at h
theorem zB {w : World} {x : Addr} {v : Value} (h : w.cell? x = some v) : x.spot = none := by
 unfold World.cell? at h
 split at h
 ·split at h
  ·cases h
  ·rename_i hs; cases hx : x.spot with
   | none => rfl
   | some _ => rw [hx] at hs; simp at hs
 ·cases h
theorem wO {k : IntKind} {x : Int} (h : (Lit.int k x).wf = true) : k.min ≤ x ∧ x ≤ k.max := by simpa [Lit.wf] using h
theorem wi {α β : Type} {f : α → Option β} : ∀ {l : List α} {ys : List β}, l.mapM f = some ys → ys.length = l.length ∧ ∀ i (h : i < l.length), f l[i] = ys[i]? := by
 intro l
 induction l with
 | nil => intro ys h; simp at h; subst h; simp
 | cons a l ih =>
  intro ys h
  rw [List.mapM_cons] at h
  simp only [Option.bind_eq_bind, Option.bind_eq_some_iff] at h
  obtain ⟨y, h1, zs, h2, h3⟩ := h
  cases h3
  obtain ⟨k1, k2⟩ := ih h2
  refine ⟨by simp [k1], fun i hi => ?_⟩
  cases i with
  | zero => simpa using h1
  | succ i => simpa using k2 i (by simpa using hi)
theorem zT {α : Type} (p : Nat → α → Prop) (n : Nat) (h : ∀ i, i < n → ∃ x, p i x) : ∃ xs : List α, xs.length = n ∧ ∀ i x, xs[i]? = some x → p i x := by
 induction n with
 | zero => exact ⟨[], rfl, fun i x h => by simp at h⟩
 | succ n ih =>
  obtain ⟨xs, h1, h2⟩ := ih fun i hi => h i (by omega)
  obtain ⟨y, hy⟩ := h n (by omega)
  refine ⟨xs ++ [y], by simp [h1], fun i x hx => ?_⟩
  by_cases hi : i < n
  ·exact h2 i x (by rwa [F3 (by omega)] at hx)
  ·rw [F4 (by omega)] at hx
   have : i = n := by
    have := (List.getElem?_eq_some_iff.1 hx).1
    simp at this; omega
   subst this
   rw [h1, Nat.sub_self] at hx
   simp at hx; subst hx; exact hy
section
variable {P : Program} {W : World} {t e : TypeId}
def dI (P : Program) (W : World) (t : TypeId) {α : Type} (E : α → List T) (ok : α → Prop) : Prop :=
 ∀ (H : Type) (enc : TypeId × Value → H) (sp : Nat → Bool) (fuel : Nat) (cs : List Value) (d : DataW H) (p : List MemPlace), DataW.trod enc P W 0 sp true fuel t cs = some (d, p) → ∃ x, ok x ∧ ap (RT W fun b => b < W.heap.size) (E x) cs
theorem dI.map {α β : Type} {E : α → List T} {ok : α → Prop} {E' : β → List T} {ok' : β → Prop} (h : dI P W t E ok) (f : α → β) (hE : ∀ x, E' (f x) = E x) (hk : ∀ x, ok x → ok' (f x)) : dI P W t E' ok' := by
 intro H enc sp fuel cs d p h1
 obtain ⟨x, a, b⟩ := h H enc sp fuel cs d p h1
 exact ⟨f x, hk x a, by rw [hE]; exact b⟩
theorem DI {k : IntKind} (ht : P.underlying t = some (.int k)) : dI P W t (fun x : Int => [.v (.int k x)]) (fun x => k.min ≤ x ∧ x ≤ k.max) := by
 intro H enc sp fuel cs d p h
 cases fuel with
 | zero => cases h
 | succ fuel =>
  unfold DataW.trod at h
  rw [ht] at h
  split at h <;> rename_i h1 <;> try (first | (cases h; done) | (injection h1 with h1; cases h1; done))
  injection h1 with h1
  injection h1 with h1
  subst h1
  split at h
  ·rename_i h2
   obtain ⟨rfl, h2⟩ := h2
   exact ⟨_, wO h2, ⟨rfl, rfl⟩, trivial⟩
  ·cases h
theorem wj {a : Addr} {n : Nat} {cs : List Value} (h : W.cells? 0 a n = some cs) : cs.length = n ∧ ∀ j, j < n → W.cell? (a.add j) = cs[j]? := by
 unfold World.cells? at h
 rw [if_pos (Nat.zero_le _)] at h
 obtain ⟨h1, h2⟩ := wi h
 rw [List.length_range] at h1
 refine ⟨h1, fun j hj => ?_⟩
 have := h2 j (by rw [List.length_range]; exact hj)
 rwa [List.getElem_range] at this
theorem Di {α : Type} {E : α → List T} {ok : α → Prop} {sz : Nat} (dflt : α) (ht : P.underlying t = some (.slice e)) (hc : P.cellsOf e = sz) (he : dI P W e E ok) : dI P W t (fun xs : List α => [.tree xs.length sz (be dflt E xs)]) (fun xs => (∀ x ∈ xs, ok x) ∧ xs.length ≤ maxLen) := by
 intro H enc sp fuel cs d p h
 cases fuel with
 | zero => cases h
 | succ fuel =>
  unfold DataW.trod at h
  rw [ht] at h
  split at h <;> rename_i h1 <;> try (first | (cases h; done) | (injection h1 with h1; cases h1; done))
  ·exact ⟨[], ⟨fun x hx => absurd hx (Pr), Nat.zero_le _⟩, ⟨_, _, rfl, Nat.zero_le _, fun i hi => absurd hi (Px _)⟩, trivial⟩
  ·rename_i a len cap
   injection h1 with h1
   injection h1 with h1
   subst h1
   simp only at h
   split at h
   ·rename_i h2
    obtain ⟨_, h2, h3⟩ := h2
    rw [Option.bind_eq_some_iff] at h
    obtain ⟨ys, h4, _⟩ := h
    obtain ⟨h5, h6⟩ := wi h4
    rw [List.length_range] at h5
    obtain ⟨xs, x1, x2⟩ := zT (fun i x => ok x ∧ ∃ cs, W.cells? 0 (a.add (i * sz)) sz = some cs ∧ ap (RT W fun b => b < W.heap.size) (E x) cs) len (fun i hi => by
     have h7 := h6 i (by rw [List.length_range]; exact hi)
     rw [List.getElem_range, FJ (by omega), Option.bind_eq_some_iff] at h7
     obtain ⟨c, c1, c2⟩ := h7
     obtain ⟨x, k1, k2⟩ := he H enc sp fuel c _ _ c2
     rw [hc] at c1
     exact ⟨x, k1, c, c1, k2⟩)
    refine ⟨xs, ⟨fun x hx => ?_, by omega⟩, ⟨_, _, by rw [x1], by omega, fun i hi j hj => ?_⟩, trivial⟩
    ·obtain ⟨i, hi⟩ := List.getElem?_of_mem hx
     exact (x2 i x hi).1
    ·have hx : xs[i]? = some xs[i] := FJ hi
     obtain ⟨_, c, c1, c2⟩ := x2 i _ hx
     obtain ⟨c3, c4⟩ := wj c1
     have c5 := c4 j hj
     rw [FJ (by omega)] at c5
     have hsp : a.spot = none := by
      obtain ⟨_, c', c1', _⟩ := x2 0 _ (FJ (by omega))
      obtain ⟨c3', c4'⟩ := wj c1'
      have c5' := c4' 0 (by omega)
      rw [FJ (by omega), Nat.zero_mul] at c5'
      have := zB c5'
      simpa [Addr.add] using this
     have hE : j < (E xs[i]).length := by rw [c2.length]; omega
     obtain ⟨y, y1, y2⟩ := c2.get (FJ hE)
     rw [FJ (by omega)] at y1
     injection y1 with y1
     have ha : (a.add (i * sz)).add j = ⟨a.block, a.off + i * sz + j, none⟩ := by
      obtain ⟨ab, ao, asp⟩ := a
      simp only at hsp
      subst hsp
      simp only [Addr.add]
      split <;> split <;> simp_all
     rw [ha] at c5
     refine ⟨a.block, a.off, y, by obtain ⟨ab, ao, asp⟩ := a; simp only at hsp; subst hsp; rfl, Ap (a := ⟨a.block, a.off + i * sz + j, none⟩) c5, by rw [c5, y1], ?_⟩
     have : be dflt E xs i j = (E xs[i])[j] := by
      unfold be
      have hg : xs.getD i dflt = xs[i] := by rw [FI, hx, Option.getD_some]
      rw [hg, FI, FJ hE, Option.getD_some]
     rw [this]; exact y2
   ·cases h
variable {H : Type} {enc : TypeId × Value → H} {base : Nat} {sp : Nat → Bool} {v : Value} {d : DataW H} {p : List MemPlace}
theorem dI.one {α : Type} {c : α → T} {ok : α → Prop} (h : dI P W t (fun x => [c x]) ok) (h1 : DataW.Trod enc P W 0 sp true t v d p) (hv : ∃ y, v.cells.toList = [y] ∧ v = y) : ∃ x, ok x ∧ RV W (fun b => b < W.heap.size) (fun _ => none) (.c (.t (c x))) v := by
 obtain ⟨fuel, h1⟩ := h1
 obtain ⟨x, a, b⟩ := h H enc sp fuel _ _ _ h1
 obtain ⟨y, e, rfl⟩ := hv
 rw [e] at b
 exact ⟨x, a, b.1⟩
theorem FB {w : World} {okb : Nat → Prop} {ρ : Ren} : ∀ {l : List T} {k : List Value}, ap (RT w okb) l k → ap (RC w okb ρ) (l.map C.t) k
 | [], [], _ => trivial
 | _ :: _, _ :: _, ⟨a, b⟩ => ⟨a, FB b⟩
 | [], _ :: _, x => x.elim
 | _ :: _, [], x => x.elim
theorem dI.agg {α : Type} {E : α → List T} {ok : α → Prop} (h : dI P W t E ok) (h1 : DataW.Trod enc P W 0 sp true t v d p) (hv : ∃ cs, v = .agg cs) : ∃ x, ok x ∧ RV W (fun b => b < W.heap.size) (fun _ => none) (.agg ((E x).map C.t)) v := by
 obtain ⟨fuel, h1⟩ := h1
 obtain ⟨x, a, b⟩ := h H enc sp fuel _ _ _ h1
 obtain ⟨cs, rfl⟩ := hv
 exact ⟨x, a, cs, rfl, FB b⟩
theorem Dv (ht : P.underlying t = some (.slice e)) (hv : Value.okWide P W .any base t v) : ∃ y, v.cells.toList = [y] ∧ v = y := by
 obtain ⟨a, b, c, rfl⟩ := okWide_slice ht hv; exact ⟨_, rfl, rfl⟩
end
end Vm
end Go.Proofs.YtfmhbcfklokmaaaGreatDoor
namespace Go.Proofs.YtfmhbcfklokmaaaGreatDoor
namespace Vm
def B8 (l : List Int) : Prop := ∀ x ∈ l, 0 ≤ x ∧ x < 256
theorem B8.nil : B8 [] := fun _ hx => absurd hx (Pr)
theorem B8.cons {x : Int} {l : List Int} (h : 0 ≤ x ∧ x < 256) (hl : B8 l) : B8 (x :: l) := by
 intro y hy
 rcases F1.1 hy with rfl | hy
 ·exact h
 ·exact hl y hy
theorem B8.append {l k : List Int} (h : B8 l) (h' : B8 k) : B8 (l ++ k) := by
 intro x hx
 rcases F2.1 hx with hx | hx
 ·exact h x hx
 ·exact h' x hx
theorem B8.get {l : List Int} (h : B8 l) {i : Nat} (hi : i < l.length) : 0 ≤ l.getD i 0 ∧ l.getD i 0 < 256 := by
 rw [FI, FJ hi]
 exact h _ (Gh hi)
theorem B8.take {l : List Int} (h : B8 l) (n : Nat) : B8 (l.take n) := fun x hx => h x (List.mem_of_mem_take hx)
theorem B8.drop {l : List Int} (h : B8 l) (n : Nat) : B8 (l.drop n) := fun x hx => h x (List.mem_of_mem_drop hx)
theorem vI (s : ByteArray) : B8 (bQ s) := by
 intro x hx
 obtain ⟨b, _, rfl⟩ := Pz.1 hx
 have := b.toNat_lt
 omega
theorem vk (xs : List Int) : (strOf xs).data.toList = xs.map fun x => UInt8.ofNat x.toNat := by
 unfold strOf fN
 simp only
 apply List.ext_getElem?
 intro i
 by_cases hi : i < xs.length
 ·rw [fg _ _ _ _ hi, F6, FJ hi, Gg, FI, FJ hi]
  rfl
 ·rw [FK (by rw [eh]; omega), FK (by simp; omega)]
theorem fa {xs : List Int} (h : B8 xs) : bQ (strOf xs) = xs := by
 unfold bQ
 rw [vk, List.map_map]
 conv => rhs; rw [← List.map_id xs]
 apply List.map_congr_left
 intro x hx
 have := h x hx
 simp only [Function.comp, id, UInt8.toNat_ofNat']
 omega
theorem Dk (xs : List Int) : (strOf xs).size = xs.length := by
 have h : (strOf xs).size = (strOf xs).data.toList.length := by rw [Array.length_toList]; rfl
 rw [h, vk]
 simp
theorem ml {s t : ByteArray} : bQ s = bQ t ↔ s = t := by
 constructor
 ·intro h
  unfold bQ at h
  have : s.data.toList = t.data.toList := by
   apply List.map_inj_right (f := fun b : UInt8 => (b.toNat : Int)) (by intro a b hab; exact UInt8.toNat_inj.1 (Int.ofNat.inj hab)) |>.1 h
  cases s; cases t
  simp only at this
  rw [Array.toList_inj.1 this]
 ·rintro rfl; rfl
theorem zC (s : ByteArray) : strOf (bQ s) = s := ml.1 (fa (vI s))
theorem Em (s t : ByteArray) : (s.toList == t.toList) = decide (s = t) := by
 rw [Go.ByteArray.toList_eq, Go.ByteArray.toList_eq]
 by_cases h : s = t
 ·subst h; simp
 ·rw [Pv h]
  apply Bool.eq_false_iff.2
  intro h'
  apply h
  have := eq_of_beq h'
  cases s; cases t
  simp only at this
  rw [Array.toList_inj.1 this]
theorem zt (s t : ByteArray) : bQ (s ++ t) = bQ s ++ bQ t := by
 unfold bQ
 rw [ByteArray.data_append, Array.toList_append, PI]
theorem yX (s : ByteArray) (i j : Nat) : bQ (s.extract i j) = ((bQ s).drop i).take (j - i) := by
 unfold bQ
 rw [ByteArray.data_extract, Array.toList_extract, List.extract_eq_take_drop, List.map_take, List.map_drop]
end Vm
end Go.Proofs.YtfmhbcfklokmaaaGreatDoor
namespace Go.Proofs.YtfmhbcfklokmaaaGreatDoor
open Go.RowKit
namespace Vm
theorem cz.callsIn {P : Program} {f : FuncId} {args : List AV} {out : AV} {n : Nat} {w : World} (ok : Nat → Prop) (hok : ∀ b, ok b → b < w.heap.size) (h : cz P f args [] out []) (vs : Array Value) (ha : ap (RV w ok fun _ => none) args vs.toList) :
  CallsIn Fence.wide n P f vs w fun e w' => ∃ v, e = .returned v ∧ Below w.heap.size w w' ∧ ∃ ok' ρ', RV w' ok' ρ' out v := by
 refine callsIn_wide.2 (Calls.mono (h.2 w ok (fun _ => none) vs hok (fun id hid => absurd rfl hid) (fun id blk hid => by cases hid) (fun i j b c c' hi => by cases hi) ha) ?_)
 rintro e w' ⟨v, ρ', rfl, _, hU, hv, _⟩
 exact ⟨v, rfl, ⟨hU.os, hU.tape, hU.output, hU.size, fun k hk => hU.block k hk fun ⟨_, _, hh⟩ => by cases hh⟩, _, _, hv⟩
theorem lV {P : Program} {f : FuncId} {args : List AV} {out : AV} {n : Nat} (he : eF P f)
  (H : ∀ (w : World) (ok : Nat → Prop) (vs : Array Value), (∀ b, ok b → b < w.heap.size) → ap (RV w ok fun _ => none) args vs.toList → CallsIn Fence.wide n P f vs w fun e w' => ∃ v, e = .returned v ∧ Below w.heap.size w w' ∧ ∀ ok' ρ', RV w' ok' ρ' out v) : cz P f args [] out [] := by
 refine ⟨he, fun w ok ρ vs hok hdom _ hinj ha => ?_⟩
 obtain rfl : ρ = fun _ => none := by
  funext id
  cases e : ρ id with
  | none => rfl
  | some l => obtain ⟨b, hb⟩ := hdom id (by rw [e]; exact fun h => by cases h); cases hb
 refine Calls.mono (callsIn_wide.1 (H w ok vs hok ha)) ?_
 rintro e w' ⟨v, rfl, hB, hv⟩
 exact ⟨v, _, rfl, E1 _, ⟨hB.os, hB.tape, hB.output, hB.size, fun b hb _ => hB.block b hb⟩, hv _ _, (fun id blk h => by cases h), fun i j b c c' x y hx => by cases hx⟩
theorem uv {P : Program} {f : FuncId} {args : List AV} {out : AV} {n : Nat} (he : eF P f)
  (H : ∀ (w : World) (ok : Nat → Prop) (vs : Array Value), (∀ b, ok b → b < w.heap.size) → ap (RV w ok fun _ => none) args vs.toList → CallsIn Fence.wide n P f vs w fun e w' => ∃ v, e = .returned v ∧ Below w.heap.size w w' ∧ RV w' (fun b => w.heap.size ≤ b ∧ b < w'.heap.size) (fun _ => none) out v) : cz P f args [] out [] := by
 refine ⟨he, fun w ok ρ vs hok hdom _ hinj ha => ?_⟩
 obtain rfl : ρ = fun _ => none := by
  funext id
  cases e : ρ id with
  | none => rfl
  | some l => obtain ⟨b, hb⟩ := hdom id (by rw [e]; exact fun h => by cases h); cases hb
 refine Calls.mono (callsIn_wide.1 (H w ok vs hok ha)) ?_
 rintro e w' ⟨v, rfl, hB, hv⟩
 refine ⟨v, fun _ => none, rfl, E1 _, ⟨hB.os, hB.tape, hB.output, hB.size, fun b hb _ => hB.block b hb⟩, ?_, (fun id blk h => by cases h), fun i j b c c' x y hx => by cases hx⟩
 exact RV.mono ⟨fun b hb => ⟨hb.2, .inl hb.1, fun id blk cap h1 => by cases h1⟩, fun _ _ => rfl⟩ (E1 _) _ _ hv
end Vm
end Go.Proofs.YtfmhbcfklokmaaaGreatDoor
namespace Go.Proofs.YtfmhbcfklokmaaaGreatDoor
namespace Vm
theorem sR {P : Program} {w : World} {ok : Nat → Prop} {ρ : Ren} {nt : Nat} {S : St} {a : Act} (hok : ∀ b, ok b → b < w.heap.size) (hdom : ∀ id, ρ id ≠ none → id < S.n)
  (htm : ∀ t av, look S.tm t = some av → RV w ok ρ av (a.tmps.getD t undef)) (hh : ∀ id blk, look S.h id = some blk → ∃ l, ρ id = some l ∧ RB w ok ρ blk l ∧ ∀ b cap, l = .at b cap → b < w.heap.size ∧ ¬ ok b)
  (hinj : ∀ i j b c c', ρ i = some (.at b c) → ρ j = some (.at b c') → i = j) (hs : a.tmps.size = nt) (hd : a.defers = []) :
  bH ⟨P, ⟨w, ok, ρ⟩, fun b => ∃ id cap, ρ id = some (.at b cap), nt⟩ ρ S a w := by
 have hk : ∀ b, ok b → okOf ⟨w, ok, ρ⟩ w ρ (look S.h) b := fun b hb => ⟨hok b hb, .inr (.inl hb), fun id blk cap h1 _ h3 => by
  obtain ⟨l, l1, _, l3⟩ := hh id blk h1
  rw [h3] at l1
  injection l1 with l1
  exact (l3 b cap l1.symm).2 hb⟩
 refine ⟨fun t av ht => RV.mono ⟨hk, fun _ _ => rfl⟩ (E1 _) _ _ (htm t av ht), fun id blk hid => ?_, fun _ h => h, fun i j b c1 c2 _ _ _ _ _ => hinj i j b c1 c2, fun id hid => hdom id hid, bM.refl _ _, E1 _, hs, hd⟩
 obtain ⟨l, l1, l2, l3⟩ := hh id blk hid
 exact ⟨l, l1, RB.mono ⟨hk, fun _ _ => rfl⟩ (E1 _) _ _ (fun _ _ _ => rfl) l2, fun b cap e => ⟨(l3 b cap e).1, .inr ⟨id, cap, by rw [l1, e]⟩⟩⟩
theorem PM {c : Fx} {S Sx : St} {code : Code} {x : Exit} (h : AW c S code fun e S' => e = x ∧ Conv c S' Sx) {ρ : Ren} {a : Act} {w : World} (R : bH c.toCx ρ S a w) {Q : Exit → Act → World → Prop} (k : ∀ ρ' a' w', bH c.toCx ρ' Sx a' w' → Q x a' w') : code.wp c.P Q a w :=
 wp_mono (h ρ a w R) fun e a' w' ⟨S', ⟨he, hc⟩, ρ', R'⟩ => by
  obtain ⟨ρ2, R2⟩ := hc ρ' a' w' R'
  subst he
  exact k ρ2 a' w' R2
def HV (l : dd) (sz n : Nat) (v : Value) : Prop := match l with
 | .nil => n = 0 ∧ ∃ q, v = .slice q 0 0
 | .at b cap => (∃ c, v = .slice (some ⟨b, 0 * sz, none⟩) n c ∧ n ≤ c ∧ 0 + c ≤ cap) ∨ (n = 0 ∧ ∃ q, v = .slice q 0 0)
theorem HV.of {w : World} {ok : Nat → Prop} {ρ : Ren} {id sz n : Nat} {v : Value} (h : RC w ok ρ (.ref id sz 0 n) v) : ∃ l, ρ id = some l ∧ HV l sz n v := by
 obtain ⟨l, h1, h2⟩ := h
 refine ⟨l, h1, ?_⟩
 cases l with
 | nil => exact ⟨h2.2.1, h2.2.2⟩
 | _ b cap => exact h2
theorem HV.one {l : dd} {sz n : Nat} {v : Value} (h : HV l sz n v) : v.oneCell' = true := by
 cases l with
 | nil => obtain ⟨_, q, rfl⟩ := h; rfl
 | _ b cap => rcases h with ⟨c, rfl, _⟩ | ⟨_, q, rfl⟩ <;> rfl
theorem Cn {w : World} {ok ok' : Nat → Prop} {ρ ρ' : Ren} {ty : TypeId} {fro : Bool} {sz n : Nat} {f : Nat → Nat → T} {l : dd} (hk : ∀ b, ok b → ok' b) (h : RB w ok ρ (.row ty fro sz n f) l) : RB w ok' ρ' (.row ty fro sz n f) l := by
 cases l with
 | nil => exact h
 | _ b cap =>
  obtain ⟨h0, vs, fz, h1, h2, h3, h4⟩ := h
  exact ⟨h0, vs, fz, h1, h2, h3, fun i hi j hj => let ⟨x, a, r⟩ := h4 i hi j hj; ⟨x, a, RT.mono ⟨hk, fun _ _ => rfl⟩ _ _ r⟩⟩
theorem BB {vs : Array Value} {n t : Nat} {y : Value} (h : vs[t]? = some y) : (vs ++ Array.replicate n undef).getD t undef = y := by
 have hlt := (Array.getElem?_eq_some_iff.1 h).1
 rw [Gc, Array.getElem?_append_left hlt, h]
 rfl
theorem vm {c : Cx} {tt : TT} (hT : bb c.P tt) {ops : List Oper} (hds : cE ops c.nt = true) {Q : Exit → Act → World → Prop} : ∀ (l : List Oper) (k m : Nat) (xs : List Hi) (S S' : St) (ps : List Prop) (ρ : Ren) (a : Act) (w : World), (∀ j, j < l.length → l[j]? = ops[k + j]?) → bH c ρ S a w → cI c.P tt ops l xs S = some (S', ps) → dx ps →
  (∀ ρ' a' w', bH c ρ' S' a' w' → wpOps c.P ops.toArray Q (List.range' (k + l.length) m) a' w') → wpOps c.P ops.toArray Q (List.range' k (l.length + m)) a w
 | [], k, m, xs, S, S', ps, ρ, a, w, hl, R, e, hp, hQ => by
  simp only [cI, FL, FV] at e
  obtain ⟨rfl, rfl⟩ := e
  simpa using hQ ρ a w R
 | o :: rest, k, m, xs, S, S', ps, ρ, a, w, hl, R, e, hp, hQ => by
  simp only [cI] at e
  split at e
  ·rename_i r hr
   split at e
   ·rename_i S1 ps1 he
    simp only [FL, FV] at e
    obtain ⟨rfl, rfl⟩ := e
    obtain ⟨p1, p2⟩ := hp
    rw [show (o :: rest).length + m = (rest.length + m) + 1 by simp; omega, List.range'_succ, wpOps_cons]
    have ho : ops[k]? = some o := by have := hl 0 (by simp); simpa using this.symm
    refine rK (used' := fun id => id < S.n + (xs.headD {}).cnt) R hT (mZ hds) ho (fun id h1 h2 => by omega) (fun id h => by omega) (fun id h1 h2 => by omega) hr p1 fun ρ' a' w' R' => ?_
    refine vm hT hds rest (k + 1) m xs.tail _ S1 ps1 ρ' a' w' (fun j hj => ?_) ?_ he p2 fun ρ2 a2 w2 R2 => ?_
    ·have := hl (j + 1) (by simp; omega); simp only [List.getElem?_cons_succ] at this; rw [this]; congr 1; omega
    ·unfold bH; rw [mh, gG]; exact R'
    ·have := hQ ρ2 a2 w2 R2
     rwa [show k + (o :: rest).length = k + 1 + rest.length by simp; omega] at this
   ·cases e
  ·cases e
def Hg (m : List (Nat × Nat)) (ks : List Nat) (n : Nat) : Option (St × List Prop) → Option (Option St × List Prop)
 | some (S1, ps) => some (dX m ks n S1, ps)
 | none => none
theorem vn {m : List (Nat × Nat)} {ks : List Nat} {n : Nat} {q : Option (St × List Prop)} {Sx : St} {ps : List Prop} (e : Hg m ks n q = some (some Sx, ps)) : ∃ S1, q = some (S1, ps) ∧ dX m ks n S1 = some Sx := by
 cases q with
 | none => cases e
 | some p =>
  obtain ⟨S1, qs⟩ := p
  simp only [Hg, FL, FV] at e
  exact ⟨S1, by rw [e.2], e.1⟩
theorem mm {c : Fx} {tt : TT} (hT : bb c.P tt) {id : Nat} {ops : List Oper} (n1 n2 : Nat) {Q : Exit → Act → World → Prop} {S Sx : St} (m : List (Nat × Nat)) (xs : List HP)
  (e : (cE ops c.nt, Hg m (bW Sx.tm) Sx.n (cI c.P tt ops (ops.take n1) (xs.map HP.hi) S), bT (m.map (·.2)) && bT (m.map (·.1)) && dW Sx.n m && dM c.k Sx.n m, Nat.beq ops.length (n1 + n2)) = (true, some (some Sx, cP n1 xs), true, true)) {ρ : Ren} {a : Act} {w : World} (R : bH c.toCx ρ S a w)
  (k : ∀ ρ' a' w', bH c.toCx ρ' Sx a' w' → wpOps c.P ops.toArray Q (List.range' n1 n2) a' w') : (Code.region id ops.toArray false).wp c.P Q a w := by
 simp only [FV] at e
 obtain ⟨e1, e2, e3, e4⟩ := e
 obtain ⟨S1, f1, f2⟩ := vn e2
 have hlen := Nat.eq_of_beq_eq_true e4
 refine wp_region ?_
 have hl : (ops.take n1).length = n1 := by rw [FR]; omega
 have := vm (Q := Q) hT e1 (ops.take n1) 0 n2 _ S S1 _ ρ a w (fun j hj => by rw [Gg, List.getElem?_take_of_lt (by omega)]) R f1 (gV _ _) fun ρ' a' w' R' => by
  obtain ⟨ρ2, R2⟩ := mP (c := c) m (bW Sx.tm) f2 e3 ρ' a' w' R'
  rw [hl, Gg]
  exact k ρ2 a' w' R2
 rw [hl, ← hlen] at this
 simpa [List.range_eq_range'] using this
theorem mc {c : Fx} {tt : TT} (hT : bb c.P tt) {ops : List Oper} (n1 n2 : Nat) {Q : Exit → Act → World → Prop} {S Sx : St} (m : List (Nat × Nat)) (xs : List HP)
  (e : (cE ops c.nt, Hg m (bW Sx.tm) Sx.n (cI c.P tt ops (ops.drop n1) (xs.map HP.hi) S), bT (m.map (·.2)) && bT (m.map (·.1)) && dW Sx.n m && dM c.k Sx.n m, Nat.beq ops.length (n1 + n2)) = (true, some (some Sx, cP n2 xs), true, true)) {ρ : Ren} {a : Act} {w : World} (R : bH c.toCx ρ S a w)
  (k : ∀ ρ' a' w', bH c.toCx ρ' Sx a' w' → Q .normal a' w') : wpOps c.P ops.toArray Q (List.range' n1 n2) a w := by
 simp only [FV] at e
 obtain ⟨e1, e2, e3, e4⟩ := e
 obtain ⟨S1, f1, f2⟩ := vn e2
 have hlen := Nat.eq_of_beq_eq_true e4
 have hl : (ops.drop n1).length = n2 := by rw [FU]; omega
 have := rj (Q := Q) hT e1 (ops.drop n1) n1 _ S S1 _ ρ a w (fun j => by rw [List.getElem?_drop]) R f1 (gV _ _) fun ρ' a' w' R' => by
  obtain ⟨ρ2, R2⟩ := mP (c := c) m (bW Sx.tm) f2 e3 ρ' a' w' R'
  exact k ρ2 a' w' R2
 rwa [hl] at this
theorem vo {P : Program} {f : FuncId} {args : List AV} {e : TypeId} {sz n : Nat} {g : Nat → Nat → T} {xs : List Value} (he : eF P f) (hx : xs.length = n * sz) (hsz : 0 < sz) (hc : ∀ i, i < n → ∀ j, j < sz → ∃ x, xs[i * sz + j]? = some x ∧ ∀ (w : World) (ok : Nat → Prop), RT w ok (g i j) x)
  (H : ∀ (w : World) (ok : Nat → Prop) (vs : Array Value), (∀ b, ok b → b < w.heap.size) → ap (RV w ok fun _ => none) args vs.toList → Calls P f vs w fun e' w' => ∃ v, e' = .returned v ∧ Go.RowKit.Below w.heap.size w w' ∧ w'.ownsRow w.heap.size e sz v n xs) : cz P f args [] (.c (.ref 0 sz 0 n)) [(0, .row e false sz n g)] := by
 refine ⟨he, fun w ok ρ vs hok hdom _ hinj ha => ?_⟩
 obtain rfl : ρ = fun _ => none := by
  funext id
  cases e' : ρ id with
  | none => rfl
  | some l => obtain ⟨b, hb⟩ := hdom id (by rw [e']; exact fun h => by cases h); cases hb
 refine Calls.mono (H w ok vs hok ha) ?_
 rintro e' w' ⟨v, rfl, hB, hl, hr⟩
 have hU : bM (fun b => ∃ id cap, (fun _ => none : Ren) id = some (.at b cap)) w w' := ⟨hB.os, hB.tape, hB.output, hB.size, fun b hb _ => hB.block b hb⟩
 rcases hr with ⟨rfl, rfl⟩ | ⟨b, cap, cur, rfl, hb, hg, hn, hm, hs, ht⟩
 ·refine ⟨_, fun id => if id = 0 then some .nil else none, rfl, fun _ _ h => (by cases h), hU, ⟨.nil, by simp, rfl, rfl, none, rfl⟩, fun id blk h => ?_, fun i j b c c' x y h1 h2 _ h3 _ => ?_⟩
  ·match id, h with
   | 0, h => obtain rfl := am h; exact ⟨.nil, by simp, rfl, fun b c e => (by cases e)⟩
   | n + 1, h => cases h
  ·simp only at h3
   split at h3
   ·injection h3 with h3; cases h3
   ·cases h3
 ·refine ⟨_, fun id => if id = 0 then some (.at b cap) else none, rfl, fun _ _ h => (by cases h), hU, ⟨.at b cap, by simp, .inl ⟨cap, by simp, hn, by omega⟩⟩, fun id blk h => ?_, fun i j b' c c' x y h1 h2 _ h3 h4 => ?_⟩
  ·match id, h with
   | 0, h =>
    obtain rfl := am h
    refine ⟨.at b cap, by simp, ⟨hn, cur, (0, 0), hg, hs, fun _ => ⟨.inl (F9 _), hm⟩, fun i hi j hj => ?_⟩, fun b' c e => ?_⟩
    ·obtain ⟨x, x1, x2⟩ := hc i hi j hj
     refine ⟨x, ?_, x2 _ _⟩
     rw [← ht, List.getElem?_take] at x1
     split at x1
     ·simpa using x1
     ·cases x1
    ·injection e with e1 e2
     subst e1
     exact ⟨gS hg, .inl hb⟩
   | n + 1, h => cases h
  ·match i, h1, j, h2 with
   | 0, _, 0, _ => rfl
   | n + 1, h, _, _ => cases h
   | 0, _, n + 1, h => cases h
theorem jz {c : Fx} {S : St} {ρ : Ren} {a : Act} {w : World} (R : bH c.toCx ρ S a w) {ops : Array Oper} {i d : Nat} {o : Oper} {f : FuncId} {cl : Call} {K : Act → World → Prop} {Q : Exit → Act → World → Prop} (ho : ops[i]? = some o) (hg : o.guard = none) (hop : o.op = .call cl) (hcl : cl.callee = .value (.func f)) (hd : o.dst = some d) (hE : eF c.P f) {vs : Array Value} (hv : cl.args.map a.eval = vs)
  (H : Calls c.P f vs w fun e w' => ∃ v, e = .returned v ∧ K (a.put (some d) v) w') : wpOp c.P ops Q i K a w := by
 refine jc (o := o) ho (fun v w' => K (a.put (some d) v) w') (fun v w' h => by rw [hd]; exact h) ?_
 rw [if_pos (by unfold Region.wanted; rw [hg])]
 obtain ⟨⟨fs⟩, ⟨cs⟩, hfs, hcs, er⟩ := va (o := o) (c := c.toCx) (f := f) (s1 := []) (s2 := []) R (cl := cl) (by rw [hcl]; rfl) hop hE
 rw [er]
 obtain rfl : fs = [] := by cases fs with | nil => rfl | cons _ _ => exact hfs.elim
 obtain rfl : cs = [] := by cases cs with | nil => rfl | cons _ _ => exact hcs.elim
 show Calls _ _ _ _ _
 have e : (#[] ++ cl.args.map a.eval ++ #[] : Array Value) = vs := by simp [hv]
 rw [e]
 exact H
end Vm
end Go.Proofs.YtfmhbcfklokmaaaGreatDoor
namespace Go.Proofs.YtfmhbcfklokmaaaGreatDoor
open Go.RowKit
namespace Vm
def nk : C → Bool
 | .t _ => true
 | _ => false
def dp : AV → Bool
 | .c x => nk x
 | .agg l => l.all nk
 | _ => false
theorem wC {w w' : World} {ok ok' : Nat → Prop} {ρ ρ' : Ren} (K : cr w w' ok ok') {x : C} {y : Value} (hn : nk x = true) (h : RC w ok ρ x y) : RC w' ok' ρ' x y := by
 cases x with
 | t x => exact RT.mono K x y h
 | ref id sz off n => cases hn
 | ptr id sz e sub => cases hn
theorem wl {w w' : World} {ok ok' : Nat → Prop} {ρ ρ' : Ren} (K : cr w w' ok ok') : ∀ {l : List C} {ys : List Value}, l.all nk = true → ap (RC w ok ρ) l ys → ap (RC w' ok' ρ') l ys
 | [], [], _, _ => trivial
 | x :: l, y :: ys, hn, ⟨h1, h2⟩ => by
  simp only [List.all_cons, FY] at hn
  exact ⟨wC K hn.1 h1, wl K hn.2 h2⟩
 | [], _ :: _, _, h => h.elim
 | _ :: _, [], _, h => h.elim
theorem wD {w w' : World} {ok ok' : Nat → Prop} {ρ ρ' : Ren} (K : cr w w' ok ok') {av : AV} {y : Value} (hn : dp av = true) (h : RV w ok ρ av y) : RV w' ok' ρ' av y := by
 cases av with
 | c x => exact wC (x := x) K hn h
 | agg l => obtain ⟨ys, e, h⟩ := h; exact ⟨ys, e, wl K hn h⟩
 | fagg n f => cases hn
 | tup l => cases hn
 | clo f a b => cases hn
@[reducible] def okX (bad : Nat → Prop) (w : World) : Nat → Prop := fun x => x < w.heap.size ∧ ¬ bad x
structure At (P : Program) (nt : Nat) (bad : Nat → Prop) (tm : List (Nat × AV)) (a : Act) (w : World) : Prop where
 tmp : ∀ t av, look tm t = some av → RV w (okX bad w) (fun _ => none) av (a.tmps.getD t undef)
 size : a.tmps.size = nt
 defers : a.defers = []
@[reducible] def b6 (P : Program) (bad : Nat → Prop) (w : World) (nt : Nat) : Fx := ⟨⟨P, ⟨w, okX bad w, fun _ => none⟩, fun x => ∃ id cap, (fun _ => none : Ren) id = some (.at x cap), nt⟩, 0, fun id h => absurd rfl h⟩
theorem At.rep {P : Program} {nt : Nat} {bad : Nat → Prop} {tm : List (Nat × AV)} {a : Act} {w : World} (h : At P nt bad tm a w) (n : Nat) : bH (b6 P bad w nt).toCx (fun _ => none) ⟨tm, [], n⟩ a w :=
 sR (fun x hx => hx.1) (fun id h => absurd rfl h) h.tmp (fun id blk h => by cases h) (fun i j b c c' h => by cases h) h.size h.defers
theorem At.val {P : Program} {nt : Nat} {bad : Nat → Prop} {tm : List (Nat × AV)} {a : Act} {w : World} (h : At P nt bad tm a w) {t : Nat} {v : Value} (e : look tm t = some (.c (.t (.v v)))) : a.tmps.getD t undef = v := (h.tmp t _ e).1
theorem At.get {P : Program} {nt : Nat} {bad : Nat → Prop} {tm : List (Nat × AV)} {a : Act} {w : World} (h : At P nt bad tm a w) {t : Nat} {v : Value} (e : look tm t = some (.c (.t (.v v)))) (ht : t < nt) : a.tmps[t]? = some v := by
 have h1 := h.val e
 have h2 := h.size
 rw [Gc, Gl (by omega)] at h1
 rw [Gl (by omega)]
 exact congrArg some h1
theorem look_allp {α : Type} {p : Nat × α → Bool} : ∀ {l : List (Nat × α)} {t : Nat} {x : α}, look l t = some x → l.all p = true → p (t, x) = true
 | [], t, x, h, _ => by cases h
 | (k, v) :: l, t, x, h, ha => by
  simp only [List.all_cons, FY] at ha
  rw [bo] at h
  split at h
  ·rename_i e; subst e; injection h with h; subst h; exact ha.1
  ·exact look_allp h ha.2
theorem sr {bad : Nat → Prop} {P : Program} {nt : Nat} {w w' : World} {ρ : Ren} {h : Hp} (hb : ∀ x, bad x → x < w.heap.size) : ∀ x, okOf (b6 P bad w nt).base w' ρ h x → okX bad w' x := fun x ⟨q1, q2, _⟩ => by
 refine ⟨q1, ?_⟩
 rcases q2 with q | q | ⟨id, cap, q⟩
 ·have : w.heap.size ≤ x := q
  exact fun h => by have := hb x h; omega
 ·exact q.2
 ·cases q
theorem At.of {P : Program} {nt n : Nat} {bad : Nat → Prop} {tm : List (Nat × AV)} {h : List (Nat × az)} {ρ : Ren} {a : Act} {w w' : World} (hb : ∀ x, bad x → x < w.heap.size) (R : bH (b6 P bad w nt).toCx ρ ⟨tm, h, n⟩ a w') (hf : tm.all (fun p => dp p.2) = true) : At P nt bad tm a w' ∧ Below w.heap.size w w' :=
 ⟨⟨fun t av ht => wD ⟨sr hb, fun _ _ => rfl⟩ (look_allp ht hf) (R.tmp t av ht), R.size, R.defers⟩, ⟨R.upd.os, R.upd.tape, R.upd.output, R.upd.size, fun x hx => R.upd.block x hx fun ⟨_, _, q⟩ => by cases q⟩⟩
theorem FE {P : Program} {nt n t i ty : Nat} {bad : Nat → Prop} {tm : List (Nat × AV)} {cs : List T} {ρ : Ren} {a : Act} {w w' : World} (hb : ∀ x, bad x → x < w.heap.size) (R : bH (b6 P bad w nt).toCx ρ ⟨(t, .c (.ptr i cs.length 0 0)) :: tm, [(i, .box ty (cs.map C.t))], n⟩ a w') (hf : tm.all (fun p => dp p.2) = true) :
  At P nt bad ((t, .c (.t (.eptr cs.length (fun j => cs.getD j (.v undef)) 0))) :: tm) a w' ∧ Below w.heap.size w w' := by
 refine ⟨⟨fun t' av ht => ?_, R.size, R.defers⟩, ⟨R.upd.os, R.upd.tape, R.upd.output, R.upd.size, fun x hx => R.upd.block x hx fun ⟨_, _, q⟩ => by cases q⟩⟩
 rw [bo] at ht
 split at ht
 ·rename_i e
  subst e
  injection ht with ht
  subst ht
  obtain ⟨b1, cap, h1, h2⟩ := R.tmp t _ (by rw [bo, if_pos rfl])
  obtain ⟨l, l1, ⟨b2, us, e2, u1, u2⟩, l3⟩ := R.heap i _ (by rw [bo, if_pos rfl])
  rw [l1] at h1
  injection h1 with h1
  subst h1
  injection e2 with e3 e4
  subst e3
  have l4 := l3 b1 cap rfl
  refine ⟨b1, 0, ?_, ⟨l4.1, ?_⟩, fun j hj => ?_⟩
  ·rw [h2]; simp
  ·rcases l4.2 with q | ⟨_, _, q⟩
   ·have : w.heap.size ≤ b1 := q
    exact fun h => by have := hb b1 h; omega
   ·cases q
  ·obtain ⟨x, x1, x2⟩ := ap.get u2 (i := j) (x := C.t (cs.getD j (.v undef))) (by rw [F6, FI, FJ hj]; rfl)
   refine ⟨x, ?_, RT.mono ⟨sr hb, fun _ _ => rfl⟩ _ _ x2⟩
   rw [cell_of_row w' _ _ us ty _ u1]
   simpa using x1
 ·rename_i e
  exact wD ⟨sr hb, fun _ _ => rfl⟩ (look_allp ht hf) (R.tmp t' av (by rw [bo, if_neg e]; exact ht))
structure Ax (P : Program) (nt : Nat) (k : TypeId) (R : Value → Option (DataW Unit × List MemPlace)) (b n0 : Nat) (w0 : World) (tm : List (Nat × AV)) (n : Nat) (D : DataW Unit) (a : Act) (w : World) : Prop where
 at_ : At P nt (· = b) tm a w
 own : w.ownsMap P k R b n D
 bel : Below n0 w0 w
 hn : n0 ≤ b
section
variable {P : Program} {nt : Nat} {k : TypeId} {R : Value → Option (DataW Unit × List MemPlace)} {b n0 : Nat} {w0 : World} {tm tm' : List (Nat × AV)} {n : Nat} {D : DataW Unit} {a : Act} {w w' : World}
theorem BC {P : Program} {k : TypeId} {R : Value → Option (DataW Unit × List MemPlace)} {b n : Nat} {D : DataW Unit} {w w' : World} (h : w.ownsMap P k R b n D) (hB : Below w.heap.size w w') : w'.ownsMap P k R b n D := by
 have hl := h.lt
 obtain ⟨es, clock, hb, F, hs, hD⟩ := h
 exact ⟨es, clock, (hB.block b hl).trans hb, F, hs, hD⟩
theorem Ax.next (H : Ax P nt k R b n0 w0 tm n D a w) {a' : Act} (h : At P nt (· = b) tm' a' w' ∧ Below w.heap.size w w') : Ax P nt k R b n0 w0 tm' n D a' w' :=
 ⟨h.1, BC H.own h.2, H.bel.trans (h.2.mono (by have := H.own.lt; have := H.hn; omega)), H.hn⟩
theorem Ax.run (H : Ax P nt k R b n0 w0 tm n D a w) {code : Code} {x : Exit} {Q : Exit → Act → World → Prop} (h : AW (b6 P (· = b) w nt) ⟨tm, [], 1⟩ code fun e S' => e = x ∧ Conv (b6 P (· = b) w nt) S' ⟨tm', [], 1⟩) (hf : tm'.all (fun p => dp p.2) = true) (kont : ∀ a' w', Ax P nt k R b n0 w0 tm' n D a' w' → Q x a' w') : code.wp P Q a w :=
 PM (c := b6 P (· = b) w nt) h (H.at_.rep 1) fun ρ' a' w' R' => kont a' w' (H.next (At.of (fun x e => e ▸ H.own.lt) R' hf))
theorem Ax.run_box (H : Ax P nt k R b n0 w0 tm n D a w) {code : Code} {x : Exit} {t ty : Nat} {cs : List T} {Q : Exit → Act → World → Prop} (h : AW (b6 P (· = b) w nt) ⟨tm, [], 1⟩ code fun e S' => e = x ∧ Conv (b6 P (· = b) w nt) S' ⟨(t, .c (.ptr 0 cs.length 0 0)) :: tm', [(0, .box ty (cs.map C.t))], 1⟩) (hf : tm'.all (fun p => dp p.2) = true) (kont : ∀ a' w', Ax P nt k R b n0 w0 ((t, .c (.t (.eptr cs.length (fun j => cs.getD j (.v undef)) 0))) :: tm') n D a' w' → Q x a' w') : code.wp P Q a w :=
 PM (c := b6 P (· = b) w nt) h (H.at_.rep 1) fun ρ' a' w' R' => kont a' w' (H.next (FE (fun x e => e ▸ H.own.lt) R' hf))
theorem Ax.cut (H : Ax P nt k R b n0 w0 tm n D a w) {tt : TT} (hT : bb P tt) {id : Nat} {ops : List Oper} (n1 n2 : Nat) {Q : Exit → Act → World → Prop} (xs : List HP)
  (e : (cE ops nt, Hg [] (bW tm') 1 (cI P tt ops (ops.take n1) (xs.map HP.hi) ⟨tm, [], 1⟩), true, Nat.beq ops.length (n1 + n2)) = (true, some (some ⟨tm', [], 1⟩, cP n1 xs), true, true)) (hf : tm'.all (fun p => dp p.2) = true)
  (kont : ∀ a' w', Ax P nt k R b n0 w0 tm' n D a' w' → wpOps P ops.toArray Q (List.range' n1 n2) a' w') : (Code.region id ops.toArray false).wp P Q a w :=
 mm (c := b6 P (· = b) w nt) (Sx := ⟨tm', [], 1⟩) hT n1 n2 [] xs (by simp only [FV] at e ⊢; exact ⟨e.1, e.2.1, rfl, e.2.2.2⟩) (H.at_.rep 1) fun ρ' a' w' R' => kont a' w' (H.next (At.of (fun x e => e ▸ H.own.lt) R' hf))
theorem Ax.rest (H : Ax P nt k R b n0 w0 tm n D a w) {tt : TT} (hT : bb P tt) {ops : List Oper} (n1 n2 : Nat) {Q : Exit → Act → World → Prop} (xs : List HP)
  (e : (cE ops nt, Hg [] (bW tm') 1 (cI P tt ops (ops.drop n1) (xs.map HP.hi) ⟨tm, [], 1⟩), true, Nat.beq ops.length (n1 + n2)) = (true, some (some ⟨tm', [], 1⟩, cP n2 xs), true, true)) (hf : tm'.all (fun p => dp p.2) = true)
  (kont : ∀ a' w', Ax P nt k R b n0 w0 tm' n D a' w' → Q .normal a' w') : wpOps P ops.toArray Q (List.range' n1 n2) a w :=
 mc (c := b6 P (· = b) w nt) (Sx := ⟨tm', [], 1⟩) hT n1 n2 [] xs (by simp only [FV] at e ⊢; exact ⟨e.1, e.2.1, rfl, e.2.2.2⟩) (H.at_.rep 1) fun ρ' a' w' R' => kont a' w' (H.next (At.of (fun x e => e ▸ H.own.lt) R' hf))
theorem Ax.restE (H : Ax P nt k R b n0 w0 tm n D a w) {tt : TT} (hT : bb P tt) {ops : List Oper} (n1 n2 : Nat) {Q : Exit → Act → World → Prop} (tm' : List (Nat × AV))
  (e : ∃ xs : List HP, (cE ops nt, Hg [] (bW tm') 1 (cI P tt ops (ops.drop n1) (xs.map HP.hi) ⟨tm, [], 1⟩), true, Nat.beq ops.length (n1 + n2)) = (true, some (some ⟨tm', [], 1⟩, cP n2 xs), true, true)) (hf : tm'.all (fun p => dp p.2) = true)
  (kont : ∀ a' w', Ax P nt k R b n0 w0 tm' n D a' w' → Q .normal a' w') : wpOps P ops.toArray Q (List.range' n1 n2) a w := by
 obtain ⟨xs, e⟩ := e
 exact H.rest hT n1 n2 xs e hf kont
theorem At.put {bad : Nat → Prop} (H : At P nt bad tm a w) (t : Nat) (ht : t < nt) {v : Value} (hv : v.oneCell' = true) : At P nt bad ((t, .c (.t (.v v))) :: tm) (a.put (some t) v) w := by
 refine ⟨fun t' av h' => ?_, by rw [dt]; exact H.size, by rw [dA]; exact H.defers⟩
 rw [bo] at h'
 split at h'
 ·rename_i e
  subst e
  injection h' with h'
  subst h'
  exact ⟨dU _ (by rw [H.size]; exact ht), hv⟩
 ·rename_i e
  rw [dB _ (Ne.symm e)]
  exact H.tmp t' av h'
theorem Ax.put (H : Ax P nt k R b n0 w0 tm n D a w) (t : Nat) (ht : t < nt) {v : Value} (hv : v.oneCell' = true) : Ax P nt k R b n0 w0 ((t, .c (.t (.v v))) :: tm) n D (a.put (some t) v) w := ⟨H.at_.put t ht hv, H.own, H.bel, H.hn⟩
theorem Ax.upd (H : Ax P nt k R b n0 w0 tm n D a w) {n' : Nat} {D' : DataW Unit} (h : w'.ownsMap P k R b n' D') (g : w.grownBy w' (some b)) {d : Option Tmp} (hd : d = none) (v : Value) : Ax P nt k R b n0 w0 tm n' D' (a.put d v) w' := by
 subst hd
 refine ⟨⟨fun t av ht => RV.mono ⟨fun x hx => ⟨Gb hx.1 g.size, hx.2⟩, fun x hx => g.block x hx.1 (by intro e; injection e with e; exact hx.2 e)⟩ (E1 _) _ _ (H.at_.tmp t av ht), H.at_.size, H.at_.defers⟩, h, H.bel.grown g (by have := H.own.lt; have := H.hn; omega) (fun j e => by injection e with e; subst e; exact H.hn), H.hn⟩
end
structure A0 (P : Program) (nt n0 : Nat) (w0 : World) (tm : List (Nat × AV)) (a : Act) (w : World) : Prop where
 at_ : At P nt (fun _ => False) tm a w
 bel : Below n0 w0 w
 sz : n0 ≤ w.heap.size
theorem A0.run {P : Program} {nt n0 : Nat} {w0 w : World} {tm tm' : List (Nat × AV)} {a : Act} (H : A0 P nt n0 w0 tm a w) {code : Code} {x : Exit} {Q : Exit → Act → World → Prop} (h : AW (b6 P (fun _ => False) w nt) ⟨tm, [], 1⟩ code fun e S' => e = x ∧ Conv (b6 P (fun _ => False) w nt) S' ⟨tm', [], 1⟩) (hf : tm'.all (fun p => dp p.2) = true) (kont : ∀ a' w', A0 P nt n0 w0 tm' a' w' → Q x a' w') : code.wp P Q a w :=
 PM (c := b6 P (fun _ => False) w nt) h (H.at_.rep 1) fun ρ' a' w' R' => by
  obtain ⟨h1, h2⟩ := At.of (fun x e => e.elim) R' hf
  exact kont a' w' ⟨h1, H.bel.trans (h2.mono H.sz), Ga H.sz h2.size⟩
theorem FF {P : Program} {nt : Nat} {w : World} {ok : Nat → Prop} {vs : Array Value} {tm : List (Nat × AV)} (hok : ∀ b, ok b → b < w.heap.size) (hs : nt = vs.size + (nt - vs.size)) (h : ∀ t av, look tm t = some av → t < vs.size ∧ RV w ok (fun _ => none) av (vs.getD t undef)) : A0 P nt w.heap.size w tm { tmps := vs ++ Array.replicate (nt - vs.size) undef, defers := [] } w :=
 ⟨⟨fun t av ht => by
  obtain ⟨h1, h2⟩ := h t av ht
  have e : (vs ++ Array.replicate (nt - vs.size) undef).getD t undef = vs.getD t undef := by
   rw [Gc, Array.getElem?_append_left h1, Gc]
  show RV w _ _ av ((vs ++ Array.replicate (nt - vs.size) undef).getD t undef)
  rw [e]
  exact RV.mono ⟨fun x hx => ⟨hok x hx, fun h => h⟩, fun _ _ => rfl⟩ (E1 _) _ _ h2, by simp; omega, rfl⟩, Below.refl _ _, F9 _⟩
theorem A0.map {P : Program} {nt n0 : Nat} {w0 w : World} {tm : List (Nat × AV)} {a : Act} (H : A0 P nt n0 w0 tm a w) (k : TypeId) (R : Value → Option (DataW Unit × List MemPlace)) (t : Nat) (ht : t < nt) : Ax P nt k R w.heap.size n0 w0 ((t, .c (.t (.v (.map (some w.heap.size))))) :: tm) 0 (DataW.map []) (a.put (some t) (.map (some w.heap.size))) (w.alloc (.map #[] 0)) := by
 have hB : Below w.heap.size w (w.alloc (.map #[] 0)) := (Below.refl _ _).alloc (F9 _) _
 refine ⟨⟨fun t' av h' => ?_, by rw [dt]; exact H.at_.size, by rw [dA]; exact H.at_.defers⟩, World.ownsMap_made _ _ _ _, H.bel.trans (hB.mono H.sz), H.sz⟩
 rw [bo] at h'
 split at h'
 ·rename_i e
  subst e
  injection h' with h'
  subst h'
  exact ⟨dU _ (by rw [H.at_.size]; exact ht), rfl⟩
 ·rename_i e
  rw [dB _ (Ne.symm e)]
  exact RV.mono ⟨fun x hx => ⟨Gb hx.1 hB.size, fun q => by have := hx.1; omega⟩, fun x hx => hB.block x hx.1⟩ (E1 _) _ _ (H.at_.tmp t' av h')
theorem mR {P : Program} {c : Code} {Q : Exit → Act → World → Prop} (N : Nat) (I : Nat → Act → World → Prop) {a : Act} {w : World} (h0 : I 0 a w) (hs : ∀ i, i < N → ∀ a w, I i a w → c.wp P (fun e a' w' => e = .normal ∧ I (i + 1) a' w') a w)
  (he : ∀ a w, I N a w → c.wp P (fun e a' w' => e ≠ .normal ∧ Q e a' w') a w) : (Code.loop c).wp P Q a w := by
 intro b k cs
 have key : ∀ (m i : Nat) (a : Act) (w : World), i + m = N → I i a w → ∃ e a' w', Q e a' w' ∧ Arrives P (lone (b.at a (.code c :: .inLoop c :: k)) cs w) b k cs e a' w' := by
  intro m
  induction m with
  | zero =>
   intro i a w hi h
   obtain rfl : i = N := by omega
   obtain ⟨e, a₁, w₁, ⟨hne, hq⟩, harr⟩ := he a w h b (.inLoop c :: k) cs
   refine ⟨e, a₁, w₁, hq, ?_⟩
   cases e with
   | normal => exact absurd rfl hne
   | exit id => exact .pass (x := .inLoop c) rfl (fun _ _ => .inl (by simp)) harr
   | goto l => exact .pass (x := .inLoop c) rfl (fun _ _ => .inl (by simp)) harr
   | ret => exact .pass (x := .inLoop c) rfl (fun _ _ => .inl (by simp)) harr
   | panic ch => exact .pass (x := .inLoop c) rfl (fun _ _ => .inl (by simp)) harr
   | outgrown => exact .pass (x := .inLoop c) rfl (fun _ _ => .inl (by simp)) harr
  | succ m ih =>
   intro i a w hi h
   obtain ⟨e, a₁, w₁, ⟨rfl, hI⟩, harr⟩ := hs i (by omega) a w h b (.inLoop c :: k) cs
   obtain ⟨e₂, a₂, w₂, hq₂, harr₂⟩ := ih (i + 1) a₁ w₁ (by omega) hI
   exact ⟨e₂, a₂, w₂, hq₂, .of_steps (Steps.trans harr (.one step_inLoop)) harr₂⟩
 obtain ⟨e, a', w', hq, harr⟩ := key N 0 a w (by omega) h0
 exact ⟨e, a', w', hq, .of_steps (.one step_loop) harr⟩
theorem mS {P : Program} {ops : Array Oper} {i : Nat} {o : Oper} {a : Act} {w w' : World} {v : Value} {K : Act → World → Prop} {Q : Exit → Act → World → Prop} (ho : ops[i]? = some o) (hg : o.guard = none) (h : (execOp a.eval o).run P w = .ok (.value v) w') (hK : K (a.put o.dst v) w') : wpOp P ops Q i K a w := by
 refine jc (o := o) ho (fun x w2 => x = v ∧ w2 = w') (fun x w2 e => by obtain ⟨rfl, rfl⟩ := e; exact hK) ?_
 rw [if_pos (by unfold Region.wanted; rw [hg]), h]
 exact ⟨rfl, rfl⟩
theorem AU {P : Program} {ops : Array Oper} {i : Nat} {o : Oper} {a : Act} {w w' : World} {v : Value} {K : Act → World → Prop} {Q : Exit → Act → World → Prop} (ho : ops[i]? = some o) (hg : Region.wanted o (yielded ops a.tmps) = true) (h : (execOp a.eval o).run P w = .ok (.value v) w') (hK : K (a.put o.dst v) w') : wpOp P ops Q i K a w := by
 refine jc (o := o) ho (fun x w2 => x = v ∧ w2 = w') (fun x w2 e => by obtain ⟨rfl, rfl⟩ := e; exact hK) ?_
 rw [if_pos hg, h]
 exact ⟨rfl, rfl⟩
theorem vJ {P : Program} {ops : Array Oper} {i : Nat} {o : Oper} {a : Act} {w w' : World} {K : Act → World → Prop} {Q : Exit → Act → World → Prop} (ho : ops[i]? = some o) (hg : o.guard = none) (h : (execOp a.eval o).run P w = .ok .skip w') (hK : K (a.put o.dst undef) w') : wpOp P ops Q i K a w := by
 refine jc (o := o) ho (fun x w2 => x = undef ∧ w2 = w') (fun x w2 e => by obtain ⟨rfl, rfl⟩ := e; exact hK) ?_
 rw [if_pos (by unfold Region.wanted; rw [hg]), h]
 exact ⟨rfl, rfl⟩
structure dO (ops : List Oper) (nt : Nat) (val : Nat → Value) (a0 : Act) (d : Nat → Bool) (a : Act) : Prop where
 size : a.tmps.size = nt
 defers : a.defers = []
 old : ∀ t : Nat, (∀ (i : Nat) (o : Oper), ops[i]? = some o → d i = true → o.dst ≠ some t) → a.tmps.getD t undef = a0.tmps.getD t undef
 new : ∀ (i : Nat) (o : Oper) (t : Nat), ops[i]? = some o → d i = true → o.dst = some t → a.tmps.getD t undef = val i
 cl : ∀ (j : Nat) (oj : Oper), ops[j]? = some oj → d j = true → ∀ e ∈ oj.after.toList, Region.binds .any e = true → d e.on = true
def cA (d : Nat → Bool) (i : Nat) : Nat → Bool := fun m => d m || Nat.beq m i
theorem zU {P : Program} (hm : P.follows .mixedOrders = true) {id nt : Nat} {ops : List Oper} {Q : Exit → Act → World → Prop} {a0 : Act} {w0 : World} (val : Nat → Value) (W : (Nat → Bool) → World)
  (hs : a0.tmps.size = nt) (hd : a0.defers = []) (hW : W (fun _ => false) = { w0 with drawn := w0.drawn + 1 })
  (hlow : (ops.zipIdx.all fun p => p.1.after.toList.all fun e => !Region.binds .any e || Nat.blt e.on p.2) = true) (hg : (ops.all fun o => o.guard.isNone) = true) (hdst : cE ops nt = true)
  (hdis : ∀ (i j : Nat) (oi oj : Oper) (t : Tmp), ops[i]? = some oi → ops[j]? = some oj → oi.dst = some t → oj.dst = some t → i = j)
  (hstep : ∀ (d : Nat → Bool) (i : Nat) (o : Oper) (a : Act) (K : Act → World → Prop), ops[i]? = some o → d i = false → (∀ e ∈ o.after.toList, Region.binds .any e = true → d e.on = true) → dO ops nt val a0 d a →
   (∀ v, (∀ t, o.dst = some t → v = val i) → K (a.put o.dst v) (W (cA d i))) → wpOp P ops.toArray Q i K a (W d))
  (hQ : ∀ d a, (∀ i, i < ops.length → d i = true) → dO ops nt val a0 d a → Q .normal a (W d)) : (Code.region id ops.toArray true).wp P Q a0 w0 := by
 have hl : ∀ (i : Nat) (o : Oper), ops[i]? = some o → ∀ e ∈ o.after.toList, Region.binds .any e = true → e.on < i := fun i o ho e he hb => by
  have h1 : (o, i) ∈ ops.zipIdx := by
   rw [List.mem_iff_getElem?]
   exact ⟨i, by simp [ho]⟩
  have h2 := FX.1 (FX.1 hlow _ h1) e he
  rw [hb] at h2
  simpa [← Nat.blt_eq] using h2
 refine wp_region_any hm ?_
 have main : ∀ (f : Nat) (ls : Array Bool) (a : Act), du ls ops.length = f → ls.size = ops.length → dO ops nt val a0 (fun i => ls.getD i false) a → wpAny P .any ops.toArray Q f ls a (W fun i => ls.getD i false) := by
  intro f
  induction f with
  | zero =>
   intro ls a hf hsz D
   have hall := vf hf
   refine ⟨?_, hQ _ a hall D⟩
   cases hr : Region.ready .any ops.toArray ls with
   | nil => rfl
   | cons i r =>
    have := mj (i := i) (by rw [hr]; simp) (by simpa using hsz)
    rw [hall i (by simpa using this.1)] at this
    cases this.2.1
  | succ f ih =>
   intro ls a hf hsz D
   refine ⟨fun h0 => ?_, fun i hi => ?_⟩
   ·exfalso
    have hex : ∃ i, i < ops.length ∧ ls.getD i false = false := by
     have hpos : 0 < du ls ops.length := by omega
     unfold du at hpos
     obtain ⟨i, hi, hv⟩ := List.countP_pos_iff.1 hpos
     exact ⟨i, List.mem_range.1 hi, by simpa using hv⟩
    obtain ⟨i, hi, hv⟩ := hex
    induction i using Nat.strongRecOn with
    | _ i ih2 =>
     by_cases hlow' : ∃ j, j < i ∧ ls.getD j false = false
     ·obtain ⟨j, hj, hjv⟩ := hlow'
      exact ih2 j hj (by omega) hjv
     ·have : i ∈ Region.ready .any ops.toArray ls := by
       unfold Region.ready
       refine List.mem_filter.2 ⟨List.mem_range.2 (by simpa using hi), ?_⟩
       have his : i < ls.size := by omega
       have ho : ops.toArray[i]? = some ops[i] := by simp [hi]
       rw [ho]
       simp only [Option.map_some, Option.getD_some, FY]
       refine ⟨by simp [Gc, his] at hv ⊢; exact hv, ?_⟩
       rw [← Array.all_toList, FX]
       intro ed hed
       cases hb : Region.binds .any ed with
       | false => rfl
       | true =>
        have hlt := hl i _ (FJ hi) ed hed hb
        cases hv' : ls.getD ed.on false with
        | true => rfl
        | false => exact absurd ⟨ed.on, hlt, hv'⟩ hlow'
      rw [h0] at this
      cases this
   ·obtain ⟨r1, r2, o, r3, r4⟩ := mj hi (by simpa using hsz)
    have hio : ops[i]? = some o := by simpa using r3
    have hil : i < ops.length := by simpa using r1
    have his : i < ls.size := by omega
    have hgo : o.guard = none := by
     have := FX.1 hg o (F5 hio)
     simpa using this
    have hset : (fun m => (ls.setIfInBounds i true).getD m false) = cA (fun m => ls.getD m false) i := by
     funext m
     exact eD his m
    have hnext : ∀ v, (∀ t, o.dst = some t → v = val i) → dO ops nt val a0 (cA (fun m => ls.getD m false) i) (a.put o.dst v) := fun v hv => by
     refine ⟨?_, ?_, fun t ht => ?_, fun j oj t hj hdj hdt => ?_, fun j oj hj hdj ed hed hb => ?_⟩
     rotate_right
     ·by_cases e : j = i
      ·subst e
       rw [hio] at hj
       injection hj with hj
       subst hj
       have := r4 ed hed hb
       show (ls.getD ed.on false || _) = true
       rw [this]
       rfl
      ·have hdj' : ls.getD j false = true := by
        unfold cA at hdj
        have : Nat.beq j i = false := by simpa [← Nat.beq_eq] using e
        rw [this, Bool.or_false] at hdj
        exact hdj
       show (ls.getD ed.on false || _) = true
       rw [show ls.getD ed.on false = true from D.cl j oj hj hdj' ed hed hb]
       rfl
     ·cases o.dst with
      | none => exact D.size
      | some t => rw [dt]; exact D.size
     ·cases o.dst with
      | none => exact D.defers
      | some t => rw [dA]; exact D.defers
     ·have h1 := ht i o hio (by simp [cA])
      have h2 := D.old t fun j oj hj hdj => ht j oj hj (by show (ls.getD j false || Nat.beq j i) = true; rw [show ls.getD j false = true from hdj]; rfl)
      cases hdo : o.dst with
      | none => exact h2
      | some u => rw [dB v (fun e => h1 (by rw [hdo, e]))]; exact h2
     ·by_cases e : j = i
      ·subst e
       rw [hio] at hj
       injection hj with hj
       subst hj
       rw [hdt, dU _ (by rw [D.size]; exact mZ hdst j o t hio hdt), hv t hdt]
      ·have hdj' : ls.getD j false = true := by
        unfold cA at hdj
        have : Nat.beq j i = false := by simpa [← Nat.beq_eq] using e
        rw [this, Bool.or_false] at hdj
        exact hdj
       have h2 := D.new j oj t hj hdj' hdt
       cases hdo : o.dst with
       | none => exact h2
       | some u => rw [dB v (fun e' => e (hdis j i oj o t hj hio hdt (by rw [hdo, e'])))]; exact h2
    have hrec : ∀ v, (∀ t, o.dst = some t → v = val i) → wpAny P .any ops.toArray Q f (ls.setIfInBounds i true) (a.put o.dst v) (W (cA (fun m => ls.getD m false) i)) := fun v hv => by
     rw [← hset]
     refine ih _ _ (by have := rm ops.length i ls hil his r2; omega) (by simpa using hsz) ?_
     rw [hset]
     exact hnext v hv
    exact hstep _ i o a _ hio r2 r4 D hrec
 have h := main _ (Array.replicate ops.length false) a0 rfl (by simp) ⟨hs, hd, fun t _ => rfl, (fun i o t ho hdi => by
   exfalso
   simp only [Gc] at hdi
   rw [Array.getElem?_replicate] at hdi
   split at hdi <;> cases hdi), fun j oj hj hdi => by
   exfalso
   simp only [Gc] at hdi
   rw [Array.getElem?_replicate] at hdi
   split at hdi <;> cases hdi⟩
 have e1 : (fun i => (Array.replicate ops.length false).getD i false) = fun _ => false := by
  funext i
  simp only [Gc]
  rw [Array.getElem?_replicate]
  split <;> rfl
 rw [e1, hW] at h
 have e2 : du (Array.replicate ops.length false) ops.length = ops.length := by
  unfold du
  rw [List.countP_eq_length.2]
  ·simp
  ·intro i _
   have := congrFun e1 i
   simp only [this]
   rfl
 rw [e2] at h
 simpa using h
theorem Ar {P : Program} (hm : P.follows .mixedOrders = true) {id nt : Nat} {ops : List Oper} {Q : Exit → Act → World → Prop} {a0 : Act} {w0 : World} (val : Nat → Value) (W : (Nat → Bool) → World)
  (hs : a0.tmps.size = nt) (hd : a0.defers = []) (hW : W (fun _ => false) = { w0 with drawn := w0.drawn + 1 })
  (hlow : (ops.zipIdx.all fun p => p.1.after.toList.all fun e => !Region.binds .any e || Nat.blt e.on p.2) = true) (hg : (ops.all fun o => o.guard.isNone) = true) (hdst : cE ops nt = true)
  (hdis : ∀ (i j : Nat) (oi oj : Oper) (t : Tmp), ops[i]? = some oi → ops[j]? = some oj → oi.dst = some t → oj.dst = some t → i = j)
  (hstep : ∀ (d : Nat → Bool) (i : Nat) (o : Oper) (a : Act), ops[i]? = some o → d i = false → (∀ e ∈ o.after.toList, Region.binds .any e = true → d e.on = true) → dO ops nt val a0 d a →
   (execOp a.eval o).run P (W d) = .ok (.value (val i)) (W (cA d i)) ∨ (o.dst = none ∧ (execOp a.eval o).run P (W d) = .ok .skip (W (cA d i))))
  (hQ : ∀ d a, (∀ i, i < ops.length → d i = true) → dO ops nt val a0 d a → Q .normal a (W d)) : (Code.region id ops.toArray true).wp P Q a0 w0 :=
 zU hm val W hs hd hW hlow hg hdst hdis (fun d i o a K ho hdi hdep D hK => by
  have hgo : o.guard = none := by simpa using FX.1 hg o (F5 ho)
  rcases hstep d i o a ho hdi hdep D with h | ⟨h1, h2⟩
  ·exact mS (o := o) (by simpa using ho) hgo h (hK _ fun _ _ => rfl)
  ·exact vJ (o := o) (by simpa using ho) hgo h2 (hK _ fun t ht => by rw [h1] at ht; cases ht)) hQ
theorem sD {n : Int} (h0 : -9223372036854775808 ≤ n) (h1 : n < 9223372036854775808) : IntKind.i64.wrap n = n := by
 simp only [IntKind.wrap, IntKind.bits, IntKind.signed]
 simp
 omega
theorem At.below {P : Program} {nt : Nat} {bad : Nat → Prop} {tm : List (Nat × AV)} {a : Act} {w w' : World} (H : At P nt bad tm a w) (hB : Below w.heap.size w w') : At P nt bad tm a w' :=
 ⟨fun t av ht => RV.mono ⟨fun x hx => ⟨Gb hx.1 hB.size, hx.2⟩, fun x hx => hB.block x hx.1⟩ (E1 _) _ _ (H.tmp t av ht), H.size, H.defers⟩
theorem At.moved {P : Program} {nt : Nat} {bad bad' : Nat → Prop} {tm : List (Nat × AV)} {a : Act} {w w' : World} {row : Option Nat} (H : At P nt bad tm a w) (g : w.grownBy w' row) (hr : ∀ x, row = some x → bad x) (hb : ∀ x, bad' x → bad x ∨ w.heap.size ≤ x) : At P nt bad' tm a w' :=
 ⟨fun t av ht => RV.mono ⟨fun x hx => ⟨Gb hx.1 g.size, fun h => (hb x h).elim hx.2 fun h => by have := hx.1; omega⟩, fun x hx => g.block x hx.1 fun e => hx.2 (hr x e.symm)⟩ (E1 _) _ _ (H.tmp t av ht), H.size, H.defers⟩
theorem At.putv {P : Program} {nt : Nat} {bad : Nat → Prop} {tm : List (Nat × AV)} {a : Act} {w : World} (H : At P nt bad tm a w) (t : Nat) (ht : t < nt) {v : Value} {av : AV} (hv : RV w (okX bad w) (fun _ => none) av v) : At P nt bad ((t, av) :: tm) (a.put (some t) v) w := by
 refine ⟨fun t' av' h' => ?_, by rw [dt]; exact H.size, by rw [dA]; exact H.defers⟩
 rw [bo] at h'
 split at h'
 ·rename_i e
  subst e
  injection h' with h'
  subst h'
  rw [dU _ (by rw [H.size]; exact ht)]
  exact hv
 ·rename_i e
  rw [dB _ (Ne.symm e)]
  exact H.tmp t' av' h'
theorem At.cut {P : Program} {nt : Nat} {bad : Nat → Prop} {tm tm' : List (Nat × AV)} {a : Act} {w : World} (hb : ∀ x, bad x → x < w.heap.size) (H : At P nt bad tm a w) {tt : TT} (hT : bb P tt) {id : Nat} {ops : List Oper} (n1 n2 : Nat) {Q : Exit → Act → World → Prop} (xs : List HP)
  (e : (cE ops nt, Hg [] (bW tm') 1 (cI P tt ops (ops.take n1) (xs.map HP.hi) ⟨tm, [], 1⟩), true, Nat.beq ops.length (n1 + n2)) = (true, some (some ⟨tm', [], 1⟩, cP n1 xs), true, true)) (hf : tm'.all (fun p => dp p.2) = true)
  (kont : ∀ a' w', At P nt bad tm' a' w' → Below w.heap.size w w' → wpOps P ops.toArray Q (List.range' n1 n2) a' w') : (Code.region id ops.toArray false).wp P Q a w :=
 mm (c := b6 P bad w nt) (Sx := ⟨tm', [], 1⟩) hT n1 n2 [] xs (by simp only [FV] at e ⊢; exact ⟨e.1, e.2.1, rfl, e.2.2.2⟩) (H.rep 1) fun ρ' a' w' R' => (At.of hb R' hf).elim fun h1 h2 => kont a' w' h1 h2
theorem At.rest {P : Program} {nt : Nat} {bad : Nat → Prop} {tm tm' : List (Nat × AV)} {a : Act} {w : World} (hb : ∀ x, bad x → x < w.heap.size) (H : At P nt bad tm a w) {tt : TT} (hT : bb P tt) {ops : List Oper} (n1 n2 : Nat) {Q : Exit → Act → World → Prop} (xs : List HP)
  (e : (cE ops nt, Hg [] (bW tm') 1 (cI P tt ops (ops.drop n1) (xs.map HP.hi) ⟨tm, [], 1⟩), true, Nat.beq ops.length (n1 + n2)) = (true, some (some ⟨tm', [], 1⟩, cP n2 xs), true, true)) (hf : tm'.all (fun p => dp p.2) = true)
  (kont : ∀ a' w', At P nt bad tm' a' w' → Below w.heap.size w w' → Q .normal a' w') : wpOps P ops.toArray Q (List.range' n1 n2) a w :=
 mc (c := b6 P bad w nt) (Sx := ⟨tm', [], 1⟩) hT n1 n2 [] xs (by simp only [FV] at e ⊢; exact ⟨e.1, e.2.1, rfl, e.2.2.2⟩) (H.rep 1) fun ρ' a' w' R' => (At.of hb R' hf).elim fun h1 h2 => kont a' w' h1 h2
theorem At.run {P : Program} {nt : Nat} {bad : Nat → Prop} {tm tm' : List (Nat × AV)} {a : Act} {w : World} (hb : ∀ x, bad x → x < w.heap.size) (H : At P nt bad tm a w) {code : Code} {x : Exit} {Q : Exit → Act → World → Prop} (h : AW (b6 P bad w nt) ⟨tm, [], 1⟩ code fun e S' => e = x ∧ Conv (b6 P bad w nt) S' ⟨tm', [], 1⟩) (hf : tm'.all (fun p => dp p.2) = true) (kont : ∀ a' w', At P nt bad tm' a' w' → Below w.heap.size w w' → Q x a' w') : code.wp P Q a w :=
 PM (c := b6 P bad w nt) h (H.rep 1) fun ρ' a' w' R' => (At.of hb R' hf).elim fun h1 h2 => kont a' w' h1 h2
theorem At.run_box {P : Program} {nt : Nat} {bad : Nat → Prop} {tm tm' : List (Nat × AV)} {a : Act} {w : World} (hb : ∀ x, bad x → x < w.heap.size) (H : At P nt bad tm a w) {code : Code} {x : Exit} {t ty : Nat} {cs : List T} {Q : Exit → Act → World → Prop} (h : AW (b6 P bad w nt) ⟨tm, [], 1⟩ code fun e S' => e = x ∧ Conv (b6 P bad w nt) S' ⟨(t, .c (.ptr 0 cs.length 0 0)) :: tm', [(0, .box ty (cs.map C.t))], 1⟩) (hf : tm'.all (fun p => dp p.2) = true) (kont : ∀ a' w', At P nt bad ((t, .c (.t (.eptr cs.length (fun j => cs.getD j (.v undef)) 0))) :: tm') a' w' → Below w.heap.size w w' → Q x a' w') : code.wp P Q a w :=
 PM (c := b6 P bad w nt) h (H.rep 1) fun ρ' a' w' R' => (FE hb R' hf).elim fun h1 h2 => kont a' w' h1 h2
theorem At.cut_box {P : Program} {nt : Nat} {bad : Nat → Prop} {tm tm' : List (Nat × AV)} {a : Act} {w : World} (hb : ∀ x, bad x → x < w.heap.size) (H : At P nt bad tm a w) {tt : TT} (hT : bb P tt) {id : Nat} {ops : List Oper} (n1 n2 : Nat) {t ty : Nat} {cs : List T} {Q : Exit → Act → World → Prop} (m : List (Nat × Nat)) (xs : List HP)
  (e : (cE ops nt, Hg m (bW ((t, .c (.ptr 0 cs.length 0 0)) :: tm')) 1 (cI P tt ops (ops.take n1) (xs.map HP.hi) ⟨tm, [], 1⟩), true, Nat.beq ops.length (n1 + n2)) = (true, some (some ⟨(t, .c (.ptr 0 cs.length 0 0)) :: tm', [(0, .box ty (cs.map C.t))], 1⟩, cP n1 xs), true, true)) (hm : (bT (m.map (·.2)) && bT (m.map (·.1)) && dW 1 m && dM 0 1 m) = true) (hf : tm'.all (fun p => dp p.2) = true)
  (kont : ∀ a' w', At P nt bad ((t, .c (.t (.eptr cs.length (fun j => cs.getD j (.v undef)) 0))) :: tm') a' w' → Below w.heap.size w w' → wpOps P ops.toArray Q (List.range' n1 n2) a' w') : (Code.region id ops.toArray false).wp P Q a w :=
 mm (c := b6 P bad w nt) (Sx := ⟨(t, .c (.ptr 0 cs.length 0 0)) :: tm', [(0, .box ty (cs.map C.t))], 1⟩) hT n1 n2 m xs (by simp only [FV] at e ⊢; exact ⟨e.1, e.2.1, hm, e.2.2.2⟩) (H.rep 1) fun ρ' a' w' R' => (FE hb R' hf).elim fun h1 h2 => kont a' w' h1 h2
theorem At.rest_box {P : Program} {nt : Nat} {bad : Nat → Prop} {tm tm' : List (Nat × AV)} {a : Act} {w : World} (hb : ∀ x, bad x → x < w.heap.size) (H : At P nt bad tm a w) {tt : TT} (hT : bb P tt) {ops : List Oper} (n1 n2 : Nat) {t ty : Nat} {cs : List T} {Q : Exit → Act → World → Prop} (m : List (Nat × Nat)) (xs : List HP)
  (e : (cE ops nt, Hg m (bW ((t, .c (.ptr 0 cs.length 0 0)) :: tm')) 1 (cI P tt ops (ops.drop n1) (xs.map HP.hi) ⟨tm, [], 1⟩), true, Nat.beq ops.length (n1 + n2)) = (true, some (some ⟨(t, .c (.ptr 0 cs.length 0 0)) :: tm', [(0, .box ty (cs.map C.t))], 1⟩, cP n2 xs), true, true)) (hm : (bT (m.map (·.2)) && bT (m.map (·.1)) && dW 1 m && dM 0 1 m) = true) (hf : tm'.all (fun p => dp p.2) = true)
  (kont : ∀ a' w', At P nt bad ((t, .c (.t (.eptr cs.length (fun j => cs.getD j (.v undef)) 0))) :: tm') a' w' → Below w.heap.size w w' → Q .normal a' w') : wpOps P ops.toArray Q (List.range' n1 n2) a w :=
 mc (c := b6 P bad w nt) (Sx := ⟨(t, .c (.ptr 0 cs.length 0 0)) :: tm', [(0, .box ty (cs.map C.t))], 1⟩) hT n1 n2 m xs (by simp only [FV] at e ⊢; exact ⟨e.1, e.2.1, hm, e.2.2.2⟩) (H.rep 1) fun ρ' a' w' R' => (FE hb R' hf).elim fun h1 h2 => kont a' w' h1 h2
theorem dO.ev {ops : List Oper} {nt : Nat} {val : Nat → Value} {a0 a : Act} {d : Nat → Bool} (D : dO ops nt val a0 d a) (j : Nat) {oj : Oper} {t : Nat} (hj : ops[j]? = some oj) (hdj : d j = true) (ht : oj.dst = some t) : a.eval (.tmp t) = val j := D.new j oj t hj hdj ht
theorem dO.ev0 {ops : List Oper} {nt : Nat} {val : Nat → Value} {a0 a : Act} {d : Nat → Bool} (D : dO ops nt val a0 d a) (t : Nat) (h : (ops.all fun o => !(o.dst == some t)) = true) : a.eval (.tmp t) = a0.eval (.tmp t) := D.old t fun i o ho _ e => by
 have := FX.1 h o (F5 ho)
 rw [e] at this
 simp at this
theorem dO.no {ops : List Oper} {nt : Nat} {val : Nat → Value} {a0 a : Act} {d : Nat → Bool} (D : dO ops nt val a0 d a) {i j : Nat} {oj : Oper} {e : _} (hi : d i = false) (hj : ops[j]? = some oj) (he : e ∈ oj.after.toList) (hb : Region.binds .any e = true) (hei : e.on = i) : d j = false := by
 cases h : d j with
 | false => rfl
 | true =>
  have := D.cl j oj hj h e he hb
  rw [hei, hi] at this
  cases this
def Cw (ops : List Oper) : Bool := (List.range ops.length).all fun i => (List.range ops.length).all fun j => Nat.beq i j || (match (ops[i]?).bind (·.dst), (ops[j]?).bind (·.dst) with
 | some t, some u => !(Nat.beq t u)
 | _, _ => true)
theorem Cf {ops : List Oper} (h : Cw ops = true) (i j : Nat) (oi oj : Oper) (t : Tmp) (hi : ops[i]? = some oi) (hj : ops[j]? = some oj) (h1 : oi.dst = some t) (h2 : oj.dst = some t) : i = j := by
 have := FX.1 (FX.1 h i (List.mem_range.2 (List.getElem?_eq_some_iff.1 hi).1)) j (List.mem_range.2 (List.getElem?_eq_some_iff.1 hj).1)
 rw [hi, hj] at this
 simp only [Option.bind_some, h1, h2] at this
 simpa using this
theorem At.det {P : Program} {nt : Nat} {bad : Nat → Prop} {tm : List (Nat × AV)} {a0 a : Act} {w : World} {ops : List Oper} {val : Nat → Value} {d : Nat → Bool} (H : At P nt bad tm a0 w) (D : dO ops nt val a0 d a) (h : (tm.all fun p => ops.all fun o => !(o.dst == some p.1)) = true) : At P nt bad tm a w :=
 ⟨fun t av ht => by
  have h1 := Vm.look_allp ht h
  have := D.ev0 t h1
  rw [show a.tmps.getD t undef = a0.tmps.getD t undef from this]
  exact H.tmp t av ht, D.size, D.defers⟩
theorem vK {α : Type} : ∀ {l : List (Nat × α)} {t : Nat} {x : α}, Vm.look l t = some x → ∃ p ∈ l, p.1 = t ∧ p.2 = x
 | [], _, _, h => by cases h
 | (k, y) :: l, t, x, h => by
  rw [bo] at h
  split at h
  ·rename_i e; exact ⟨(k, y), FZ, e, am h⟩
  ·obtain ⟨p, h1, h2⟩ := vK h
   exact ⟨p, F0 _ h1, h2⟩
theorem At.sub {P : Program} {nt : Nat} {bad : Nat → Prop} {tm tm' : List (Nat × AV)} {a : Act} {w : World} (H : At P nt bad tm a w) (h : (tm'.map fun p => Vm.look tm p.1) = tm'.map fun p => some p.2) : At P nt bad tm' a w :=
 ⟨fun t av ht => by
  obtain ⟨p, hp, e1, e2⟩ := vK ht
  obtain ⟨i, hi, rfl⟩ := List.getElem_of_mem hp
  have h4 := congrArg (fun l : List (Option AV) => l[i]?) h
  simp only [F6, FJ hi, Option.map_some] at h4
  have h5 := am h4
  rw [e1] at h5
  exact H.tmp t av (h5.trans (by rw [e2])), H.size, H.defers⟩
theorem At.skip {P : Program} {nt : Nat} {bad : Nat → Prop} {tm : List (Nat × AV)} {a : Act} {w : World} (H : At P nt bad tm a w) (t : Nat) (v : Value) (h : Vm.look tm t = none) : At P nt bad tm (a.put (some t) v) w :=
 ⟨fun t' av ht => by
  have hne : t ≠ t' := fun e => by subst e; rw [h] at ht; cases ht
  rw [dB _ (fun e => hne e.symm)]
  exact H.tmp t' av ht, by rw [dt]; exact H.size, by rw [dA]; exact H.defers⟩
def sW : List (Nat × AV) → Bool
 | [] => true
 | (_, .c (.t (.v _))) :: l => sW l
 | _ :: _ => false
theorem wP : ∀ {l : List (Nat × AV)}, sW l = true → ∀ {t : Nat} {av : AV}, Vm.look l t = some av → ∃ v, av = .c (.t (.v v))
 | [], _, t, av, h => by cases h
 | (k, .c (.t (.v v))) :: l, hp, t, av, h => by
  rw [bo] at h
  split at h
  ·injection h with h; exact ⟨v, h.symm⟩
  ·exact wP (l := l) hp h
theorem At.plain {P : Program} {nt : Nat} {bad bad' : Nat → Prop} {tm : List (Nat × AV)} {a : Act} {w w' : World} (H : At P nt bad tm a w) (h : sW tm = true) : At P nt bad' tm a w' :=
 ⟨fun t av ht => by
  obtain ⟨v, rfl⟩ := wP h ht
  exact H.tmp t _ ht, H.size, H.defers⟩
end Vm
end Go.Proofs.YtfmhbcfklokmaaaGreatDoor
namespace Go.Proofs.YtfmhbcfklokmaaaGreatDoor
open Go.Shelf
def ug : Go.Shelf.Ren := ⟨fun | 156 => 233 | 165 => 267 | 166 => 258 | 169 => 260 | 240 => 272 | 241 => 278 | 276 => 283 | 277 => 287 | n => n, fun | 31 => 28 | 9 => 9 | 3 => 3 | 4 => 4 | 0 => 0 | 20 => 20 | 72 => 325 | 76 => 329 | 70 => 323 | 37 => 151 | 75 => 328 | 127 => 348 | 164 => 359 | 5 => 5 | 80 => 94 | n => n, fun | n => n⟩
theorem mn : Go.Proofs.Lays.n156 Tryz.prog ug := {
 mixed := by kernel_rfl
 f156 := Tryz.func233.trans (congrArg some (by kernel_rfl))
 f165 := Tryz.func267.trans (congrArg some (by kernel_rfl))
 f166 := Tryz.func258.trans (congrArg some (by kernel_rfl))
 f169 := Tryz.func260.trans (congrArg some (by kernel_rfl))
 f240 := Tryz.func272.trans (congrArg some (by kernel_rfl))
 f241 := Tryz.func278.trans (congrArg some (by kernel_rfl))
 f276 := Tryz.func283.trans (congrArg some (by kernel_rfl))
 f277 := Tryz.func287.trans (congrArg some (by kernel_rfl))
 t0 := Tryz.underlying0
 a0 := Tryz.isAgg0
 z0 := Tryz.sizeOf0
 v0 := Tryz.zeroValue0
 t3 := Tryz.underlying3
 a3 := Tryz.isAgg3
 z3 := Tryz.sizeOf3
 v3 := Tryz.zeroValue3
 t4 := Tryz.underlying4
 a4 := Tryz.isAgg4
 z4 := Tryz.sizeOf4
 v4 := Tryz.zeroValue4
 t9 := Tryz.underlying9
 a9 := Tryz.isAgg9
 z9 := Tryz.sizeOf9
 v9 := Tryz.zeroValue9
 t20 := Tryz.underlying20
 a20 := Tryz.isAgg20
 z20 := Tryz.sizeOf20
 v20 := Tryz.zeroValue20
 t31 := Tryz.underlying28
 a31 := Tryz.isAgg28
 z31 := Tryz.sizeOf28
 v31 := Tryz.zeroValue28
 t37 := Tryz.underlying151
 a37 := Tryz.isAgg151
 z37 := Tryz.sizeOf151
 v37 := Tryz.zeroValue151
 t70 := Tryz.underlying323
 a70 := Tryz.isAgg323
 z70 := Tryz.sizeOf323
 v70 := Tryz.zeroValue323
 t72 := Tryz.underlying325
 a72 := Tryz.isAgg325
 z72 := Tryz.sizeOf325
 v72 := Tryz.zeroValue325
 t75 := Tryz.underlying328
 a75 := Tryz.isAgg328
 z75 := Tryz.sizeOf328
 v75 := Tryz.zeroValue328
 t76 := Tryz.underlying329
 a76 := Tryz.isAgg329
 z76 := Tryz.sizeOf329
 v76 := Tryz.zeroValue329
 t127 := Tryz.underlying348
 a127 := Tryz.isAgg348
 z127 := Tryz.sizeOf348
 v127 := Tryz.zeroValue348
 t164 := Tryz.underlying359
 a164 := Tryz.isAgg359
 z164 := Tryz.sizeOf359
 v164 := Tryz.zeroValue359 }
theorem kw : Builder.Extra Tryz.prog ug := {
 sizeBuilder := by kernel_rfl
 liesBuilder := by kernel_rfl
 t5 := Tryz.underlying5
 a5 := Tryz.isAgg5
 z5 := Tryz.sizeOf5
 v5 := Tryz.zeroValue5
 infoByte := by kernel_rfl
 cellsByte := by kernel_rfl
 sizeByte := by kernel_rfl
 neB5 := by decide }
open Go.RowKit in
theorem xP (a : Option Addr) (c : Nat) (sep : ByteArray) (w : World) :
    Calls Tryz.prog 233 #[.slice a 0 c, .string sep] w fun e w' => e = .returned (.string ⟨#[]⟩) ∧ w' = w := Any.strings_Join_none mn kw a c sep w
open Go.RowKit in
theorem yN (bk o c : Nat) (xs : List ByteArray) (sep : ByteArray) (w : World) (hcells : ∀ (j : Nat) x, xs[j]? = some x → w.cell? ⟨bk, o + j, none⟩ = some (.string x)) (hbk : bk < w.heap.size) (hN : xs.length ≤ 140737488355328) (hcap : xs.length ≤ c) (hlen : (Lib.join (xs.map (·.data.toList)) sep.data.toList).length ≤ 140737488355328) :
    Calls Tryz.prog 233 #[.slice (some ⟨bk, o, none⟩) xs.length c, .string sep] w fun e w' => e = .returned (.string ⟨(Lib.join (xs.map (·.data.toList)) sep.data.toList).toArray⟩) ∧ Below w.heap.size w w' := Any.strings_Join mn kw bk o c xs sep w hcells hbk hN hcap hlen
def yY : Go.Shelf.Ren := ⟨fun | 229 => 247 | n => n, fun | 9 => 9 | 40 => 316 | 31 => 28 | 152 => 345 | 3 => 3 | 0 => 0 | 4 => 4 | 21 => 21 | 154 => 347 | n => n, fun | n => n⟩
theorem vp : Go.Proofs.Lays.n229 Tryz.prog yY := {
 mixed := by kernel_rfl
 f229 := Tryz.func247.trans (congrArg some (by kernel_rfl))
 t0 := Tryz.underlying0
 a0 := Tryz.isAgg0
 z0 := Tryz.sizeOf0
 v0 := Tryz.zeroValue0
 t3 := Tryz.underlying3
 a3 := Tryz.isAgg3
 z3 := Tryz.sizeOf3
 v3 := Tryz.zeroValue3
 t4 := Tryz.underlying4
 a4 := Tryz.isAgg4
 z4 := Tryz.sizeOf4
 v4 := Tryz.zeroValue4
 t9 := Tryz.underlying9
 a9 := Tryz.isAgg9
 z9 := Tryz.sizeOf9
 v9 := Tryz.zeroValue9
 t21 := Tryz.underlying21
 a21 := Tryz.isAgg21
 z21 := Tryz.sizeOf21
 v21 := Tryz.zeroValue21
 t31 := Tryz.underlying28
 a31 := Tryz.isAgg28
 z31 := Tryz.sizeOf28
 v31 := Tryz.zeroValue28
 t40 := Tryz.underlying316
 a40 := Tryz.isAgg316
 z40 := Tryz.sizeOf316
 v40 := Tryz.zeroValue316
 t152 := Tryz.underlying345
 a152 := Tryz.isAgg345
 z152 := Tryz.sizeOf345
 v152 := Tryz.zeroValue345
 t154 := Tryz.underlying347
 a154 := Tryz.isAgg347
 z154 := Tryz.sizeOf347
 v154 := Tryz.zeroValue347 }
open Go.RowKit Go.Lib in
theorem xK (g : Nat) (lb : Array Value) (eg : ∀ args w, (callFunc g args).run Tryz.prog w = .ok (.enter g args) w) (p : Nat → Bool) (s : ByteArray) (w : World) (hs : s.size ≤ 4294967296) (hp : PredAt Tryz.prog g lb encR p w) :
  Calls Tryz.prog 247 #[.string s, .func (.func g) #[] lb] w fun e w' => ∃ A, e = .returned (.slice (some ⟨A, 0, none⟩) (Lib.goFieldsP p s).length (Lib.goFieldsP p s).length) ∧ w.heap.size ≤ A ∧
   w'.ownsRow w.heap.size 9 1 (.slice (some ⟨A, 0, none⟩) (Lib.goFieldsP p s).length (Lib.goFieldsP p s).length) (Lib.goFieldsP p s).length ((Lib.goFieldsP p s).map Value.string) ∧ Below w.heap.size w w' := Any.strings_FieldsFunc vp g lb eg p s w hs hp (by kernel_rfl) (by kernel_rfl)
def pM : Go.Shelf.Ren := ⟨fun | 7 => 262 | 10 => 276 | n => n, fun | 23 => 337 | 26 => 9 | 3 => 338 | 28 => 334 | 0 => 0 | 27 => 333 | 33 => 146 | 4 => 4 | n => n, fun | n => n⟩
theorem qU : Go.Proofs.SlLaysZ.n7 Tryz.prog pM := {
 mixed := by kernel_rfl
 f7 := ⟨Tryz.f262.name, by decide, Tryz.func262.trans (congrArg some (by kernel_rfl))⟩
 f10 := ⟨Tryz.f276.name, by decide, Tryz.func276.trans (congrArg some (by kernel_rfl))⟩
 t0 := Tryz.underlying0
 a0 := Tryz.isAgg0
 z0 := Tryz.sizeOf0
 v0 := Tryz.zeroValue0
 t4 := Tryz.underlying4
 a4 := Tryz.isAgg4
 z4 := Tryz.sizeOf4
 v4 := Tryz.zeroValue4
 t23 := Tryz.underlying337
 a23 := Tryz.isAgg337
 z23 := Tryz.sizeOf337
 v23 := Tryz.zeroValue337
 t26 := Tryz.underlying9
 a26 := Tryz.isAgg9
 z26 := Tryz.sizeOf9
 v26 := Tryz.zeroValue9
 t27 := Tryz.underlying333
 a27 := Tryz.isAgg333
 z27 := Tryz.sizeOf333
 v27 := Tryz.zeroValue333
 t28 := Tryz.underlying334
 a28 := Tryz.isAgg334
 z28 := Tryz.sizeOf334
 v28 := Tryz.zeroValue334
 t33 := Tryz.underlying146
 a33 := Tryz.isAgg146
 z33 := Tryz.sizeOf146
 v33 := Tryz.zeroValue146 }
def tU : Go.Shelf.Ren := ⟨fun | 6 => 261 | 8 => 274 | 9 => 275 | 11 => 284 | 13 => 110 | 12 => 285 | 23 => 152 | 24 => 153 | 14 => 291 | 15 => 292 | 16 => 293 | 17 => 294 | 18 => 295 | 19 => 296 | 20 => 297 | 21 => 298 | 22 => 299 | 25 => 302 | 26 => 185 | 27 => 186 | 28 => 303 | 29 => 304 | 30 => 305 | 31 => 310 | n => n, fun | 26 => 9 | 28 => 334 | 24 => 28 | 0 => 0 | 3 => 3 | 37 => 150 | 48 => 243 | 50 => 37 | 4 => 4 | 40 => 237 | 39 => 236 | 45 => 113 | 5 => 5 | 9 => 9 | 51 => 271 | 55 => 274 | 57 => 299 | 58 => 300 | 33 => 146 | n => n, fun | n => n⟩
theorem uK : Go.Proofs.SlLaysZ.n6 Tryz.prog tU := {
 mixed := by kernel_rfl
 f6 := ⟨Tryz.f261.name, by decide, Tryz.func261.trans (congrArg some (by kernel_rfl))⟩
 f8 := ⟨Tryz.f274.name, by decide, Tryz.func274.trans (congrArg some (by kernel_rfl))⟩
 f11 := ⟨Tryz.f284.name, by decide, Tryz.func284.trans (congrArg some (by kernel_rfl))⟩
 t0 := Tryz.underlying0
 a0 := Tryz.isAgg0
 z0 := Tryz.sizeOf0
 v0 := Tryz.zeroValue0
 t24 := Tryz.underlying28
 a24 := Tryz.isAgg28
 z24 := Tryz.sizeOf28
 v24 := Tryz.zeroValue28
 t26 := Tryz.underlying9
 a26 := Tryz.isAgg9
 z26 := Tryz.sizeOf9
 v26 := Tryz.zeroValue9
 t28 := Tryz.underlying334
 a28 := Tryz.isAgg334
 z28 := Tryz.sizeOf334
 v28 := Tryz.zeroValue334
 i26 := by kernel_rfl }
def yZ : Go.Shelf.Ren := ⟨fun | 6 => 275 | 8 => 110 | 9 => 285 | 19 => 152 | 20 => 153 | 21 => 291 | 22 => 292 | 23 => 293 | 24 => 294 | 25 => 295 | 26 => 296 | 27 => 297 | 28 => 298 | 29 => 299 | 36 => 302 | 31 => 185 | 32 => 186 | 37 => 303 | 38 => 304 | 39 => 305 | 41 => 310 | n => n, fun | 27 => 28 | 29 => 9 | 3 => 3 | 32 => 150 | 26 => 28 | 0 => 0 | 44 => 243 | 46 => 37 | 4 => 4 | 36 => 237 | 35 => 236 | 41 => 113 | 5 => 5 | 9 => 9 | 53 => 271 | 57 => 274 | 63 => 299 | 64 => 300 | n => n, fun | n => n⟩
theorem vq : Go.Proofs.SlLaysM.n6 Tryz.prog yZ := {
 mixed := by kernel_rfl
 f6 := ⟨Tryz.f275.name, by decide, Tryz.func275.trans (congrArg some (by kernel_rfl))⟩
 f8 := Tryz.func110.trans (congrArg some (by kernel_rfl))
 f9 := ⟨Tryz.f285.name, by decide, Tryz.func285.trans (congrArg some (by kernel_rfl))⟩
 f19 := Tryz.func152.trans (congrArg some (by kernel_rfl))
 f20 := Tryz.func153.trans (congrArg some (by kernel_rfl))
 f21 := ⟨Tryz.f291.name, by decide, Tryz.func291.trans (congrArg some (by kernel_rfl))⟩
 f22 := ⟨Tryz.f292.name, by decide, Tryz.func292.trans (congrArg some (by kernel_rfl))⟩
 f23 := ⟨Tryz.f293.name, by decide, Tryz.func293.trans (congrArg some (by kernel_rfl))⟩
 f24 := ⟨Tryz.f294.name, by decide, Tryz.func294.trans (congrArg some (by kernel_rfl))⟩
 f25 := ⟨Tryz.f295.name, by decide, Tryz.func295.trans (congrArg some (by kernel_rfl))⟩
 f26 := ⟨Tryz.f296.name, by decide, Tryz.func296.trans (congrArg some (by kernel_rfl))⟩
 f27 := ⟨Tryz.f297.name, by decide, Tryz.func297.trans (congrArg some (by kernel_rfl))⟩
 f28 := ⟨Tryz.f298.name, by decide, Tryz.func298.trans (congrArg some (by kernel_rfl))⟩
 f29 := ⟨Tryz.f299.name, by decide, Tryz.func299.trans (congrArg some (by kernel_rfl))⟩
 f31 := Tryz.func185.trans (congrArg some (by kernel_rfl))
 f32 := Tryz.func186.trans (congrArg some (by kernel_rfl))
 f36 := ⟨Tryz.f302.name, by decide, Tryz.func302.trans (congrArg some (by kernel_rfl))⟩
 f37 := ⟨Tryz.f303.name, by decide, Tryz.func303.trans (congrArg some (by kernel_rfl))⟩
 f38 := ⟨Tryz.f304.name, by decide, Tryz.func304.trans (congrArg some (by kernel_rfl))⟩
 f39 := ⟨Tryz.f305.name, by decide, Tryz.func305.trans (congrArg some (by kernel_rfl))⟩
 f41 := ⟨Tryz.f310.name, by decide, Tryz.func310.trans (congrArg some (by kernel_rfl))⟩
 t0 := Tryz.underlying0
 a0 := Tryz.isAgg0
 z0 := Tryz.sizeOf0
 v0 := Tryz.zeroValue0
 t3 := Tryz.underlying3
 a3 := Tryz.isAgg3
 z3 := Tryz.sizeOf3
 v3 := Tryz.zeroValue3
 t4 := Tryz.underlying4
 a4 := Tryz.isAgg4
 z4 := Tryz.sizeOf4
 v4 := Tryz.zeroValue4
 t5 := Tryz.underlying5
 a5 := Tryz.isAgg5
 z5 := Tryz.sizeOf5
 v5 := Tryz.zeroValue5
 t9 := Tryz.underlying9
 a9 := Tryz.isAgg9
 z9 := Tryz.sizeOf9
 v9 := Tryz.zeroValue9
 t26 := Tryz.underlying28
 a26 := Tryz.isAgg28
 z26 := Tryz.sizeOf28
 v26 := Tryz.zeroValue28
 t27 := Tryz.underlying28
 a27 := Tryz.isAgg28
 z27 := Tryz.sizeOf28
 v27 := Tryz.zeroValue28
 t29 := Tryz.underlying9
 a29 := Tryz.isAgg9
 z29 := Tryz.sizeOf9
 v29 := Tryz.zeroValue9
 t32 := Tryz.underlying150
 a32 := Tryz.isAgg150
 z32 := Tryz.sizeOf150
 v32 := Tryz.zeroValue150
 t35 := Tryz.underlying236
 a35 := Tryz.isAgg236
 z35 := Tryz.sizeOf236
 v35 := Tryz.zeroValue236
 t36 := Tryz.underlying237
 a36 := Tryz.isAgg237
 z36 := Tryz.sizeOf237
 v36 := Tryz.zeroValue237
 t41 := Tryz.underlying113
 a41 := Tryz.isAgg113
 z41 := Tryz.sizeOf113
 v41 := Tryz.zeroValue113
 t44 := Tryz.underlying243
 a44 := Tryz.isAgg243
 z44 := Tryz.sizeOf243
 v44 := Tryz.zeroValue243
 t46 := Tryz.underlying37
 a46 := Tryz.isAgg37
 z46 := Tryz.sizeOf37
 v46 := Tryz.zeroValue37
 t53 := Tryz.underlying271
 a53 := Tryz.isAgg271
 z53 := Tryz.sizeOf271
 v53 := Tryz.zeroValue271
 t57 := Tryz.underlying274
 a57 := Tryz.isAgg274
 z57 := Tryz.sizeOf274
 v57 := Tryz.zeroValue274
 t63 := Tryz.underlying299
 a63 := Tryz.isAgg299
 z63 := Tryz.sizeOf299
 v63 := Tryz.zeroValue299
 t64 := Tryz.underlying300
 a64 := Tryz.isAgg300
 z64 := Tryz.sizeOf300
 v64 := Tryz.zeroValue300 }
section
open Go.RowKit Go.Maps Go.Sort Go.Shelf
theorem uW (m : Nat) : AnyZ.SortsIn Tryz.prog tU Fence.wide m :=
  ⟨fun blk off cap ss W hH hblk hsz => callsIn_wide.2 (AnyM.slices_Sort_string vq blk off cap ss W hH hblk hsz),
   fun p cap W => callsIn_wide.2 (AnyM.slices_Sort_string_none vq p cap W)⟩
theorem yD (mb : Option Nat) (W : World) : CallsIn Fence.wide 5 Tryz.prog 262 #[.map mb] W fun e w' => e = .returned (.func (.func 276) #[] #[.pointer (some ⟨W.heap.size, 0, none⟩)]) ∧ w' = W.alloc (.cells #[.map mb] 337) :=
 AnyZ.keys_in qU Fence.wide 5 trivial rfl mb W
set_option maxHeartbeats 1000000 in
theorem xu {H : Type} (b nn : Nat) (D0 : DataW H) (R : Value → Option (DataW H × List MemPlace)) (w : World) (hown : w.ownsMap Tryz.prog 9 R b nn D0) (hmax : Maps.size D0 ≤ maxLen) (hbytes : Maps.size D0 * 16 ≤ 140737488355328) :
  CallsIn Fence.wide 5 Tryz.prog 261 #[.func (.func 276) #[] #[.pointer (some ⟨w.heap.size, 0, none⟩)]] (w.alloc (.cells #[.map (some b)] 337)) fun e w' => ∃ (v : Value) (ss : List (List UInt8)), e = .returned v ∧ ss.Perm (strKeys D0) ∧
   w'.ownsRow (w.alloc (.cells #[.map (some b)] 337)).heap.size 9 1 v ss.length ((ss.mergeSort (fun x y => decide (x ≤ y))).map encStr) ∧ (v = .slice none 0 0 ↔ ss = []) ∧ Below (w.alloc (.cells #[.map (some b)] 337)).heap.size (w.alloc (.cells #[.map (some b)] 337)) w' := by
 have hbl := hown.lt
 have hseq : SeqGives Fence.wide 2 Tryz.prog 276 #[.pointer (some ⟨w.heap.size, 0, none⟩)] encStr (fun ss => ss.Perm (strKeys D0)) (Maps.size D0) (w.alloc (.cells #[.map (some b)] 337)) :=
  AnyZ.keys_gives (ρ := pM) { qU with } Fence.wide _ trivial rfl (by omega) w.heap.size b nn D0 _ (by simp) (by simp) (by
   obtain ⟨es, clock, hb, Ft, hs, hD⟩ := hown
   exact ⟨es, clock, (Below.heap_alloc _ _ b hbl).trans hb, Ft, hs, hD⟩)
 exact AnyZ.sorted_in uK Fence.wide 5 trivial trivial trivial trivial rfl (by omega) (uW _) (enters_of Tryz.func275 (by kernel_rfl) rfl) 276 #[.pointer (some ⟨w.heap.size, 0, none⟩)] trivial (enters_of Tryz.func276 (by kernel_rfl) rfl) _ _ hmax hbytes _ hseq
end
end Go.Proofs.YtfmhbcfklokmaaaGreatDoor
namespace Go.Proofs.YtfmhbcfklokmaaaGreatDoor
open Go.Shelf
def MM : Go.Shelf.Ren := ⟨fun | 6 => 63 | 15 => 110 | 14 => 109 | 28 => 152 | 29 => 153 | 20 => 144 | 21 => 145 | 22 => 146 | 23 => 147 | 24 => 148 | 25 => 149 | 26 => 150 | 27 => 151 | 46 => 184 | 47 => 185 | 48 => 186 | 49 => 187 | 50 => 188 | 57 => 225 | n => n, fun | 22 => 51 | 24 => 55 | 25 => 140 | 3 => 3 | 39 => 150 | 0 => 0 | 53 => 243 | 55 => 37 | 4 => 4 | 46 => 237 | 45 => 236 | 50 => 113 | 5 => 5 | 9 => 9 | 66 => 271 | 70 => 274 | 76 => 299 | 77 => 300 | n => n, fun | n => n⟩
theorem LX : Go.Proofs.SlLaysF0.n6 Tryz.prog MM := {
 mixed := by kernel_rfl
 f6 := ⟨Tryz.f63.name, by decide, Tryz.func63.trans (congrArg some (by kernel_rfl))⟩
 f14 := ⟨Tryz.f109.name, by decide, Tryz.func109.trans (congrArg some (by kernel_rfl))⟩
 f15 := Tryz.func110.trans (congrArg some (by kernel_rfl))
 f20 := ⟨Tryz.f144.name, by decide, Tryz.func144.trans (congrArg some (by kernel_rfl))⟩
 f21 := ⟨Tryz.f145.name, by decide, Tryz.func145.trans (congrArg some (by kernel_rfl))⟩
 f22 := ⟨Tryz.f146.name, by decide, Tryz.func146.trans (congrArg some (by kernel_rfl))⟩
 f23 := ⟨Tryz.f147.name, by decide, Tryz.func147.trans (congrArg some (by kernel_rfl))⟩
 f24 := ⟨Tryz.f148.name, by decide, Tryz.func148.trans (congrArg some (by kernel_rfl))⟩
 f25 := ⟨Tryz.f149.name, by decide, Tryz.func149.trans (congrArg some (by kernel_rfl))⟩
 f26 := ⟨Tryz.f150.name, by decide, Tryz.func150.trans (congrArg some (by kernel_rfl))⟩
 f27 := ⟨Tryz.f151.name, by decide, Tryz.func151.trans (congrArg some (by kernel_rfl))⟩
 f28 := Tryz.func152.trans (congrArg some (by kernel_rfl))
 f29 := Tryz.func153.trans (congrArg some (by kernel_rfl))
 f46 := ⟨Tryz.f184.name, by decide, Tryz.func184.trans (congrArg some (by kernel_rfl))⟩
 f47 := Tryz.func185.trans (congrArg some (by kernel_rfl))
 f48 := Tryz.func186.trans (congrArg some (by kernel_rfl))
 f49 := ⟨Tryz.f187.name, by decide, Tryz.func187.trans (congrArg some (by kernel_rfl))⟩
 f50 := ⟨Tryz.f188.name, by decide, Tryz.func188.trans (congrArg some (by kernel_rfl))⟩
 f57 := ⟨Tryz.f225.name, by decide, Tryz.func225.trans (congrArg some (by kernel_rfl))⟩
 t0 := Tryz.underlying0
 a0 := Tryz.isAgg0
 z0 := Tryz.sizeOf0
 v0 := Tryz.zeroValue0
 t3 := Tryz.underlying3
 a3 := Tryz.isAgg3
 z3 := Tryz.sizeOf3
 v3 := Tryz.zeroValue3
 t4 := Tryz.underlying4
 a4 := Tryz.isAgg4
 z4 := Tryz.sizeOf4
 v4 := Tryz.zeroValue4
 t5 := Tryz.underlying5
 a5 := Tryz.isAgg5
 z5 := Tryz.sizeOf5
 v5 := Tryz.zeroValue5
 t9 := Tryz.underlying9
 a9 := Tryz.isAgg9
 z9 := Tryz.sizeOf9
 v9 := Tryz.zeroValue9
 t22 := Tryz.underlying51
 a22 := Tryz.isAgg51
 z22 := Tryz.sizeOf51
 v22 := Tryz.zeroValue51
 t25 := Tryz.underlying140
 a25 := Tryz.isAgg140
 z25 := Tryz.sizeOf140
 v25 := Tryz.zeroValue140
 t39 := Tryz.underlying150
 a39 := Tryz.isAgg150
 z39 := Tryz.sizeOf150
 v39 := Tryz.zeroValue150
 t45 := Tryz.underlying236
 a45 := Tryz.isAgg236
 z45 := Tryz.sizeOf236
 v45 := Tryz.zeroValue236
 t46 := Tryz.underlying237
 a46 := Tryz.isAgg237
 z46 := Tryz.sizeOf237
 v46 := Tryz.zeroValue237
 t50 := Tryz.underlying113
 a50 := Tryz.isAgg113
 z50 := Tryz.sizeOf113
 v50 := Tryz.zeroValue113
 t53 := Tryz.underlying243
 a53 := Tryz.isAgg243
 z53 := Tryz.sizeOf243
 v53 := Tryz.zeroValue243
 t55 := Tryz.underlying37
 a55 := Tryz.isAgg37
 z55 := Tryz.sizeOf37
 v55 := Tryz.zeroValue37
 t66 := Tryz.underlying271
 a66 := Tryz.isAgg271
 z66 := Tryz.sizeOf271
 v66 := Tryz.zeroValue271
 t70 := Tryz.underlying274
 a70 := Tryz.isAgg274
 z70 := Tryz.sizeOf274
 v70 := Tryz.zeroValue274
 t76 := Tryz.underlying299
 a76 := Tryz.isAgg299
 z76 := Tryz.sizeOf299
 v76 := Tryz.zeroValue299
 t77 := Tryz.underlying300
 a77 := Tryz.isAgg300
 z77 := Tryz.sizeOf300
 v77 := Tryz.zeroValue300 }
end Go.Proofs.YtfmhbcfklokmaaaGreatDoor
namespace Go.Proofs.YtfmhbcfklokmaaaGreatDoor
namespace Vm
def dj (st : List (List UInt8) × List UInt8) (c : UInt8) : List (List UInt8) × List UInt8 := if c = 32 then (if st.2 = [] then st else (st.1 ++ [st.2], [])) else (st.1, st.2 ++ [c])
def d9 (st : List (List UInt8) × List UInt8) : List (List UInt8) := if st.2 = [] then st.1 else st.1 ++ [st.2]
def Gt (l : List UInt8) : List (List UInt8) := d9 (l.foldl dj ([], []))
def gi (l : List UInt8) : ByteArray := ⟨l.toArray⟩
theorem DT (l : List UInt8) : (gi l).data.toList = l := rfl
theorem Eb (s : ByteArray) : gi s.data.toList = s := by cases s; rfl
theorem Ec {a b : List UInt8} : gi a = gi b ↔ a = b := ⟨fun h => by have := congrArg (fun s : ByteArray => s.data.toList) h; exact this, fun h => h ▸ rfl⟩
theorem DU (l : List UInt8) : (gi l).size = l.length := rfl
def ascii (l : List UInt8) : Prop := ∀ x ∈ l, x.toNat < 128
theorem vr (l : List UInt8) (a pos : Nat) (h : a ≤ pos) (hp : pos < l.length) : Lib.pieceU l a (pos + 1) = Lib.pieceU l a pos ++ [l.getD pos 0] := by
 rw [← Lib.pieceU_grow l a pos 1 h, FI, FJ hp, List.take_one, List.head?_drop, FJ hp]
 rfl
theorem jA (s : ByteArray) (ha : ascii s.data.toList) : ∀ (f pos : Nat) (st : Option Nat) (acc : List (Nat × Nat)), s.size ≤ pos + f → pos ≤ s.size → (∀ a, st = some a → a < pos) →
  (Lib.closeSpans s (Lib.spansFromP (fun x => x == 32) s f pos st acc)).map (fun p => Lib.pieceU s.data.toList p.1 p.2) = d9 ((s.data.toList.drop pos).foldl dj (acc.map (fun p => Lib.pieceU s.data.toList p.1 p.2), Lib.openPiece s.data.toList st pos))
 | f, pos, st, acc, h, hp, hst => by
  have hsl : s.data.toList.length = s.size := by rw [Array.length_toList]; rfl
  by_cases hlt : pos < s.size
  ·obtain ⟨f, rfl⟩ : ∃ g, f = g + 1 := ⟨f - 1, by omega⟩
   have hx := ha _ (Gh (show pos < s.data.toList.length by omega))
   have e0 : s[pos]'hlt = s.data.toList[pos]'(by omega) := by simp; rfl
   have hdec := decode_ascii s pos hlt (by rw [e0]; exact hx)
   rw [List.drop_eq_getElem_cons (by omega), Gq]
   generalize hg : s.data.toList[pos]'(by omega) = c at hx e0
   have hgd : s.data.toList.getD pos 0 = c := by rw [FI, FJ (by omega), hg]; rfl
   simp only [Lib.spansFromP, if_pos hlt, hdec, e0]
   by_cases hc : c = 32
   ·subst hc
    rw [if_pos (by decide)]
    cases st with
    | none =>
     have ih := jA s ha f (pos + 1) none acc (by omega) (by omega) (fun a h => by cases h)
     simpa [Lib.openPiece, dj] using ih
    | some a =>
     have hpn := Lib.pieceU_ne s.data.toList a pos (hst a rfl) (by omega)
     have ih := jA s ha f (pos + 1) none (acc ++ [(a, pos)]) (by omega) (by omega) (fun a h => by cases h)
     simpa [Lib.openPiece, dj, hpn] using ih
   ·have hc' : (c.toNat == 32) = false := by
     rw [beq_eq_false_iff_ne]
     intro h'
     exact hc (UInt8.toNat_inj.1 h')
    rw [if_neg (by rw [hc']; decide)]
    cases st with
    | none =>
     have ih := jA s ha f (pos + 1) (some pos) acc (by omega) (by omega) (fun a h => by cases h; omega)
     have e : Lib.pieceU s.data.toList pos (pos + 1) = [c] := by rw [vr _ _ _ (F9 _) (by omega), hgd]; simp [Lib.pieceU]
     simpa [Lib.openPiece, dj, hc, e] using ih
    | some a =>
     have ih := jA s ha f (pos + 1) (some a) acc (by omega) (by omega) (fun b h => by cases h; have := hst a rfl; omega)
     have e := vr s.data.toList a pos (Nat.le_of_lt (hst a rfl)) (by omega)
     rw [hgd] at e
     simpa [Lib.openPiece, dj, hc, e] using ih
  ·obtain rfl : pos = s.size := by omega
   have hd : s.data.toList.drop s.size = [] := List.drop_eq_nil_of_le (by omega)
   rw [hd, Lib.spansFromP_end _ s _ _ _ _ hlt]
   cases st with
   | none => simp [Lib.closeSpans, Lib.openPiece, d9]
   | some a =>
    have := Lib.pieceU_ne s.data.toList a s.size (hst a rfl) (by omega)
    simp [Lib.closeSpans, Lib.openPiece, this, d9]
 termination_by f => f
theorem Dy (s : ByteArray) (ha : ascii s.data.toList) : Lib.goFieldsP (fun x => x == 32) s = (Gt s.data.toList).map gi := by
 have h := jA s ha s.size 0 none [] (by omega) (Nat.zero_le _) (fun a h => by cases h)
 simp only [List.map_nil, Lib.openPiece, List.drop_zero] at h
 unfold Gt Lib.goFieldsP Lib.spansOfP
 rw [← h, List.map_map]
 refine List.map_congr_left fun p _ => ?_
 apply (show ∀ a b : ByteArray, a.data.toList = b.data.toList → a = b from fun a b hab => by cases a; cases b; simp only at hab; rw [Array.toList_inj.1 hab])
 simp [Lib.pieceU, gi]
def okW (l : List (List UInt8)) : Prop := ∀ x ∈ l, x ≠ [] ∧ (32 : UInt8) ∉ x
theorem Kl (x : List UInt8) (h : (32 : UInt8) ∉ x) (st : List (List UInt8) × List UInt8) : x.foldl dj st = (st.1, st.2 ++ x) := by
 induction x generalizing st with
 | nil => simp
 | cons c x ih =>
  have hc : c ≠ 32 := fun e => h (e ▸ FZ)
  rw [Gq, ih (fun hx => h (F0 _ hx))]
  simp [dj, hc]
theorem wE : ∀ (l : List UInt8) (st : List (List UInt8) × List UInt8), okW st.1 → (32 : UInt8) ∉ st.2 → okW (d9 (l.foldl dj st))
 | [], st, h1, h2 => by
  unfold d9
  rw [List.foldl_nil]
  by_cases hne : st.2 = []
  ·rw [if_pos hne]; exact h1
  ·rw [if_neg hne]
   intro x hx
   rcases F2.1 hx with hx | hx
   ·exact h1 x hx
   ·rw [FQ.1 hx]; exact ⟨hne, h2⟩
 | c :: l, st, h1, h2 => by
  rw [Gq]
  refine wE l _ ?_ ?_
  ·unfold dj
   split
   ·split
    ·exact h1
    ·rename_i hne
     intro x hx
     rcases F2.1 hx with hx | hx
     ·exact h1 x hx
     ·rw [FQ.1 hx]; exact ⟨hne, h2⟩
   ·exact h1
  ·unfold dj
   split
   ·split
    ·exact h2
    ·simp
   ·rename_i hc
    intro hm
    rcases F2.1 hm with hm | hm
    ·exact h2 hm
    ·exact hc (FQ.1 hm).symm
theorem Dz (l : List UInt8) : okW (Gt l) := wE l _ (fun x hx => by cases hx) (by simp)
theorem wm {p : UInt8 → Prop} : ∀ (l : List UInt8) (st : List (List UInt8) × List UInt8), (∀ x ∈ l, p x) → (∀ x ∈ st.1, ∀ c ∈ x, p c) → (∀ c ∈ st.2, p c) → ∀ x ∈ d9 (l.foldl dj st), ∀ c ∈ x, p c
 | [], st, h, h1, h2 => by
  unfold d9
  rw [List.foldl_nil]
  by_cases hne : st.2 = []
  ·rw [if_pos hne]; exact h1
  ·rw [if_neg hne]
   intro x hx
   rcases F2.1 hx with hx | hx
   ·exact h1 x hx
   ·rw [FQ.1 hx]; exact h2
 | c :: l, st, h, h1, h2 => by
  rw [Gq]
  refine wm l _ (fun x hx => h x (F0 _ hx)) ?_ ?_
  ·unfold dj
   split
   ·split
    ·exact h1
    ·intro x hx
     rcases F2.1 hx with hx | hx
     ·exact h1 x hx
     ·rw [FQ.1 hx]; exact h2
   ·exact h1
  ·unfold dj
   split
   ·split
    ·exact h2
    ·simp
   ·intro d hd
    rcases F2.1 hd with hd | hd
    ·exact h2 d hd
    ·rw [FQ.1 hd]; exact h c FZ
theorem Dl {p : UInt8 → Prop} {l : List UInt8} (h : ∀ x ∈ l, p x) : ∀ x ∈ Gt l, ∀ c ∈ x, p c := wm l _ h (fun x hx => by cases hx) (by simp)
def dE : List (List UInt8) → List UInt8
 | [] => []
 | [x] => x
 | x :: y :: l => x ++ 32 :: dE (y :: l)
theorem vt : ∀ (l : List (List UInt8)), okW l → ∀ (a : List (List UInt8)), d9 ((dE l).foldl dj (a, [])) = a ++ l
 | [], _, a => by simp [dE, d9]
 | [x], h, a => by
  have hx := h x FZ
  simp [dE, Kl x hx.2, d9, hx.1]
 | x :: y :: l, h, a => by
  have hx := h x FZ
  have e : dj (a, x) 32 = (a ++ [x], []) := by simp [dj, hx.1]
  rw [dE, PG, Kl x hx.2, Gf, Gq, e, vt (y :: l) (fun z hz => h z (F0 _ hz))]
  simp
theorem As {l : List (List UInt8)} (h : okW l) : Gt (dE l) = l := by
 have := vt l h []
 simpa [Gt] using this
theorem AX {p : UInt8 → Prop} (hs : p 32) : ∀ {l : List (List UInt8)}, (∀ x ∈ l, ∀ c ∈ x, p c) → ∀ c ∈ dE l, p c
 | [], _, c, hc => by simp [dE] at hc
 | [x], h, c, hc => h x FZ c hc
 | x :: y :: l, h, c, hc => by
  rw [dE] at hc
  rcases F2.1 hc with hc | hc
  ·exact h x FZ c hc
  ·rcases F1.1 hc with rfl | hc
   ·exact hs
   ·exact AX hs (fun z hz => h z (F0 _ hz)) c hc
theorem AY : ∀ {l : List (List UInt8)}, l ≠ [] → (dE l).length + 1 = (l.map fun x => x.length + 1).sum
 | [], h => absurd rfl h
 | [x], _ => by simp [dE]
 | x :: y :: l, _ => by
  have ih := AY (l := y :: l) (by simp)
  rw [dE, Gr, PK, ← ih]
  simp only [FO, FN]
  omega
theorem Au : ∀ l : List (List UInt8), Lib.join l [32] = dE l
 | [] => rfl
 | [x] => Lib.join_one x [32]
 | x :: y :: l => by
  rw [Lib.join_cons, dE, ← Au (y :: l), Lib.join_cons]
  simp [Lib.joinTail]
end Vm
end Go.Proofs.YtfmhbcfklokmaaaGreatDoor
