/- The abstract machine: a function's contract, out of its body. -/
import Derived.Test.YtknlckjpgmjenaaVn
namespace Go.Proofs.Ytknlckjpgmjenaa
set_option linter.unusedVariables false
namespace Vm
def enumL {α : Type} : Nat → List α → List (Nat × α)
  | _, [] => []
  | i, x :: l => (i, x) :: enumL (i + 1) l
theorem look_enum {α : Type} : ∀ (l : List α) (i t : Nat) (x : α), look (enumL i l) t = some x → i ≤ t ∧ l[t - i]? = some x
  | [], i, t, x, h => by cases h
  | y :: l, i, t, x, h => by
    simp only [enumL, look_cons] at h
    split at h
    · rename_i e; subst e; injection h with h; subst h; exact ⟨Nat.le_refl _, by simp⟩
    · obtain ⟨h1, h2⟩ := look_enum l (i + 1) t x h
      exact ⟨by omega, by rw [show t - i = (t - (i + 1)) + 1 by omega]; simpa using h2⟩
def aRes1 (tt : TT) (tm : Tm) (h : Hp) : ResultVar → Option (AV × Prop)
  | .tmp t => match tm t with
    | some (.tup _) => none
    | some v => some (v, True)
    | none => none
  | .cell p t => match tm p with
    | some pv => aLoad tt t h pv
    | none => none
def aResL (tt : TT) (tm : Tm) (h : Hp) : List ResultVar → Option (List AV × List Prop)
  | [] => some ([], [])
  | r :: l => match aRes1 tt tm h r, aResL tt tm h l with
    | some (v, p), some (vs, ps) => some (v :: vs, p :: ps)
    | _, _ => none
def tupOf : List AV → AV
  | [x] => x
  | l => .tup l
def aRes (tt : TT) (S : St) (rs : List ResultVar) : Option (AV × List Prop) := match aResL tt (look S.tm) (look S.h) rs with
  | some (vs, ps) => some (tupOf vs, ps)
  | none => none
section
variable {base : Base} {X : Nat → Prop} {nt : Nat} {used : Nat → Prop} {ρ : Ren} {tm : Tm} {h : Hp} {a : Act} {w : World} {P : Program}
theorem aLoad_one {tt : TT} (hT : TTok P tt) {t : TypeId} {p : AV} {r : AV × Prop} (e : aLoad tt t h p = some r) : ∀ l, r.1 ≠ .tup l := by
  unfold aLoad at e
  split at e
  · split at e
    · split at e
      · cases e
      · split at e
        · injection e with e; subst e; intro l h; cases h
        · cases e
    · split at e
      · injection e with e; subst e; intro l h; cases h
      · cases e
  · cases e
theorem rv_r1 {ok : Nat → Prop} {v : AV} {y : Value} (hn : ∀ l, v ≠ .tup l) (h : RV w ok ρ v y) : R1 w ok ρ v y := by
  cases v with
  | tup l => exact absurd rfl (hn l)
  | c x => exact h
  | agg l => exact h
  | fagg n f => exact h
  | clo f a b => exact h
def resF (a : Act) : ResultVar → Sem Value
  | .tmp t => pure (a.tmps.getD t undef)
  | .cell p t => do loadVar t (← asAddr (a.tmps.getD p undef))
theorem results_eq (fn : Func) (a : Act) : results fn a.tmps = (fn.results.mapM (resF a) >>= fun vs => pure (if h : vs.size = 1 then vs[0] else .tuple vs)) := by
  unfold results
  congr 1
theorem aRes1_run {tt : TT} (hT : TTok P tt) (R : Rep base X nt used ρ tm h a w) {rv : ResultVar} {r : AV × Prop} (e : aRes1 tt tm h rv = some r) (hc : r.2) :
    ∃ v, (resF a rv).run P w = .ok v w ∧ R1 w (okOf base w ρ h) ρ r.1 v := by
  cases rv with
  | tmp t =>
    simp only [aRes1] at e
    split at e
    · cases e
    · rename_i v hn hv
      injection e with e
      subst e
      exact ⟨_, rfl, rv_r1 (fun l h => hn l h) (R.tmp t v hv)⟩
    · cases e
  | cell p t =>
    simp only [aRes1] at e
    split at e
    · rename_i pv hp
      obtain ⟨v, v1, v2⟩ := aLoad_run hT e hc R (R.tmp p pv hp)
      refine ⟨v, ?_, rv_r1 (aLoad_one hT e) v2⟩
      rw [← v1]
      unfold Instr.loadAt resF
      rw [Sem.run_bind, Sem.run_bind]
      unfold Instr.loadAt at v1
      rw [Sem.run_bind] at v1
      cases hy : a.tmps.getD p undef with
      | pointer ad =>
        cases ad with
        | none => rw [hy] at v1; simp [Instr.sureAddr] at v1
        | some ad => rfl
      | _ => rw [hy] at v1; simp [Instr.sureAddr] at v1
    · cases e
theorem aResL_run {tt : TT} (hT : TTok P tt) (R : Rep base X nt used ρ tm h a w) : ∀ {rs : List ResultVar} {vs : List AV} {ps : List Prop}, aResL tt tm h rs = some (vs, ps) → AllP ps →
    ∃ ys, (rs.mapM (resF a)).run P w = .ok ys w ∧ All2 (R1 w (okOf base w ρ h) ρ) vs ys
  | [], vs, ps, e, _ => by simp only [aResL, Option.some.injEq, Prod.mk.injEq] at e; obtain ⟨rfl, rfl⟩ := e; exact ⟨[], by simp, trivial⟩
  | r :: l, vs, ps, e, hp => by
    simp only [aResL] at e
    split at e
    · rename_i v p vs' ps' hv hvs
      simp only [Option.some.injEq, Prod.mk.injEq] at e
      obtain ⟨rfl, rfl⟩ := e
      obtain ⟨y, y1, y2⟩ := aRes1_run hT R hv hp.1
      obtain ⟨ys, z1, z2⟩ := aResL_run hT R hvs hp.2
      refine ⟨y :: ys, ?_, y2, z2⟩
      rw [List.mapM_cons, Sem.run_bind, y1, Result.andThen_ok, Sem.run_bind, z1]
      rfl
    · cases e
theorem aRes_run {tt : TT} (hT : TTok P tt) {S : St} {fn : Func} (R : Rep base X nt used ρ (look S.tm) (look S.h) a w) {out : AV} {ps : List Prop} (e : aRes tt S fn.results.toList = some (out, ps)) (hp : AllP ps) :
    ∃ v, (results fn a.tmps).run P w = .ok v w ∧ RV w (okOf base w ρ (look S.h)) ρ out v := by
  unfold aRes at e
  split at e
  · rename_i vs ps' hvs
    simp only [Option.some.injEq, Prod.mk.injEq] at e
    obtain ⟨rfl, rfl⟩ := e
    obtain ⟨ys, y1, y2⟩ := aResL_run hT R hvs hp
    refine ⟨if h : ys.toArray.size = 1 then ys.toArray[0] else .tuple ys.toArray, ?_, ?_⟩
    · rw [results_eq, Array.mapM_eq_mapM_toList, Sem.run_bind, Sem.run_map, y1]
      rfl
    · cases vs with
      | nil =>
        cases ys with
        | nil => exact ⟨#[], rfl, trivial⟩
        | cons _ _ => exact y2.elim
      | cons v vs =>
        cases ys with
        | nil => exact y2.elim
        | cons y ys =>
          cases vs with
          | nil =>
            cases ys with
            | nil => exact r1_rv y2.1
            | cons _ _ => exact y2.2.elim
          | cons v2 vs =>
            cases ys with
            | nil => exact y2.2.elim
            | cons y' ys => exact ⟨_, by rw [dif_neg (by simp)], y2⟩
  · cases e
end
/-- What stands where a function ends: its results, the blocks that it hands back (m: their numbers there, and here). -/
def OutOk (tt : TT) (rs : List ResultVar) (k : Nat) (S : St) (out : AV) (outb : List (Nat × Blk)) : Prop :=
  ∃ (out0 : AV) (ps : List Prop) (m : List (Nat × Nat)) (n : Nat), aRes tt S rs = some (out0, ps) ∧ AllP ps ∧ renSt m [0] n ⟨[(0, out0)], S.h, S.n⟩ = some ⟨[(0, out)], outb, n⟩ ∧ (nodupB (m.map (·.2)) && nodupB (m.map (·.1)) && keysLt n m && firstK k n m) = true
theorem OutOk.mk {tt : TT} {rs : List ResultVar} {k : Nat} {S : St} {out : AV} {outb : List (Nat × Blk)} (m : List (Nat × Nat)) (n : Nat) {out0 : AV} {ps : List Prop} (h1 : aRes tt S rs = some (out0, ps)) (h2 : AllP ps) (h3 : renSt m [0] n ⟨[(0, out0)], S.h, S.n⟩ = some ⟨[(0, out)], outb, n⟩)
    (h4 : (nodupB (m.map (·.2)) && nodupB (m.map (·.1)) && keysLt n m && firstK k n m) = true) : OutOk tt rs k S out outb := ⟨out0, ps, m, n, h1, h2, h3, h4⟩
def boxB : List (Nat × Blk) → Nat → Bool
  | [], _ => true
  | (i, _) :: l, k => Nat.blt i k && boxB l k
theorem boxB_ok : ∀ {l : List (Nat × Blk)} {k : Nat}, boxB l k = true → ∀ i b, look l i = some b → i < k
  | [], _, _, i, b, h => by cases h
  | (j, x) :: l, k, hb, i, b, h => by
    simp only [boxB, Bool.and_eq_true] at hb
    rw [look_cons] at h
    split at h
    · rename_i e; injection h with h; subst e; simpa using hb.1
    · exact boxB_ok hb.2 i b h
theorem con_of {P : Program} {tt : TT} (hT : TTok P tt) {f : FuncId} {fn : Func} {code : Code} {args : List AV} {inb : List (Nat × Blk)} {out : AV} {outb : List (Nat × Blk)} (k : Nat) (hf : P.funcs[f]? = some fn) (hname : (fn.name == "runtime.NumGoroutine") = false)
    (hb : fn.body = some code) (hlen : (Nat.ble args.length fn.ntmps && Nat.blt 0 fn.ntmps && boxB inb k) = true)
    (H : ∀ (base : Base) (X : Nat → Prop) (hk : ∀ id, base.ρ0 id ≠ none → id < k), AW ⟨⟨P, base, X, fn.ntmps⟩, k, hk⟩ ⟨enumL 0 args, inb, k⟩ code fun e S' => (e = .normal ∨ e = .ret) ∧ OutOk tt fn.results.toList k S' out outb) : Con P f args inb out outb := by
  refine ⟨⟨fn, hf, hname, by rw [hb]; rfl⟩, fun w okA ρ vs hA hdom hin hinj hargs => ?_⟩
  simp only [Bool.and_eq_true] at hlen
  obtain ⟨⟨hl1, hl2⟩, hl3⟩ := hlen
  have hl1 : args.length ≤ fn.ntmps := Nat.le_of_ble_eq_true hl1
  have hl2 : 0 < fn.ntmps := by simpa using hl2
  have hvl : vs.size = args.length := by have := hargs.length; simpa using this.symm
  have hk : ∀ id, ρ id ≠ none → id < k := fun id hid => by obtain ⟨b, hb⟩ := hdom id hid; exact boxB_ok hl3 id b hb
  have hok : ∀ b, okA b → okOf ⟨w, okA, ρ⟩ w ρ (look inb) b := fun b hb => ⟨hA b hb, .inr (.inl hb), fun id blk cap h1 _ h3 => by
    obtain ⟨l, l1, _, l3⟩ := hin id blk h1
    rw [h3] at l1
    injection l1 with l1
    exact (l3 b cap l1.symm).2 hb⟩
  refine calls_of_wp hf hb ?_
  have R0 : RepS (Fx.toCx ⟨⟨P, ⟨w, okA, ρ⟩, fun b => ∃ id cap, ρ id = some (.at b cap), fn.ntmps⟩, k, hk⟩) ρ ⟨enumL 0 args, inb, k⟩ { tmps := vs ++ Array.replicate (fn.ntmps - vs.size) undef, defers := [] } w := by
    refine ⟨fun t av ht => ?_, fun id blk hid => ?_, fun _ h => h, fun i j b c1 c2 _ _ _ _ _ => hinj i j b c1 c2, fun id hid => hk id hid, Upd.refl _ _, Ext.rfl_ _, by simp; omega, rfl⟩
    · obtain ⟨_, h2⟩ := look_enum args 0 t av ht
      rw [Nat.sub_zero] at h2
      obtain ⟨y, y1, y2⟩ := All2.get hargs h2
      have hlt : t < vs.size := by
        rcases Nat.lt_or_ge t vs.size with h' | h'
        · exact h'
        · rw [List.getElem?_eq_none (by simpa using h')] at y1; cases y1
      have e1 : (vs ++ Array.replicate (fn.ntmps - vs.size) undef).getD t undef = y := by
        have y1' : vs[t]? = some y := by simpa using y1
        rw [Array.getD_eq_getD_getElem?, Array.getElem?_append_left hlt, y1']
        rfl
      simp only [e1]
      exact RV.mono ⟨hok, fun _ _ => rfl⟩ (Ext.rfl_ _) _ _ y2
    · obtain ⟨l, l1, l2, l3⟩ := hin id blk hid
      exact ⟨l, l1, RB.mono ⟨hok, fun _ _ => rfl⟩ (Ext.rfl_ _) _ _ (fun _ _ _ => rfl) l2, fun b cap e => ⟨(l3 b cap e).1, .inr ⟨id, cap, by rw [l1, e]⟩⟩⟩
  refine wp_mono (H ⟨w, okA, ρ⟩ (fun b => ∃ id cap, ρ id = some (.at b cap)) hk ρ _ w R0) ?_
  rintro e a' w' ⟨S', ⟨he, out0, ps, m, n, o1, o2, o3, o4⟩, ρ1, R1⟩
  have fin : a'.defers = [] ∧ ∃ v, (results fn a'.tmps).run P w' = .ok v w' ∧ ∃ v' ρ', Ending.returned v = .returned v' ∧ Ext ρ ρ' ∧ Upd (fun b => ∃ id cap, ρ id = some (.at b cap)) w w' ∧ RV w' (okOf ⟨w, okA, ρ⟩ w' ρ' (look outb)) ρ' out v' ∧
      (∀ id blk, look outb id = some blk → ∃ l, ρ' id = some l ∧ RB w' (okOf ⟨w, okA, ρ⟩ w' ρ' (look outb)) ρ' blk l ∧ ∀ b cap, l = .at b cap → b < w'.heap.size ∧ (w.heap.size ≤ b ∨ ∃ id cap, ρ id = some (.at b cap))) ∧
      (∀ i j b c c' x y, look outb i = some x → look outb j = some y → (x.mut = true ∨ y.mut = true) → ρ' i = some (.at b c) → ρ' j = some (.at b c') → i = j) := by
    obtain ⟨v, v1, v2⟩ := aRes_run hT R1 o1 o2
    refine ⟨R1.defers, v, v1, v, ?_⟩
    have R2 : RepS (Fx.toCx ⟨⟨P, ⟨w, okA, ρ⟩, fun b => ∃ id cap, ρ id = some (.at b cap), fn.ntmps⟩, k, hk⟩) ρ1 ⟨[(0, out0)], S'.h, S'.n⟩ (a'.put (some 0) v) w' := by
      have := R1.put_tm (d := some 0) (y := v) (av := some out0) (fun t ht => by injection ht with ht; subst ht; exact hl2) (fun x hx => by injection hx with hx; subst hx; exact v2)
      refine this.weaken (fun t av ht => ?_) (fun _ _ h => h)
      rw [look_cons] at ht
      split at ht
      · rename_i e0; subst e0; simp only [setTm, if_true]; exact ht
      · cases ht
    obtain ⟨ρ2, R3⟩ := conv_ren (c := ⟨⟨P, ⟨w, okA, ρ⟩, fun b => ∃ id cap, ρ id = some (.at b cap), fn.ntmps⟩, k, hk⟩) m [0] o3 o4 ρ1 _ w' R2
    refine ⟨ρ2, rfl, R3.ext0, R3.upd, ?_, fun id blk hid => ?_, R3.inj⟩
    · have := R3.tmp 0 out (by rw [look_cons, if_pos rfl])
      rw [put_eq v (by rw [R1.size]; exact hl2)] at this
      exact this
    · obtain ⟨l, l1, l2, l3⟩ := R3.heap id blk hid
      exact ⟨l, l1, l2, fun b cap e => ⟨(l3 b cap e).1, (l3 b cap e).2⟩⟩
  rcases he with rfl | rfl <;> exact fin
/-- A law's statement is about arguments that are read only. -/
theorem law_calls {P : Program} {f : FuncId} {args : List AV} {b : Bool} (h : Con P f args [] (.c (.t (.v (.bool b)))) []) (w : World) (vs : Array Value) (hargs : All2 (RV w (fun b => b < w.heap.size) fun _ => none) args vs.toList) :
    Calls P f vs w fun e w' => e = .returned (.bool b) ∧ Go.RowKit.Below w.heap.size w w' := by
  refine Calls.mono (h.2 w (fun b => b < w.heap.size) (fun _ => none) vs (fun _ h => h) (fun id hid => absurd rfl hid) (fun id blk hid => by cases hid) (fun i j b c c' hi => by cases hi) hargs) ?_
  rintro e w' ⟨v, ρ', rfl, _, hU, hv, _⟩
  obtain ⟨rfl, _⟩ := hv
  exact ⟨rfl, hU.os, hU.tape, hU.output, hU.size, fun k hk => hU.block k hk fun ⟨_, _, hh⟩ => by cases hh⟩
/-! Small change for proofs that are printed. -/
def tiAll (P : Program) : List (Nat × TI) → Prop
  | [] => True
  | (t, i) :: l => tiOk P t i ∧ tiAll P l
theorem ttok_of {P : Program} {l : List (Nat × TI)} (h : tiAll P l) : TTok P (look l) := by
  intro t i ht
  induction l with
  | nil => cases ht
  | cons p l ih =>
    obtain ⟨k, v⟩ := p
    rw [look_cons] at ht
    split at ht
    · rename_i e; injection ht with ht; subst e; subst ht; exact h.1
    · exact ih h.2 ht
theorem ifc {C : Prop} [Decidable C] {α : Type} {x : Option α} {r : α} (h : (if C then x else none) = some r) : C ∧ x = some r := by
  by_cases hc : C
  · rw [if_pos hc] at h; exact ⟨hc, h⟩
  · rw [if_neg hc] at h; cases h
theorem bnd_some {α β : Type} {x : Option α} {f : α → Option β} {r : β} (h : x.bind f = some r) : ∃ y, x = some y ∧ f y = some r := by
  cases x with
  | none => cases h
  | some y => exact ⟨y, rfl, h⟩
theorem some_inj {α : Type} {x y : α} (h : some x = some y) : x = y := by injection h
theorem idx_ok {i : Int} {n : Nat} (h : 0 ≤ i ∧ i < n) : i.toNat < n := by omega
theorem off_false {b : Bool} (h : ¬ b = true) : b = false := by cases b <;> simp_all
theorem AW.inBlock_hit {Q : Exit → St → Prop} {id : Nat} {S : St} (h : Q .normal S) : AW.inBlock id Q (.exit id) S := by simp only [AW.inBlock, if_true]; exact h
theorem AW.inBlock_miss {Q : Exit → St → Prop} {id i : Nat} {S : St} (hne : Nat.beq i id = false) (h : Q (.exit i) S) : AW.inBlock id Q (.exit i) S := by
  simp only [AW.inBlock]; rw [if_neg (fun e => by subst e; simp at hne)]; exact h
def joinQ {ι : Type} (c : Fx) (st : ι → St) (k : ι → Prop) (Q : Exit → St → Prop) : Exit → St → Prop
  | .normal, S => ∃ i, k i ∧ Conv c S (st i)
  | e, S => Q e S
theorem AW.join {ι : Type} {c : Fx} {S : St} {x : Code} {Q : Exit → St → Prop} (st : ι → St) (k : ι → Prop) (hK : ∀ i, k i → Q .normal (st i)) (hx : AW c S x (joinQ c st k Q)) : AW c S x Q :=
  AW.post (AW.mono hx fun e S' h => by
    cases e with
    | normal => obtain ⟨i, h1, h2⟩ := h; exact ⟨st i, h2, hK i h1⟩
    | _ => exact ⟨S', Conv.refl _ _, h⟩)
end Vm
end Go.Proofs.Ytknlckjpgmjenaa
