/- The abstract machine: a region's operations, one after the other. -/
import Derived.Test.YtknlckjpgmjenaaVk
namespace Go.Proofs.Ytknlckjpgmjenaa
set_option linter.unusedVariables false
namespace Vm
structure Hi where
  h : Hint := {}
  call : Option CI := none
def Hi.cnt (x : Hi) : Nat := match x.call with
  | some ci => ci.cnt
  | none => 1
def callee (tm : Tm) : Callee → Option (FuncId × List S1 × List S1)
  | .value (.func f) => some (f, [], [])
  | .value x => match ev tm x with
    | some (.c (.t (.v (.func (.func f) first cap)))) => match first.toList, cap.toList with
      | [], [] => some (f, [], [])
      | _, _ => none
    | some (.clo f a b) => some (f, a, b)
    | _ => none
  | _ => none
def aEff (P : Program) (tt : TT) (tm : Tm) (h : Hp) (o : Oper) (nid : Nat) (x : Hi) : Option Eff :=
  match x.call with
  | none => aOp tt tm h o nid x.h
  | some ci => match o.op with
    | .call cl => match callee tm cl.callee with
      | some (f, a, b) => aCall P tm h f a b cl.args.toList nid ci
      | none => none
    | _ => none
section
variable {c : Cx} {used used' : Nat → Prop} {ρ ρ' : Ren} {tm tm' : Tm} {h h' : Hp} {a : Act} {w w' : World} {o : Oper} {nid : Nat}
theorem callee_run {base : Base} {X : Nat → Prop} {nt : Nat} (R : Rep base X nt used ρ tm h a w) {cl : Call} {f : FuncId} {s1 s2 : List S1} (e : callee tm cl.callee = some (f, s1, s2)) (ho : o.op = .call cl) (hE : Enters c.P f) :
    ∃ fs cs : Array Value, All2 (RS w (okOf base w ρ h) ρ) s1 fs.toList ∧ All2 (RS w (okOf base w ρ h) ρ) s2 cs.toList ∧ (execOp a.eval o).run c.P w = .ok (.enter f (fs ++ cl.args.map a.eval ++ cs)) w := by
  unfold callee at e
  split at e
  · rename_i f' hf'
    simp only [Option.some.injEq, Prod.mk.injEq] at e
    obtain ⟨rfl, rfl, rfl⟩ := e
    have := hE.run w (cl.args.map a.eval)
    refine ⟨#[], #[], trivial, trivial, ?_⟩
    simp [execOp, ho, resolve, hf', Act.eval, Deferred.ofValue, invoke]
    exact this
  · rename_i x hx
    split at e
    · rename_i f' first cap hev
      split at e
      · rename_i h1 h2
        simp only [Option.some.injEq, Prod.mk.injEq] at e
        obtain ⟨rfl, rfl, rfl⟩ := e
        refine ⟨#[], #[], trivial, trivial, ?_⟩
        have hv := ev_v R hev
        have e1 : first = #[] := by apply Array.ext'; simpa using h1
        have e2 : cap = #[] := by apply Array.ext'; simpa using h2
        subst e1; subst e2
        have := hE.run w (cl.args.map a.eval)
        simp [execOp, ho, resolve, hx, hv, Deferred.ofValue, invoke]
        exact this
      · cases e
    · rename_i f' s1' s2' hev
      simp only [Option.some.injEq, Prod.mk.injEq] at e
      obtain ⟨rfl, rfl, rfl⟩ := e
      obtain ⟨fs, cs, hv, h1, h2⟩ := ev_ok R hev
      have := hE.run w (fs ++ cl.args.map a.eval ++ cs)
      refine ⟨fs, cs, h1, h2, ?_⟩
      simp [execOp, ho, resolve, hx, hv, Deferred.ofValue, invoke]
      simpa using this
    · cases e
  · cases e
theorem aEff_good (R : Rep c.base c.X c.nt used ρ tm h a w) {tt : TT} (hT : TTok c.P tt) {x : Hi} (hfresh : ∀ id, nid ≤ id → id < nid + x.cnt → ¬ used id) (hu : ∀ id, used id → used' id) (hn : ∀ id, nid ≤ id → id < nid + x.cnt → used' id) (hd : ∀ t, o.dst = some t → t < c.nt)
    {r : Eff} (e : aEff c.P tt tm h o nid x = some r) (hc : r.chk) : Good c used' tm h a o r.val r.W ((execOp a.eval o).run c.P w) := by
  unfold aEff at e
  split at e
  · rename_i hx
    have hcnt : x.cnt = 1 := by simp [Hi.cnt, hx]
    rw [hcnt] at hfresh hn
    exact aOp_good R (hfresh nid (Nat.le_refl _) (by omega)) hu (hn nid (Nat.le_refl _) (by omega)) hd hT e hc
  · rename_i ci hx
    have hcnt : x.cnt = ci.cnt := by simp [Hi.cnt, hx]
    rw [hcnt] at hfresh hn
    split at e
    · rename_i cl ho
      split at e
      · rename_i f s1 s2 hf
        have hE : Enters c.P f := by
          unfold aCall at e
          simp only at e
          split at e
          · split at e
            · injection e with e; subst e; exact hc.2.2.2.1
            · cases e
          · cases e
        obtain ⟨fs, cs, k1, k2, k3⟩ := callee_run (o := o) R hf ho hE
        exact aCall_good R hfresh hu hn hd e hc (vs := fs ++ cl.args.map a.eval ++ cs) k1 k2 (by simp) k3
      · cases e
    · cases e
/-! More that is known. -/
theorem argC_mono (L : Le tm tm' h h') {ci : CI} {x : C} {r : C × Prop} (e : argC h ci x = some r) : argC h' ci x = some r := by
  cases x with
  | t x => exact e
  | ref id sz off n =>
    simp only [argC] at e ⊢
    split at e
    · exact e
    · split at e
      · rename_i hid
        simp only [L.hp _ _ hid]; exact e
      · cases e
  | ptr id sz e0 sub => exact e
theorem argL_mono (L : Le tm tm' h h') {ci : CI} : ∀ {x : List C} {r : List C × Prop}, argL h ci x = some r → argL h' ci x = some r
  | [], r, e => e
  | x :: l, r, e => by
    simp only [argL] at e ⊢
    split at e
    · rename_i h1 h2; simp only [argC_mono L h1, argL_mono L h2]; exact e
    · cases e
theorem argS_mono (L : Le tm tm' h h') {ci : CI} {x : S1} {r : S1 × Prop} (e : argS h ci x = some r) : argS h' ci x = some r := by
  cases x with
  | c x =>
    simp only [argS] at e ⊢
    split at e
    · rename_i h1; simp only [argC_mono L h1]; exact e
    · cases e
  | agg l =>
    simp only [argS] at e ⊢
    split at e
    · rename_i h1; simp only [argL_mono L h1]; exact e
    · cases e
theorem argSL_mono (L : Le tm tm' h h') {ci : CI} : ∀ {x : List S1} {r : List S1 × Prop}, argSL h ci x = some r → argSL h' ci x = some r
  | [], r, e => e
  | x :: l, r, e => by
    simp only [argSL] at e ⊢
    split at e
    · rename_i h1 h2; simp only [argS_mono L h1, argSL_mono L h2]; exact e
    · cases e
theorem argA_mono (L : Le tm tm' h h') {ci : CI} {x : AV} {r : AV × Prop} (e : argA h ci x = some r) : argA h' ci x = some r := by
  cases x with
  | c x =>
    simp only [argA] at e ⊢
    split at e
    · rename_i h1; simp only [argC_mono L h1]; exact e
    · cases e
  | agg l =>
    simp only [argA] at e ⊢
    split at e
    · rename_i h1; simp only [argL_mono L h1]; exact e
    · cases e
  | fagg n f => exact e
  | tup l => exact e
  | clo f a b =>
    simp only [argA] at e ⊢
    split at e
    · rename_i h1 h2; simp only [argSL_mono L h1, argSL_mono L h2]; exact e
    · cases e
theorem evL_mono (L : Le tm tm' h h') : ∀ {x : List Operand} {r : List AV}, evL tm x = some r → evL tm' x = some r
  | [], r, e => e
  | x :: l, r, e => by
    simp only [evL] at e ⊢
    split at e
    · rename_i h1 h2; simp only [ev_mono L h1, evL_mono L h2]; exact e
    · cases e
theorem argAs_mono (L : Le tm tm' h h') {ci : CI} : ∀ {x : List AV} {r : List AV × Prop}, argAs h ci x = some r → argAs h' ci x = some r
  | [], r, e => e
  | x :: l, r, e => by
    simp only [argAs] at e ⊢
    split at e
    · rename_i h1 h2; simp only [argA_mono L h1, argAs_mono L h2]; exact e
    · cases e
theorem evArgs_mono (L : Le tm tm' h h') {ci : CI} {a b : List S1} {x : List Operand} {r : List AV × Prop} (e : evArgs tm h ci a b x = some r) : evArgs tm' h' ci a b x = some r := by
  unfold evArgs at e ⊢
  split at e
  · rename_i h1; simp only [evL_mono L h1]; exact argAs_mono L e
  · cases e
theorem inOf_mono (L : Le tm tm' h h') : ∀ {l : List Nat} {i : Nat} {r : List (Nat × Blk)}, inOf h l i = some r → inOf h' l i = some r
  | [], i, r, e => e
  | k :: l, i, r, e => by
    simp only [inOf] at e ⊢
    split at e
    · rename_i h1 h2; simp only [L.hp _ _ h1, inOf_mono L h2]; exact e
    · rename_i h1 h2; simp only [L.hp _ _ h1, inOf_mono L h2]; exact e
    · cases e
theorem frzW_mono (L : Le tm tm' h h') : ∀ {l : List Nat} {r : List (Nat × Option Blk)}, frzW h l = some r → frzW h' l = some r
  | [], r, e => e
  | k :: l, r, e => by
    simp only [frzW] at e ⊢
    split at e
    · rename_i h1 h2; simp only [L.hp _ _ h1, frzW_mono L h2]; exact e
    · cases e
theorem aCall_mono (L : Le tm tm' h h') {P : Program} {f : FuncId} {s1 s2 : List S1} {args : List Operand} {ci : CI} {r : Eff} (e : aCall P tm h f s1 s2 args nid ci = some r) : aCall P tm' h' f s1 s2 args nid ci = some r := by
  unfold aCall at e ⊢
  simp only at e ⊢
  split at e
  · rename_i h1 h2 h3
    simp only [evArgs_mono L h1, inOf_mono L h2, frzW_mono L h3]; exact e
  · cases e
theorem callee_mono (L : Le tm tm' h h') {cl : Callee} {f : FuncId × List S1 × List S1} (e : callee tm cl = some f) : callee tm' cl = some f := by
  unfold callee at e ⊢
  split at e
  · exact e
  · split at e
    · rename_i hev; simp only [ev_mono L hev]; exact e
    · rename_i hev; simp only [ev_mono L hev]; exact e
    · cases e
  · cases e
theorem aEff_mono (L : Le tm tm' h h') {P : Program} {tt : TT} {x : Hi} {r : Eff} (e : aEff P tt tm h o nid x = some r) : aEff P tt tm' h' o nid x = some r := by
  unfold aEff at e ⊢
  split at e
  · exact aOp_mono L e
  · split at e
    · split at e
      · rename_i hf; simp only [callee_mono L hf]; exact aCall_mono L e
      · cases e
    · cases e
/-! Guards. -/
def dstOfOp (ops : List Oper) (j : Nat) : Option Tmp := match ops[j]? with
  | some o => o.dst
  | none => none
/-- Whether an operation is carried out, where that is known. -/
def wantedA (tm : Tm) (ops : List Oper) (o : Oper) : Option Bool := match o.guard with
  | none => some true
  | some (j, b) => match dstOfOp ops j with
    | some t => match tm t with
      | some (.c (.t (.v (.bool x)))) => some (match x, b with
        | true, true => true
        | false, false => true
        | _, _ => false)
      | some (.tup []) => some false
      | _ => none
    | none => none
theorem wantedA_ok {base : Base} {X : Nat → Prop} {nt : Nat} (R : Rep base X nt used ρ tm h a w) {ops : List Oper} (hd : ∀ (j : Nat) (p : Oper) (t : Nat), ops[j]? = some p → p.dst = some t → t < nt) {b : Bool} (e : wantedA tm ops o = some b) : Region.wanted o (yielded ops.toArray a.tmps) = b := by
  unfold wantedA at e
  unfold Region.wanted
  split at e
  · rename_i hg; injection e with e; subst e; simp [hg]
  · rename_i j want hg
    simp only [hg]
    split at e
    · rename_i t ht
      split at e
      · rename_i x hx
        have hv : a.tmps.getD t undef = .bool x := (R.tmp t _ hx).1
        have hlt : t < a.tmps.size := by
          rw [R.size]
          unfold dstOfOp at ht
          split at ht
          · rename_i p hp; exact hd j p t hp ht
          · cases ht
        have hy : yielded ops.toArray a.tmps j = some x := by
          unfold yielded
          unfold dstOfOp at ht
          split at ht
          · rename_i p hp
            have hp' : ops.toArray[j]? = some p := by simpa using hp
            have : a.tmps[t]? = some (.bool x) := by
              rw [Array.getElem?_eq_getElem hlt]
              rw [Array.getD_eq_getD_getElem?, Array.getElem?_eq_getElem hlt] at hv
              simpa using hv
            simp [hp', ht, this]
          · cases ht
        rw [hy]
        injection e with e
        rw [← e]
        cases x <;> cases want <;> rfl
      · rename_i hx
        injection e with e
        obtain ⟨ys, hv, _⟩ := R.tmp t _ hx
        have hy : yielded ops.toArray a.tmps j = none := by
          unfold yielded
          unfold dstOfOp at ht
          split at ht
          · rename_i p hp
            have hp' : ops.toArray[j]? = some p := by simpa using hp
            simp only [hp', ht, Option.bind_some]
            rw [Array.getD_eq_getD_getElem?] at hv
            cases hq : a.tmps[t]? with
            | none => rfl
            | some v => rw [hq] at hv; simp only [Option.getD_some] at hv; rw [hv]
          · cases ht
        rw [hy, ← e]; rfl
      · cases e
    · cases e
theorem wantedA_mono (L : Le tm tm' h h') {ops : List Oper} {b : Bool} (e : wantedA tm ops o = some b) : wantedA tm' ops o = some b := by
  unfold wantedA at e ⊢
  split at e
  · exact e
  · split at e
    · split at e
      · rename_i hx; simp only [L.tm _ _ hx]; exact e
      · rename_i hx; simp only [L.tm _ _ hx]; exact e
      · cases e
    · cases e
/-- One operation of a region: nothing, or what it comes to. -/
def aStep (P : Program) (tt : TT) (ops : List Oper) (tm : Tm) (h : Hp) (o : Oper) (nid : Nat) (x : Hi) : Option (Option Eff) :=
  match wantedA tm ops o with
  | some true => match aEff P tt tm h o nid x with
    | some r => some (some r)
    | none => none
  | some false => some none
  | none => none
theorem aStep_mono (L : Le tm tm' h h') {P : Program} {tt : TT} {ops : List Oper} {x : Hi} {r : Option Eff} (e : aStep P tt ops tm h o nid x = some r) : aStep P tt ops tm' h' o nid x = some r := by
  unfold aStep at e ⊢
  split at e
  · rename_i hw
    simp only [wantedA_mono L hw]
    split at e
    · rename_i he; simp only [aEff_mono L he]; exact e
    · cases e
  · rename_i hw; simp only [wantedA_mono L hw]; exact e
  · cases e
def effVal : Option Eff → Option AV
  | some r => r.val
  | none => some (.tup [])
def effW : Option Eff → List (Nat × Option Blk)
  | some r => r.W
  | none => []
def effChk : Option Eff → Prop
  | some r => r.chk
  | none => True
theorem wpOp_of_yields {P : Program} {ops : Array Oper} {i : Nat} {K : Act → World → Prop} {Q : Exit → Act → World → Prop} (ho : ops[i]? = some o) (G : Value → World → Prop) (hK : ∀ v w', G v w' → K (a.put o.dst v) w')
    (h : if Region.wanted o (yielded ops a.tmps) = true then Yields P G ((execOp a.eval o).run P w) else G undef w) : wpOp P ops Q i K a w := by
  unfold wpOp
  simp only [ho]
  split
  · rename_i hw
    rw [if_pos hw] at h
    refine .inl ?_
    unfold Oper.wp
    generalize (execOp a.eval o).run P w = r at h
    cases r with
    | ok x w' =>
      cases x <;> simp only [Yields] at h
      case value v => exact hK v w' h
      case skip => exact hK _ w' h
      case enter f args =>
        refine Calls.mono h ?_
        rintro e w'' ⟨v, rfl, hg⟩
        exact hK v w'' hg
    | halt x w' => exact h.elim
  · rename_i hw
    rw [if_neg hw] at h
    exact hK _ _ h
/-- One operation of a region, in the run. -/
theorem aStep_wp (R : Rep c.base c.X c.nt used ρ tm h a w) {tt : TT} (hT : TTok c.P tt) {ops : List Oper} (hds : ∀ (j : Nat) (p : Oper) (t : Nat), ops[j]? = some p → p.dst = some t → t < c.nt) {i : Nat} (ho : ops[i]? = some o) {x : Hi}
    (hfresh : ∀ id, nid ≤ id → id < nid + x.cnt → ¬ used id) (hu : ∀ id, used id → used' id) (hn : ∀ id, nid ≤ id → id < nid + x.cnt → used' id) {r : Option Eff} (e : aStep c.P tt ops tm h o nid x = some r) (hc : effChk r) {K : Act → World → Prop} {Q : Exit → Act → World → Prop}
    (hK : ∀ ρ' a' w', Rep c.base c.X c.nt used' ρ' (setTm tm o.dst (effVal r)) (setHp h (effW r)) a' w' → K a' w') : wpOp c.P ops.toArray Q i K a w := by
  refine wpOp_of_yields (o := o) (by simpa using ho) (fun v w' => ∃ ρ', Rep c.base c.X c.nt used' ρ' (setTm tm o.dst (effVal r)) (setHp h (effW r)) (a.put o.dst v) w') (fun v w' ⟨ρ', R'⟩ => hK ρ' _ w' R') ?_
  have hd : ∀ t, o.dst = some t → t < c.nt := fun t ht => hds i o t ho ht
  unfold aStep at e
  split at e
  · rename_i hw
    rw [wantedA_ok R hds hw, if_pos rfl]
    split at e
    · rename_i r' he
      injection e with e
      subst e
      exact aEff_good R hT hfresh hu hn hd he hc
    · cases e
  · rename_i hw
    rw [wantedA_ok R hds hw, if_neg (by simp)]
    injection e with e
    subst e
    exact ⟨ρ, by simp only [effW, effVal, setHp_nil]; exact (R.used_mono hu).put_tm hd fun x hx => by injection hx with hx; subst hx; exact ⟨#[], rfl, trivial⟩⟩
  · cases e
end
/-! States as lists. -/
structure St where
  tm : List (Nat × AV)
  h : List (Nat × Blk)
  n : Nat
def eraseL {α : Type} (k : Nat) : List (Nat × α) → List (Nat × α)
  | [] => []
  | (i, v) :: l => bif Nat.beq i k then eraseL k l else (i, v) :: eraseL k l
theorem look_erase {α : Type} (k : Nat) : ∀ (l : List (Nat × α)) (i : Nat), look (eraseL k l) i = if k = i then none else look l i
  | [], i => by simp [eraseL, look]
  | (j, v) :: l, i => by
    simp only [eraseL]
    by_cases h : j = k
    · subst h
      simp only [Nat.beq_refl, cond_true, look_erase j l i, look_cons]
      split <;> rfl
    · have : Nat.beq j k = false := by simpa [← Nat.beq_eq] using h
      simp only [this, cond_false, look_cons, look_erase k l i]
      by_cases h1 : j = i
      · subst h1; simp [Ne.symm h]
      · simp [h1]
def putTm (l : List (Nat × AV)) (d : Option Tmp) (v : Option AV) : List (Nat × AV) := match d with
  | none => l
  | some d => match v with
    | some v => (d, v) :: eraseL d l
    | none => eraseL d l
theorem look_putTm (l : List (Nat × AV)) (d : Option Tmp) (v : Option AV) : look (putTm l d v) = setTm (look l) d v := by
  funext t
  cases d with
  | none => simp [putTm, setTm]
  | some d =>
    cases v with
    | none =>
      simp only [putTm, look_erase, setTm, Option.some.injEq]
      by_cases h : d = t
      · subst h; simp
      · simp [h, Ne.symm h]
    | some v =>
      simp only [putTm, look_cons, look_erase, setTm, Option.some.injEq]
      by_cases h : d = t
      · subst h; simp
      · simp [h, Ne.symm h]
def putHp (l : List (Nat × Blk)) : List (Nat × Option Blk) → List (Nat × Blk)
  | [] => l
  | (k, some b) :: W => (k, b) :: eraseL k (putHp l W)
  | (k, none) :: W => eraseL k (putHp l W)
theorem look_putHp (l : List (Nat × Blk)) : ∀ (W : List (Nat × Option Blk)), look (putHp l W) = setHp (look l) W
  | [] => by funext i; rfl
  | (k, some b) :: W => by
    funext i
    simp only [putHp, look_cons, look_erase, look_putHp l W, setHp]
    by_cases h : k = i <;> simp [h]
  | (k, none) :: W => by
    funext i
    simp only [putHp, look_erase, look_putHp l W, setHp]
def RepS (c : Cx) (ρ : Ren) (S : St) (a : Act) (w : World) : Prop := Rep c.base c.X c.nt (fun id => id < S.n) ρ (look S.tm) (look S.h) a w
/-- The operations of a region in the order of the text. -/
def runOps (P : Program) (tt : TT) (ops : List Oper) : List Oper → List Hi → St → Option (St × List Prop)
  | [], _, S => some (S, [])
  | o :: rest, xs, S =>
    let x := xs.headD {}
    match aStep P tt ops (look S.tm) (look S.h) o S.n x with
    | some r => match runOps P tt ops rest xs.tail ⟨putTm S.tm o.dst (effVal r), putHp S.h (effW r), S.n + x.cnt⟩ with
      | some (S', l) => some (S', effChk r :: l)
      | none => none
    | none => none
def AllP : List Prop → Prop
  | [] => True
  | p :: l => p ∧ AllP l
def dstB (ops : List Oper) (nt : Nat) : Bool := ops.all fun o => match o.dst with
  | some t => Nat.blt t nt
  | none => true
theorem dstB_ok {ops : List Oper} {nt : Nat} (h : dstB ops nt = true) (j : Nat) (p : Oper) (t : Nat) (hj : ops[j]? = some p) (ht : p.dst = some t) : t < nt := by
  have := List.all_eq_true.1 h p (List.mem_of_getElem? hj)
  simp only [ht] at this
  simpa using this
theorem runOps_wp {c : Cx} {tt : TT} (hT : TTok c.P tt) {ops : List Oper} (hds : dstB ops c.nt = true) {Q : Exit → Act → World → Prop} : ∀ (l : List Oper) (k : Nat) (xs : List Hi) (S S' : St) (ps : List Prop) (ρ : Ren) (a : Act) (w : World), (∀ j, l[j]? = ops[k + j]?) → RepS c ρ S a w → runOps c.P tt ops l xs S = some (S', ps) → AllP ps →
    (∀ ρ' a' w', RepS c ρ' S' a' w' → Q .normal a' w') → wpOps c.P ops.toArray Q (List.range' k l.length) a w
  | [], k, xs, S, S', ps, ρ, a, w, hl, R, e, hp, hQ => by
    simp only [runOps, Option.some.injEq, Prod.mk.injEq] at e
    obtain ⟨rfl, rfl⟩ := e
    simp only [List.length_nil, List.range'_zero, wpOps]
    exact hQ ρ a w R
  | o :: rest, k, xs, S, S', ps, ρ, a, w, hl, R, e, hp, hQ => by
    simp only [runOps] at e
    split at e
    · rename_i r hr
      split at e
      · rename_i S1 ps1 he
        simp only [Option.some.injEq, Prod.mk.injEq] at e
        obtain ⟨rfl, rfl⟩ := e
        obtain ⟨p1, p2⟩ := hp
        simp only [List.length_cons, List.range'_succ, wpOps_cons]
        have ho : ops[k]? = some o := by have := hl 0; simpa using this.symm
        refine aStep_wp (used' := fun id => id < S.n + (xs.headD {}).cnt) R hT (dstB_ok hds) ho (fun id h1 h2 => by omega) (fun id h => by omega) (fun id h1 h2 => by omega) hr p1 fun ρ' a' w' R' => ?_
        refine runOps_wp hT hds rest (k + 1) xs.tail _ S1 ps1 ρ' a' w' (fun j => ?_) ?_ he p2 hQ
        · have := hl (j + 1); simp only [List.getElem?_cons_succ] at this; rw [this]; congr 1; omega
        · unfold RepS; rw [look_putTm, look_putHp]; exact R'
      · cases e
    · cases e
theorem region_seq {c : Cx} {tt : TT} (hT : TTok c.P tt) {id : Nat} {ops : List Oper} (hds : dstB ops c.nt = true) {xs : List Hi} {S S' : St} {ps : List Prop} (e : runOps c.P tt ops ops xs S = some (S', ps)) (hp : AllP ps) {ρ : Ren} {a : Act} {w : World} (R : RepS c ρ S a w) {Q : Exit → Act → World → Prop}
    (hQ : ∀ ρ' a' w', RepS c ρ' S' a' w' → Q .normal a' w') : (Code.region id ops.toArray false).wp c.P Q a w := by
  refine wp_region ?_
  have := runOps_wp hT hds ops 0 xs S S' ps ρ a w (fun j => by simp) R e hp hQ
  simpa [List.range_eq_range'] using this
end Vm
end Go.Proofs.Ytknlckjpgmjenaa
