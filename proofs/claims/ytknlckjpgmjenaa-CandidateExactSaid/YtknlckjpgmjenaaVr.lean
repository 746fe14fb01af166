/- The abstract machine: words for short proofs: a region by what it changes; hints that bring their proofs. -/
import Derived.Test.YtknlckjpgmjenaaVp
namespace Go.Proofs.Ytknlckjpgmjenaa
set_option linter.unusedVariables false
namespace Vm
/-- A hint with the proof of what it says. -/
structure HP where
  hi : Hi
  p : Prop
  h : p
def hn : HP := ⟨{}, True, trivial⟩
def ho {p : Prop} (h : p) : HP := ⟨{}, p, h⟩
def hq {p q : Prop} (h : p) (k : q) : HP := ⟨{}, p ∧ q, ⟨h, k⟩⟩
def ht {b : Bool} (h : b = true) : HP := ⟨{ h := { b := some true } }, b = true, h⟩
def hf {b : Bool} (h : b = false) : HP := ⟨{ h := { b := some false } }, b = false, h⟩
def hr (n : Nat) (f : Nat → Nat → T) {p : Prop} (h : p) : HP := ⟨{ h := { row := some (n, f) } }, p, h⟩
def hi (g : Nat → Int) {p : Prop} (h : p) : HP := ⟨{ h := { ints := some g } }, p, h⟩
/-- A row that is made is closed at once. -/
def hz (x : HP) (n : Nat) : HP := ⟨{ x.hi with h := { x.hi.h with frz := true } }, x.p ∧ n ≤ n, ⟨x.h, Nat.le_refl n⟩⟩
/-- an append that keeps the old slice -/
def hkp (x : HP) : HP := ⟨{ x.hi with h := { x.hi.h with keep := true } }, x.p, x.h⟩
/-- a made slice that closes what it is made of -/
def hkb {p : Prop} (x : HP) (hp : p) : HP := ⟨{ x.hi with h := { x.hi.h with keep := true } }, p ∧ x.p, ⟨hp, x.h⟩⟩
def hbq (b : Bool) (x : HP) {e : Bool} (k : e = b) : HP := ⟨{ x.hi with h := { x.hi.h with b := some b } }, x.p ∧ e = b, ⟨x.h, k⟩⟩
/-! Calls. -/
def cTriv : List C → Prop
  | [] => True
  | _ :: l => True ∧ cTriv l
theorem cTriv_ok : ∀ l, cTriv l
  | [] => trivial
  | _ :: l => ⟨trivial, cTriv_ok l⟩
def sTriv : List S1 → Prop
  | [] => True
  | .c _ :: l => True ∧ sTriv l
  | .agg m :: l => cTriv m ∧ sTriv l
theorem sTriv_ok : ∀ l, sTriv l
  | [] => trivial
  | .c _ :: l => ⟨trivial, sTriv_ok l⟩
  | .agg m :: l => ⟨cTriv_ok m, sTriv_ok l⟩
def aTriv : AV → Prop
  | .agg l => cTriv l
  | .clo _ a b => sTriv a ∧ sTriv b
  | _ => True
theorem aTriv_ok : ∀ x, aTriv x
  | .agg l => cTriv_ok l
  | .c _ => trivial
  | .fagg _ _ => trivial
  | .tup _ => trivial
  | .clo _ a b => ⟨sTriv_ok a, sTriv_ok b⟩
def asTriv : List AV → Prop
  | [] => True
  | x :: l => aTriv x ∧ asTriv l
theorem asTriv_ok : ∀ l, asTriv l
  | [] => trivial
  | x :: l => ⟨aTriv_ok x, asTriv_ok l⟩
section
variable {P : Program} {f : FuncId} {args : List AV} {inb : List (Nat × Blk)} {out : AV} {outb : List (Nat × Blk)}
/-- A call to which no block is handed, that makes none. -/
def hk (con : Con P f args [] out []) : HP := ⟨{ call := some { ids := [], frz := [], flat := out.flat, cnt := 0, args := args, out := out, outb := [] } }, asTriv args ∧ All2 ArgLe args args ∧ (out.flat = true → flatB []) ∧ Con P f args [] out [], ⟨asTriv_ok _, argLe_all, fun _ => trivial, con⟩⟩
/-- A call with blocks; its results may lead to what is read only. -/
def hl (ids frz : List Nat) (cnt : Nat) (con : Con P f args inb out outb) : HP := ⟨{ call := some { ids := ids, frz := frz, flat := false, cnt := cnt, args := args, out := out, outb := outb } }, asTriv args ∧ All2 ArgLe args args ∧ (false = true → flatB outb) ∧ Con P f args inb out outb, ⟨asTriv_ok _, argLe_all, fun h => Bool.noConfusion h, con⟩⟩
/-- A call with blocks; its results lead to nothing that is read only. -/
def hm (ids frz : List Nat) (cnt : Nat) (con : Con P f args inb out outb) (hf : flatB outb) : HP := ⟨{ call := some { ids := ids, frz := frz, flat := true, cnt := cnt, args := args, out := out, outb := outb } }, asTriv args ∧ All2 ArgLe args args ∧ (true = true → flatB outb) ∧ Con P f args inb out outb, ⟨asTriv_ok _, argLe_all, fun _ => hf, con⟩⟩
/-- A call in general. -/
def hg (ids frz : List Nat) (flat : Bool) (cnt : Nat) {q : Prop} (hq : q) {a0 : List AV} (con : Con P f args inb out outb) (ha : All2 ArgLe a0 args) (hf : flat = true → flatB outb) : HP := ⟨{ call := some { ids := ids, frz := frz, flat := flat, cnt := cnt, args := args, out := out, outb := outb } }, q ∧ All2 ArgLe a0 args ∧ (flat = true → flatB outb) ∧ Con P f args inb out outb, ⟨hq, ha, hf, con⟩⟩
end
/-! Rows. -/
section
variable {τ : Type} {d : τ} {enc : τ → List T}
theorem set_whole {xs : List τ} {n e : Nat} {y : τ} (hn : n = xs.length) (he : e < n) : n = n ∧ ∀ i, i < n → ∀ j, j < (enc y).length → TLe (updRow (rowL d enc xs) e 0 (enc y) i j) (rowL d enc (xs.set e y) i j) := by
  have := (set_rowN (d := d) (enc := enc) (xs := xs) (n := n) (e := e) (sub := 0) (sz := (enc y).length) (tl := enc y) (y := y) hn he (fun j hj => by rw [if_pos ⟨Nat.zero_le _, by omega⟩]; exact TLe.refl _))
  exact ⟨rfl, this.2⟩
/-- An element is set. -/
def hset (d : τ) (enc : τ → List T) (xs : List τ) (e : Nat) (y : τ) {n : Nat} (he : e < n) (hn : n = xs.length) : HP := ⟨{ h := { row := some (n, rowL d enc (xs.set e y)) } }, e < n ∧ n = n ∧ ∀ i, i < n → ∀ j, j < (enc y).length → TLe (updRow (rowL d enc xs) e 0 (enc y) i j) (rowL d enc (xs.set e y) i j), ⟨he, set_whole hn he⟩⟩
/-- Elements of a row behind those of another one. -/
def happ (d : τ) (enc : τ → List T) (sz bytes : Nat) (xs ys : List τ) (hl : xs.length + ys.length ≤ 1099511627776) (hb : bytes ≤ 128) : HP := ⟨{ h := { row := some ((xs ++ ys).length, rowL d enc (xs ++ ys)) } }, xs.length = xs.length ∧ 0 + ys.length ≤ ys.length ∧ (xs.length + ys.length ≤ 1099511627776 ∧ bytes ≤ 128) ∧ xs.length + ys.length = (xs ++ ys).length ∧ ∀ i, i < (xs ++ ys).length → ∀ j, j < sz → TLe (appRow xs.length (rowL d enc xs) (fun i j => rowL d enc ys (0 + i) j) i j) (rowL d enc (xs ++ ys) i j),
  ⟨rfl, le0, ⟨hl, hb⟩, rowT (app_row rfl rfl row_rfl (fun i _ j _ => congrArg (fun k => rowL d enc ys k j) (Nat.zero_add i)))⟩⟩
/-- The same, behind nil. -/
def happ0 (d : τ) (enc : τ → List T) (sz bytes : Nat) (ys : List τ) (hl : 0 + ys.length ≤ 1099511627776) (hb : bytes ≤ 128) : HP := ⟨{ h := { row := some ((([] : List τ) ++ ys).length, rowL d enc (([] : List τ) ++ ys)) } }, True ∧ 0 + ys.length ≤ ys.length ∧ (0 + ys.length ≤ 1099511627776 ∧ bytes ≤ 128) ∧ 0 + ys.length = (([] : List τ) ++ ys).length ∧ ∀ i, i < (([] : List τ) ++ ys).length → ∀ j, j < sz → TLe (appRow 0 (fun _ _ => .v undef) (fun i j => rowL d enc ys (0 + i) j) i j) (rowL d enc (([] : List τ) ++ ys) i j),
  ⟨trivial, le0, ⟨hl, hb⟩, rowT (app_row rfl rfl row_nil (fun i _ j _ => congrArg (fun k => rowL d enc ys k j) (Nat.zero_add i)))⟩⟩
/-- Zeros. -/
def hmk (d : τ) (enc : τ → List T) (sz bytes : Nat) (zs : List Value) (he : enc d = zs.map T.v) (hz : zs.length = sz) (l c : Int) (h0 : 0 ≤ l) (h1 : l ≤ c) (h2 : c ≤ 1099511627776) (hb : bytes ≤ 128) : HP := ⟨{ h := { row := some ((List.replicate l.toNat d).length, rowL d enc (List.replicate l.toNat d)) } }, (0 ≤ l ∧ l ≤ c ∧ c ≤ 1099511627776 ∧ bytes ≤ 128) ∧ l.toNat = (List.replicate l.toNat d).length ∧ ∀ i, i < (List.replicate l.toNat d).length → ∀ j, j < sz → TLe (.v (zs.getD j undef)) (rowL d enc (List.replicate l.toNat d) i j),
  ⟨⟨h0, h1, h2, hb⟩, mk_row (z := fun j => .v (zs.getD j undef)) (fun j hj => by
    rw [he]
    have : (zs.map T.v).getD j (.v undef) = .v (zs.getD j undef) := by simp [List.getD_eq_getElem?_getD, List.getElem?_map, List.getElem?_eq_getElem (by omega : j < zs.length)]
    rw [this]; exact TLe.refl _)⟩⟩
theorem flat_get {sz : Nat} (hs : ∀ x, (enc x).length = sz) : ∀ (xs : List τ) (i j : Nat), i < xs.length → j < sz → (xs.flatMap enc).getD (i * sz + j) (.v undef) = (enc (xs.getD i d)).getD j (.v undef)
  | [], i, j, h, _ => absurd h (Nat.not_lt_zero _)
  | x :: xs, 0, j, _, hj => by
    rw [List.flatMap_cons, Nat.zero_mul, Nat.zero_add, List.getD_eq_getElem?_getD, List.getElem?_append_left (by rw [hs]; exact hj)]
    rfl
  | x :: xs, i + 1, j, h, hj => by
    have := flat_get hs xs i j (by simpa using h) hj
    rw [List.flatMap_cons, List.getD_eq_getElem?_getD, List.getElem?_append_right (by rw [hs, Nat.add_mul]; omega), hs]
    rw [show (i + 1) * sz + j - sz = i * sz + j by rw [Nat.add_mul]; omega]
    exact this
/-- A row of elements that are told one by one. -/
def hlit (d : τ) (enc : τ → List T) (sz : Nat) (hs : ∀ x, (enc x).length = sz) (xs : List τ) : HP := ⟨{ h := { row := some (xs.length, rowL d enc xs) } }, xs.length = xs.length ∧ ∀ i, i < xs.length → ∀ j, j < sz → TLe (rowOf (xs.flatMap enc) sz i j) (rowL d enc xs i j), ⟨rfl, fun i hi j hj => by
  have := flat_get (d := d) hs xs i j hi hj
  unfold rowOf rowL
  rw [this]; exact TLe.refl _⟩⟩
end
/-! Regions. -/
def padP : Nat → List HP → List Prop
  | 0, _ => []
  | n + 1, [] => True :: padP n []
  | n + 1, x :: l => x.p :: padP n l
theorem padP_ok : ∀ (n : Nat) (l : List HP), AllP (padP n l)
  | 0, _ => trivial
  | n + 1, [] => ⟨trivial, padP_ok n []⟩
  | n + 1, x :: l => ⟨x.h, padP_ok n l⟩
def dsts : List Oper → List Nat
  | [] => []
  | o :: l => match o.dst with
    | some d => d :: dsts l
    | none => dsts l
theorem dsts_mem {t : Nat} : ∀ {l : List Oper} {o : Oper}, o ∈ l → o.dst = some t → memB (dsts l) t = true := by
  intro l
  induction l with
  | nil => intro o h; cases h
  | cons p l ih =>
    intro o h hd
    rcases List.mem_cons.1 h with rfl | h
    · simp only [dsts, hd, memB, Nat.beq_refl, Bool.true_or]
    · have h3 := ih h hd
      simp only [dsts]
      split
      · simp only [memB, h3, Bool.or_true]
      · exact h3
def keysOf {α : Type} (l : List (Nat × α)) : List Nat := l.map fun p => p.1
def runW (P : Program) (tt : TT) (ops : List Oper) : List Oper → List Hi → St → Option (St × List Prop × List Nat)
  | [], _, S => some (S, [], [])
  | o :: rest, xs, S =>
    let x := xs.headD {}
    match aStep P tt ops (look S.tm) (look S.h) o S.n x with
    | some r => match runW P tt ops rest xs.tail ⟨putTm S.tm o.dst (effVal r), putHp S.h (effW r), S.n + x.cnt⟩ with
      | some (S', l, ks) => some (S', effChk r :: l, keysOf (effW r) ++ ks)
      | none => none
    | none => none
theorem memB_mem : ∀ {l : List Nat} {i : Nat}, memB l i = true → i ∈ l
  | k :: l, i, h => by
    simp only [memB, Bool.or_eq_true] at h
    rcases h with h | h
    · exact List.mem_cons.2 (.inl (Nat.eq_of_beq_eq_true h).symm)
    · exact List.mem_cons_of_mem _ (memB_mem h)
theorem mem_memB : ∀ {l : List Nat} {i : Nat}, i ∈ l → memB l i = true
  | k :: l, i, h => by
    simp only [memB, Bool.or_eq_true]
    rcases List.mem_cons.1 h with rfl | h
    · exact .inl (Nat.beq_refl _)
    · exact .inr (mem_memB h)
theorem keyB_keys {W : List (Nat × Option Blk)} {id : Nat} (h : memB (keysOf W) id = false) : keyB W id = false := by
  cases hk : keyB W id with
  | false => rfl
  | true =>
    simp only [keyB, List.any_eq_true] at hk
    obtain ⟨p, h1, h2⟩ := hk
    have : memB (keysOf W) id = true := mem_memB (List.mem_map.2 ⟨p, h1, Nat.eq_of_beq_eq_true h2⟩)
    rw [h] at this; cases this
theorem memB_append {i : Nat} : ∀ {l m : List Nat}, memB (l ++ m) i = (memB l i || memB m i)
  | [], m => by simp [memB]
  | k :: l, m => by simp only [List.cons_append, memB, memB_append, Bool.or_assoc]
theorem runW_ok {P : Program} {tt : TT} {ops : List Oper} : ∀ {l : List Oper} {xs : List Hi} {S S' : St} {ps : List Prop} {ks : List Nat}, runW P tt ops l xs S = some (S', ps, ks) →
    runOps P tt ops l xs S = some (S', ps) ∧ (∀ t, memB (dsts l) t = false → look S'.tm t = look S.tm t) ∧ ∀ id, memB ks id = false → look S'.h id = look S.h id
  | [], xs, S, S', ps, ks, e => by
    simp only [runW, Option.some.injEq, Prod.mk.injEq] at e
    obtain ⟨rfl, rfl, rfl⟩ := e
    exact ⟨rfl, fun _ _ => rfl, fun _ _ => rfl⟩
  | o :: rest, xs, S, S', ps, ks, e => by
    simp only [runW] at e
    split at e
    · rename_i r hr
      split at e
      · rename_i S1 l ks1 he
        simp only [Option.some.injEq, Prod.mk.injEq] at e
        obtain ⟨rfl, rfl, rfl⟩ := e
        obtain ⟨h1, h2, h3⟩ := runW_ok he
        refine ⟨by simp only [runOps, hr, h1], fun t ht => ?_, fun id hid => ?_⟩
        · have hd : memB (dsts rest) t = false ∧ o.dst ≠ some t := by
            simp only [dsts] at ht
            split at ht
            · rename_i d hd
              simp only [memB, Bool.or_eq_false_iff] at ht
              exact ⟨ht.2, fun e => by rw [hd] at e; injection e with e; subst e; have := ht.1; simp at this⟩
            · rename_i hd; exact ⟨ht, fun e => by rw [hd] at e; cases e⟩
          rw [h2 t hd.1, look_putTm]
          simp only [setTm]
          rw [if_neg (fun e => hd.2 e.symm)]
        · rw [memB_append, Bool.or_eq_false_iff] at hid
          rw [h3 id hid.2, look_putHp]
          exact setHp_not _ (keyB_keys hid.1)
      · cases e
    · cases e
def notK (ks : List Nat) (i : Nat) : Bool := !memB ks i
/-- The state behind a region: the slots and blocks that it laid; of the others those that it left. -/
def upS (S : St) (ds : List Nat) (tm : List (Nat × AV)) (ks : List Nat) (h : List (Nat × Blk)) (n : Nat) : St := ⟨tm ++ keepL (notK ds) S.tm, h ++ keepL (notK ks) S.h, n⟩
theorem look_append {α : Type} (i : Nat) : ∀ (l m : List (Nat × α)), look (l ++ m) i = match look l i with
    | some x => some x
    | none => look m i
  | [], m => rfl
  | (k, v) :: l, m => by
    simp only [List.cons_append, look_cons]
    split
    · rfl
    · exact look_append i l m
def sAll {α : Type} : List (Nat × α) → List (Option α)
  | [] => []
  | (_, x) :: l => some x :: sAll l
theorem look_all {α : Type} {g : Nat → Option α} {i : Nat} {x : α} : ∀ {l : List (Nat × α)}, (keysOf l).map g = sAll l → look l i = some x → g i = some x
  | [], _, h => by cases h
  | (k, v) :: l, e, h => by
    simp only [keysOf, List.map_cons, sAll, List.cons.injEq] at e
    rw [look_cons] at h
    split at h
    · rename_i e1; injection h with h; subst e1; subst h; exact e.1
    · exact look_all e.2 h
theorem conv_up {c : Fx} {S S1 : St} {ds ks : List Nat} {tm : List (Nat × AV)} {h : List (Nat × Blk)} (ht : (keysOf tm).map (look S1.tm) = sAll tm) (hh : (keysOf h).map (look S1.h) = sAll h)
    (ft : ∀ t, memB ds t = false → look S1.tm t = look S.tm t) (fh : ∀ id, memB ks id = false → look S1.h id = look S.h id) : Conv c S1 (upS S ds tm ks h S1.n) := fun ρ a w R =>
  ⟨ρ, R.weaken (fun t av e => by
      simp only [upS, look_append] at e
      split at e
      · rename_i x hx
        injection e with e
        subst e
        exact look_all ht hx
      · rw [look_keep] at e
        split at e
        · rename_i h1
          simp only [notK, Bool.not_eq_true'] at h1
          rw [ft t h1]; exact e
        · cases e) (fun id b e => by
      simp only [upS, look_append] at e
      split at e
      · rename_i x hx
        injection e with e
        subst e
        exact look_all hh hx
      · rw [look_keep] at e
        split at e
        · rename_i h1
          simp only [notK, Bool.not_eq_true'] at h1
          rw [fh id h1]; exact e
        · cases e)⟩
def allIn (ks l : List Nat) : Bool := l.all fun i => memB ks i
theorem allIn_not {ks l : List Nat} (h : allIn ks l = true) {i : Nat} (hi : memB ks i = false) : memB l i = false := by
  cases hl : memB l i with
  | false => rfl
  | true =>
    have := List.all_eq_true.1 h i (memB_mem hl)
    rw [hi] at this; cases this
abbrev RgO := Bool × List (Option AV) × List (Option Blk) × Nat × List Prop
def rgO (nt : Nat) (ops : List Oper) (ts ids ks : List Nat) : Option (St × List Prop × List Nat) → Option RgO
  | some (S1, ps, wk) => some (dstB ops nt && allIn ks wk, ts.map (look S1.tm), ids.map (look S1.h), S1.n, ps)
  | none => none
theorem AW.rg {c : Fx} {S : St} {Q : Exit → St → Prop} {tt : TT} (hT : TTok c.P tt) {id : Nat} {ops : List Oper} (tm : List (Nat × AV)) (ks : List Nat) (h : List (Nat × Blk)) (n : Nat) (xs : List HP)
    (e : rgO c.nt ops (keysOf tm) (keysOf h) ks (runW c.P tt ops ops (xs.map HP.hi) S) = some (true, sAll tm, sAll h, n, padP ops.length xs)) (hQ : Q .normal (upS S (dsts ops) tm ks h n)) : AW c S (.region id ops.toArray false) Q := by
  unfold rgO at e
  split at e
  · rename_i S1 ps wk hr
    simp only [Option.some.injEq, Prod.mk.injEq, Bool.and_eq_true] at e
    obtain ⟨⟨e1, e2⟩, e3, e4, e5, e6⟩ := e
    obtain ⟨r1, r2, r3⟩ := runW_ok hr
    subst e6; subst e5
    exact AW.post (AW.region hT e1 r1 (padP_ok _ _) ⟨_, conv_up e3 e4 r2 (fun id hid => r3 id (allIn_not e2 hid)), hQ⟩)
  · cases e
theorem AW.sg {c : Fx} {S : St} {Q : Exit → St → Prop} {tt : TT} (hT : TTok c.P tt) {id : Nat} {ops : List Oper} {y : Code} (tm : List (Nat × AV)) (ks : List Nat) (h : List (Nat × Blk)) (n : Nat) (xs : List HP)
    (e : rgO c.nt ops (keysOf tm) (keysOf h) ks (runW c.P tt ops ops (xs.map HP.hi) S) = some (true, sAll tm, sAll h, n, padP ops.length xs)) (hQ : AW c (upS S (dsts ops) tm ks h n) y Q) : AW c S (.seq (.region id ops.toArray false) y) Q := AW.seq (AW.rg hT tm ks h n xs e hQ)
/-! Regions that draw their order. -/
def mkMasks : List Oper → List Nat → List Nat
  | [], acc => acc
  | o :: l, acc => mkMasks l (acc ++ [maskOf acc o.after.toList])
def padW : Nat → List (List Nat) → List (List Nat)
  | 0, _ => []
  | n + 1, [] => [] :: padW n []
  | n + 1, x :: l => x :: padW n l
def rgD (nt : Nat) (ops : List Oper) (ts ids : List Nat) : Option (St × List Prop) → Option RgO
  | some (S1, ps) => some (dstB ops nt, ts.map (look S1.tm), ids.map (look S1.h), S1.n, ps)
  | none => none
theorem drawRun_frame {P : Program} {tt : TT} {ops : List Oper} {masks : List Nat} {wk : List (List Nat)} {xs : List Hi} {S S1 : St} {ps : List Prop} (e : drawRun P tt ops masks wk xs S = some (S1, ps)) :
    (∀ t, memB (dsts ops) t = false → look S1.tm t = look S.tm t) ∧ ∀ id, memB wk.flatten id = false → look S1.h id = look S.h id := by
  unfold drawRun at e
  split at e
  · split at e
    · rename_i l n hl
      simp only [Option.some.injEq, Prod.mk.injEq] at e
      obtain ⟨rfl, rfl⟩ := e
      obtain ⟨_, _, glen, g⟩ := drawGo_spec ops 0 xs [] S.n l n rfl hl
      have hget : ∀ m o r, l[m]? = some (o, r) → o ∈ ops ∧ ∀ id, keyB (effW r) id = true → id ∈ wk.getD m [] := fun m o r hm => by
        have hlt : m < ops.length := by
          have := (List.getElem?_eq_some_iff.1 hm).1
          omega
        obtain ⟨r', k1, _, k3⟩ := g m ops[m] (List.getElem?_eq_getElem hlt)
        rw [Nat.zero_add, hm] at k1
        injection k1 with k1
        injection k1 with k1 k2
        subst k1; subst k2
        exact ⟨List.getElem_mem hlt, fun id hid => by have := k3 id hid; rwa [Nat.zero_add] at this⟩
      refine ⟨fun t ht => ?_, fun id hid => ?_⟩
      · simp only [look_LT]
        rw [FT_congr (F := fun _ => false) l 0 (look S.tm) (look S.tm) rfl (fun m o e hm hd => by
          have := dsts_mem (hget m o e hm).1 hd
          rw [ht] at this; cases this), FT_none (fun _ => rfl)]
      · simp only [look_LH]
        rw [FH_congr (F := fun _ => false) l 0 (look S.h) (look S.h) rfl (fun m o e hm hk => by
          have h1 := (hget m o e hm).2 id hk
          have : memB wk.flatten id = true := mem_memB (List.mem_flatten.2 (by
            rcases Nat.lt_or_ge m wk.length with h' | h'
            · refine ⟨wk[m], List.getElem_mem h', ?_⟩
              rw [List.getD_eq_getElem?_getD, List.getElem?_eq_getElem h'] at h1; exact h1
            · rw [List.getD_eq_getElem?_getD, List.getElem?_eq_none h'] at h1; simp at h1))
          rw [hid] at this; cases this), FH_none (fun _ => rfl)]
    · cases e
  · cases e
theorem AW.rd {c : Fx} {S : St} {Q : Exit → St → Prop} {tt : TT} (hT : TTok c.P tt) (hm : c.P.follows .mixedOrders = true) {id : Nat} {ops : List Oper} (wk : List (List Nat)) (tm : List (Nat × AV)) (h : List (Nat × Blk)) (n : Nat) (xs : List HP)
    (e : rgD c.nt ops (keysOf tm) (keysOf h) (drawRun c.P tt ops (mkMasks ops []) (padW ops.length wk) (xs.map HP.hi) S) = some (true, sAll tm, sAll h, n, padP ops.length xs)) (hQ : Q .normal (upS S (dsts ops) tm (padW ops.length wk).flatten h n)) : AW c S (.region id ops.toArray true) Q := by
  unfold rgD at e
  split at e
  · rename_i S1 ps hr
    simp only [Option.some.injEq, Prod.mk.injEq] at e
    obtain ⟨e1, e3, e4, e5, e6⟩ := e
    obtain ⟨r2, r3⟩ := drawRun_frame hr
    subst e6; subst e5
    exact AW.post (AW.regionD hT hm e1 hr (padP_ok _ _) ⟨_, conv_up e3 e4 r2 r3, hQ⟩)
  · cases e
theorem AW.sd {c : Fx} {S : St} {Q : Exit → St → Prop} {tt : TT} (hT : TTok c.P tt) (hm : c.P.follows .mixedOrders = true) {id : Nat} {ops : List Oper} {y : Code} (wk : List (List Nat)) (tm : List (Nat × AV)) (h : List (Nat × Blk)) (n : Nat) (xs : List HP)
    (e : rgD c.nt ops (keysOf tm) (keysOf h) (drawRun c.P tt ops (mkMasks ops []) (padW ops.length wk) (xs.map HP.hi) S) = some (true, sAll tm, sAll h, n, padP ops.length xs)) (hQ : AW c (upS S (dsts ops) tm (padW ops.length wk).flatten h n) y Q) : AW c S (.seq (.region id ops.toArray true) y) Q := AW.seq (AW.rd hT hm wk tm h n xs e hQ)
/-! Steps. -/
theorem ifd {α : Type} {p q : Prop} [Decidable p] [Decidable q] {x : Option α} {r : α} (h : (if p then (if q then x else none) else none) = some r) : p ∧ q ∧ x = some r := by
  obtain ⟨h1, h⟩ := ifc h
  obtain ⟨h2, h⟩ := ifc h
  exact ⟨h1, h2, h⟩
theorem ifs {α : Type} {b : Bool} {x y : Option α} {r : α} (h : (if b = true then x else y) = some r) : (b = true ∧ x = some r) ∨ (b = false ∧ y = some r) := by
  cases b with
  | true => exact .inl ⟨rfl, h⟩
  | false => exact .inr ⟨rfl, h⟩
theorem AW.co {c : Fx} {S : St} {Q : Exit → St → Prop} {α : Type} {b : Bool} {x y : Option α} {r : α} (h : (if b = true then x else y) = some r) {o : Operand} {z w : Code} (hx : ev (look S.tm) o = some (.c (.t (.v (.bool b))))) (h1 : b = true → x = some r → AW c S z Q) (h2 : b = false → y = some r → AW c S w Q) : AW c S (.cond o z w) Q :=
  AW.cond hx (fun e => by subst e; exact h1 rfl h) (fun e => by subst e; exact h2 rfl h)
/-- Slots that are told otherwise; the others stay. -/
theorem conv_tms {c : Fx} {S : St} (tm : List (Nat × AV)) (h : tmLe (look S.h) (look S.tm) tm) : Conv c S ⟨tm ++ S.tm, S.h, S.n⟩ := fun ρ a w R =>
  ⟨ρ, ⟨fun t av e => by
      simp only [look_append] at e
      split at e
      · rename_i x hx
        injection e with e
        subst e
        obtain ⟨y, h1, h2⟩ := tmLe_get h hx
        exact h2 _ _ _ _ _ _ _ _ R _ (R.tmp t y h1)
      · exact R.tmp t av e, R.heap, R.hX, R.inj, R.used, R.upd, R.ext0, R.size, R.defers⟩⟩
theorem conv_re {c : Fx} {S S' : St} (m : List (Nat × Nat)) (e : (renSt m (keysOf S'.tm) S'.n S, nodupB (m.map (·.2)) && nodupB (m.map (·.1)) && keysLt S'.n m && firstK c.k S'.n m) = (some S', true)) : Conv c S S' := by
  simp only [Prod.mk.injEq] at e
  exact conv_ren m _ e.1 e.2
theorem ALe.len {h : Hp} {id sz off n m : Nat} (e : n = m) : ALe h (.c (.ref id sz off n)) (.c (.ref id sz off m)) := by subst e; exact ALe.refl _ _
theorem conv_rowN {c : Fx} {S : St} (id : Nat) (ty : TypeId) (fro : Bool) (sz n m : Nat) (f : Nat → Nat → T) (hid : look S.h id = some (.row ty fro sz n f)) (hn : n = m) : Conv c S ⟨S.tm, (id, .row ty fro sz m f) :: S.h, S.n⟩ := conv_row hid (.inl rfl) hn row_rfl
/-- A row is closed. -/
theorem cfz {c : Fx} {S : St} (id : Nat) (ty : TypeId) (sz n : Nat) (f : Nat → Nat → T) (hid : look S.h id = some (.row ty false sz n f)) : Conv c S ⟨S.tm, (id, .row ty true sz n f) :: S.h, S.n⟩ := conv_row hid (.inr rfl) rfl row_rfl
theorem jl {ι : Type} {c : Fx} {st : ι → St} {k : ι → Prop} {Q : Exit → St → Prop} {S : St} (i : ι) (h : k i) (hc : Conv c S (st i)) : joinQ c st k Q .normal S := ⟨i, h, hc⟩
theorem lpn {σ τ : Type} {c : Fx} {st : σ → St} {out : τ → Exit × St} {s : σ} {o : σ ⊕ τ} {S : St} (h : some (Sum.inl s) = some o) (hc : Conv c S (st s)) : loopQ c st out o .normal S := by
  obtain rfl := some_inj h
  exact ⟨rfl, hc⟩
theorem lpo {σ τ : Type} {c : Fx} {st : σ → St} {out : τ → Exit × St} {t : τ} {o : σ ⊕ τ} {e : Exit} {S : St} (h : some (Sum.inr t) = some o) (he : e = (out t).1) (hc : Conv c S (out t).2) : loopQ c st out o e S := by
  obtain rfl := some_inj h
  exact ⟨he, hc⟩
/-- A loop: how it is come to; what it comes to; a round; what is behind it. -/
theorem AW.lp {c : Fx} {S : St} {Q : Exit → St → Prop} {σ τ : Type} {step : σ → Option (σ ⊕ τ)} {s0 : σ} {t : τ} {body : Code} (hl : Vm.loop step s0 = some t) (st : σ → St) (out : τ → Exit × St) (hc : Conv c S (st s0)) (hne : ∀ t, notNormal (out t).1)
    (hbody : ∀ s o, step s = some o → AW c (st s) body (loopQ c st out o)) (hA : Q (out t).1 (out t).2) : AW c S (.loop body) Q := AW.pre hc (AW.loop2 st out hl hne hbody hA)
/-- A loop that is left in two ways. -/
theorem AW.lpE {c : Fx} {S : St} {Q : Exit → St → Prop} {σ A B γ : Type} {step : σ → Option (σ ⊕ (A ⊕ B))} {s0 : σ} {f : A → Option γ} {g : B → Option γ} {r : γ} {body : Code} (h : bindE (Vm.loop step s0) f g = some r) (st : σ → St) (o1 : A → Exit × St) (o2 : B → Exit × St) (hc : Conv c S (st s0)) (n1 : ∀ t, notNormal (o1 t).1) (n2 : ∀ t, notNormal (o2 t).1)
    (hbody : ∀ s o, step s = some o → AW c (st s) body (loopQ c st (fun t => match t with | .inl t => o1 t | .inr t => o2 t) o)) (hA : ∀ a, f a = some r → Q (o1 a).1 (o1 a).2) (hB : ∀ b, g b = some r → Q (o2 b).1 (o2 b).2) : AW c S (.loop body) Q := by
  rcases bindE_some h with ⟨t, hl, h⟩ | ⟨t, hl, h⟩
  · exact AW.lp hl st (fun t => match t with | .inl t => o1 t | .inr t => o2 t) hc (fun t => by cases t with | inl t => exact n1 t | inr t => exact n2 t) hbody (hA t h)
  · exact AW.lp hl st (fun t => match t with | .inl t => o1 t | .inr t => o2 t) hc (fun t => by cases t with | inl t => exact n1 t | inr t => exact n2 t) hbody (hB t h)
/-! Functions that call themselves. -/
def recN {A R : Type} (F : (A → Option R) → A → Option R) : Nat → A → Option R
  | 0, _ => none
  | n + 1, v => F (recN F n) v
open Classical in
noncomputable def recF {A R : Type} (F : (A → Option R) → A → Option R) (v : A) : Option R := if h : ∃ n r, recN F n v = some r then some (Classical.choose (Classical.choose_spec h)) else none
theorem recF_some {A R : Type} {F : (A → Option R) → A → Option R} {v : A} {r : R} (h : recF F v = some r) : ∃ n, recN F n v = some r := by
  unfold recF at h
  split at h
  · rename_i hex
    injection h with h
    exact ⟨Classical.choose hex, by rw [← h]; exact Classical.choose_spec (Classical.choose_spec hex)⟩
  · cases h
theorem recF_is {A R : Type} {F : (A → Option R) → A → Option R} {v : A} {g : R} (h1 : ∀ n r, recN F n v = some r → r = g) (h2 : ∃ n, recN F n v = some g) : recF F v = some g := by
  obtain ⟨n, hn⟩ := h2
  have hex : ∃ n r, recN F n v = some r := ⟨n, g, hn⟩
  unfold recF
  rw [dif_pos hex]
  exact congrArg some (h1 _ _ (Classical.choose_spec (Classical.choose_spec hex)))
theorem rec_con {A R : Type} {F : (A → Option R) → A → Option R} {C : A → R → Prop} (H : ∀ s, (∀ v r, s v = some r → C v r) → ∀ v r, F s v = some r → C v r) (v : A) (r : R) (h : recF F v = some r) : C v r := by
  obtain ⟨n, hn⟩ := recF_some h
  clear h
  induction n generalizing v r with
  | zero => cases hn
  | succ n ih => exact H (recN F n) ih v r hn
def trueP {α : Type} : List α → List Prop
  | [] => []
  | _ :: l => True :: trueP l
theorem trueP_ok {α : Type} : ∀ l : List α, AllP (trueP l)
  | [] => trivial
  | _ :: l => ⟨trivial, trueP_ok l⟩
/-- A function's end. -/
theorem fnR {c : Fx} {S S1 : St} {tt : TT} {rs : List ResultVar} {k : Nat} {out : AV} {outb : List (Nat × Blk)} {e : Exit} (he : e = .normal ∨ e = .ret) (m : List (Nat × Nat)) (n : Nat) (out0 : AV) (hc : Conv c S S1)
    (q : (aRes tt S1 rs, renSt m [0] n ⟨[(0, out0)], S1.h, S1.n⟩, nodupB (m.map (·.2)) && nodupB (m.map (·.1)) && keysLt n m && firstK k n m) = (some (out0, trueP rs), some ⟨[(0, out)], outb, n⟩, true)) : ∃ S2, Conv c S S2 ∧ (e = .normal ∨ e = .ret) ∧ OutOk tt rs k S2 out outb := by
  simp only [Prod.mk.injEq] at q
  exact ⟨S1, hc, he, OutOk.mk m n q.1 (trueP_ok _) q.2.1 q.2.2⟩
theorem fn0 {c : Fx} {S : St} {tt : TT} {rs : List ResultVar} {k : Nat} {out : AV} {outb : List (Nat × Blk)} {e : Exit} (he : e = .normal ∨ e = .ret) (m : List (Nat × Nat)) (n : Nat) (out0 : AV)
    (q : (aRes tt S rs, renSt m [0] n ⟨[(0, out0)], S.h, S.n⟩, nodupB (m.map (·.2)) && nodupB (m.map (·.1)) && keysLt n m && firstK k n m) = (some (out0, trueP rs), some ⟨[(0, out)], outb, n⟩, true)) : ∃ S2, Conv c S S2 ∧ (e = .normal ∨ e = .ret) ∧ OutOk tt rs k S2 out outb := fnR he m n out0 (Conv.refl _ _) q
end Vm
end Go.Proofs.Ytknlckjpgmjenaa
