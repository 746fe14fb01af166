/- The abstract machine: one operation; more that is known changes nothing. -/
import Derived.Test.YteholdifeilkkaaVz
import Derived.Lib.AppendZerosOnto
namespace Go.Proofs.Yteholdifeilkkaa
set_option linter.unusedVariables false
namespace Vm
def effV : Option (AV × Prop) → Option Eff
  | some r => some ⟨some r.1, [], r.2⟩
  | none => none
def evO (tm : Tm) : Option Operand → Option (Option AV)
  | none => some none
  | some x => match ev tm x with
    | some v => some (some v)
    | none => none
def isSl : AV → Bool
  | .c (.ref _ _ _ _) => true
  | .c (.t (.tree _ _ _)) => true
  | .c (.t (.v (.slice none 0 0))) => true
  | _ => false
def f0 (hn : Hint) : Nat → Nat → T := match hn.row with
  | some p => p.2
  | none => fun _ _ => .v undef
/-- A cut 'x[:0:0]': a row of the machine's own, without elements. -/
def aCut0 (tt : TT) (tm : Tm) (t : TypeId) (x : Operand) (lo hi : Option Operand) (m : Operand) (nid : Nat) (hn : Hint) : Option Eff :=
  match lo, hi with
  | none, some hh => match ev tm hh, ev tm m with
    | some (.c (.t (.v (.int .i64 0)))), some (.c (.t (.v (.int .i64 0)))) => match tt t with
      | some { k := .slice e, .. } => match tt e, ev tm x with
        | some ie, some xv => if isSl xv = true then some ⟨some (.c (.ref nid ie.size 0 0)), [(nid, some (.row e false ie.size 0 (f0 hn)))], True⟩ else none
        | _, _ => none
      | _ => none
    | _, _ => none
  | _, _ => none
/-- A cut with three bounds of a row of the machine's own. -/
def aCut3 (tt : TT) (tm : Tm) (t : TypeId) (x lo hi m : Operand) : Option (AV × Prop) :=
  match tt t with
  | some { k := .slice e, .. } => match tt e, ev tm x with
    | some ie, some (.c (.ref id sz off n)) => match ev tm lo, ev tm hi, ev tm m with
      | some (.c (.t (.v (.int _ l)))), some (.c (.t (.v (.int _ h)))), some (.c (.t (.v (.int _ q)))) => if sz = ie.size then some (.c (.ref id sz (off + l.toNat) (h.toNat - l.toNat)), 0 ≤ l ∧ l ≤ h ∧ h ≤ q ∧ q ≤ n) else none
      | _, _, _ => none
    | _, _ => none
  | _ => none
/-- The least (greatest) of several numbers. -/
def mmOf (tm : Tm) (mx : Bool) : List Operand → Int → Option Int
  | [], m => some m
  | x :: l, m => match ev tm x with
    | some (.c (.t (.v (.int _ n)))) => mmOf tm mx l (match mx with
      | true => if n > m then n else m
      | false => if n < m then n else m)
    | _ => none
def aMany (tm : Tm) (b : Builtin) (x : Operand) (l : List Operand) : Option Eff :=
  match ev tm x with
  | some (.c (.t (.v (.int k m)))) => match b with
    | .min => match mmOf tm false l m with
      | some r => some ⟨some (.c (.t (.v (.int k r)))), [], True⟩
      | none => none
    | .max => match mmOf tm true l m with
      | some r => some ⟨some (.c (.t (.v (.int k r)))), [], True⟩
      | none => none
    | _ => none
  | _ => none
/-! The room of a nil slice; a made row appended onto a nil slice. -/
def aCap (tt : TT) (t : TypeId) (x : AV) : Option (AV × Prop) := match tt t, x with
  | some { k := .slice _, .. }, .c (.t (.v (.slice none 0 0))) => some (.c (.t (.v (.int .i64 0))), True)
  | _, _ => none
def aAppMake (tt : TT) (t tx : TypeId) (s x : AV) (nid : Nat) (hi : Hint) : Option Eff := match tt t, tt tx, s, x with
  | some { k := .slice e, .. }, some { k := .int _, .. }, .c (.t (.v (.slice none 0 0))), .c (.t (.v (.int _ n))) => match tt e with
    | some ie => if 0 < ie.size ∧ ie.zero.length = ie.size ∧ ie.zero.all (·.oneCell') then
        some ⟨some (.c (.ref nid ie.size 0 (reRow e false ie.size n.toNat (fun _ j => .v (ie.zero.getD j undef)) hi.row).1)), [(nid, some (reRow e false ie.size n.toNat (fun _ j => .v (ie.zero.getD j undef)) hi.row).2.1)],
          (0 < n ∧ n ≤ 1099511627776 ∧ ie.bytes ≤ 128) ∧ (reRow e false ie.size n.toNat (fun _ j => .v (ie.zero.getD j undef)) hi.row).2.2⟩
      else none
    | none => none
  | _, _, _, _ => none
def aBuiltin (tt : TT) (tm : Tm) (h : Hp) (b : Builtin) (args : List Operand) (ts : List TypeId) (nid : Nat) (hi : Hint) : Option Eff :=
  match args with
  | [x] => match ev tm x with
    | some xv => match b, ts with
      | .len, [t] => effV (aLen tt t xv)
      | .cap, [t] => effV (aCap tt t xv)
      | _, _ => none
    | none => none
  | [x, y] => match ev tm x, ev tm y with
    | some xv, some yv => match b, ts with
      | .append, [t, tx] => match aAppMake tt t tx xv yv nid hi with
        | some r => some r
        | none => aAppend tt h t tx xv yv nid hi
      | .min, _ => effV (aMM .min xv yv)
      | .max, _ => effV (aMM .max xv yv)
      | _, _ => none
    | _, _ => none
  | x :: y :: z :: l => aMany tm b x (y :: z :: l)
  | _ => none
def toS1 : AV → Option S1
  | .c x => some (.c x)
  | .agg l => some (.agg l)
  | _ => none
def evSL (tm : Tm) : List Operand → Option (List S1)
  | [] => some []
  | x :: l => match ev tm x with
    | some v => match toS1 v, evSL tm l with
      | some s, some r => some (s :: r)
      | _, _ => none
    | none => none
def aClo (tm : Tm) (f : FuncId) (a b : List Operand) : Option Eff := match evSL tm a, evSL tm b with
  | some a, some b => some ⟨some (.clo f a b), [], True⟩
  | _, _ => none
def aOp0 (tt : TT) (tm : Tm) (h : Hp) (o : Oper) (nid : Nat) (hi : Hint) : Option Eff :=
  match o.op with
  | .move x => match ev tm x with
    | some v => some ⟨some v, [], True⟩
    | none => none
  | .assign x => match ev tm x with
    | some v => some ⟨some v, [], True⟩
    | none => none
  | .pick c a b => match ev tm c with
    | some (.c (.t (.v (.bool true)))) => match ev tm a with
      | some v => some ⟨some v, [], True⟩
      | none => none
    | some (.c (.t (.v (.bool false)))) => match ev tm b with
      | some v => some ⟨some v, [], True⟩
      | none => none
    | _ => none
  | .alloc el => aAlloc tt el nid hi
  | .box el x => aBoxOp tt tm el x nid hi
  | .build t parts => effV (aBuild tt tm t parts.toList)
  | .buildSlice t len parts => aBuildSlice tt tm t len parts.toList nid hi
  | .load t p => match ev tm p with
    | some pv => effV (aLoad tt t h pv)
    | none => none
  | .store t p x => match ev tm p, ev tm x with
    | some pv, some xv => aStore tt tm h t pv xv hi
    | _, _ => none
  | .nilCheck x => match ev tm x with
    | some (.c (.ptr id sz e sub)) => some ⟨some (.c (.ptr id sz e sub)), [], True⟩
    | some (.c (.t (.eptr sz g sub))) => some ⟨some (.c (.t (.eptr sz g sub))), [], True⟩
    | _ => none
  | .binOp op t x y _ => match ev tm x, ev tm y with
    | some xv, some yv => match aEqS tt op t xv yv hi.b with
      | some r => effV (some r)
      | none => effV (aBin tt op t xv yv hi.b)
    | _, _ => none
  | .unOp op _ x => match ev tm x with
    | some xv => effV (aUn op xv hi.b)
    | none => none
  | .convert src dst x => match ev tm x, tt src with
    | some xv, some _ => match aConvB tt src dst xv nid hi with
      | some r => some r
      | none => effV (aConvV tt dst h src xv hi)
    | _, _ => none
  | .makeSlice t l cp => match ev tm l, ev tm cp with
    | some lv, some cv => aMake tt t lv cv nid hi
    | _, _ => none
  | .slice t x lo hi' mx => match mx with
    | none => match ev tm x, evO tm lo, evO tm hi' with
      | some xv, some lv, some hv => effV (aCut tt t xv lv hv)
      | _, _, _ => none
    | some m => match lo, hi' with
      | some l, some hh => effV (aCut3 tt tm t x l hh m)
      | _, _ => aCut0 tt tm t x lo hi' m nid hi
  | .fieldAddr s x f => match ev tm x with
    | some xv => effV (aFieldAddr tt s xv f)
    | none => none
  | .field t x f => match ev tm x with
    | some xv => effV (aField tt t xv f)
    | none => none
  | .indexAddr t x ix => match ev tm x, ev tm ix with
    | some xv, some iv => effV (aIndexAddr tt t xv iv)
    | _, _ => none
  | .index t x ix => match ev tm x, ev tm ix with
    | some xv, some iv => match hi.row with
      | some q => effV (aIndexR tt t xv iv q)
      | none => effV (aIndex tt t xv iv)
    | _, _ => none
  | .extract x i => match ev tm x with
    | some xv => effV (aExtract xv i)
    | none => none
  | .call cl => match cl.callee with
    | .builtin b => aBuiltin tt tm h b cl.args.toList cl.argTypes.toList nid hi
    | _ => none
  | .makeFunc (.func f) first cap => aClo tm f first.toList cap.toList
  | _ => none
section
variable {c : Cx} {used used' : Nat → Prop} {ρ ρ' : Ren} {tm tm' : Tm} {h h' : Hp} {a : Act} {w w' : World} {base : Base} {X Y : Nat → Prop} {nt : Nat} {ok : Nat → Prop} {o : Oper} {nid : Nat}
theorem effV_some {q : Option (AV × Prop)} {r : Eff} (e : effV q = some r) : ∃ p, q = some p ∧ r = ⟨some p.1, [], p.2⟩ := by
  cases q with
  | none => cases e
  | some p => simp only [effV, Option.some.injEq] at e; exact ⟨p, rfl, e.symm⟩
theorem evO_ok (R : Rep base X nt used ρ tm h a w) {x : Option Operand} {r : Option AV} (e : evO tm x = some r) : (∀ av, r = some av → ∃ v, x.map a.eval = some v ∧ RV w (okOf base w ρ h) ρ av v) ∧ (r = none → x.map a.eval = none) := by
  cases x with
  | none => simp only [evO, Option.some.injEq] at e; subst e; exact ⟨(fun av h => by cases h), fun _ => rfl⟩
  | some x =>
    simp only [evO] at e
    split at e
    · rename_i v hv
      injection e with e
      subst e
      exact ⟨fun av h => by injection h with h; subst h; exact ⟨_, rfl, ev_ok R hv⟩, (fun h => by cases h)⟩
    · cases e
theorem isSl_val {ok : Nat → Prop} {xv : AV} {y : Value} (h : isSl xv = true) (hx : RV w ok ρ xv y) : ∃ q n cp, y = .slice q n cp := by
  unfold isSl at h
  split at h
  · obtain ⟨l, _, l2⟩ := hx
    cases l with
    | nil => obtain ⟨_, _, q, rfl⟩ := l2; exact ⟨_, _, _, rfl⟩
    | _ b cap =>
      rcases l2 with ⟨_, rfl, _⟩ | ⟨_, q, rfl⟩
      · exact ⟨_, _, _, rfl⟩
      · exact ⟨_, _, _, rfl⟩
  · obtain ⟨q, cp, rfl, _⟩ := hx
    exact ⟨_, _, _, rfl⟩
  · obtain ⟨rfl, _⟩ := hx
    exact ⟨_, _, _, rfl⟩
  · cases h
theorem aCut0_good (R : Rep c.base c.X c.nt used ρ tm h a w) (hfresh : ¬ used nid) (hu : ∀ id, used id → used' id) (hn : used' nid) (hd : ∀ t, o.dst = some t → t < c.nt) {tt : TT} (hT : TTok c.P tt) {t : TypeId} {x m : Operand} {lo hi : Option Operand} {hq : Hint} {r : Eff}
    (ho : o.op = .slice t x lo hi (some m)) (e : aCut0 tt tm t x lo hi m nid hq = some r) : Good c used' tm h a o r.val r.W ((execOp a.eval o).run c.P w) := by
  unfold aCut0 at e
  split at e
  · rename_i hh
    split at e
    · rename_i h1 h2
      split at e
      · rename_i el i1 i2 i3 i4 hti
        split at e
        · rename_i ie xv hie hx
          split at e
          · rename_i hs
            injection e with e
            subst e
            have hus := (hT _ _ hti).slice rfl
            have hsz := (hT _ _ hie).size w
            obtain ⟨q, n, cp, hy⟩ := isSl_val hs (ev_ok R hx)
            have v1 := ev_v R h1
            have v2 := ev_v R h2
            have b1 := run_sliceBound (P := c.P) w .i64 0 cp .slice3Acap (by decide) (by omega)
            have b2 := run_sliceBound (P := c.P) w .i64 0 0 .slice3B (by decide) (by omega)
            have hrun : (execOp a.eval o).run c.P w = .ok (.value (.slice (if (0:Int).toNat = 0 then q else q.map (·.add (0 * ie.size))) 0 0)) w := by
              simp [execOp, ho, Instr.sliceAt, Instr.slice, Instr.sliceBounds, hy, v1, v2, run_underlying hus, hsz, b1, b2]
            rw [hrun]
            refine ⟨ρ.set nid .nil, R.add (Upd.refl _ _) hfresh hu hn (blk := .row el false ie.size 0 (f0 hq)) (l := .nil) (fun b cap e => by cases e) (fun _ => rfl) _ hd _ _ (fun _ x hx => ?_)⟩
            injection hx with hx
            subst hx
            exact ⟨.nil, by simp [Ren.set], rfl, rfl, _, rfl⟩
          · cases e
        · cases e
      · cases e
    · cases e
  · cases e
theorem aCut3_run {P : Program} {tt : TT} (hT : TTok P tt) (R : Rep base X nt used ρ tm h a w) {t : TypeId} {x lo hi m : Operand} {r : AV × Prop} (e : aCut3 tt tm t x lo hi m = some r) (hc : r.2) :
    ∃ v, (Instr.sliceAt t (a.eval x) (some (a.eval lo)) (some (a.eval hi)) (some (a.eval m))).run P w = .ok v w ∧ RV w (okOf base w ρ h) ρ r.1 v := by
  unfold aCut3 at e
  split at e
  · rename_i el i1 i2 i3 i4 hti
    split at e
    · rename_i ie id sz off n hie hx
      split at e
      · rename_i k1 l k2 hh k3 q hl hhi hm
        split at e
        · rename_i hs
          injection e with e
          subst e
          subst hs
          obtain ⟨c1, c2, c3, c4⟩ := hc
          have hus := (hT _ _ hti).slice rfl
          have hsz := (hT _ _ hie).size w
          have v1 := ev_v R hl
          have v2 := ev_v R hhi
          have v3 := ev_v R hm
          obtain ⟨loc, l1, l2⟩ := ev_ok R hx
          have core : ∀ (p : Option Addr) (cp : Nat), a.eval x = .slice p n cp → n ≤ cp → (Instr.sliceAt t (a.eval x) (some (a.eval lo)) (some (a.eval hi)) (some (a.eval m))).run P w = .ok (.slice (if q.toNat = l.toNat then p else p.map (·.add (l.toNat * ie.size))) (hh.toNat - l.toNat) (q.toNat - l.toNat)) w := by
            intro p cp hp hn
            have b1 := run_sliceBound (P := P) w k3 q cp .slice3Acap (by omega) (by omega)
            have b2 := run_sliceBound (P := P) w k2 hh q.toNat .slice3B (by omega) (by omega)
            have b3 := run_sliceBound (P := P) w k1 l hh.toNat .slice3C (by omega) (by omega)
            simp [Instr.sliceAt, Instr.slice, Instr.sliceBounds, hp, v1, v2, v3, run_underlying hus, hsz, b1, b2, b3]
          cases loc with
          | nil =>
            obtain ⟨rfl, rfl, p, hy⟩ := l2
            have e1 : l.toNat = 0 := by omega
            have e2 : hh.toNat = 0 := by omega
            have e3 : q.toNat = 0 := by omega
            refine ⟨_, core p 0 hy (Nat.le_refl _), .nil, l1, by omega, by omega, p, by rw [e1, e2, e3]; simp⟩
          | _ b cap =>
            rcases l2 with ⟨cc, hy, h1, h2⟩ | ⟨rfl, p, hy⟩
            · refine ⟨_, core _ cc hy h1, .at b cap, l1, ?_⟩
              by_cases g : q.toNat = l.toNat
              · right
                refine ⟨by omega, some ⟨b, off * ie.size, none⟩, ?_⟩
                rw [if_pos g, show hh.toNat - l.toNat = 0 by omega, show q.toNat - l.toNat = 0 by omega]
              · left
                refine ⟨q.toNat - l.toNat, ?_, by omega, by omega⟩
                rw [if_neg g]
                simp [Addr.add_lit, Nat.add_mul]
            · have e1 : l.toNat = 0 := by omega
              have e2 : hh.toNat = 0 := by omega
              have e3 : q.toNat = 0 := by omega
              exact ⟨_, core p 0 hy (Nat.le_refl _), .at b cap, l1, .inr ⟨by omega, p, by rw [e1, e2, e3]; simp⟩⟩
        · cases e
      · cases e
    · cases e
  · cases e
theorem mmOf_min (R : Rep base X nt used ρ tm h a w) {P : Program} {k : IntKind} : ∀ {l : List Operand} {m r : Int}, mmOf tm false l m = some r → ((l.map a.eval).foldlM Builtin.min2 (.int k m)).run P w = .ok (.int k r) w
  | [], m, r, e => by simp only [mmOf, Option.some.injEq] at e; subst e; rfl
  | x :: l, m, r, e => by
    simp only [mmOf] at e
    split at e
    · rename_i k' n hx
      rw [List.map_cons, List.foldlM_cons, ev_v R hx, Sem.run_bind]
      exact mmOf_min R e
    · cases e
theorem mmOf_max (R : Rep base X nt used ρ tm h a w) {P : Program} {k : IntKind} : ∀ {l : List Operand} {m r : Int}, mmOf tm true l m = some r → ((l.map a.eval).foldlM Builtin.max2 (.int k m)).run P w = .ok (.int k r) w
  | [], m, r, e => by simp only [mmOf, Option.some.injEq] at e; subst e; rfl
  | x :: l, m, r, e => by
    simp only [mmOf] at e
    split at e
    · rename_i k' n hx
      rw [List.map_cons, List.foldlM_cons, ev_v R hx, Sem.run_bind]
      exact mmOf_max R e
    · cases e
theorem aCap_run {P : Program} {tt : TT} (hT : TTok P tt) {ok : Nat → Prop} {t ty : TypeId} {ts : Array TypeId} {x : AV} {y : Value} {r : AV × Prop} (e : aCap tt t x = some r) (hts : ts[0]? = some t) (hr : RV w ok ρ x y) :
    ∃ v, (Builtin.cap_ ts ty #[y]).run P w = .ok v w ∧ RV w ok ρ r.1 v := by
  unfold aCap at e
  split at e
  · rename_i i1 i2 i3 i4 el hti
    have hu := (hT _ _ hti).slice rfl
    injection e with e; subst e
    obtain ⟨rfl, _⟩ := hr
    exact ⟨.int .i64 0, by simp [Builtin.cap_, hts, run_underlying hu]; rfl, rfl, rfl⟩
  · cases e
theorem aAppMake_good (R : Rep c.base c.X c.nt used ρ tm h a w) (hfresh : ¬ used nid) (hu : ∀ id, used id → used' id) (hn : used' nid) (hd : ∀ t, o.dst = some t → t < c.nt) {tt : TT} (hT : TTok c.P tt) {t tx : TypeId} {s x : AV} {sv xv : Value} {hi : Hint} {r : Eff}
    (e : aAppMake tt t tx s x nid hi = some r) (hc : r.chk) (hs : RV w (okOf c.base w ρ h) ρ s sv) (hx : RV w (okOf c.base w ρ h) ρ x xv) {ty : TypeId} {res : Result Next}
    (hr : ∀ v w', (Builtin.append_ #[t, tx] ty #[sv, xv]).run c.P w = .ok v w' → res = .ok (.value v) w') : Good c used' tm h a o r.val r.W res := by
  unfold aAppMake at e
  split at e
  · rename_i el i1 i2 i3 i4 kn j1 j2 j3 j4 kq n hti htx
    have hu1 := (hT _ _ hti).slice rfl
    have hu2 := (hT _ _ htx).int rfl
    obtain ⟨rfl, _⟩ := hs
    obtain ⟨rfl, _⟩ := hx
    split at e
    · rename_i ie hie
      split at e
      · rename_i hs
        obtain ⟨s1, s2, s4⟩ := hs
        injection e with e
        subst e
        obtain ⟨⟨c1, c2, c3⟩, c5⟩ := hc
        obtain ⟨it, z, t1, t2, t3, t4, t5⟩ := (hT _ _ hie).info
        have hzs : z.cells.size = ie.size := by rw [← s2, ← t5]; simp
        obtain ⟨m, rfl⟩ := Int.eq_ofNat_of_zero_le (Int.le_of_lt c1)
        simp only [Int.toNat_natCast] at c5 ⊢
        have hb : (0 + m) * it.bytes ≤ 140737488355328 := by
          rw [t3, Nat.zero_add]
          have : m * ie.bytes ≤ 1099511627776 * 128 := Nat.mul_le_mul (by omega) c3
          omega
        have hm : 0 < m := by omega
        have hrun := Go.Lib.run_append_grow_zeros (P := c.P) w t tx ty el it z kq kn hu1 hu2 t1 t4 none 0 0 [] (run_firstCells_none w.drew it.size 0 0 0) m hm (by rw [t2]; exact s1) (by omega) (by omega) (by rw [Nat.zero_add] at hb; omega) (growslice_fits (by omega) hb)
        have hge := grownCap_ge w (0 + m) 0 el
        have hle := grownCap_le_maxLen w (0 + m) 0 el (by unfold maxLen; omega)
        have hres := hr _ _ hrun
        simp only [Nat.zero_add] at hge hle hres
        have U : Upd (fun _ => False) w (w.drew.alloc (.cells (([] : List Value).toArray ++ Builtin.zeroCells z.cells m ++ Builtin.zeroCells z.cells (grownCap w m 0 el - m)) el)) := ⟨rfl, rfl, rfl, by simp, fun b hb _ => heap_alloc_old w.drew _ hb⟩
        have hsize : (([] : List Value).toArray ++ Builtin.zeroCells z.cells m ++ Builtin.zeroCells z.cells (grownCap w m 0 el - m)).size = grownCap w m 0 el * ie.size := by
          simp only [Array.size_append, List.size_toArray, List.length_nil, zeroCells_size', hzs, Nat.zero_add, ← Nat.add_mul]
          congr 1; omega
        refine good_row R U hfresh hu hn hd c5 (fz := (0, 0)) (Nat.le_refl _) hge (heap_alloc_new w.drew _) hsize (fun _ => ⟨.inl (Nat.le_refl 0), hle⟩) (fun K i hi j hj => ?_) hres
        have hlt : i * ie.size + j < m * ie.size := by
          have : (i + 1) * ie.size ≤ m * ie.size := Nat.mul_le_mul_right _ (by omega)
          rw [Nat.add_mul] at this
          omega
        have hget : ie.zero.getD j undef = z.cells[j]! := by
          rw [← t5]; simp [List.getD, hzs, hj]
        have hmod : (i * ie.size + j) % ie.size = j := Nat.mul_add_mod_of_lt hj
        refine ⟨z.cells[j]!, ?_, ?_, ?_⟩
        · rw [Array.getElem?_append_left (by simp [zeroCells_size', hzs]; omega)]
          simp [Builtin.zeroCells, hzs, hlt, hmod]
        · exact hget.symm
        · rw [List.getD_eq_getElem?_getD, List.getElem?_eq_getElem (by omega)]
          exact List.all_eq_true.1 s4 _ (List.getElem_mem _)
      · cases e
    · cases e
  · cases e
theorem aBuiltin_good (R : Rep c.base c.X c.nt used ρ tm h a w) (hfresh : ¬ used nid) (hu : ∀ id, used id → used' id) (hn : used' nid) (hd : ∀ t, o.dst = some t → t < c.nt) {tt : TT} (hT : TTok c.P tt) {cl : Call} {b : Builtin} {hi : Hint} {r : Eff}
    (ho : o.op = .call cl) (hb : cl.callee = .builtin b) (e : aBuiltin tt tm h b cl.args.toList cl.argTypes.toList nid hi = some r) (hc : r.chk) : Good c used' tm h a o r.val r.W ((execOp a.eval o).run c.P w) := by
  have hex : execOp a.eval o = builtin b cl.argTypes o.type (cl.args.map fun | .const _ => true | _ => false) (cl.args.map a.eval) := by
    simp only [execOp, ho, resolve, hb]
    rfl
  unfold aBuiltin at e
  split at e
  · rename_i x hargs
    have hargs' : cl.args.map a.eval = #[a.eval x] := by apply Array.ext'; simp [hargs]
    split at e
    · rename_i xv hx
      split at e
      · rename_i t hts
        obtain ⟨p, hp, rfl⟩ := effV_some e
        have hts' : cl.argTypes[0]? = some t := by rw [← Array.getElem?_toList, hts]; rfl
        obtain ⟨v, v1, v2⟩ := aLen_run (P := c.P) (ty := o.type) (w := w) hT hp hts' (ev_ok R hx)
        exact good_value R hu hd v2 (by rw [hex, hargs']; simp [builtin, v1])
      · rename_i t hts
        obtain ⟨p, hp, rfl⟩ := effV_some e
        have hts' : cl.argTypes[0]? = some t := by rw [← Array.getElem?_toList, hts]; rfl
        obtain ⟨v, v1, v2⟩ := aCap_run (P := c.P) (ty := o.type) (w := w) hT hp hts' (ev_ok R hx)
        exact good_value R hu hd v2 (by rw [hex, hargs']; simp [builtin, v1])
      · cases e
    · cases e
  · rename_i x y hargs
    have hargs' : cl.args.map a.eval = #[a.eval x, a.eval y] := by apply Array.ext'; simp [hargs]
    split at e
    · rename_i xv yv hx hy
      split at e
      · rename_i t tx hts
        have hts' : cl.argTypes = #[t, tx] := by apply Array.ext'; simpa using hts
        split at e
        · rename_i q hq
          injection e with e
          subst e
          exact aAppMake_good R hfresh hu hn hd hT hq hc (ev_ok R hx) (ev_ok R hy) (ty := o.type) (fun v w' hrun => by rw [hex, hargs', hts']; simp [builtin, hrun])
        · exact aAppend_good R hfresh hu hn hd hT e hc (ev_ok R hx) (ev_ok R hy) (ty := o.type) (fun v w' hrun => by rw [hex, hargs', hts']; simp [builtin, hrun])
      · obtain ⟨p, hp, rfl⟩ := effV_some e
        unfold aMM at hp
        split at hp
        · rename_i k m k' n _
          injection hp with hp
          subst hp
          have h1 := ev_v R hx
          have h2 := ev_v R hy
          exact good_value R hu hd (v := .int k (if n < m then n else m)) (av := .c (.t (.v (.int k (if n < m then n else m))))) ⟨rfl, rfl⟩ (by rw [hex, hargs', h1, h2]; simp [builtin, run_min_int2])
        · rename_i hh; cases hh
        · cases hp
      · obtain ⟨p, hp, rfl⟩ := effV_some e
        unfold aMM at hp
        split at hp
        · rename_i hh; cases hh
        · rename_i k m k' n _
          injection hp with hp
          subst hp
          have h1 := ev_v R hx
          have h2 := ev_v R hy
          exact good_value R hu hd (v := .int k (if n > m then n else m)) (av := .c (.t (.v (.int k (if n > m then n else m))))) ⟨rfl, rfl⟩ (by rw [hex, hargs', h1, h2]; simp [builtin, run_max_int2])
        · cases hp
      · cases e
    · cases e
  · rename_i x y z l hargs
    have hargs' : cl.args.map a.eval = (a.eval x :: (y :: z :: l).map a.eval).toArray := by apply Array.ext'; simp [hargs]
    unfold aMany at e
    split at e
    · rename_i k m hx
      have h1 := ev_v R hx
      split at e
      · split at e
        · rename_i r hr
          injection e with e
          subst e
          refine good_value R hu hd (v := .int k r) (av := .c (.t (.v (.int k r)))) ⟨rfl, rfl⟩ ?_
          rw [hex, hargs', h1]
          simp only [builtin, Builtin.min_, Sem.run_bind]
          rw [mmOf_min R hr]; rfl
        · cases e
      · split at e
        · rename_i r hr
          injection e with e
          subst e
          refine good_value R hu hd (v := .int k r) (av := .c (.t (.v (.int k r)))) ⟨rfl, rfl⟩ ?_
          rw [hex, hargs', h1]
          simp only [builtin, Builtin.max_, Sem.run_bind]
          rw [mmOf_max R hr]; rfl
        · cases e
      · cases e
    · cases e
  · cases e
theorem toS1_ok {x : AV} {s : S1} {ok : Nat → Prop} {v : Value} (e : toS1 x = some s) (hr : RV w ok ρ x v) : RS w ok ρ s v := by
  cases x <;> simp only [toS1, Option.some.injEq, reduceCtorEq] at e <;> subst e <;> exact hr
theorem evSL_ok (R : Rep base X nt used ρ tm h a w) : ∀ {l : List Operand} {r : List S1}, evSL tm l = some r → All2 (RS w (okOf base w ρ h) ρ) r (l.map a.eval)
  | [], r, e => by simp only [evSL, Option.some.injEq] at e; subst e; trivial
  | x :: l, r, e => by
    simp only [evSL] at e
    split at e
    · rename_i v hv
      split at e
      · rename_i s r' hs hr
        injection e with e
        subst e
        exact ⟨toS1_ok hs (ev_ok R hv), evSL_ok R hr⟩
      · cases e
    · cases e
theorem aClo_good (R : Rep c.base c.X c.nt used ρ tm h a w) (hu : ∀ id, used id → used' id) (hd : ∀ t, o.dst = some t → t < c.nt) {f : FuncId} {first cap : Array Operand} {r : Eff} (ho : o.op = .makeFunc (.func f) first cap) (e : aClo tm f first.toList cap.toList = some r) :
    Good c used' tm h a o r.val r.W ((execOp a.eval o).run c.P w) := by
  unfold aClo at e
  split at e
  · rename_i fs cs h1 h2
    injection e with e
    subst e
    exact good_value R hu hd (v := .func (.func f) (first.map a.eval) (cap.map a.eval)) (av := .clo f fs cs) ⟨_, _, rfl, by simpa using evSL_ok R h1, by simpa using evSL_ok R h2⟩ (by simp [execOp, ho, Instr.makeFunc])
  · cases e
theorem aOp0_good (R : Rep c.base c.X c.nt used ρ tm h a w) (hfresh : ¬ used nid) (hu : ∀ id, used id → used' id) (hn : used' nid) (hd : ∀ t, o.dst = some t → t < c.nt) {tt : TT} (hT : TTok c.P tt) {hi : Hint} {r : Eff}
    (e : aOp0 tt tm h o nid hi = some r) (hc : r.chk) : Good c used' tm h a o r.val r.W ((execOp a.eval o).run c.P w) := by
  unfold aOp0 at e
  split at e
  case h_1 x ho =>
    split at e
    · rename_i v hv; injection e with e; subst e; exact good_value R hu hd (ev_ok R hv) (by simp [execOp, ho])
    · cases e
  case h_2 x ho =>
    split at e
    · rename_i v hv; injection e with e; subst e; exact good_value R hu hd (ev_ok R hv) (by simp [execOp, ho])
    · cases e
  case h_3 cc x y ho =>
    split at e
    · rename_i hcc
      split at e
      · rename_i v hv; injection e with e; subst e; exact good_value R hu hd (ev_ok R hv) (by simp [execOp, ho, ev_v R hcc, asBool])
      · cases e
    · rename_i hcc
      split at e
      · rename_i v hv; injection e with e; subst e; exact good_value R hu hd (ev_ok R hv) (by simp [execOp, ho, ev_v R hcc, asBool])
      · cases e
    · cases e
  case h_4 el ho => exact aAlloc_good R hfresh hu hn hd hT ho e hc
  case h_5 el x ho => exact aBoxOp_good R hfresh hu hn hd ho e hc
  case h_6 t parts ho =>
    obtain ⟨p, hp, rfl⟩ := effV_some e
    obtain ⟨v, v1, v2⟩ := aBuild_run hT hp R
    exact good_value R hu hd v2 (by simp only [execOp, ho, Sem.run_bind, v1]; rfl)
  case h_7 t len parts ho => exact aBuildSlice_good R hfresh hu hn hd hT ho e hc
  case h_8 t p ho =>
    split at e
    · rename_i pv hpv
      obtain ⟨q, hq, rfl⟩ := effV_some e
      obtain ⟨v, v1, v2⟩ := aLoad_run hT hq hc R (ev_ok R hpv)
      exact good_value R hu hd v2 (by simp [execOp, ho, v1])
    · cases e
  case h_9 t p x ho =>
    split at e
    · rename_i pv xv hp hx
      exact aStore_good R hu hd hT ho hp hx e hc
    · cases e
  case h_10 x ho =>
    split at e
    · rename_i id sz e0 sub hx
      injection e with e; subst e
      have hr := ev_ok R hx
      obtain ⟨b, cap, h1, h2⟩ := hr
      exact good_value R hu hd (ev_ok R hx) (by simp [execOp, ho, h2])
    · rename_i sz g sub hx
      injection e with e; subst e
      have hr := ev_ok R hx
      obtain ⟨b, o', h1, h2⟩ := hr
      exact good_value R hu hd (ev_ok R hx) (by simp [execOp, ho, h1])
    · cases e
  case h_11 op t x y yt ho =>
    split at e
    · rename_i xv yv hx hy
      split at e
      · rename_i hes
        obtain ⟨q, hq, rfl⟩ := effV_some e
        injection hq with hq
        subst hq
        obtain ⟨v, v1, v2⟩ := aEqS_run hT (x := x) (y := y) hes hc (ev_ok R hx) (ev_ok R hy)
        exact good_value R hu hd v2 (by
          have v1' := v1
          rw [Sem.run_bind] at v1'
          simp only [execOp, ho, Sem.run_bind]
          rw [v1']; rfl)
      · obtain ⟨q, hq, rfl⟩ := effV_some e
        obtain ⟨v, v1, v2⟩ := aBin_run hT (x := x) (y := y) hq hc _ _ (ev_ok R hx) (ev_ok R hy)
        exact good_value R hu hd v2 (by
          have v1' := v1
          rw [Sem.run_bind] at v1'
          simp only [execOp, ho, Sem.run_bind]
          rw [v1']; rfl)
    · cases e
  case h_12 op t x ho =>
    split at e
    · rename_i xv hx
      obtain ⟨q, hq, rfl⟩ := effV_some e
      obtain ⟨v, v1, v2⟩ := aUn_run (P := c.P) hq hc _ _ (ev_ok R hx)
      exact good_value R hu hd v2 (by simp [execOp, ho, v1])
    · cases e
  case h_13 src dst x ho =>
    split at e
    · rename_i xv ti hx hti
      split at e
      · rename_i r' hr'
        injection e with e
        subst e
        exact aConvB_good R hfresh hu hn hd hT ho hx hr' hc
      · obtain ⟨q, hq, rfl⟩ := effV_some e
        obtain ⟨d, hd', _⟩ := (hT _ _ hti).under
        obtain ⟨v, v1, v2⟩ := aConvV_run hT R hq hc (ev_ok R hx) ⟨d, hd'⟩
        exact good_value R hu hd v2 (by simp [execOp, ho, v1])
    · cases e
  case h_14 t l cp ho =>
    split at e
    · rename_i lv cv hl hcp
      exact aMake_good R hfresh hu hn hd hT ho hl hcp e hc
    · cases e
  case h_15 t x lo hi' mx ho =>
    split at e
    · split at e
      · rename_i xv lv hv hx hlo hhi
        obtain ⟨q, hq, rfl⟩ := effV_some e
        obtain ⟨l1, l2⟩ := evO_ok R hlo
        obtain ⟨h1, h2⟩ := evO_ok R hhi
        obtain ⟨v, v1, v2⟩ := aCut_run hT hq hc (ev_ok R hx) l1 l2 h1 h2
        exact good_value R hu hd v2 (by simp [execOp, ho, v1])
      · cases e
    · split at e
      · obtain ⟨q, hq, rfl⟩ := effV_some e
        obtain ⟨v, v1, v2⟩ := aCut3_run hT R hq hc
        exact good_value R hu hd v2 (by simp [execOp, ho, v1])
      · exact aCut0_good R hfresh hu hn hd hT ho e
  case h_16 s x f ho =>
    split at e
    · rename_i xv hx
      obtain ⟨q, hq, rfl⟩ := effV_some e
      obtain ⟨v, v1, v2⟩ := aFieldAddr_run hT hq (ev_ok R hx)
      exact good_value R hu hd v2 (by simp [execOp, ho, v1])
    · cases e
  case h_17 t x f ho =>
    split at e
    · rename_i xv hx
      obtain ⟨q, hq, rfl⟩ := effV_some e
      obtain ⟨v, v1, v2⟩ := aField_run hT hq (ev_ok R hx)
      exact good_value R hu hd v2 (by simp [execOp, ho, v1])
    · cases e
  case h_18 t x ix ho =>
    split at e
    · rename_i xv iv hx hix
      obtain ⟨q, hq, rfl⟩ := effV_some e
      obtain ⟨v, v1, v2⟩ := aIndexAddr_run hT hq hc (ev_ok R hx) (ev_ok R hix)
      exact good_value R hu hd v2 (by simp [execOp, ho, v1])
    · cases e
  case h_19 t x ix ho =>
    split at e
    · rename_i xv iv hx hix
      split at e
      · obtain ⟨q, hq, rfl⟩ := effV_some e
        obtain ⟨v, v1, v2⟩ := aIndexR_run hT hq hc (ev_ok R hx) (ev_ok R hix)
        exact good_value R hu hd v2 (by simp [execOp, ho, v1])
      · obtain ⟨q, hq, rfl⟩ := effV_some e
        obtain ⟨v, v1, v2⟩ := aIndex_run hT hq hc (ev_ok R hx) (ev_ok R hix)
        exact good_value R hu hd v2 (by simp [execOp, ho, v1])
    · cases e
  case h_20 x i ho =>
    split at e
    · rename_i xv hx
      obtain ⟨q, hq, rfl⟩ := effV_some e
      obtain ⟨v, v1, v2⟩ := aExtract_run (P := c.P) hq (ev_ok R hx)
      exact good_value R hu hd v2 (by simp [execOp, ho, v1])
    · cases e
  case h_21 cl ho =>
    split at e
    · rename_i b hb
      exact aBuiltin_good R hfresh hu hn hd hT ho hb e hc
    · cases e
  case h_22 f first cap ho => exact aClo_good R hu hd ho e
  case h_23 => cases e
/-! A row that is made is closed at once. -/
def frzEff : Option Eff → Option Eff
  | some ⟨some (.c (.ref id sz 0 n)), (k, some (.row ty false sz' m f)) :: W, chk⟩ => if id = k ∧ sz = sz' then some ⟨some (.c (.t (.tree n sz f))), (k, some (.row ty true sz' m f)) :: W, chk ∧ n ≤ m⟩ else none
  | _ => none
/-! A test that is read is told at once. -/
def isRd : Op → Bool
  | .load _ _ => true
  | .index _ _ _ => true
  | .field _ _ _ => true
  | _ => false
def boolEff (q : Bool) : Option Eff → Option Eff
  | some ⟨some (.c (.t (.v (.bool e)))), W, chk⟩ => some ⟨some (.c (.t (.v (.bool q)))), W, chk ∧ e = q⟩
  | _ => none
def telling (o : Oper) (hi : Hint) : Option Bool := match isRd o.op with
  | true => hi.b
  | false => none
def aOp1 (tt : TT) (tm : Tm) (h : Hp) (o : Oper) (nid : Nat) (hi : Hint) : Option Eff := match telling o hi with
  | some q => boolEff q (aOp0 tt tm h o nid hi)
  | none => aOp0 tt tm h o nid hi
theorem boolEff_some {b : Bool} {q : Option Eff} {r : Eff} (e : boolEff b q = some r) : ∃ x W chk, q = some ⟨some (.c (.t (.v (.bool x)))), W, chk⟩ ∧ r = ⟨some (.c (.t (.v (.bool b)))), W, chk ∧ x = b⟩ := by
  unfold boolEff at e
  split at e
  · injection e with e
    exact ⟨_, _, _, rfl, e.symm⟩
  · cases e
def aOp (tt : TT) (tm : Tm) (h : Hp) (o : Oper) (nid : Nat) (hi : Hint) : Option Eff := match hi.frz with
  | true => frzEff (aOp0 tt tm h o nid hi)
  | false => aOp1 tt tm h o nid hi
theorem frzEff_some {q : Option Eff} {r : Eff} (e : frzEff q = some r) : ∃ id sz n ty m f W chk, q = some ⟨some (.c (.ref id sz 0 n)), (id, some (.row ty false sz m f)) :: W, chk⟩ ∧ r = ⟨some (.c (.t (.tree n sz f))), (id, some (.row ty true sz m f)) :: W, chk ∧ n ≤ m⟩ := by
  unfold frzEff at e
  split at e
  · split at e
    · rename_i hc
      obtain ⟨rfl, rfl⟩ := hc
      injection e with e
      exact ⟨_, _, _, _, _, _, _, _, rfl, e.symm⟩
    · cases e
  · cases e
theorem Yields.mono {P : Program} {G G' : Value → World → Prop} (hG : ∀ v w, G v w → G' v w) : ∀ {r : Result Next}, Yields P G r → Yields P G' r := by
  intro r hr
  cases r with
  | ok x w =>
    cases x <;> simp only [Yields] at hr ⊢
    case value v => exact hG _ _ hr
    case skip => exact hG _ _ hr
    case enter f args => exact Calls.mono hr fun e w' ⟨v, e1, e2⟩ => ⟨v, e1, hG _ _ e2⟩
  | _ => exact hr.elim
theorem Rep.frzSlot {d : Option Tmp} {id sz n m : Nat} {ty : TypeId} {f : Nat → Nat → T} {W : List (Nat × Option Blk)} (hnm : n ≤ m) (R : Rep base X nt used ρ (setTm tm d (some (.c (.ref id sz 0 n)))) (setHp h ((id, some (.row ty false sz m f)) :: W)) a w) :
    Rep base X nt used ρ (setTm tm d (some (.c (.t (.tree n sz f))))) (setHp h ((id, some (.row ty true sz m f)) :: W)) a w := by
  have hid : setHp h ((id, some (.row ty false sz m f)) :: W) id = some (.row ty false sz m f) := by simp [setHp]
  have hid2 : setHp h ((id, some (.row ty true sz m f)) :: W) id = some (.row ty true sz m f) := by simp [setHp]
  have hother : ∀ k, k ≠ id → setHp h ((id, some (.row ty true sz m f)) :: W) k = setHp h ((id, some (.row ty false sz m f)) :: W) k := fun k hk => by simp [setHp, Ne.symm hk]
  have hex : ∀ k, (∃ x, setHp h ((id, some (.row ty true sz m f)) :: W) k = some x) → ∃ x, setHp h ((id, some (.row ty false sz m f)) :: W) k = some x := fun k ⟨x, hx⟩ => by
    by_cases e : k = id
    · subst e; exact ⟨_, hid⟩
    · rw [hother k e] at hx; exact ⟨x, hx⟩
  have hok : ∀ b, okOf base w ρ (setHp h ((id, some (.row ty false sz m f)) :: W)) b → okOf base w ρ (setHp h ((id, some (.row ty true sz m f)) :: W)) b := fun b ⟨o1, o2, o3⟩ => ⟨o1, o2, fun k blk cap h1 h2 h3 => by
    by_cases e : k = id
    · subst e; rw [hid2] at h1; injection h1 with h1; subst h1; cases h2
    · rw [hother k e] at h1; exact o3 k blk cap h1 h2 h3⟩
  refine ⟨fun t av ht => ?_, fun k blk hk => ?_, R.hX, fun i j b c1 c2 hi hj => R.inj i j b c1 c2 (hex i hi) (hex j hj), R.used, R.upd, R.ext0, R.size, R.defers⟩
  · by_cases e : some t = d
    · have h0 := R.tmp t (.c (.ref id sz 0 n)) (by simp only [setTm]; rw [if_pos e])
      simp only [setTm] at ht
      rw [if_pos e] at ht
      injection ht with ht
      subst ht
      obtain ⟨l, h1, h2⟩ := h0
      obtain ⟨l', m1, m2, m3⟩ := R.heap id _ hid
      rw [h1] at m1
      injection m1 with m1
      subst m1
      cases l with
      | nil => obtain ⟨_, rfl, q, e1⟩ := h2; rw [e1]; exact ⟨q, 0, rfl, Nat.le_refl _, fun i hi => by omega⟩
      | _ b cap =>
        rcases h2 with ⟨cc, e1, hlc, hle2⟩ | ⟨rfl, q, e1⟩
        · obtain ⟨_, vs, fz, v1, v2, _, v4⟩ := m2
          rw [e1]
          refine ⟨_, _, rfl, by omega, fun i hi j hj => ?_⟩
          obtain ⟨x, x1, x2⟩ := v4 i (by omega) j hj
          refine ⟨b, 0 * sz, x, rfl, ⟨(m3 b cap rfl).1, R.mid hid h1, fun id2 blk2 cap2 k1 k2 k3 => ?_⟩, ?_, RT.mono ⟨hok, fun _ _ => rfl⟩ _ _ x2⟩
          · by_cases e2 : id2 = id
            · subst e2; rw [hid2] at k1; injection k1 with k1; subst k1; cases k2
            · rw [hother id2 e2] at k1
              exact e2 (R.inj id2 id b cap2 cap ⟨_, k1⟩ ⟨_, hid⟩ k3 h1)
          · rw [cell_of_row w _ _ vs ty fz v1, ← x1]; congr 1; omega
        · rw [e1]; exact ⟨q, 0, rfl, Nat.le_refl _, fun i hi => by omega⟩
    · have h0 := R.tmp t av (by simp only [setTm] at ht ⊢; rw [if_neg e] at ht ⊢; exact ht)
      exact RV.mono ⟨hok, fun _ _ => rfl⟩ (Ext.rfl_ _) _ _ h0
  · by_cases e : k = id
    · subst e
      rw [hid2] at hk
      injection hk with hk
      subst hk
      obtain ⟨l, l1, l2, l3⟩ := R.heap k _ hid
      refine ⟨l, l1, ?_, l3⟩
      cases l with
      | nil => exact l2
      | _ b cap =>
        obtain ⟨v0, vs, fz, v1, v2, v3, v4⟩ := l2
        exact ⟨v0, vs, fz, v1, v2, (fun h => by cases h), fun i hi j hj => let ⟨x, x1, x2⟩ := v4 i hi j hj; ⟨x, x1, RT.mono ⟨hok, fun _ _ => rfl⟩ _ _ x2⟩⟩
    · rw [hother k e] at hk
      obtain ⟨l, l1, l2, l3⟩ := R.heap k blk hk
      exact ⟨l, l1, RB.mono ⟨hok, fun _ _ => rfl⟩ (Ext.rfl_ _) _ _ (fun _ _ _ => rfl) l2, l3⟩
theorem aOp_good (R : Rep c.base c.X c.nt used ρ tm h a w) (hfresh : ¬ used nid) (hu : ∀ id, used id → used' id) (hn : used' nid) (hd : ∀ t, o.dst = some t → t < c.nt) {tt : TT} (hT : TTok c.P tt) {hi : Hint} {r : Eff}
    (e : aOp tt tm h o nid hi = some r) (hc : r.chk) : Good c used' tm h a o r.val r.W ((execOp a.eval o).run c.P w) := by
  unfold aOp at e
  split at e
  · obtain ⟨id, sz, n, ty, m, f, W, chk, e1, rfl⟩ := frzEff_some e
    exact Yields.mono (fun v w' ⟨ρ', R'⟩ => ⟨ρ', Rep.frzSlot hc.2 R'⟩) (aOp0_good R hfresh hu hn hd hT e1 hc.1)
  · unfold aOp1 at e
    split at e
    · rename_i b _
      obtain ⟨x, W, chk, e1, rfl⟩ := boolEff_some e
      obtain ⟨h1, h2⟩ := hc
      subst h2
      have g := aOp0_good R hfresh hu hn hd hT e1 h1
      exact g
    · exact aOp0_good R hfresh hu hn hd hT e hc
/-! More that is known. -/
structure Le (tm tm' : Tm) (h h' : Hp) : Prop where
  tm : ∀ t v, tm t = some v → tm' t = some v
  hp : ∀ id b, h id = some b → h' id = some b
theorem ev_mono (L : Le tm tm' h h') {x : Operand} {v : AV} (e : ev tm x = some v) : ev tm' x = some v := by
  cases x with
  | tmp t => exact L.tm t v e
  | const v => exact e
  | func f => exact e
  | global g => exact e
theorem evO_mono (L : Le tm tm' h h') {x : Option Operand} {v : Option AV} (e : evO tm x = some v) : evO tm' x = some v := by
  cases x with
  | none => exact e
  | some x =>
    simp only [evO] at e ⊢
    split at e
    · rename_i v' hv; rw [ev_mono L hv]; exact e
    · cases e
theorem evParts_mono (L : Le tm tm' h h') : ∀ {l : List (Nat × Operand)} {r : List (Nat × List C)}, evParts tm l = some r → evParts tm' l = some r
  | [], r, e => e
  | (i, x) :: l, r, e => by
    simp only [evParts] at e ⊢
    split at e
    · rename_i av hav
      rw [ev_mono L hav]
      split at e
      · rename_i cs r' hcs hr
        simp only [hcs, evParts_mono L hr]; exact e
      · cases e
    · cases e
theorem rdCell_mono (L : Le tm tm' h h') {p : C} {j : Nat} {x : C} (e : rdCell h p j = some x) : rdCell h' p j = some x ∧ ∀ s, rdChk h' p s = rdChk h p s := by
  match p with
  | .ptr id sz e0 sub =>
    simp only [rdCell] at e ⊢
    cases hb : h id with
    | none => simp [hb] at e
    | some b =>
      rw [hb] at e
      rw [L.hp id b hb]
      exact ⟨e, fun s => by simp only [rdChk, hb, L.hp id b hb]⟩
  | .t (.eptr sz g sub) => exact ⟨e, fun s => rfl⟩
  | .t (.v _) => cases e
  | .t (.tree ..) => cases e
  | .t (.tst _) => cases e
  | .ref .. => cases e
theorem rdCells_mono (L : Le tm tm' h h') {p : C} : ∀ {s j : Nat} {l : List C}, rdCells h p j s = some l → rdCells h' p j s = some l
  | 0, j, l, e => e
  | s + 1, j, l, e => by
    simp only [rdCells] at e ⊢
    split at e
    · rename_i x hx
      rw [(rdCell_mono L hx).1]
      split at e
      · rename_i l' hl
        simp only [rdCells_mono L hl]; exact e
      · cases e
    · cases e
theorem aLoad_mono (L : Le tm tm' h h') {tt : TT} {t : TypeId} {p : AV} {r : AV × Prop} (e : aLoad tt t h p = some r) : aLoad tt t h' p = some r := by
  unfold aLoad at e ⊢
  split at e
  · rename_i p i hti
    split at e
    · rename_i hagg
      try simp only [hti, hagg]
      split at e
      · cases e
      · rename_i s hs
        split at e
        · rename_i l hl
          have hc := rdCells_get hl
          obtain ⟨c0, c1, _⟩ := hc.2 0 (by omega)
          simp only [rdCells_mono L hl]
          rw [← e, (rdCell_mono L c1).2]
        · cases e
    · rename_i hagg
      try simp only [hti, hagg]
      split at e
      · rename_i x hx
        obtain ⟨h1, h2⟩ := rdCell_mono L hx
        simp only [h1, h2]; exact e
      · cases e
  · cases e
theorem aSrc_mono (L : Le tm tm' h h') {sz : Nat} {x : AV} {r : Nat × (Nat → Nat → T) × Prop} (e : aSrc h sz x = some r) : aSrc h' sz x = some r := by
  unfold aSrc at e ⊢
  split at e
  · exact e
  · exact e
  · exact e
  · rename_i id sz' off m
    split at e
    · rename_i h1
      rw [if_pos h1]
      split at e
      · rename_i hid
        simp only [L.hp _ _ hid]; exact e
      · cases e
    · cases e
  · cases e
theorem aDst_mono (L : Le tm tm' h h') {el : TypeId} {sz : Nat} {x : AV} {r : Nat × (Nat → Nat → T) × Option Nat × Prop} (e : aDst h el sz x = some r) : aDst h' el sz x = some r := by
  unfold aDst at e ⊢
  split at e
  · exact e
  · rename_i id sz' off m
    split at e
    · rename_i h1
      rw [if_pos h1]
      split at e
      · rename_i hid
        simp only [L.hp _ _ hid]; exact e
      · cases e
    · cases e
  · cases e
theorem aAppend_mono (L : Le tm tm' h h') {tt : TT} {t tx : TypeId} {s x : AV} {hi : Hint} {r : Eff} (e : aAppend tt h t tx s x nid hi = some r) : aAppend tt h' t tx s x nid hi = some r := by
  unfold aAppend at e ⊢
  split at e
  · rename_i hti
    try simp only [hti]
    split at e
    · rename_i hie
      try simp only [hie]
      split at e
      · rename_i hc
        rw [if_pos hc]
        split at e
        · rename_i h1 h2
          simp only [aDst_mono L h1, aSrc_mono L h2]; exact e
        · cases e
      · cases e
    · cases e
  · cases e
theorem aStore_mono (L : Le tm tm' h h') {tt : TT} {t : TypeId} {p x : AV} {hi : Hint} {r : Eff} (e : aStore tt tm h t p x hi = some r) : aStore tt tm' h' t p x hi = some r := by
  unfold aStore at e ⊢
  split at e
  · rename_i i l hti hl
    try simp only [hti, hl]
    split at e
    · rename_i hls
      rw [if_pos hls]
      split at e
      · rename_i id sz e0 sub
        split at e
        · rename_i hid; simp only [L.hp _ _ hid]; exact e
        · rename_i hid; simp only [L.hp _ _ hid]; exact e
        · cases e
      · cases e
    · cases e
  · cases e
theorem aConvV_mono (L : Le tm tm' h h') {tt : TT} {src dst : TypeId} {x : AV} {hi : Hint} {r : AV × Prop} (e : aConvV tt dst h src x hi = some r) : aConvV tt dst h' src x hi = some r := by
  unfold aConvV at e ⊢
  split at e
  · rename_i hti; (try simp only [hti]); exact e
  · rename_i hti
    try simp only [hti]
    split at e
    · exact e
    · split at e
      · rename_i hsi
        try simp only [hsi]
        split at e
        · rename_i h1 h2 h3
          simp only [h1, h2, aSrc_mono L h3]; exact e
        · cases e
      · cases e
  · cases e
theorem aBuild_mono (L : Le tm tm' h h') {tt : TT} {t : TypeId} {l : List (Nat × Operand)} {r : AV × Prop} (e : aBuild tt tm t l = some r) : aBuild tt tm' t l = some r := by
  unfold aBuild at e ⊢
  split at e
  · rename_i h1 h2; simp only [h1, evParts_mono L h2]; exact e
  · cases e
theorem aBuildSlice_mono (L : Le tm tm' h h') {tt : TT} {t : TypeId} {len : Nat} {l : List (Nat × Operand)} {hi : Hint} {r : Eff} (e : aBuildSlice tt tm t len l nid hi = some r) : aBuildSlice tt tm' t len l nid hi = some r := by
  unfold aBuildSlice at e ⊢
  split at e
  · rename_i h1 h2; simp only [h1, evParts_mono L h2]; exact e
  · cases e
theorem aBoxOp_mono (L : Le tm tm' h h') {tt : TT} {el : TypeId} {x : Operand} {hi : Hint} {r : Eff} (e : aBoxOp tt tm el x nid hi = some r) : aBoxOp tt tm' el x nid hi = some r := by
  unfold aBoxOp at e ⊢
  split at e
  · rename_i h1; simp only [ev_mono L h1]; exact e
  · cases e
theorem mmOf_mono (L : Le tm tm' h h') {mx : Bool} : ∀ {l : List Operand} {m r : Int}, mmOf tm mx l m = some r → mmOf tm' mx l m = some r
  | [], m, r, e => e
  | x :: l, m, r, e => by
    simp only [mmOf] at e ⊢
    split at e
    · rename_i hx; simp only [ev_mono L hx]; exact mmOf_mono L e
    · cases e
theorem aMany_mono (L : Le tm tm' h h') {b : Builtin} {x : Operand} {l : List Operand} {r : Eff} (e : aMany tm b x l = some r) : aMany tm' b x l = some r := by
  unfold aMany at e ⊢
  split at e
  · rename_i hx
    simp only [ev_mono L hx]
    split at e
    · split at e
      · rename_i hr; simp only [mmOf_mono L hr]; exact e
      · cases e
    · split at e
      · rename_i hr; simp only [mmOf_mono L hr]; exact e
      · cases e
    · cases e
  · cases e
theorem aBuiltin_mono (L : Le tm tm' h h') {tt : TT} {b : Builtin} {args : List Operand} {ts : List TypeId} {hi : Hint} {r : Eff} (e : aBuiltin tt tm h b args ts nid hi = some r) : aBuiltin tt tm' h' b args ts nid hi = some r := by
  unfold aBuiltin at e ⊢
  split at e
  · split at e
    · rename_i h1; simp only [ev_mono L h1]; exact e
    · cases e
  · split at e
    · rename_i h1 h2
      simp only [ev_mono L h1, ev_mono L h2]
      split at e
      · split at e
        · exact e
        · exact aAppend_mono L e
      · exact e
      · exact e
      · cases e
    · cases e
  · exact aMany_mono L e
  · cases e
theorem aCut0_mono (L : Le tm tm' h h') {tt : TT} {t : TypeId} {x m : Operand} {lo hi : Option Operand} {hq : Hint} {r : Eff} (e : aCut0 tt tm t x lo hi m nid hq = some r) : aCut0 tt tm' t x lo hi m nid hq = some r := by
  unfold aCut0 at e ⊢
  split at e
  · split at e
    · rename_i h1 h2
      simp only [ev_mono L h1, ev_mono L h2]
      split at e
      · rename_i hti
        split at e
        · rename_i hie hx
          simp only [hie, ev_mono L hx]
          exact e
        · cases e
      · cases e
    · cases e
  · cases e
theorem aCut3_mono (L : Le tm tm' h h') {tt : TT} {t : TypeId} {x m lo hi : Operand} {r : AV × Prop} (e : aCut3 tt tm t x lo hi m = some r) : aCut3 tt tm' t x lo hi m = some r := by
  unfold aCut3 at e ⊢
  split at e
  · rename_i hti
    split at e
    · rename_i hie hx
      simp only [hie, ev_mono L hx]
      split at e
      · rename_i h1 h2 h3
        simp only [ev_mono L h1, ev_mono L h2, ev_mono L h3]
        exact e
      · cases e
    · cases e
  · cases e
theorem evSL_mono (L : Le tm tm' h h') : ∀ {l : List Operand} {r : List S1}, evSL tm l = some r → evSL tm' l = some r
  | [], r, e => e
  | x :: l, r, e => by
    simp only [evSL] at e ⊢
    split at e
    · rename_i v hv
      simp only [ev_mono L hv]
      split at e
      · rename_i h1 h2; simp only [h1, evSL_mono L h2]; exact e
      · cases e
    · cases e
theorem aClo_mono (L : Le tm tm' h h') {f : FuncId} {x y : List Operand} {r : Eff} (e : aClo tm f x y = some r) : aClo tm' f x y = some r := by
  unfold aClo at e ⊢
  split at e
  · rename_i h1 h2; simp only [evSL_mono L h1, evSL_mono L h2]; exact e
  · cases e
theorem aOp0_mono (L : Le tm tm' h h') {tt : TT} {hi : Hint} {r : Eff} (e : aOp0 tt tm h o nid hi = some r) : aOp0 tt tm' h' o nid hi = some r := by
  unfold aOp0 at e ⊢
  split at e
  case h_1 x ho =>
    split at e
    · rename_i h1; simp only [ev_mono L h1]; exact e
    · cases e
  case h_2 x ho =>
    split at e
    · rename_i h1; simp only [ev_mono L h1]; exact e
    · cases e
  case h_3 cc x y ho =>
    split at e
    · rename_i h1
      simp only [ev_mono L h1]
      split at e
      · rename_i h2; simp only [ev_mono L h2]; exact e
      · cases e
    · rename_i h1
      simp only [ev_mono L h1]
      split at e
      · rename_i h2; simp only [ev_mono L h2]; exact e
      · cases e
    · cases e
  case h_4 el ho => exact e
  case h_5 el x ho => exact aBoxOp_mono L e
  case h_6 t parts ho =>
    obtain ⟨p, hp, rfl⟩ := effV_some e
    rw [aBuild_mono L hp]; rfl
  case h_7 t len parts ho => exact aBuildSlice_mono L e
  case h_8 t p ho =>
    split at e
    · rename_i h1
      simp only [ev_mono L h1]
      obtain ⟨p, hp, rfl⟩ := effV_some e
      rw [aLoad_mono L hp]; rfl
    · cases e
  case h_9 t p x ho =>
    split at e
    · rename_i h1 h2; simp only [ev_mono L h1, ev_mono L h2]; exact aStore_mono L e
    · cases e
  case h_10 x ho =>
    split at e
    · rename_i h1; simp only [ev_mono L h1]; exact e
    · rename_i h1; simp only [ev_mono L h1]; exact e
    · cases e
  case h_11 op t x y yt ho =>
    split at e
    · rename_i h1 h2; simp only [ev_mono L h1, ev_mono L h2]; exact e
    · cases e
  case h_12 op t x ho =>
    split at e
    · rename_i h1; simp only [ev_mono L h1]; exact e
    · cases e
  case h_13 src dst x ho =>
    split at e
    · rename_i h1 h2
      simp only [ev_mono L h1, h2]
      split at e
      · exact e
      · obtain ⟨p, hp, rfl⟩ := effV_some e
        rw [aConvV_mono L hp]; rfl
    · cases e
  case h_14 t l cp ho =>
    split at e
    · rename_i h1 h2; simp only [ev_mono L h1, ev_mono L h2]; exact e
    · cases e
  case h_15 t x lo hi' mx ho =>
    split at e
    · split at e
      · rename_i h1 h2 h3; simp only [ev_mono L h1, evO_mono L h2, evO_mono L h3]; exact e
      · cases e
    · split at e
      · obtain ⟨q, hq, rfl⟩ := effV_some e
        rw [aCut3_mono L hq]; rfl
      · exact aCut0_mono L e
  case h_16 s x f ho =>
    split at e
    · rename_i h1; simp only [ev_mono L h1]; exact e
    · cases e
  case h_17 t x f ho =>
    split at e
    · rename_i h1; simp only [ev_mono L h1]; exact e
    · cases e
  case h_18 t x ix ho =>
    split at e
    · rename_i h1 h2; simp only [ev_mono L h1, ev_mono L h2]; exact e
    · cases e
  case h_19 t x ix ho =>
    split at e
    · rename_i h1 h2; simp only [ev_mono L h1, ev_mono L h2]; exact e
    · cases e
  case h_20 x i ho =>
    split at e
    · rename_i h1; simp only [ev_mono L h1]; exact e
    · cases e
  case h_21 cl ho =>
    split at e
    · exact aBuiltin_mono L e
    · cases e
  case h_22 f first cap ho => exact aClo_mono L e
  case h_23 => cases e
theorem aOp_mono (L : Le tm tm' h h') {tt : TT} {hi : Hint} {r : Eff} (e : aOp tt tm h o nid hi = some r) : aOp tt tm' h' o nid hi = some r := by
  unfold aOp at e ⊢
  split at e
  · obtain ⟨id, sz, n, ty, m, f, W, chk, e1, rfl⟩ := frzEff_some e
    rw [aOp0_mono L e1] at *
    rw [← e, e1]
  · unfold aOp1 at e ⊢
    split at e
    · obtain ⟨x, W, chk, e1, rfl⟩ := boolEff_some e
      rw [aOp0_mono L e1] at *
      rw [← e, e1]
    · exact aOp0_mono L e
end
end Vm
end Go.Proofs.Yteholdifeilkkaa
