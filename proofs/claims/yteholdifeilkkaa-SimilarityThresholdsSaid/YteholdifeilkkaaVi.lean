/- The abstract machine: one operation; more that is known changes nothing. -/
import Derived.Test.YteholdifeilkkaaVh
namespace Go.Proofs.Yteholdifeilkkaa
set_option linter.unusedVariables false
namespace Vm
def effV : Option (AV × Prop) → Option Eff
  | some r => some ⟨some r.1, [], r.2⟩
  | none => none
def evO (tm : Tm) : Option Operand → Option (Option AV)
  | none => some none
  | some x => match ev tm x with
    | some v => some (some v)
    | none => none
def isSl : AV → Bool
  | .c (.ref _ _ _ _) => true
  | .c (.t (.tree _ _ _)) => true
  | .c (.t (.v (.slice none 0 0))) => true
  | _ => false
def f0 (hn : Hint) : Nat → Nat → T := match hn.row with
  | some p => p.2
  | none => fun _ _ => .v undef
/-- A cut 'x[:0:0]': a row of the machine's own, without elements. -/
def aCut0 (tt : TT) (tm : Tm) (t : TypeId) (x : Operand) (lo hi : Option Operand) (m : Operand) (nid : Nat) (hn : Hint) : Option Eff :=
  match lo, hi with
  | none, some hh => match ev tm hh, ev tm m with
    | some (.c (.t (.v (.int .i64 0)))), some (.c (.t (.v (.int .i64 0)))) => match tt t with
      | some { k := .slice e, .. } => match tt e, ev tm x with
        | some ie, some xv => if isSl xv = true then some ⟨some (.c (.ref nid ie.size 0 0)), [(nid, some (.row e false ie.size 0 (f0 hn)))], True⟩ else none
        | _, _ => none
      | _ => none
    | _, _ => none
  | _, _ => none
def aBuiltin (tt : TT) (tm : Tm) (h : Hp) (b : Builtin) (args : List Operand) (ts : List TypeId) (nid : Nat) (hi : Hint) : Option Eff :=
  match args with
  | [x] => match ev tm x with
    | some xv => match b, ts with
      | .len, [t] => effV (aLen tt t xv)
      | _, _ => none
    | none => none
  | [x, y] => match ev tm x, ev tm y with
    | some xv, some yv => match b, ts with
      | .append, [t, tx] => aAppend tt h t tx xv yv nid hi
      | .min, _ => effV (aMM .min xv yv)
      | .max, _ => effV (aMM .max xv yv)
      | _, _ => none
    | _, _ => none
  | _ => none
def aOp (tt : TT) (tm : Tm) (h : Hp) (o : Oper) (nid : Nat) (hi : Hint) : Option Eff :=
  match o.op with
  | .move x => match ev tm x with
    | some v => some ⟨some v, [], True⟩
    | none => none
  | .assign x => match ev tm x with
    | some v => some ⟨some v, [], True⟩
    | none => none
  | .pick c a b => match ev tm c with
    | some (.c (.t (.v (.bool true)))) => match ev tm a with
      | some v => some ⟨some v, [], True⟩
      | none => none
    | some (.c (.t (.v (.bool false)))) => match ev tm b with
      | some v => some ⟨some v, [], True⟩
      | none => none
    | _ => none
  | .alloc el => aAlloc tt el nid hi
  | .box el x => aBoxOp tt tm el x nid hi
  | .build t parts => effV (aBuild tt tm t parts.toList)
  | .buildSlice t len parts => aBuildSlice tt tm t len parts.toList nid hi
  | .load t p => match ev tm p with
    | some pv => effV (aLoad tt t h pv)
    | none => none
  | .store t p x => match ev tm p, ev tm x with
    | some pv, some xv => aStore tt tm h t pv xv hi
    | _, _ => none
  | .nilCheck x => match ev tm x with
    | some (.c (.ptr id sz e sub)) => some ⟨some (.c (.ptr id sz e sub)), [], True⟩
    | some (.c (.t (.eptr sz g sub))) => some ⟨some (.c (.t (.eptr sz g sub))), [], True⟩
    | _ => none
  | .binOp op t x y _ => match ev tm x, ev tm y with
    | some xv, some yv => effV (aBin tt op t xv yv hi.b)
    | _, _ => none
  | .unOp op _ x => match ev tm x with
    | some xv => effV (aUn op xv hi.b)
    | none => none
  | .convert src dst x => match ev tm x, tt src with
    | some xv, some _ => match aConvB tt src dst xv nid hi with
      | some r => some r
      | none => effV (aConvV tt dst h src xv hi)
    | _, _ => none
  | .makeSlice t l cp => match ev tm l, ev tm cp with
    | some lv, some cv => aMake tt t lv cv nid hi
    | _, _ => none
  | .slice t x lo hi' mx => match mx with
    | none => match ev tm x, evO tm lo, evO tm hi' with
      | some xv, some lv, some hv => effV (aCut tt t xv lv hv)
      | _, _, _ => none
    | some m => aCut0 tt tm t x lo hi' m nid hi
  | .fieldAddr s x f => match ev tm x with
    | some xv => effV (aFieldAddr tt s xv f)
    | none => none
  | .field t x f => match ev tm x with
    | some xv => effV (aField tt t xv f)
    | none => none
  | .indexAddr t x ix => match ev tm x, ev tm ix with
    | some xv, some iv => effV (aIndexAddr tt t xv iv)
    | _, _ => none
  | .index t x ix => match ev tm x, ev tm ix with
    | some xv, some iv => match hi.row with
      | some q => effV (aIndexR tt t xv iv q)
      | none => effV (aIndex tt t xv iv)
    | _, _ => none
  | .extract x i => match ev tm x with
    | some xv => effV (aExtract xv i)
    | none => none
  | .call cl => match cl.callee with
    | .builtin b => aBuiltin tt tm h b cl.args.toList cl.argTypes.toList nid hi
    | _ => none
  | _ => none
section
variable {c : Cx} {used used' : Nat → Prop} {ρ ρ' : Ren} {tm tm' : Tm} {h h' : Hp} {a : Act} {w w' : World} {base : Base} {X Y : Nat → Prop} {nt : Nat} {ok : Nat → Prop} {o : Oper} {nid : Nat}
theorem effV_some {q : Option (AV × Prop)} {r : Eff} (e : effV q = some r) : ∃ p, q = some p ∧ r = ⟨some p.1, [], p.2⟩ := by
  cases q with
  | none => cases e
  | some p => simp only [effV, Option.some.injEq] at e; exact ⟨p, rfl, e.symm⟩
theorem evO_ok (R : Rep base X nt used ρ tm h a w) {x : Option Operand} {r : Option AV} (e : evO tm x = some r) : (∀ av, r = some av → ∃ v, x.map a.eval = some v ∧ RV w (okOf base w ρ h) ρ av v) ∧ (r = none → x.map a.eval = none) := by
  cases x with
  | none => simp only [evO, Option.some.injEq] at e; subst e; exact ⟨(fun av h => by cases h), fun _ => rfl⟩
  | some x =>
    simp only [evO] at e
    split at e
    · rename_i v hv
      injection e with e
      subst e
      exact ⟨fun av h => by injection h with h; subst h; exact ⟨_, rfl, ev_ok R hv⟩, (fun h => by cases h)⟩
    · cases e
theorem isSl_val {ok : Nat → Prop} {xv : AV} {y : Value} (h : isSl xv = true) (hx : RV w ok ρ xv y) : ∃ q n cp, y = .slice q n cp := by
  unfold isSl at h
  split at h
  · obtain ⟨l, _, l2⟩ := hx
    cases l with
    | nil => obtain ⟨_, _, q, rfl⟩ := l2; exact ⟨_, _, _, rfl⟩
    | _ b cap =>
      rcases l2 with ⟨rfl, _⟩ | ⟨_, q, rfl⟩
      · exact ⟨_, _, _, rfl⟩
      · exact ⟨_, _, _, rfl⟩
  · obtain ⟨q, cp, rfl, _⟩ := hx
    exact ⟨_, _, _, rfl⟩
  · obtain ⟨rfl, _⟩ := hx
    exact ⟨_, _, _, rfl⟩
  · cases h
theorem aCut0_good (R : Rep c.base c.X c.nt used ρ tm h a w) (hfresh : ¬ used nid) (hu : ∀ id, used id → used' id) (hn : used' nid) (hd : ∀ t, o.dst = some t → t < c.nt) {tt : TT} (hT : TTok c.P tt) {t : TypeId} {x m : Operand} {lo hi : Option Operand} {hq : Hint} {r : Eff}
    (ho : o.op = .slice t x lo hi (some m)) (e : aCut0 tt tm t x lo hi m nid hq = some r) : Good c used' tm h a o r.val r.W ((execOp a.eval o).run c.P w) := by
  unfold aCut0 at e
  split at e
  · rename_i hh
    split at e
    · rename_i h1 h2
      split at e
      · rename_i el i1 i2 i3 hti
        split at e
        · rename_i ie xv hie hx
          split at e
          · rename_i hs
            injection e with e
            subst e
            have hus := (hT _ _ hti).slice rfl
            have hsz := (hT _ _ hie).size w
            obtain ⟨q, n, cp, hy⟩ := isSl_val hs (ev_ok R hx)
            have v1 := ev_v R h1
            have v2 := ev_v R h2
            have b1 := run_sliceBound (P := c.P) w .i64 0 cp .slice3Acap (by decide) (by omega)
            have b2 := run_sliceBound (P := c.P) w .i64 0 0 .slice3B (by decide) (by omega)
            have hrun : (execOp a.eval o).run c.P w = .ok (.value (.slice (if (0:Int).toNat = 0 then q else q.map (·.add (0 * ie.size))) 0 0)) w := by
              simp [execOp, ho, Instr.sliceAt, Instr.slice, Instr.sliceBounds, hy, v1, v2, run_underlying hus, hsz, b1, b2]
            rw [hrun]
            refine ⟨ρ.set nid .nil, R.add (Upd.refl _ _) hfresh hu hn (blk := .row el false ie.size 0 (f0 hq)) (l := .nil) (fun b cap e => by cases e) (fun _ => rfl) _ hd _ _ (fun _ x hx => ?_)⟩
            injection hx with hx
            subst hx
            exact ⟨.nil, by simp [Ren.set], rfl, rfl, _, rfl⟩
          · cases e
        · cases e
      · cases e
    · cases e
  · cases e
theorem aBuiltin_good (R : Rep c.base c.X c.nt used ρ tm h a w) (hfresh : ¬ used nid) (hu : ∀ id, used id → used' id) (hn : used' nid) (hd : ∀ t, o.dst = some t → t < c.nt) {tt : TT} (hT : TTok c.P tt) {cl : Call} {b : Builtin} {hi : Hint} {r : Eff}
    (ho : o.op = .call cl) (hb : cl.callee = .builtin b) (e : aBuiltin tt tm h b cl.args.toList cl.argTypes.toList nid hi = some r) (hc : r.chk) : Good c used' tm h a o r.val r.W ((execOp a.eval o).run c.P w) := by
  have hex : execOp a.eval o = builtin b cl.argTypes o.type (cl.args.map fun | .const _ => true | _ => false) (cl.args.map a.eval) := by
    simp only [execOp, ho, resolve, hb]
    rfl
  unfold aBuiltin at e
  split at e
  · rename_i x hargs
    have hargs' : cl.args.map a.eval = #[a.eval x] := by apply Array.ext'; simp [hargs]
    split at e
    · rename_i xv hx
      split at e
      · rename_i t hts
        obtain ⟨p, hp, rfl⟩ := effV_some e
        have hts' : cl.argTypes[0]? = some t := by rw [← Array.getElem?_toList, hts]; rfl
        obtain ⟨v, v1, v2⟩ := aLen_run (P := c.P) (ty := o.type) (w := w) hT hp hts' (ev_ok R hx)
        exact good_value R hu hd v2 (by rw [hex, hargs']; simp [builtin, v1])
      · cases e
    · cases e
  · rename_i x y hargs
    have hargs' : cl.args.map a.eval = #[a.eval x, a.eval y] := by apply Array.ext'; simp [hargs]
    split at e
    · rename_i xv yv hx hy
      split at e
      · rename_i t tx hts
        have hts' : cl.argTypes = #[t, tx] := by apply Array.ext'; simpa using hts
        exact aAppend_good R hfresh hu hn hd hT e hc (ev_ok R hx) (ev_ok R hy) (ty := o.type) (fun v w' hrun => by rw [hex, hargs', hts']; simp [builtin, hrun])
      · obtain ⟨p, hp, rfl⟩ := effV_some e
        unfold aMM at hp
        split at hp
        · rename_i k m k' n _
          injection hp with hp
          subst hp
          have h1 := ev_v R hx
          have h2 := ev_v R hy
          exact good_value R hu hd (v := .int k (if n < m then n else m)) (av := .c (.t (.v (.int k (if n < m then n else m))))) ⟨rfl, rfl⟩ (by rw [hex, hargs', h1, h2]; simp [builtin, run_min_int2])
        · rename_i hh; cases hh
        · cases hp
      · obtain ⟨p, hp, rfl⟩ := effV_some e
        unfold aMM at hp
        split at hp
        · rename_i hh; cases hh
        · rename_i k m k' n _
          injection hp with hp
          subst hp
          have h1 := ev_v R hx
          have h2 := ev_v R hy
          exact good_value R hu hd (v := .int k (if n > m then n else m)) (av := .c (.t (.v (.int k (if n > m then n else m))))) ⟨rfl, rfl⟩ (by rw [hex, hargs', h1, h2]; simp [builtin, run_max_int2])
        · cases hp
      · cases e
    · cases e
  · cases e
theorem aOp_good (R : Rep c.base c.X c.nt used ρ tm h a w) (hfresh : ¬ used nid) (hu : ∀ id, used id → used' id) (hn : used' nid) (hd : ∀ t, o.dst = some t → t < c.nt) {tt : TT} (hT : TTok c.P tt) {hi : Hint} {r : Eff}
    (e : aOp tt tm h o nid hi = some r) (hc : r.chk) : Good c used' tm h a o r.val r.W ((execOp a.eval o).run c.P w) := by
  unfold aOp at e
  split at e
  case h_1 x ho =>
    split at e
    · rename_i v hv; injection e with e; subst e; exact good_value R hu hd (ev_ok R hv) (by simp [execOp, ho])
    · cases e
  case h_2 x ho =>
    split at e
    · rename_i v hv; injection e with e; subst e; exact good_value R hu hd (ev_ok R hv) (by simp [execOp, ho])
    · cases e
  case h_3 cc x y ho =>
    split at e
    · rename_i hcc
      split at e
      · rename_i v hv; injection e with e; subst e; exact good_value R hu hd (ev_ok R hv) (by simp [execOp, ho, ev_v R hcc, asBool])
      · cases e
    · rename_i hcc
      split at e
      · rename_i v hv; injection e with e; subst e; exact good_value R hu hd (ev_ok R hv) (by simp [execOp, ho, ev_v R hcc, asBool])
      · cases e
    · cases e
  case h_4 el ho => exact aAlloc_good R hfresh hu hn hd hT ho e hc
  case h_5 el x ho => exact aBoxOp_good R hfresh hu hn hd ho e hc
  case h_6 t parts ho =>
    obtain ⟨p, hp, rfl⟩ := effV_some e
    obtain ⟨v, v1, v2⟩ := aBuild_run hT hp R
    exact good_value R hu hd v2 (by simp only [execOp, ho, Sem.run_bind, v1]; rfl)
  case h_7 t len parts ho => exact aBuildSlice_good R hfresh hu hn hd hT ho e hc
  case h_8 t p ho =>
    split at e
    · rename_i pv hpv
      obtain ⟨q, hq, rfl⟩ := effV_some e
      obtain ⟨v, v1, v2⟩ := aLoad_run hT hq hc R (ev_ok R hpv)
      exact good_value R hu hd v2 (by simp [execOp, ho, v1])
    · cases e
  case h_9 t p x ho =>
    split at e
    · rename_i pv xv hp hx
      exact aStore_good R hu hd hT ho hp hx e hc
    · cases e
  case h_10 x ho =>
    split at e
    · rename_i id sz e0 sub hx
      injection e with e; subst e
      have hr := ev_ok R hx
      obtain ⟨b, cap, h1, h2⟩ := hr
      exact good_value R hu hd (ev_ok R hx) (by simp [execOp, ho, h2])
    · rename_i sz g sub hx
      injection e with e; subst e
      have hr := ev_ok R hx
      obtain ⟨b, o', h1, h2⟩ := hr
      exact good_value R hu hd (ev_ok R hx) (by simp [execOp, ho, h1])
    · cases e
  case h_11 op t x y yt ho =>
    split at e
    · rename_i xv yv hx hy
      obtain ⟨q, hq, rfl⟩ := effV_some e
      obtain ⟨v, v1, v2⟩ := aBin_run hT (x := x) (y := y) hq hc _ _ (ev_ok R hx) (ev_ok R hy)
      exact good_value R hu hd v2 (by
        have v1' := v1
        rw [Sem.run_bind] at v1'
        simp only [execOp, ho, Sem.run_bind]
        rw [v1']; rfl)
    · cases e
  case h_12 op t x ho =>
    split at e
    · rename_i xv hx
      obtain ⟨q, hq, rfl⟩ := effV_some e
      obtain ⟨v, v1, v2⟩ := aUn_run (P := c.P) hq hc _ _ (ev_ok R hx)
      exact good_value R hu hd v2 (by simp [execOp, ho, v1])
    · cases e
  case h_13 src dst x ho =>
    split at e
    · rename_i xv ti hx hti
      split at e
      · rename_i r' hr'
        injection e with e
        subst e
        exact aConvB_good R hfresh hu hn hd hT ho hx hr' hc
      · obtain ⟨q, hq, rfl⟩ := effV_some e
        obtain ⟨d, hd', _⟩ := (hT _ _ hti).under
        obtain ⟨v, v1, v2⟩ := aConvV_run hT R hq hc (ev_ok R hx) ⟨d, hd'⟩
        exact good_value R hu hd v2 (by simp [execOp, ho, v1])
    · cases e
  case h_14 t l cp ho =>
    split at e
    · rename_i lv cv hl hcp
      exact aMake_good R hfresh hu hn hd hT ho hl hcp e hc
    · cases e
  case h_15 t x lo hi' mx ho =>
    split at e
    · split at e
      · rename_i xv lv hv hx hlo hhi
        obtain ⟨q, hq, rfl⟩ := effV_some e
        obtain ⟨l1, l2⟩ := evO_ok R hlo
        obtain ⟨h1, h2⟩ := evO_ok R hhi
        obtain ⟨v, v1, v2⟩ := aCut_run hT hq hc (ev_ok R hx) l1 l2 h1 h2
        exact good_value R hu hd v2 (by simp [execOp, ho, v1])
      · cases e
    · exact aCut0_good R hfresh hu hn hd hT ho e
  case h_16 s x f ho =>
    split at e
    · rename_i xv hx
      obtain ⟨q, hq, rfl⟩ := effV_some e
      obtain ⟨v, v1, v2⟩ := aFieldAddr_run hT hq (ev_ok R hx)
      exact good_value R hu hd v2 (by simp [execOp, ho, v1])
    · cases e
  case h_17 t x f ho =>
    split at e
    · rename_i xv hx
      obtain ⟨q, hq, rfl⟩ := effV_some e
      obtain ⟨v, v1, v2⟩ := aField_run hT hq (ev_ok R hx)
      exact good_value R hu hd v2 (by simp [execOp, ho, v1])
    · cases e
  case h_18 t x ix ho =>
    split at e
    · rename_i xv iv hx hix
      obtain ⟨q, hq, rfl⟩ := effV_some e
      obtain ⟨v, v1, v2⟩ := aIndexAddr_run hT hq hc (ev_ok R hx) (ev_ok R hix)
      exact good_value R hu hd v2 (by simp [execOp, ho, v1])
    · cases e
  case h_19 t x ix ho =>
    split at e
    · rename_i xv iv hx hix
      split at e
      · obtain ⟨q, hq, rfl⟩ := effV_some e
        obtain ⟨v, v1, v2⟩ := aIndexR_run hT hq hc (ev_ok R hx) (ev_ok R hix)
        exact good_value R hu hd v2 (by simp [execOp, ho, v1])
      · obtain ⟨q, hq, rfl⟩ := effV_some e
        obtain ⟨v, v1, v2⟩ := aIndex_run hT hq hc (ev_ok R hx) (ev_ok R hix)
        exact good_value R hu hd v2 (by simp [execOp, ho, v1])
    · cases e
  case h_20 x i ho =>
    split at e
    · rename_i xv hx
      obtain ⟨q, hq, rfl⟩ := effV_some e
      obtain ⟨v, v1, v2⟩ := aExtract_run (P := c.P) hq (ev_ok R hx)
      exact good_value R hu hd v2 (by simp [execOp, ho, v1])
    · cases e
  case h_21 cl ho =>
    split at e
    · rename_i b hb
      exact aBuiltin_good R hfresh hu hn hd hT ho hb e hc
    · cases e
  case h_22 => cases e
/-! More that is known. -/
structure Le (tm tm' : Tm) (h h' : Hp) : Prop where
  tm : ∀ t v, tm t = some v → tm' t = some v
  hp : ∀ id b, h id = some b → h' id = some b
theorem ev_mono (L : Le tm tm' h h') {x : Operand} {v : AV} (e : ev tm x = some v) : ev tm' x = some v := by
  cases x with
  | tmp t => exact L.tm t v e
  | const v => exact e
  | func f => exact e
  | global g => exact e
theorem evO_mono (L : Le tm tm' h h') {x : Option Operand} {v : Option AV} (e : evO tm x = some v) : evO tm' x = some v := by
  cases x with
  | none => exact e
  | some x =>
    simp only [evO] at e ⊢
    split at e
    · rename_i v' hv; rw [ev_mono L hv]; exact e
    · cases e
theorem evParts_mono (L : Le tm tm' h h') : ∀ {l : List (Nat × Operand)} {r : List (Nat × List C)}, evParts tm l = some r → evParts tm' l = some r
  | [], r, e => e
  | (i, x) :: l, r, e => by
    simp only [evParts] at e ⊢
    split at e
    · rename_i av hav
      rw [ev_mono L hav]
      split at e
      · rename_i cs r' hcs hr
        simp only [hcs, evParts_mono L hr]; exact e
      · cases e
    · cases e
theorem rdCell_mono (L : Le tm tm' h h') {p : C} {j : Nat} {x : C} (e : rdCell h p j = some x) : rdCell h' p j = some x ∧ ∀ s, rdChk h' p s = rdChk h p s := by
  match p with
  | .ptr id sz e0 sub =>
    simp only [rdCell] at e ⊢
    cases hb : h id with
    | none => simp [hb] at e
    | some b =>
      rw [hb] at e
      rw [L.hp id b hb]
      exact ⟨e, fun s => by simp only [rdChk, hb, L.hp id b hb]⟩
  | .t (.eptr sz g sub) => exact ⟨e, fun s => rfl⟩
  | .t (.v _) => cases e
  | .t (.tree ..) => cases e
  | .t (.tst _) => cases e
  | .ref .. => cases e
theorem rdCells_mono (L : Le tm tm' h h') {p : C} : ∀ {s j : Nat} {l : List C}, rdCells h p j s = some l → rdCells h' p j s = some l
  | 0, j, l, e => e
  | s + 1, j, l, e => by
    simp only [rdCells] at e ⊢
    split at e
    · rename_i x hx
      rw [(rdCell_mono L hx).1]
      split at e
      · rename_i l' hl
        simp only [rdCells_mono L hl]; exact e
      · cases e
    · cases e
theorem aLoad_mono (L : Le tm tm' h h') {tt : TT} {t : TypeId} {p : AV} {r : AV × Prop} (e : aLoad tt t h p = some r) : aLoad tt t h' p = some r := by
  unfold aLoad at e ⊢
  split at e
  · rename_i p i hti
    split at e
    · rename_i hagg
      try simp only [hti, hagg]
      split at e
      · cases e
      · rename_i s hs
        split at e
        · rename_i l hl
          have hc := rdCells_get hl
          obtain ⟨c0, c1, _⟩ := hc.2 0 (by omega)
          simp only [rdCells_mono L hl]
          rw [← e, (rdCell_mono L c1).2]
        · cases e
    · rename_i hagg
      try simp only [hti, hagg]
      split at e
      · rename_i x hx
        obtain ⟨h1, h2⟩ := rdCell_mono L hx
        simp only [h1, h2]; exact e
      · cases e
  · cases e
theorem aSrc_mono (L : Le tm tm' h h') {sz : Nat} {x : AV} {r : Nat × (Nat → Nat → T) × Prop} (e : aSrc h sz x = some r) : aSrc h' sz x = some r := by
  unfold aSrc at e ⊢
  split at e
  · exact e
  · exact e
  · exact e
  · rename_i id sz' off m
    split at e
    · rename_i h1
      rw [if_pos h1]
      split at e
      · rename_i hid
        simp only [L.hp _ _ hid]; exact e
      · cases e
    · cases e
  · cases e
theorem aDst_mono (L : Le tm tm' h h') {el : TypeId} {sz : Nat} {x : AV} {r : Nat × (Nat → Nat → T) × Option Nat × Prop} (e : aDst h el sz x = some r) : aDst h' el sz x = some r := by
  unfold aDst at e ⊢
  split at e
  · exact e
  · rename_i id sz' off m
    split at e
    · rename_i h1
      rw [if_pos h1]
      split at e
      · rename_i hid
        simp only [L.hp _ _ hid]; exact e
      · cases e
    · cases e
  · cases e
theorem aAppend_mono (L : Le tm tm' h h') {tt : TT} {t tx : TypeId} {s x : AV} {hi : Hint} {r : Eff} (e : aAppend tt h t tx s x nid hi = some r) : aAppend tt h' t tx s x nid hi = some r := by
  unfold aAppend at e ⊢
  split at e
  · rename_i hti
    try simp only [hti]
    split at e
    · rename_i hie
      try simp only [hie]
      split at e
      · rename_i hc
        rw [if_pos hc]
        split at e
        · rename_i h1 h2
          simp only [aDst_mono L h1, aSrc_mono L h2]; exact e
        · cases e
      · cases e
    · cases e
  · cases e
theorem aStore_mono (L : Le tm tm' h h') {tt : TT} {t : TypeId} {p x : AV} {hi : Hint} {r : Eff} (e : aStore tt tm h t p x hi = some r) : aStore tt tm' h' t p x hi = some r := by
  unfold aStore at e ⊢
  split at e
  · rename_i i l hti hl
    try simp only [hti, hl]
    split at e
    · rename_i hls
      rw [if_pos hls]
      split at e
      · rename_i id sz e0 sub
        split at e
        · rename_i hid; simp only [L.hp _ _ hid]; exact e
        · rename_i hid; simp only [L.hp _ _ hid]; exact e
        · cases e
      · cases e
    · cases e
  · cases e
theorem aConvV_mono (L : Le tm tm' h h') {tt : TT} {src dst : TypeId} {x : AV} {hi : Hint} {r : AV × Prop} (e : aConvV tt dst h src x hi = some r) : aConvV tt dst h' src x hi = some r := by
  unfold aConvV at e ⊢
  split at e
  · rename_i hti; (try simp only [hti]); exact e
  · rename_i hti
    try simp only [hti]
    split at e
    · exact e
    · split at e
      · rename_i hsi
        try simp only [hsi]
        split at e
        · rename_i h1 h2 h3
          simp only [h1, h2, aSrc_mono L h3]; exact e
        · cases e
      · cases e
  · cases e
theorem aBuild_mono (L : Le tm tm' h h') {tt : TT} {t : TypeId} {l : List (Nat × Operand)} {r : AV × Prop} (e : aBuild tt tm t l = some r) : aBuild tt tm' t l = some r := by
  unfold aBuild at e ⊢
  split at e
  · rename_i h1 h2; simp only [h1, evParts_mono L h2]; exact e
  · cases e
theorem aBuildSlice_mono (L : Le tm tm' h h') {tt : TT} {t : TypeId} {len : Nat} {l : List (Nat × Operand)} {hi : Hint} {r : Eff} (e : aBuildSlice tt tm t len l nid hi = some r) : aBuildSlice tt tm' t len l nid hi = some r := by
  unfold aBuildSlice at e ⊢
  split at e
  · rename_i h1 h2; simp only [h1, evParts_mono L h2]; exact e
  · cases e
theorem aBoxOp_mono (L : Le tm tm' h h') {tt : TT} {el : TypeId} {x : Operand} {hi : Hint} {r : Eff} (e : aBoxOp tt tm el x nid hi = some r) : aBoxOp tt tm' el x nid hi = some r := by
  unfold aBoxOp at e ⊢
  split at e
  · rename_i h1; simp only [ev_mono L h1]; exact e
  · cases e
theorem aBuiltin_mono (L : Le tm tm' h h') {tt : TT} {b : Builtin} {args : List Operand} {ts : List TypeId} {hi : Hint} {r : Eff} (e : aBuiltin tt tm h b args ts nid hi = some r) : aBuiltin tt tm' h' b args ts nid hi = some r := by
  unfold aBuiltin at e ⊢
  split at e
  · split at e
    · rename_i h1; simp only [ev_mono L h1]; exact e
    · cases e
  · split at e
    · rename_i h1 h2
      simp only [ev_mono L h1, ev_mono L h2]
      split at e
      · exact aAppend_mono L e
      · exact e
      · exact e
      · cases e
    · cases e
  · cases e
theorem aCut0_mono (L : Le tm tm' h h') {tt : TT} {t : TypeId} {x m : Operand} {lo hi : Option Operand} {hq : Hint} {r : Eff} (e : aCut0 tt tm t x lo hi m nid hq = some r) : aCut0 tt tm' t x lo hi m nid hq = some r := by
  unfold aCut0 at e ⊢
  split at e
  · split at e
    · rename_i h1 h2
      simp only [ev_mono L h1, ev_mono L h2]
      split at e
      · rename_i hti
        split at e
        · rename_i hie hx
          simp only [hie, ev_mono L hx]
          exact e
        · cases e
      · cases e
    · cases e
  · cases e
theorem aOp_mono (L : Le tm tm' h h') {tt : TT} {hi : Hint} {r : Eff} (e : aOp tt tm h o nid hi = some r) : aOp tt tm' h' o nid hi = some r := by
  unfold aOp at e ⊢
  split at e
  case h_1 x ho =>
    split at e
    · rename_i h1; simp only [ev_mono L h1]; exact e
    · cases e
  case h_2 x ho =>
    split at e
    · rename_i h1; simp only [ev_mono L h1]; exact e
    · cases e
  case h_3 cc x y ho =>
    split at e
    · rename_i h1
      simp only [ev_mono L h1]
      split at e
      · rename_i h2; simp only [ev_mono L h2]; exact e
      · cases e
    · rename_i h1
      simp only [ev_mono L h1]
      split at e
      · rename_i h2; simp only [ev_mono L h2]; exact e
      · cases e
    · cases e
  case h_4 el ho => exact e
  case h_5 el x ho => exact aBoxOp_mono L e
  case h_6 t parts ho =>
    obtain ⟨p, hp, rfl⟩ := effV_some e
    rw [aBuild_mono L hp]; rfl
  case h_7 t len parts ho => exact aBuildSlice_mono L e
  case h_8 t p ho =>
    split at e
    · rename_i h1
      simp only [ev_mono L h1]
      obtain ⟨p, hp, rfl⟩ := effV_some e
      rw [aLoad_mono L hp]; rfl
    · cases e
  case h_9 t p x ho =>
    split at e
    · rename_i h1 h2; simp only [ev_mono L h1, ev_mono L h2]; exact aStore_mono L e
    · cases e
  case h_10 x ho =>
    split at e
    · rename_i h1; simp only [ev_mono L h1]; exact e
    · rename_i h1; simp only [ev_mono L h1]; exact e
    · cases e
  case h_11 op t x y yt ho =>
    split at e
    · rename_i h1 h2; simp only [ev_mono L h1, ev_mono L h2]; exact e
    · cases e
  case h_12 op t x ho =>
    split at e
    · rename_i h1; simp only [ev_mono L h1]; exact e
    · cases e
  case h_13 src dst x ho =>
    split at e
    · rename_i h1 h2
      simp only [ev_mono L h1, h2]
      split at e
      · exact e
      · obtain ⟨p, hp, rfl⟩ := effV_some e
        rw [aConvV_mono L hp]; rfl
    · cases e
  case h_14 t l cp ho =>
    split at e
    · rename_i h1 h2; simp only [ev_mono L h1, ev_mono L h2]; exact e
    · cases e
  case h_15 t x lo hi' mx ho =>
    split at e
    · split at e
      · rename_i h1 h2 h3; simp only [ev_mono L h1, evO_mono L h2, evO_mono L h3]; exact e
      · cases e
    · exact aCut0_mono L e
  case h_16 s x f ho =>
    split at e
    · rename_i h1; simp only [ev_mono L h1]; exact e
    · cases e
  case h_17 t x f ho =>
    split at e
    · rename_i h1; simp only [ev_mono L h1]; exact e
    · cases e
  case h_18 t x ix ho =>
    split at e
    · rename_i h1 h2; simp only [ev_mono L h1, ev_mono L h2]; exact e
    · cases e
  case h_19 t x ix ho =>
    split at e
    · rename_i h1 h2; simp only [ev_mono L h1, ev_mono L h2]; exact e
    · cases e
  case h_20 x i ho =>
    split at e
    · rename_i h1; simp only [ev_mono L h1]; exact e
    · cases e
  case h_21 cl ho =>
    split at e
    · exact aBuiltin_mono L e
    · cases e
  case h_22 => cases e
end
end Vm
end Go.Proofs.Yteholdifeilkkaa
