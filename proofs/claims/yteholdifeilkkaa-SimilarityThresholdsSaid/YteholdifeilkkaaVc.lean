/- The abstract machine: reading memory, addresses, parts of values. -/
import Derived.Test.YteholdifeilkkaaVb
namespace Go.Proofs.Yteholdifeilkkaa
set_option linter.unusedVariables false
namespace Vm
/-- The j-th cell behind an address. -/
def rdCell (h : Hp) (p : C) (j : Nat) : Option C :=
  match p with
  | .ptr id sz e sub => match h id with
    | some (.box _ cs) => cs[e * sz + sub + j]?
    | some (.row _ _ sz' n f) => if sz = sz' ∧ 0 < sz then some (.t (f (e + (sub + j) / sz) ((sub + j) % sz))) else none
    | none => none
  | .t (.eptr sz g sub) => if sub + j < sz then some (.t (g (sub + j))) else none
  | _ => none
/-- What must hold for s cells to be read there. -/
def rdChk (h : Hp) (p : C) (s : Nat) : Prop :=
  match p with
  | .ptr id sz e sub => match h id with
    | some (.row _ _ _ n _) => e + (sub + s - 1) / sz < n
    | _ => True
  | _ => True
def rdCells (h : Hp) (p : C) : Nat → Nat → Option (List C)
  | _, 0 => some []
  | j, s + 1 => match rdCell h p j with
    | some c => match rdCells h p (j + 1) s with
      | some l => some (c :: l)
      | none => none
    | none => none
section
variable {c : Cx} {used : Nat → Prop} {ρ : Ren} {tm : Tm} {h : Hp} {a : Act} {w : World} {base : Base} {X : Nat → Prop} {nt : Nat} {ok : Nat → Prop}
theorem rd_addr {p : C} {y : Value} {s : Nat} (R : Rep base X nt used ρ tm h a w) (hr : RC w (okOf base w ρ h) ρ p y) (hc : rdChk h p s) (hs : 0 < s) (h0 : (rdCell h p 0).isSome = true) :
    ∃ b o, y = .pointer (some ⟨b, o, none⟩) ∧ ∀ j, j < s → ∀ c, rdCell h p j = some c → ∃ x, w.cell? ⟨b, o + j, none⟩ = some x ∧ RC w (okOf base w ρ h) ρ c x := by
  match p with
  | .ptr id sz e sub =>
    obtain ⟨b, cap, h1, h2⟩ := hr
    refine ⟨b, e * sz + sub, h2, fun j hj c hcell => ?_⟩
    cases hb : h id with
    | none => simp [rdCell, hb] at h0
    | some blk =>
      obtain ⟨l, l1, l2, _⟩ := R.heap id blk hb
      rw [h1] at l1
      injection l1 with l1
      subst l1
      cases blk with
      | box ty cs =>
        obtain ⟨b', vs, e1, e2, e3⟩ := l2
        injection e1 with e1 _
        subst e1
        simp only [rdCell, hb] at hcell
        obtain ⟨x, x1, x2⟩ := All2.get e3 hcell
        exact ⟨x, by rw [cell_of_row w _ _ vs ty (0, 0) e2]; simpa using x1, x2⟩
      | row ty fro sz' n f =>
        obtain ⟨e0, vs, fz, e1, e2, e3, e4⟩ := l2
        simp only [rdCell, hb] at hcell
        split at hcell
        · rename_i hsz
          obtain ⟨rfl, hpos⟩ := hsz
          injection hcell with hcell
          subst hcell
          simp only [rdChk, hb] at hc
          have hle : (sub + j) / sz ≤ (sub + s - 1) / sz := Nat.div_le_div_right (by omega)
          obtain ⟨x, x1, x2⟩ := e4 (e + (sub + j) / sz) (by omega) ((sub + j) % sz) (Nat.mod_lt _ hpos)
          refine ⟨x, ?_, x2⟩
          rw [cell_of_row w _ _ vs ty fz e1, ← x1]
          congr 1
          have := Nat.div_add_mod (sub + j) sz
          rw [Nat.add_mul, Nat.mul_comm ((sub + j) / sz) sz]
          omega
        · cases hcell
  | .t (.eptr sz g sub) =>
    obtain ⟨b, o, h1, h2, h3⟩ := hr
    refine ⟨b, o + sub, h1, fun j hj c hcell => ?_⟩
    simp only [rdCell] at hcell
    split at hcell
    · rename_i hlt
      injection hcell with hcell
      subst hcell
      obtain ⟨x, x1, x2⟩ := h3 (sub + j) hlt
      exact ⟨x, by rw [Nat.add_assoc]; exact x1, x2⟩
    · cases hcell
  | .t (.v _) => simp [rdCell] at h0
  | .t (.tree ..) => simp [rdCell] at h0
  | .t (.tst _) => simp [rdCell] at h0
  | .ref .. => simp [rdCell] at h0
theorem rdCells_get {p : C} : ∀ {s j : Nat} {l : List C}, rdCells h p j s = some l → l.length = s ∧ ∀ i, i < s → ∃ c, rdCell h p (j + i) = some c ∧ l[i]? = some c
  | 0, j, l, e => by simp [rdCells] at e; subst e; exact ⟨rfl, fun i hi => by omega⟩
  | s + 1, j, l, e => by
    simp only [rdCells] at e
    split at e
    · rename_i c hc
      split at e
      · rename_i l' hl
        injection e with e
        subst e
        obtain ⟨h1, h2⟩ := rdCells_get hl
        refine ⟨by simp [h1], fun i hi => ?_⟩
        cases i with
        | zero => exact ⟨c, hc, by simp⟩
        | succ i =>
          obtain ⟨c', k1, k2⟩ := h2 i (by omega)
          exact ⟨c', by rw [← k1]; congr 1; omega, by simpa using k2⟩
      · cases e
    · cases e
def aLoad (tt : TT) (t : TypeId) (h : Hp) (p : AV) : Option (AV × Prop) :=
  match p, tt t with
  | .c p, some i => match i.k.agg with
    | true => match i.size with
      | 0 => none
      | s + 1 => match rdCells h p 0 (s + 1) with
        | some l => some (.agg l, rdChk h p (s + 1))
        | none => none
    | false => match rdCell h p 0 with
      | some c => some (.c c, rdChk h p 1)
      | none => none
  | _, _ => none
theorem aLoad_run {P : Program} {tt : TT} (hT : TTok P tt) {t : TypeId} {p : AV} {y : Value} {r : AV × Prop} (e : aLoad tt t h p = some r) (hc : r.2) (R : Rep base X nt used ρ tm h a w) (hr : RV w (okOf base w ρ h) ρ p y) :
    ∃ v, (Instr.loadAt t y).run P w = .ok v w ∧ RV w (okOf base w ρ h) ρ r.1 v := by
  unfold aLoad at e
  split at e
  · rename_i p i hti
    have ht := hT _ _ hti
    split at e
    · rename_i hagg
      split at e
      · cases e
      · rename_i s hsz
        split at e
        · rename_i l hl
          injection e with e
          subst e
          obtain ⟨h1, h2⟩ := rdCells_get hl
          obtain ⟨c0, c1, _⟩ := h2 0 (by omega)
          obtain ⟨b, o, rfl, hcell⟩ := rd_addr R hr hc (by omega) (by simpa using congrArg Option.isSome c1)
          let f : Nat → Value := fun j => (w.cell? ⟨b, o + j, none⟩).getD undef
          have hf : ∀ j, j < s + 1 → ∃ c, l[j]? = some c ∧ w.cell? ⟨b, o + j, none⟩ = some (f j) ∧ RC w (okOf base w ρ h) ρ c (f j) := by
            intro j hj
            obtain ⟨c, k1, k2⟩ := h2 j hj
            obtain ⟨x, x1, x2⟩ := hcell j hj c (by simpa using k1)
            have : f j = x := by simp [f, x1]
            exact ⟨c, k2, by rw [this]; exact x1, by rw [this]; exact x2⟩
          have hl2 := run_loadCells (P := P) w ⟨b, o, none⟩ (s + 1) f (fun j hj => by obtain ⟨c, _, k, _⟩ := hf j hj; rw [Addr.add_lit]; exact k)
          refine ⟨.agg ((List.range (s + 1)).map f).toArray, ?_, _, rfl, ?_⟩
          · simp [Instr.loadAt, Instr.sureAddr, loadVar, ht.isAgg, hagg, ht.size, hsz, hl2]
          · refine All2.of_get (by simp [h1]) fun i x y hx hy => ?_
            have hi : i < s + 1 := by
              rcases Nat.lt_or_ge i (s + 1) with h' | h'
              · exact h'
              · rw [List.getElem?_eq_none (by omega)] at hx; cases hx
            obtain ⟨c, k1, _, k3⟩ := hf i hi
            rw [hx] at k1
            injection k1 with k1
            subst k1
            simp [hi] at hy
            subst hy
            exact k3
        · cases e
    · rename_i hagg
      split at e
      · rename_i c hc0
        injection e with e
        subst e
        obtain ⟨b, o, rfl, hcell⟩ := rd_addr R hr hc (by omega) (by simp [hc0])
        obtain ⟨x, x1, x2⟩ := hcell 0 (by omega) c hc0
        refine ⟨x, ?_, x2⟩
        simp only [Nat.add_zero] at x1
        simp [Instr.loadAt, Instr.sureAddr, loadVar, ht.isAgg, hagg, x1]
      · cases e
  · cases e
/-! Addresses of parts. -/
def aFieldAddr (tt : TT) (s : TypeId) (p : AV) (fl : Nat) : Option (AV × Prop) :=
  match tt s with
  | some { k := .struct fs, .. } => match fs[fl]? with
    | some (ft, off) => match tt ft with
      | some i => if i.size = 0 then none else match p with
        | .c (.ptr id sz e sub) => some (.c (.ptr id sz e (sub + off)), True)
        | .c (.t (.eptr sz g sub)) => some (.c (.t (.eptr sz g (sub + off))), True)
        | _ => none
      | none => none
    | none => none
  | _ => none
theorem aFieldAddr_run {P : Program} {tt : TT} (hT : TTok P tt) {s : TypeId} {p : AV} {fl : Nat} {y : Value} {r : AV × Prop} (e : aFieldAddr tt s p fl = some r) (hr : RV w ok ρ p y) :
    ∃ v, (Instr.fieldAt s y fl).run P w = .ok v w ∧ RV w ok ρ r.1 v := by
  unfold aFieldAddr at e
  split at e
  · rename_i i1 i2 i3 fs hti
    obtain ⟨fields, hu, hfs⟩ := (hT _ _ hti).struct rfl
    split at e
    · rename_i ft off hft
      rw [← hfs, List.getElem?_map] at hft
      cases hf : fields.toList[fl]? with
      | none => simp [hf] at hft
      | some f =>
        simp only [hf, Option.map_some, Option.some.injEq, Prod.mk.injEq] at hft
        obtain ⟨rfl, rfl⟩ := hft
        have hf' : fields[fl]? = some f := by simpa using hf
        split at e
        · rename_i i hi
          have hsz := (hT _ _ hi).size w
          split at e
          · cases e
          · rename_i hne
            split at e
            · injection e with e; subst e
              obtain ⟨b, cap, h1, rfl⟩ := hr
              exact ⟨.pointer (some ⟨b, _, none⟩), by simp [Instr.fieldAt, run_underlying hu, hf', Instr.sureAddr, fieldPlace, hsz, hne, Addr.add_lit]; rfl, b, cap, h1, by rw [Nat.add_assoc]⟩
            · injection e with e; subst e
              obtain ⟨b, o, rfl, h2, h3⟩ := hr
              exact ⟨.pointer (some ⟨b, _, none⟩), by simp [Instr.fieldAt, run_underlying hu, hf', Instr.sureAddr, fieldPlace, hsz, hne, Addr.add_lit]; rfl, b, o, by rw [Nat.add_assoc], h2, h3⟩
            · cases e
        · cases e
    · cases e
  · cases e
def aIndexAddr (tt : TT) (t : TypeId) (x ix : AV) : Option (AV × Prop) :=
  match ix with
  | .c (.t (.v (.int k i))) => match tt t with
    | some { k := .slice e, .. } => match tt e with
      | some ie => match x with
        | .c (.ref id sz off len) => if sz = ie.size ∧ 0 < sz then some (.c (.ptr id sz (off + i.toNat) 0), 0 ≤ i ∧ i < len) else none
        | .c (.t (.tree n sz f)) => if sz = ie.size ∧ 0 < sz then some (.c (.t (.eptr sz (f i.toNat) 0)), 0 ≤ i ∧ i < n) else none
        | _ => none
      | none => none
    | some { k := .arr n e, .. } => match tt e with
      | some ie => match x with
        | .c (.ptr id sz e0 sub) => if sz = ie.size ∧ sub = 0 then some (.c (.ptr id sz (e0 + i.toNat) 0), 0 ≤ i ∧ i < n) else none
        | _ => none
      | none => none
    | _ => none
  | _ => none
theorem aIndexAddr_run {P : Program} {tt : TT} (hT : TTok P tt) {t : TypeId} {x ix : AV} {y z : Value} {r : AV × Prop} (e : aIndexAddr tt t x ix = some r) (hc : r.2) (hr : RV w ok ρ x y) (hi : RV w ok ρ ix z) :
    ∃ v, (Instr.indexAt t y z).run P w = .ok v w ∧ RV w ok ρ r.1 v := by
  unfold aIndexAddr at e
  split at e
  · rename_i k i
    obtain ⟨rfl, _⟩ := hi
    split at e
    · rename_i i1 i2 i3 el hti
      have hu := (hT _ _ hti).slice rfl
      split at e
      · rename_i ie hie
        have hsz := (hT _ _ hie).size w
        split at e
        · rename_i id sz off len
          split at e
          · rename_i hs
            injection e with e
            subst e
            obtain ⟨h0, h1⟩ : 0 ≤ i ∧ i < len := hc
            obtain ⟨l, l1, l2⟩ := hr
            cases l with
            | nil => obtain ⟨_, h2, _⟩ := l2; omega
            | _ b cap =>
              rcases l2 with ⟨rfl, _⟩ | ⟨h2, _⟩
              · refine ⟨.pointer (some ⟨b, _, none⟩), ?_, b, cap, l1, rfl⟩
                simp [Instr.indexAt, asIntOf, run_underlying hu, h0, h1, hsz, Addr.add_lit, hs.1, Nat.add_mul]
              · omega
          · cases e
        · rename_i n sz f
          split at e
          · rename_i hs
            injection e with e
            subst e
            obtain ⟨h0, h1⟩ : 0 ≤ i ∧ i < n := hc
            obtain ⟨q, cp, rfl, hnc, hcell⟩ := hr
            obtain ⟨b, o, x, hq, hb, hx, hrx⟩ := hcell i.toNat (by omega) 0 hs.2
            subst hq
            refine ⟨.pointer (some ⟨b, o + i.toNat * sz, none⟩), ?_, b, o + i.toNat * sz, rfl, hb, fun j hj => ?_⟩
            · simp [Instr.indexAt, asIntOf, run_underlying hu, h0, h1, hsz, Addr.add_lit, hs.1]
            · obtain ⟨b', o', x', hq', hb', hx', hr'⟩ := hcell i.toNat (by omega) j hj
              injection hq' with hq'
              injection hq' with e1 e2
              subst e1; subst e2
              exact ⟨x', hx', hr'⟩
          · cases e
        · cases e
      · cases e
    · rename_i n el i1 i2 i3 hti
      have hu := (hT _ _ hti).arr rfl
      split at e
      · rename_i ie hie
        have hsz := (hT _ _ hie).size w
        split at e
        · rename_i id sz e0 sub
          split at e
          · rename_i hs
            injection e with e
            subst e
            obtain ⟨h0, h1⟩ : 0 ≤ i ∧ i < n := hc
            obtain ⟨b, cap, l1, rfl⟩ := hr
            refine ⟨.pointer (some ⟨b, _, none⟩), ?_, b, cap, l1, rfl⟩
            simp [Instr.indexAt, asIntOf, run_underlying hu, h0, h1, hsz, Instr.sureAddr, Addr.add_lit, hs.1, hs.2, Nat.add_mul]
          · cases e
        · cases e
      · cases e
    · cases e
  · cases e
/-! Parts of values. -/
def aPart (i : TI) (l : List C) (off : Nat) : Option AV :=
  match i.k.agg with
  | true => if off + i.size ≤ l.length then some (.agg ((l.drop off).take i.size)) else none
  | false => match l[off]? with
    | some c => some (.c c)
    | none => none
theorem aPart_run {P : Program} {t : TypeId} {i : TI} (ht : tiOk P t i) {l : List C} {off : Nat} {r : AV} (e : aPart i l off = some r) {ys : Array Value} (hr : All2 (RC w ok ρ) l ys.toList) :
    ∃ v, (part t ys off).run P w = .ok v w ∧ RV w ok ρ r v := by
  unfold aPart at e
  split at e
  · rename_i hagg
    split at e
    · rename_i hle
      injection e with e
      subst e
      refine ⟨.agg (ys.extract off (off + i.size)), by simp [part, ht.isAgg, hagg, ht.size], _, rfl, ?_⟩
      have := (hr.drop off).take i.size
      have e1 : (ys.extract off (off + i.size)).toList = (ys.toList.drop off).take i.size := by simp [List.extract_eq_take_drop]
      rw [e1]; exact this
    · cases e
  · rename_i hagg
    split at e
    · rename_i c hc0
      injection e with e
      subst e
      obtain ⟨x, x1, x2⟩ := All2.get hr hc0
      refine ⟨x, ?_, x2⟩
      have x1' : ys[off]? = some x := by simpa using x1
      simp [part, ht.isAgg, hagg, x1']
    · cases e
def aField (tt : TT) (t : TypeId) (x : AV) (fl : Nat) : Option (AV × Prop) :=
  match tt t with
  | some { k := .struct fs, .. } => match fs[fl]? with
    | some (ft, off) => match tt ft with
      | some i => match x with
        | .agg l => match aPart i l off with
          | some v => some (v, True)
          | none => none
        | _ => none
      | none => none
    | none => none
  | _ => none
theorem aField_run {P : Program} {tt : TT} (hT : TTok P tt) {s : TypeId} {x : AV} {fl : Nat} {y : Value} {r : AV × Prop} (e : aField tt s x fl = some r) (hr : RV w ok ρ x y) :
    ∃ v, (Instr.field s y fl).run P w = .ok v w ∧ RV w ok ρ r.1 v := by
  unfold aField at e
  split at e
  · rename_i i1 i2 i3 fs hti
    obtain ⟨fields, hu, hfs⟩ := (hT _ _ hti).struct rfl
    split at e
    · rename_i ft off hft
      rw [← hfs, List.getElem?_map] at hft
      cases hf : fields.toList[fl]? with
      | none => simp [hf] at hft
      | some f =>
        simp only [hf, Option.map_some, Option.some.injEq, Prod.mk.injEq] at hft
        obtain ⟨rfl, rfl⟩ := hft
        have hf' : fields[fl]? = some f := by simpa using hf
        split at e
        · rename_i i hi
          split at e
          · rename_i l
            split at e
            · rename_i v hv
              injection e with e
              subst e
              obtain ⟨ys, rfl, hys⟩ := hr
              obtain ⟨v, v1, v2⟩ := aPart_run (hT _ _ hi) hv hys
              exact ⟨v, by simp [Instr.field, run_underlying hu, hf', asAgg, v1], v2⟩
            · cases e
          · cases e
        · cases e
    · cases e
  · cases e
def aIndex (tt : TT) (t : TypeId) (x ix : AV) : Option (AV × Prop) :=
  match ix with
  | .c (.t (.v (.int k i))) => match tt t with
    | some { k := .str, .. } => match x with
      | .c (.t (.v (.string s))) => some (.c (.t (.v (.int .u8 (s.data.toList.getD i.toNat 0).toNat))), 0 ≤ i ∧ i < s.size)
      | _ => none
    | some { k := .arr n e, .. } => match tt e with
      | some ie => match x with
        | .fagg m f => if ie.k.agg = false ∧ ie.size = 1 ∧ n = m then some (.c (.t (f i.toNat)), 0 ≤ i ∧ i < n) else none
        | .agg l => match aPart ie l (i.toNat * ie.size) with
          | some v => some (v, 0 ≤ i ∧ i < n)
          | none => none
        | _ => none
      | none => none
    | _ => none
  | _ => none
theorem aIndex_run {P : Program} {tt : TT} (hT : TTok P tt) {t : TypeId} {x ix : AV} {y z : Value} {r : AV × Prop} (e : aIndex tt t x ix = some r) (hc : r.2) (hr : RV w ok ρ x y) (hi : RV w ok ρ ix z) :
    ∃ v, (Instr.index t y z).run P w = .ok v w ∧ RV w ok ρ r.1 v := by
  unfold aIndex at e
  split at e
  · rename_i k i
    obtain ⟨rfl, _⟩ := hi
    split at e
    · rename_i i1 i2 i3 hti
      have hu := (hT _ _ hti).str rfl
      split at e
      · rename_i s
        injection e with e
        subst e
        obtain ⟨rfl, _⟩ := hr
        obtain ⟨h0, h1⟩ : 0 ≤ i ∧ i < s.size := hc
        have hlt : i.toNat < s.size := by omega
        refine ⟨_, ?_, rfl, rfl⟩
        have hg : s[i.toNat]? = some s[i.toNat] := ByteArray.getElem?_lt' s _ hlt
        have hd : s.data.toList.getD i.toNat 0 = s[i.toNat] := by
          have h2 : i.toNat < s.data.size := hlt
          rw [List.getD_eq_getElem?_getD, Array.getElem?_toList, Array.getElem?_eq_getElem h2]; rfl
        simp only [Instr.index, asIntOf, Sem.run_bind, Sem.run_pure, Result.andThen_ok, run_underlying hu, h0, if_true, hg, hd]
      · cases e
    · rename_i n el i1 i2 i3 hti
      have hu := (hT _ _ hti).arr rfl
      split at e
      · rename_i ie hie
        have hsz := (hT _ _ hie).size w
        split at e
        · rename_i m f
          split at e
          · rename_i hs
            injection e with e
            subst e
            obtain ⟨ys, rfl, hm, hys⟩ := hr
            obtain ⟨h0, h1⟩ : 0 ≤ i ∧ i < n := hc
            obtain ⟨x, x1, x2⟩ := hys i.toNat (by omega)
            refine ⟨x, ?_, x2⟩
            simp [Instr.index, asIntOf, run_underlying hu, h0, h1, hsz, part, (hT _ _ hie).isAgg, hs.1, hs.2.1, x1]
          · cases e
        · rename_i l
          split at e
          · rename_i v hv
            injection e with e
            subst e
            obtain ⟨ys, rfl, hys⟩ := hr
            obtain ⟨h0, h1⟩ : 0 ≤ i ∧ i < n := hc
            obtain ⟨u, u1, u2⟩ := aPart_run (hT _ _ hie) hv hys
            exact ⟨u, by simp [Instr.index, asIntOf, run_underlying hu, h0, h1, hsz, u1], u2⟩
          · cases e
        · cases e
      · cases e
    · cases e
  · cases e
def aExtract (x : AV) (i : Nat) : Option (AV × Prop) :=
  match x with
  | .tup l => match l[i]? with
    | some (.tup _) => none
    | some v => some (v, True)
    | none => none
  | _ => none
theorem r1_rv {v : AV} {y : Value} (h : R1 w ok ρ v y) : RV w ok ρ v y := by
  cases v <;> first | exact h | exact h.elim
theorem aExtract_run {P : Program} {x : AV} {i : Nat} {y : Value} {r : AV × Prop} (e : aExtract x i = some r) (hr : RV w ok ρ x y) :
    ∃ v, (Instr.extract y i).run P w = .ok v w ∧ RV w ok ρ r.1 v := by
  unfold aExtract at e
  split at e
  · rename_i l
    obtain ⟨ys, rfl, hys⟩ := hr
    split at e
    · cases e
    · rename_i v _ hv
      injection e with e
      subst e
      obtain ⟨u, u1, u2⟩ := All2.get hys hv
      have u1' : ys[i]? = some u := by simpa using u1
      exact ⟨u, by simp [Instr.extract, u1'], r1_rv u2⟩
    · cases e
  · cases e
def aLen (tt : TT) (t : TypeId) (x : AV) : Option (AV × Prop) :=
  let r (n : Nat) : Option (AV × Prop) := some (.c (.t (.v (.int .i64 n))), True)
  match tt t with
  | some { k := .str, .. } => match x with
    | .c (.t (.v (.string s))) => r s.size
    | _ => none
  | some { k := .slice _, .. } => match x with
    | .c (.ref _ _ _ len) => r len
    | .c (.t (.tree n _ _)) => r n
    | .c (.t (.v (.slice _ n _))) => r n
    | _ => none
  | some { k := .arr n _, .. } => r n
  | _ => none
theorem aLen_run {P : Program} {tt : TT} (hT : TTok P tt) {t ty : TypeId} {ts : Array TypeId} {x : AV} {y : Value} {r : AV × Prop} (e : aLen tt t x = some r) (hts : ts[0]? = some t) (hr : RV w ok ρ x y) :
    ∃ v, (Builtin.len_ ts ty #[y]).run P w = .ok v w ∧ RV w ok ρ r.1 v := by
  unfold aLen at e
  split at e
  · rename_i i1 i2 i3 hti
    have hu := (hT _ _ hti).str rfl
    split at e
    · injection e with e; subst e
      obtain ⟨rfl, _⟩ := hr
      exact ⟨_, by simp [Builtin.len_, hts, run_underlying hu]; rfl, rfl, rfl⟩
    · cases e
  · rename_i i1 i2 i3 el hti
    have hu := (hT _ _ hti).slice rfl
    split at e
    · injection e with e; subst e
      obtain ⟨l, l1, l2⟩ := hr
      cases l with
      | nil => obtain ⟨_, rfl, q, rfl⟩ := l2; exact ⟨_, by simp [Builtin.len_, hts, run_underlying hu]; rfl, rfl, rfl⟩
      | _ b cap =>
        rcases l2 with ⟨rfl, _⟩ | ⟨rfl, q, rfl⟩
        · exact ⟨_, by simp [Builtin.len_, hts, run_underlying hu]; rfl, rfl, rfl⟩
        · exact ⟨_, by simp [Builtin.len_, hts, run_underlying hu]; rfl, rfl, rfl⟩
    · injection e with e; subst e
      obtain ⟨q, cp, rfl, _⟩ := hr
      exact ⟨_, by simp [Builtin.len_, hts, run_underlying hu]; rfl, rfl, rfl⟩
    · injection e with e; subst e
      obtain ⟨rfl, _⟩ := hr
      exact ⟨_, by simp [Builtin.len_, hts, run_underlying hu]; rfl, rfl, rfl⟩
    · cases e
  · rename_i n el i1 i2 i3 hti
    have hu := (hT _ _ hti).arr rfl
    injection e with e; subst e
    exact ⟨_, by simp [Builtin.len_, hts, run_underlying hu]; rfl, rfl, rfl⟩
  · cases e
end
end Vm
end Go.Proofs.Yteholdifeilkkaa
