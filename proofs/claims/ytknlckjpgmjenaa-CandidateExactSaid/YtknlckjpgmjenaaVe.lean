/- The abstract machine: boxes, stores, slices made and cut, conversions. -/
import Derived.Test.YtknlckjpgmjenaaVd
import Derived.Deep.AppendSrc
namespace Go.Proofs.Ytknlckjpgmjenaa
set_option linter.unusedVariables false
namespace Vm
section
variable {c : Cx} {used used' : Nat → Prop} {ρ ρ' : Ren} {tm : Tm} {h h' : Hp} {a : Act} {w w' : World} {base : Base} {X : Nat → Prop} {nt : Nat} {ok : Nat → Prop} {o : Oper} {nid : Nat}
theorem ext_set (R : Rep base X nt used ρ tm h a w) (hfresh : ¬ used nid) (l : Loc) : Ext ρ (ρ.set nid l) := fun id x hx => by
  unfold Ren.set
  rw [if_neg (fun e => by subst e; exact hfresh (R.used id (by rw [hx]; simp)))]
  exact hx
/-- A row of the machine's own: its slice. -/
theorem good_row (R : Rep c.base c.X c.nt used ρ tm h a w) (U : Upd (fun _ => False) w w') (hfresh : ¬ used nid) (hu : ∀ id, used id → used' id) (hn : used' nid) (hd : ∀ t, o.dst = some t → t < c.nt)
    {ty : TypeId} {fro : Bool} {sz n : Nat} {f : Nat → Nat → T} {q : Option (Nat × (Nat → Nat → T))} (hc : (reRow ty fro sz n f q).2.2) {vs : Array Value} {fz : Nat × Nat} {b cap : Nat} (hb : w.heap.size ≤ b) (hcap : n ≤ cap) (hw : w'.heap[b]? = some (.cells vs ty fz))
    (hs : vs.size = cap * sz) (hf : fro = false → Fz fz vs.size ∧ cap ≤ maxLen) (hcell : Keeps w w' (okOf c.base w ρ h) (okOf c.base w' (ρ.set nid (.at b cap)) (setHp h [(nid, some (reRow ty fro sz n f q).2.1)])) → ∀ i, i < n → ∀ j, j < sz → ∃ x, vs[i * sz + j]? = some x ∧ RT w' (okOf c.base w' (ρ.set nid (.at b cap)) (setHp h [(nid, some (reRow ty fro sz n f q).2.1)])) (f i j) x)
    {res : Result Next} (hr : res = .ok (.value (.slice (some ⟨b, 0, none⟩) n cap)) w') :
    Good c used' tm h a o (some (.c (.ref nid sz 0 (reRow ty fro sz n f q).1))) [(nid, some (reRow ty fro sz n f q).2.1)] res := by
  subst hr
  refine ⟨ρ.set nid (.at b cap), R.add U hfresh hu hn (fun b' cap' e => by injection e with e1 e2; subst e1; exact ⟨hb, lt_heap hw⟩) (fun K => reRow_ok (l := .at b cap) hc ⟨hcap, vs, fz, hw, hs, hf, hcell K⟩) _ hd _ _ (fun K x hx => ?_)⟩
  injection hx with hx; subst hx
  refine ⟨.at b cap, by simp [Ren.set], .inl ⟨cap, ?_, ?_, by omega⟩⟩
  · rw [reRow_n hc]; simp
  · rw [reRow_n hc]; omega
/-! alloc, box -/
def aAlloc (tt : TT) (el : TypeId) (nid : Nat) (hi : Hint) : Option Eff :=
  match tt el with
  | some i => match litC i.zero with
    | some z => match aBox tt el z nid hi.row with
      | some r => some ⟨some r.1, [(nid, some r.2.1)], r.2.2⟩
      | none => none
    | none => none
  | none => none
theorem aAlloc_good (R : Rep c.base c.X c.nt used ρ tm h a w) (hfresh : ¬ used nid) (hu : ∀ id, used id → used' id) (hn : used' nid) (hd : ∀ t, o.dst = some t → t < c.nt) {tt : TT} (hT : TTok c.P tt) {el : TypeId} {hi : Hint} {r : Eff}
    (ho : o.op = .alloc el) (e : aAlloc tt el nid hi = some r) (hc : r.chk) : Good c used' tm h a o r.val r.W ((execOp a.eval o).run c.P w) := by
  unfold aAlloc at e
  split at e
  · rename_i i hti
    split at e
    · rename_i zl hz
      split at e
      · rename_i r' hr'
        injection e with e
        subst e
        obtain ⟨z, z1, z2⟩ := (hT _ _ hti).zero_ w
        refine aBox_good R hfresh hu hn hd hr' hc (vs := z.cells) (by rw [z2]; exact litC_ok hz) ?_
        simp [execOp, ho, Instr.alloc, z1, newVar, newRow]
      · cases e
    · cases e
  · cases e
def aBoxOp (tt : TT) (tm : Tm) (el : TypeId) (x : Operand) (nid : Nat) (hi : Hint) : Option Eff :=
  match ev tm x with
  | some av => match avCells av with
    | some l => match aBox tt el l nid hi.row with
      | some r => some ⟨some r.1, [(nid, some r.2.1)], r.2.2⟩
      | none => none
    | none => none
  | none => none
theorem aBoxOp_good (R : Rep c.base c.X c.nt used ρ tm h a w) (hfresh : ¬ used nid) (hu : ∀ id, used id → used' id) (hn : used' nid) (hd : ∀ t, o.dst = some t → t < c.nt) {tt : TT} {el : TypeId} {x : Operand} {hi : Hint} {r : Eff}
    (ho : o.op = .box el x) (e : aBoxOp tt tm el x nid hi = some r) (hc : r.chk) : Good c used' tm h a o r.val r.W ((execOp a.eval o).run c.P w) := by
  unfold aBoxOp at e
  split at e
  · rename_i av hav
    split at e
    · rename_i l hl
      split at e
      · rename_i r' hr'
        injection e with e
        subst e
        refine aBox_good R hfresh hu hn hd hr' hc (vs := (a.eval x).cells) (avCells_ok hl (ev_ok R hav)) ?_
        simp [execOp, ho, Instr.box, newVar, newRow]
      · cases e
    · cases e
  · cases e
/-! An array's element by a number that is not known: its row told by a rule. -/
def aIndexR (tt : TT) (t : TypeId) (x ix : AV) (q : Nat × (Nat → Nat → T)) : Option (AV × Prop) :=
  match ix with
  | .c (.t (.v (.int k i))) => match tt t with
    | some { k := .arr n e, .. } => match tt e with
      | some ie => match x with
        | .agg l => match asT l with
          | some r => if ie.k.agg = false ∧ ie.size = 1 ∧ r.length = n then some (.c (.t (q.2 i.toNat 0)), (0 ≤ i ∧ i < n) ∧ n = q.1 ∧ ∀ a, a < q.1 → ∀ j, j < 1 → rowOf r 1 a j = q.2 a j) else none
          | none => none
        | _ => none
      | none => none
    | _ => none
  | _ => none
theorem aIndexR_run {P : Program} {tt : TT} (hT : TTok P tt) {t : TypeId} {x ix : AV} {y z : Value} {q : Nat × (Nat → Nat → T)} {r : AV × Prop} (e : aIndexR tt t x ix q = some r) (hc : r.2) (hr : RV w ok ρ x y) (hi : RV w ok ρ ix z) :
    ∃ v, (Instr.index t y z).run P w = .ok v w ∧ RV w ok ρ r.1 v := by
  unfold aIndexR at e
  split at e
  · rename_i k i
    obtain ⟨rfl, _⟩ := hi
    split at e
    · rename_i n el i1 i2 i3 i4 hti
      have hu := (hT _ _ hti).arr rfl
      split at e
      · rename_i ie hie
        have hsz := (hT _ _ hie).size w
        split at e
        · rename_i l
          split at e
          · rename_i tl htl
            split at e
            · rename_i hs
              injection e with e
              subst e
              obtain ⟨⟨h0, h1⟩, h2, h3⟩ := hc
              obtain ⟨ys, rfl, hys⟩ := hr
              obtain ⟨v, v1, v2⟩ := rowOf_ok (n := n) (sz := 1) (by omega) (asT_ok htl hys) i.toNat (by omega) 0 (by omega)
              rw [h3 i.toNat (by omega) 0 (by omega)] at v2
              simp only [Nat.mul_one, Nat.add_zero] at v1
              refine ⟨v, ?_, v2⟩
              simp [Instr.index, asIntOf, run_underlying hu, h0, h1, hsz, part, (hT _ _ hie).isAgg, hs.1, hs.2.1, v1]
            · cases e
          · cases e
        · cases e
      · cases e
    · cases e
  · cases e
/-! Slices of literals -/
def aBuildSliceC (tt : TT) (ps : List (Nat × List C)) (t : TypeId) (len : Nat) (nid : Nat) (hi : Hint) : Option Eff :=
  match tt t with
  | some { k := .slice e, .. } => match tt e with
    | some ie => if 0 < ie.size ∧ ie.zero.length = ie.size ∧ len * ie.size ≤ 16777216 ∧ ie.zero.all (·.oneCell') then
        match aFill (fun i => some (i * ie.size, ie.size)) (tab (fun k => .t (.v (ie.zero.getD (k % ie.size) undef))) 0 (len * ie.size)) ps with
        | some r => match asT r with
          | some tl => if tl.length = len * ie.size then
              some ⟨some (.c (.ref nid ie.size 0 (reRow e false ie.size len (rowOf tl ie.size) hi.row).1)), [(nid, some (reRow e false ie.size len (rowOf tl ie.size) hi.row).2.1)], (reRow e false ie.size len (rowOf tl ie.size) hi.row).2.2⟩
            else none
          | none => none
        | none => none
      else none
    | none => none
  | _ => none
def aBuildSlice (tt : TT) (tm : Tm) (t : TypeId) (len : Nat) (parts : List (Nat × Operand)) (nid : Nat) (hi : Hint) : Option Eff :=
  match evParts tm parts with
  | some ps => aBuildSliceC tt ps t len nid hi
  | none => none
theorem aBuildSliceC_good (R : Rep c.base c.X c.nt used ρ tm h a w) (hfresh : ¬ used nid) (hu : ∀ id, used id → used' id) (hn : used' nid) (hd : ∀ t, o.dst = some t → t < c.nt) {tt : TT} (hT : TTok c.P tt) {t : TypeId} {len : Nat} {parts : Array (Nat × Operand)} {hi : Hint} {r : Eff} {ps : List (Nat × List C)} (hp : All2 (fun p q => p.1 = q.1 ∧ All2 (RC w (okOf c.base w ρ h) ρ) p.2 q.2.cells.toList) ps (parts.toList.map fun (i, x) => (i, a.eval x)))
    (ho : o.op = .buildSlice t len parts) (e : aBuildSliceC tt ps t len nid hi = some r) (hc : r.chk) : Good c used' tm h a o r.val r.W ((execOp a.eval o).run c.P w) := by
  unfold aBuildSliceC at e
  split at e
  · rename_i el i1 i2 i3 i4 hti
    have hu' := (hT _ _ hti).slice rfl
    split at e
    · rename_i ie hie
      split at e
      · rename_i hs
        obtain ⟨s1, s2, s3, s4⟩ := hs
        split at e
        · rename_i rl hrl
          split at e
          · rename_i tl htl
            split at e
            · rename_i hlen
              injection e with e
              subst e
              obtain ⟨z, z1, z2⟩ := (hT _ _ hie).zero_ w
              have hzs : z.cells.size = ie.size := by rw [← s2, ← z2]; simp
              have h0 : All2 (RC w (okOf c.base w ρ h) ρ) (tab (fun k => C.t (.v (ie.zero.getD (k % ie.size) undef))) 0 (len * ie.size)) ((Array.range (len * ie.size)).map fun k => z.cells[k % z.cells.size]!).toList := by
                refine All2.of_get (by simp [tab_length]) fun i x y hx hy => ?_
                have hi' : i < len * ie.size := by
                  rcases Nat.lt_or_ge i (len * ie.size) with h' | h'
                  · exact h'
                  · rw [List.getElem?_eq_none (by rw [tab_length]; exact h')] at hx; cases hx
                rw [tab_get _ _ _ _ hi'] at hx
                injection hx with hx
                subst hx
                have hm : i % ie.size < ie.size := Nat.mod_lt _ s1
                have hz' : ie.zero.getD (i % ie.size) undef = z.cells[i % z.cells.size]! := by
                  rw [hzs, ← z2]
                  simp [List.getD, hzs, hm]
                simp [hi'] at hy
                subst hy
                rw [Nat.zero_add]
                refine ⟨by simpa using hz'.symm, ?_⟩
                rw [List.getD_eq_getElem?_getD, List.getElem?_eq_getElem (by omega)]
                exact List.all_eq_true.1 s4 _ (List.getElem_mem _)
              obtain ⟨us, u1, u2⟩ := aFill_ok hrl h0 hp
              have hul : us.size = len * ie.size := by have := (asT_ok htl u2).length; simp at this; omega
              have hml : len ≤ maxLen := by unfold maxLen; have := Nat.le_mul_of_pos_right len s1; omega
              refine good_row R (upd_push w (.cells us el)) hfresh hu hn hd hc (vs := us) (fz := (0, 0)) (cap := len) (Nat.le_refl _) (Nat.le_refl _) (heap_alloc_new w _) hul (fun _ => ⟨.inl (Nat.le_refl 0), hml⟩) (fun K => rowOf_ok hlen ((asT_ok htl u2).mono fun x y hx => RT.mono K x y hx)) ?_
              have hsz := (hT _ _ hie).size w
              by_cases h0' : len * ie.size = 0
              · have hl0 : len = 0 := by rcases Nat.mul_eq_zero.1 h0' with h | h <;> omega
                subst hl0
                have u1' : Instr.fill (fun i => some (i * ie.size, ie.size)) #[] (parts.toList.map fun (i, x) => (i, a.eval x)) = some us := by rw [← u1]; congr 1; simp
                simp [execOp, ho, Instr.buildSlice, run_underlying hu', hsz, newRow, u1', Array.range_zero']
              · simp [execOp, ho, Instr.buildSlice, run_underlying hu', hsz, newRow, z1, show ¬ 16777216 < len * ie.size by omega, h0', u1]
            · cases e
          · cases e
        · cases e
      · cases e
    · cases e
  · cases e
theorem aBuildSlice_good (R : Rep c.base c.X c.nt used ρ tm h a w) (hfresh : ¬ used nid) (hu : ∀ id, used id → used' id) (hn : used' nid) (hd : ∀ t, o.dst = some t → t < c.nt) {tt : TT} (hT : TTok c.P tt) {t : TypeId} {len : Nat} {parts : Array (Nat × Operand)} {hi : Hint} {r : Eff}
    (ho : o.op = .buildSlice t len parts) (e : aBuildSlice tt tm t len parts.toList nid hi = some r) (hc : r.chk) : Good c used' tm h a o r.val r.W ((execOp a.eval o).run c.P w) := by
  unfold aBuildSlice at e
  split at e
  · rename_i ps hps
    exact aBuildSliceC_good R hfresh hu hn hd hT (evParts_ok R hps) ho e hc
  · cases e
/-! make -/
def aMake (tt : TT) (t : TypeId) (l cp : AV) (nid : Nat) (hi : Hint) : Option Eff :=
  match tt t, l, cp with
  | some { k := .slice e, .. }, .c (.t (.v (.int _ n))), .c (.t (.v (.int _ m))) => match tt e with
    | some ie => if 0 < ie.size ∧ ie.zero.length = ie.size ∧ ie.zero.all (·.oneCell') then
        some ⟨some (.c (.ref nid ie.size 0 (reRow e false ie.size n.toNat (fun _ j => .v (ie.zero.getD j undef)) hi.row).1)), [(nid, some (reRow e false ie.size n.toNat (fun _ j => .v (ie.zero.getD j undef)) hi.row).2.1)],
          (0 ≤ n ∧ n ≤ m ∧ m ≤ 1099511627776 ∧ ie.bytes ≤ 128) ∧ (reRow e false ie.size n.toNat (fun _ j => .v (ie.zero.getD j undef)) hi.row).2.2⟩
      else none
    | none => none
  | _, _, _ => none
theorem aMake_good (R : Rep c.base c.X c.nt used ρ tm h a w) (hfresh : ¬ used nid) (hu : ∀ id, used id → used' id) (hn : used' nid) (hd : ∀ t, o.dst = some t → t < c.nt) {tt : TT} (hT : TTok c.P tt) {t : TypeId} {l cp : Operand} {hi : Hint} {r : Eff} {lv cv : AV}
    (ho : o.op = .makeSlice t l cp) (hl : ev tm l = some lv) (hcp : ev tm cp = some cv) (e : aMake tt t lv cv nid hi = some r) (hc : r.chk) : Good c used' tm h a o r.val r.W ((execOp a.eval o).run c.P w) := by
  unfold aMake at e
  split at e
  · rename_i el i1 i2 i3 i4 k1 n k2 m hti
    have hu' := (hT _ _ hti).slice rfl
    have hl' := ev_v R hl
    have hc' := ev_v R hcp
    split at e
    · rename_i ie hie
      split at e
      · rename_i hs
        obtain ⟨s1, s2, s4⟩ := hs
        injection e with e
        subst e
        obtain ⟨⟨c1, c2, c3, c4⟩, c5⟩ := hc
        obtain ⟨x, z, x1, x2, x3, x4, x5⟩ := (hT _ _ hie).info
        have hzs : z.cells.size = ie.size := by rw [← s2, ← x5]; simp
        have hrun := run_make (P := c.P) w t el x z hu' x1 x4 k1 k2 n m c1 c2 (by
          rw [x3]
          have h1 : (ie.bytes : Int) ≤ 128 := by omega
          have : (ie.bytes : Int) * m ≤ 128 * m := Int.mul_le_mul_of_nonneg_right h1 (by omega)
          omega) (by omega)
        refine good_row R (upd_push w _) hfresh hu hn hd c5 (fz := (0, 0)) (cap := m.toNat) (Nat.le_refl _) (by omega) (heap_alloc_new w (.cells (madeCells z.cells (m.toNat * x.size)) el)) (by rw [size_madeCells, x2]) (fun _ => ⟨.inl (Nat.le_refl 0), by unfold maxLen; omega⟩) (fun K i hi j hj => ?_) (by simp only [execOp, ho, hl', hc', Sem.run_bind, hrun]; rfl)
        have hlt : i * ie.size + j < m.toNat * x.size := by
          rw [x2]
          have : (i + 1) * ie.size ≤ m.toNat * ie.size := Nat.mul_le_mul_right _ (by omega)
          rw [Nat.add_mul] at this
          omega
        have hget : ie.zero.getD j undef = z.cells[j]! := by
          rw [← x5]; simp [List.getD, hzs, hj]
        have hmod : (i * ie.size + j) % ie.size = j := Nat.mul_add_mod_of_lt hj
        refine ⟨z.cells[j]!, by simp only [madeCells, hzs]; rw [Array.getElem?_map, Array.getElem?_range, if_pos hlt, Option.map_some, hmod], ?_, ?_⟩
        · exact hget.symm
        · rw [List.getD_eq_getElem?_getD, List.getElem?_eq_getElem (by omega)]
          exact List.all_eq_true.1 s4 _ (List.getElem_mem _)
      · cases e
    · cases e
  · cases e
end
end Vm
end Go.Proofs.Ytknlckjpgmjenaa
