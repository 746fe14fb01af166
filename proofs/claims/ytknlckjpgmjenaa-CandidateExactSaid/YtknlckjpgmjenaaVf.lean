/- The abstract machine: stores, appends. -/
import Derived.Test.YtknlckjpgmjenaaVe
namespace Go.Proofs.Ytknlckjpgmjenaa
set_option linter.unusedVariables false
namespace Vm
theorem setCells_heap (b : Nat) (t : TypeId) (fz : Nat × Nat) : ∀ (vs : List Value) (o : Nat) (cur : Array Value) (w : World), w.heap[b]? = some (.cells cur t fz) → o + vs.length ≤ cur.size →
    (w.setCells b o vs).heap[b]? = some (.cells (splice cur.toList o vs).toArray t fz)
  | [], o, cur, w, h, _ => by simp [World.setCells, splice, h]
  | v :: vs, o, cur, w, h, hl => by
    simp only [World.setCells]
    have h1 : (w.setCell ⟨b, o, none⟩ v).heap[b]? = some (.cells (cur.setIfInBounds o v) t fz) := by simp [World.setCell, Array.getElem?_modify, h]
    rw [setCells_heap b t fz vs (o + 1) _ _ h1 (by simp at hl ⊢; omega)]
    congr 3
    simp at hl
    apply List.ext_getElem?
    intro i
    simp only [splice, Array.toList_setIfInBounds, List.getElem?_append, List.length_take, List.length_set, Array.length_toList, List.getElem?_take, List.getElem?_set, List.length_append, List.length_cons, List.getElem?_drop, Nat.min_eq_left (show o + 1 ≤ cur.size by omega), Nat.min_eq_left (show o ≤ cur.size by omega)]
    rcases Nat.lt_trichotomy i o with h1 | h1 | h1
    · simp [show i < o + 1 by omega, h1, show i < o + 1 + vs.length by omega, show i < o + (vs.length + 1) by omega, show o ≠ i by omega]
    · subst h1
      simp [show i < i + 1 + vs.length by omega, show i < cur.size by omega]
    · by_cases h2 : i < o + (vs.length + 1)
      · simp [show ¬ i < o + 1 by omega, show i < o + 1 + vs.length by omega, show ¬ i < o by omega, h2, show i - o = (i - (o + 1)) + 1 by omega]
      · simp [show ¬ i < o + 1 + vs.length by omega, h2, show o + 1 + vs.length + (i - (o + 1 + vs.length)) = o + (vs.length + 1) + (i - (o + (vs.length + 1))) by omega, show o ≠ o + (vs.length + 1) + (i - (o + (vs.length + 1))) by omega]
theorem setCells_upd (b : Nat) : ∀ (vs : List Value) (o : Nat) (w : World), Upd (fun x => x = b) w (w.setCells b o vs)
  | [], o, w => Upd.refl _ _
  | v :: vs, o, w => by
    have h1 : Upd (fun x => x = b) w (w.setCell ⟨b, o, none⟩ v) := ⟨rfl, rfl, rfl, by simp, fun k hk hne => by rw [heap_setCell_other]; exact hne⟩
    exact h1.trans (setCells_upd b vs (o + 1) _) fun _ _ h => h
theorem run_storeCells_b {P : Program} (b o : Nat) (t : TypeId) (vs : List Value) (cur : Array Value) (w : World) {fz : Nat × Nat} (hz : Fz fz cur.size) (h : w.heap[b]? = some (.cells cur t fz)) (hl : o + vs.length ≤ cur.size) (h1 : ∀ v ∈ vs, v.oneCell' = true) :
    (storeCells ⟨b, o, none⟩ vs).run P w = .ok () (w.setCells b o vs) := by
  have := run_storeCells_cells (P := P) b o vs 0 w (fun j hj => by rw [cell_of_row w _ _ cur t fz h]; simp; omega) (fun j hj => hz.free h (by omega)) h1
  simpa using this
theorem splice_in {α : Type} {l m : List α} {off i : Nat} (h : off + m.length ≤ l.length) (hi : i < m.length) : (splice l off m)[off + i]? = m[i]? := by
  simp only [splice, List.append_assoc, List.getElem?_append, List.length_take]
  rw [if_neg (by omega), if_pos (by omega)]
  congr 1; omega
theorem splice_out {α : Type} {l m : List α} {off i : Nat} (h : off + m.length ≤ l.length) (hi : i < off ∨ off + m.length ≤ i) : (splice l off m)[i]? = l[i]? := by
  simp only [splice, List.append_assoc, List.getElem?_append, List.length_take]
  rcases hi with g | g
  · rw [if_pos (by omega), List.getElem?_take, if_pos g]
  · rw [if_neg (by omega), if_neg (by omega), List.getElem?_drop]
    congr 1; omega
section
variable {c : Cx} {used used' : Nat → Prop} {ρ ρ' : Ren} {tm : Tm} {h h' : Hp} {a : Act} {w w' : World} {base : Base} {X Y : Nat → Prop} {nt : Nat} {ok : Nat → Prop} {o : Oper} {nid : Nat}
/-- One block of the machine's own is written. -/
theorem Rep.write (R : Rep base X nt used ρ tm h a w) {id b cap : Nat} {blk blk' : Blk} (hid : h id = some blk) (hm : blk.mut = true) (hrow : blk'.isRow = true → blk.isRow = true) (hρ : ρ id = some (.at b cap)) (U : Upd (fun x => x = b) w w')
    (hb : Keeps w w' (okOf base w ρ h) (okOf base w' ρ (setHp h [(id, some blk')])) → RB w' (okOf base w' ρ (setHp h [(id, some blk')])) ρ blk' (.at b cap)) (d : Option Tmp) (hd : ∀ t, d = some t → t < nt) :
    Rep base X nt used ρ (setTm tm d none) (setHp h [(id, some blk')]) (a.put d undef) w' := by
  have hy : ∀ x, x = b → x < w.heap.size → ∃ id blk cap, h id = some blk ∧ blk.mut = true ∧ ρ id = some (.at x cap) := fun x e _ => ⟨id, blk, cap, hid, hm, by rw [e]; exact hρ⟩
  have hex : ∀ k x, setHp h [(id, some blk')] k = some x → ∃ y, h k = some y ∧ (x.mut = true → y.mut = true) := fun k x hx => by
    by_cases e : id = k
    · subst e; exact ⟨blk, hid, fun _ => hm⟩
    · simp only [setHp, if_neg e] at hx; exact ⟨x, hx, fun q => q⟩
  refine R.step U hy (Ext.rfl_ _) R.used (fun k bk hk => ?_) (fun i j b c c' x y hi hj hk h1 h2 => by
    obtain ⟨x', a1, a2⟩ := hex i x hi
    obtain ⟨y', b1, b2⟩ := hex j y hj
    exact R.inj i j b c c' x' y' a1 b1 (hk.imp a2 b2) h1 h2) (fun t x ht => ?_) (by rw [put_size', R.size]) (by rw [put_def', R.defers])
  · by_cases e : id = k
    · subst e
      simp only [setHp, if_true, Option.some.injEq] at hk
      subst hk
      obtain ⟨l, l1, _, l3⟩ := R.heap id blk hid
      rw [hρ] at l1
      injection l1 with l1
      subst l1
      obtain ⟨m1, m2⟩ := l3 b cap rfl
      exact .inr ⟨.at b cap, hρ, hb, fun b' cap' e => by injection e with e1 e2; subst e1; exact ⟨Nat.lt_of_lt_of_le m1 U.size, m2, .inr ⟨id, blk, cap, hid, hm, hρ⟩⟩⟩
    · simp only [setHp, if_neg e] at hk
      exact .inl ⟨hk, fun b' cap' e1 e2 => e (R.inj id k b cap cap' blk bk hid hk (.inl hm) hρ (by rw [← e2]; exact e1))⟩
  · by_cases e : some t = d
    · rw [setTm, if_pos e] at ht; cases ht
    · rw [setTm, if_neg e] at ht
      refine .inl ⟨ht, ?_⟩
      cases d with
      | none => rfl
      | some d => exact put_ne _ fun h => e (by rw [h])
def updRow (f : Nat → Nat → T) (e sub : Nat) (tl : List T) : Nat → Nat → T := fun i j => if i = e ∧ sub ≤ j ∧ j < sub + tl.length then tl.getD (j - sub) (.v undef) else f i j
def aStore (tt : TT) (tm : Tm) (h : Hp) (t : TypeId) (p x : AV) (hi : Hint) : Option Eff :=
  match tt t, avCells x with
  | some i, some l => if l.length = i.size then match p with
    | .c (.ptr id sz e sub) => match h id with
      | some (.box ty cs) => if e * sz + sub + l.length ≤ cs.length then some ⟨none, [(id, some (.box ty (splice cs (e * sz + sub) l)))], True⟩ else none
      | some (.row ty false sz' n f) => match asT l with
        | some tl => if sz = sz' ∧ sub + tl.length ≤ sz then
            some ⟨none, [(id, some (reRow ty false sz n (updRow f e sub tl) hi.row).2.1)], e < n ∧ (reRow ty false sz n (updRow f e sub tl) hi.row).2.2⟩
          else if sz = sz' ∧ e = 0 ∧ sub = 0 ∧ tl.length = n * sz then some ⟨none, [(id, some (reRow ty false sz n (rowOf tl sz) hi.row).2.1)], (reRow ty false sz n (rowOf tl sz) hi.row).2.2⟩ else none
        | none => none
      | _ => none
    | _ => none else none
  | _, _ => none
theorem aStore_good (R : Rep c.base c.X c.nt used ρ tm h a w) (hu : ∀ id, used id → used' id) (hd : ∀ t, o.dst = some t → t < c.nt) {tt : TT} (hT : TTok c.P tt) {t : TypeId} {p x : Operand} {pv xv : AV} {hi : Hint} {r : Eff}
    (ho : o.op = .store t p x) (hp : ev tm p = some pv) (hx : ev tm x = some xv) (e : aStore tt tm h t pv xv hi = some r) (hc : r.chk) : Good c used' tm h a o r.val r.W ((execOp a.eval o).run c.P w) := by
  unfold aStore at e
  split at e
  · rename_i i l hti hl
    have hcells := avCells_ok hl (ev_ok R hx)
    have hsz := (hT _ _ hti).size w
    have hone : ∀ v ∈ (a.eval x).cells.toList, v.oneCell' = true := fun v hv => by
      obtain ⟨k, hk⟩ := List.mem_iff_getElem?.1 hv
      have hlen := hcells.length
      obtain ⟨hk1, _⟩ := List.getElem?_eq_some_iff.1 hk
      obtain ⟨y, y1, y2⟩ := All2.get hcells (List.getElem?_eq_getElem (by omega : k < l.length))
      rw [hk] at y1
      injection y1 with y1
      rw [y1]; exact RC.one y2
    split at e
    · rename_i hls
      have hvl : (a.eval x).cells.toList.length = i.size := by rw [← hcells.length]; exact hls
      split at e
      · rename_i id sz e0 sub
        obtain ⟨b, cap, p1, p2⟩ := ev_ok R hp
        split at e
        · rename_i ty cs hid
          split at e
          · rename_i hle
            injection e with e
            subst e
            obtain ⟨loc, l1, l2, _⟩ := R.heap id _ hid
            rw [p1] at l1
            injection l1 with l1
            subst l1
            obtain ⟨b', vs, e1, e2, e3⟩ := l2
            injection e1 with e1 ecap
            subst e1; subst ecap
            have hfit : e0 * sz + sub + (a.eval x).cells.toList.length ≤ vs.size := by have := e3.length; simp only [Array.length_toList] at this hvl ⊢; omega
            have hrun := run_storeCells_b (P := c.P) b (e0 * sz + sub) ty _ vs w (.inl (Nat.le_refl 0)) e2 hfit hone
            have hres : (execOp a.eval o).run c.P w = .ok .skip (w.setCells b (e0 * sz + sub) (a.eval x).cells.toList) := by
              simp only [execOp, ho, p2, Instr.storeAt, Instr.sureAddr, storeVar, Sem.run_bind, Sem.run_pure, Result.andThen_ok, hsz]
              rw [if_neg (by simpa using hvl)]
              simp [hrun]
            rw [hres]
            refine ⟨ρ, (Rep.write R hid rfl (fun h => by first | exact h | rfl) p1 (setCells_upd b _ _ w) (fun K => ?_) _ hd).used_mono hu⟩
            refine ⟨b, _, rfl, setCells_heap b ty (0, 0) _ _ vs w e2 hfit, ?_⟩
            exact (e3.mono (RC.mono K (Ext.rfl_ _))).splice (hcells.mono (RC.mono K (Ext.rfl_ _))) _
          · cases e
        · rename_i ty sz' n f hid
          split at e
          · rename_i tl htl
            split at e
            · rename_i hle
              obtain ⟨rfl, hle⟩ := hle
              injection e with e
              subst e
              obtain ⟨c1, c2⟩ := hc
              obtain ⟨loc, l1, l2, _⟩ := R.heap id _ hid
              rw [p1] at l1
              injection l1 with l1
              subst l1
              obtain ⟨e0', vs, fz, e1, e2, e3, e4⟩ := l2
              obtain ⟨hfz, hcm⟩ := e3 rfl
              have htl' := asT_ok htl hcells
              have htll := htl'.length
              have hbound : (e0 + 1) * sz ≤ cap * sz := Nat.mul_le_mul_right _ (by omega)
              rw [Nat.add_mul] at hbound
              have hfit : e0 * sz + sub + (a.eval x).cells.toList.length ≤ vs.size := by omega
              have hrun := run_storeCells_b (P := c.P) b (e0 * sz + sub) ty _ vs w hfz e1 hfit hone
              have hres : (execOp a.eval o).run c.P w = .ok .skip (w.setCells b (e0 * sz + sub) (a.eval x).cells.toList) := by
                simp only [execOp, ho, p2, Instr.storeAt, Instr.sureAddr, storeVar, Sem.run_bind, Sem.run_pure, Result.andThen_ok, hsz]
                rw [if_neg (by simpa using hvl)]
                simp [hrun]
              rw [hres]
              refine ⟨ρ, (Rep.write R hid rfl (fun h => by first | exact h | rfl) p1 (setCells_upd b _ _ w) (fun K => ?_) _ hd).used_mono hu⟩
              refine reRow_ok (l := .at b cap) c2 ⟨by omega, _, fz, setCells_heap b ty fz _ _ vs w e1 hfit, ?_, fun _ => ⟨by rw [List.size_toArray, splice_length (by simpa using hfit)]; simpa using hfz, hcm⟩, fun i' hi' j hj => ?_⟩
              · rw [List.size_toArray, splice_length (by simpa using hfit)]; simpa using e2
              · have hlen : i' * sz + j < vs.size := by
                  have : (i' + 1) * sz ≤ cap * sz := Nat.mul_le_mul_right _ (by omega)
                  rw [Nat.add_mul] at this
                  omega
                by_cases hin : i' = e0 ∧ sub ≤ j ∧ j < sub + tl.length
                · obtain ⟨rfl, j1, j2⟩ := hin
                  obtain ⟨y, y1, y2⟩ := All2.get htl' (List.getElem?_eq_getElem (by omega : j - sub < tl.length))
                  refine ⟨y, ?_, ?_⟩
                  · have hfit' : i' * sz + sub + (a.eval x).cells.toList.length ≤ vs.toList.length := by simpa using hfit
                    have := splice_in (i := j - sub) hfit' (by omega)
                    rw [List.getElem?_toArray, ← y1, ← this]
                    congr 1; omega
                  · have : updRow f i' sub tl i' j = tl[j - sub]'(by omega) := by simp [updRow, j1, j2, List.getD, show j - sub < tl.length by omega]
                    rw [this]; exact RT.mono K _ _ y2
                · obtain ⟨y, y1, y2⟩ := e4 i' hi' j hj
                  refine ⟨y, ?_, ?_⟩
                  · rw [← y1]
                    have hne : i' * sz + j < e0 * sz + sub ∨ e0 * sz + sub + (a.eval x).cells.toList.length ≤ i' * sz + j := by
                      rcases Nat.lt_trichotomy i' e0 with g | g | g
                      · have : (i' + 1) * sz ≤ e0 * sz := Nat.mul_le_mul_right _ g
                        rw [Nat.add_mul] at this
                        left; omega
                      · subst g
                        have : ¬ (sub ≤ j ∧ j < sub + tl.length) := fun hh => hin ⟨rfl, hh⟩
                        omega
                      · have : (e0 + 1) * sz ≤ i' * sz := Nat.mul_le_mul_right _ g
                        rw [Nat.add_mul] at this
                        right; omega
                    have hfit' : e0 * sz + sub + (a.eval x).cells.toList.length ≤ vs.toList.length := by simpa using hfit
                    rw [List.getElem?_toArray, splice_out hfit' hne, Array.getElem?_toList]
                  · have : updRow f e0 sub tl i' j = f i' j := by simp only [updRow]; rw [if_neg hin]
                    rw [this]; exact RT.mono K _ _ y2
            · split at e
              · rename_i hle
                obtain ⟨rfl, he0, hsb, hle⟩ := hle
                injection e with e
                subst e
                have h00 : e0 * sz + sub = 0 := by rw [he0, hsb]; simp
                obtain ⟨loc, l1, l2, _⟩ := R.heap id _ hid
                rw [p1] at l1
                injection l1 with l1
                subst l1
                obtain ⟨e0', vs, fz, e1, e2, e3, e4⟩ := l2
                obtain ⟨hfz, hcm⟩ := e3 rfl
                have htl' := asT_ok htl hcells
                have htll := htl'.length
                have hbound : n * sz ≤ cap * sz := Nat.mul_le_mul_right _ e0'
                have hfit : e0 * sz + sub + (a.eval x).cells.toList.length ≤ vs.size := by omega
                have hrun := run_storeCells_b (P := c.P) b (e0 * sz + sub) ty _ vs w hfz e1 hfit hone
                have hres : (execOp a.eval o).run c.P w = .ok .skip (w.setCells b (e0 * sz + sub) (a.eval x).cells.toList) := by
                  simp only [execOp, ho, p2, Instr.storeAt, Instr.sureAddr, storeVar, Sem.run_bind, Sem.run_pure, Result.andThen_ok, hsz]
                  rw [if_neg (by simpa using hvl)]
                  simp [hrun]
                rw [hres]
                refine ⟨ρ, (Rep.write R hid rfl (fun h => by first | exact h | rfl) p1 (setCells_upd b _ _ w) (fun K => ?_) _ hd).used_mono hu⟩
                refine reRow_ok (l := .at b cap) hc ⟨e0', _, fz, setCells_heap b ty fz _ _ vs w e1 hfit, ?_, fun _ => ⟨by rw [List.size_toArray, splice_length (by simpa using hfit)]; simpa using hfz, hcm⟩, fun i' hi' j hj => ?_⟩
                · rw [List.size_toArray, splice_length (by simpa using hfit)]; simpa using e2
                · obtain ⟨y, y1, y2⟩ := rowOf_ok hle htl' i' hi' j hj
                  refine ⟨y, ?_, RT.mono K _ _ y2⟩
                  have hfit' : e0 * sz + sub + (a.eval x).cells.toList.length ≤ vs.toList.length := by simpa using hfit
                  obtain ⟨hy, _⟩ := Array.getElem?_eq_some_iff.1 y1
                  have := splice_in (i := i' * sz + j) hfit' (by simpa using hy)
                  rw [List.getElem?_toArray]
                  rw [h00, Nat.zero_add] at this
                  rw [h00, this, ← y1, Array.getElem?_toList]
              · cases e
          · cases e
        · cases e
      · cases e
    · cases e
  · cases e
end
end Vm
end Go.Proofs.Ytknlckjpgmjenaa
