/- The abstract machine: an append that keeps the old slice; both rows are read only from then on. -/
import Derived.Test.YtknlckjpgmjenaaVg
namespace Go.Proofs.Ytknlckjpgmjenaa
set_option linter.unusedVariables false
namespace Vm
section
variable {c : Cx} {used used' : Nat → Prop} {ρ ρ' : Ren} {tm : Tm} {h h' : Hp} {a : Act} {w w' : World} {base : Base} {X Y : Nat → Prop} {nt : Nat} {ok : Nat → Prop} {o : Oper} {nid : Nat}
/-- A block of the machine's own is closed to writing; another stands beside it, closed too: they may be one and the same. -/
theorem Rep.keepK (R : Rep base X nt used ρ tm h a w) {k : Nat} {blk0 old blk : Blk} (hk : h k = some blk0) (hk0 : blk0.mut = true) (hold : old.mut = false) (hbm : blk.mut = false) (U : Upd Y w w') (hY : ∀ b, Y b → ∃ cap, ρ k = some (.at b cap))
    (hfresh : ¬ used nid) (hu : ∀ id, used id → used' id) (hn : used' nid) {l : Loc}
    (hl : ∀ b cap, l = .at b cap → b < w'.heap.size ∧ (w.heap.size ≤ b ∨ ∃ cap0, ρ k = some (.at b cap0)))
    (hb : Keeps w w' (okOf base w ρ h) (okOf base w' (ρ.set nid l) (setHp h [(nid, some blk), (k, some old)])) → RB w' (okOf base w' (ρ.set nid l) (setHp h [(nid, some blk), (k, some old)])) (ρ.set nid l) blk l)
    (hob : Keeps w w' (okOf base w ρ h) (okOf base w' (ρ.set nid l) (setHp h [(nid, some blk), (k, some old)])) → ∀ lk, ρ k = some lk → RB w' (okOf base w' (ρ.set nid l) (setHp h [(nid, some blk), (k, some old)])) (ρ.set nid l) old lk)
    (d : Option Tmp) (hd : ∀ t, d = some t → t < nt) (av : Option AV) (v : Value)
    (hv : Keeps w w' (okOf base w ρ h) (okOf base w' (ρ.set nid l) (setHp h [(nid, some blk), (k, some old)])) → ∀ x, av = some x → RV w' (okOf base w' (ρ.set nid l) (setHp h [(nid, some blk), (k, some old)])) (ρ.set nid l) x v) :
    Rep base X nt used' (ρ.set nid l) (setTm tm d av) (setHp h [(nid, some blk), (k, some old)]) (a.put d v) w' := by
  have hnone : ρ nid = none := by
    cases e : ρ nid with
    | none => rfl
    | some x => exact absurd (R.used nid (by rw [e]; simp)) hfresh
  have hkn : k ≠ nid := fun e => by
    obtain ⟨l', e1, _⟩ := R.heap k blk0 hk
    rw [e, hnone] at e1; cases e1
  have hext := ext_set R hfresh l
  have hsplit : ∀ id b, (setHp h [(nid, some blk), (k, some old)]) id = some b → (id = nid ∧ b = blk) ∨ (id = k ∧ b = old) ∨ (id ≠ nid ∧ id ≠ k ∧ h id = some b) := fun id b hb => by
    simp only [setHp] at hb
    split at hb
    · rename_i e; injection hb with hb; exact .inl ⟨e.symm, hb.symm⟩
    · rename_i e1
      split at hb
      · rename_i e; injection hb with hb; exact .inr (.inl ⟨e.symm, hb.symm⟩)
      · rename_i e2; exact .inr (.inr ⟨fun x => e1 x.symm, fun x => e2 x.symm, hb⟩)
  have hset : ∀ id, id ≠ nid → (ρ.set nid l) id = ρ id := fun id e => by simp only [Ren.set, if_neg e]
  have hnY : ∀ id b, h id = some b → id ≠ k → ∀ x cap, ρ id = some (.at x cap) → ¬ Y x := fun id b hb hne x cap hx hy => by
    obtain ⟨cap', e2⟩ := hY x hy
    exact hne (R.inj id k x cap cap' b blk0 hb hk (.inr hk0) hx e2)
  have far : ∀ b cc j y cj, (ρ.set nid l) nid = some (.at b cc) → h j = some y → j ≠ k → ρ j = some (.at b cj) → False := fun b cc j y cj h1 h2 h3 h4 => by
    simp only [Ren.set, if_true, Option.some.injEq] at h1
    rcases (hl b cc h1).2 with g | ⟨cap0, g⟩
    · obtain ⟨l', m1, _, m3⟩ := R.heap j y h2
      rw [h4] at m1
      injection m1 with m1
      have := (m3 b cj m1.symm).1
      omega
    · exact h3 (R.inj j k b cj cap0 y blk0 h2 hk (.inr hk0) h4 g)
  refine R.step U (fun b hy _ => ?_) hext (fun id hid => ?_) (fun id b hid => ?_) (fun i j b c c' x0 y0 hi hj hm h1 h2 => ?_) (fun t x ht => ?_) (by rw [put_size', R.size]) (by rw [put_def', R.defers])
  · obtain ⟨cap, e2⟩ := hY b hy
    exact ⟨k, blk0, cap, hk, hk0, e2⟩
  · unfold Ren.set at hid
    split at hid
    · rename_i e; rw [e]; exact hn
    · exact hu id (R.used id hid)
  · rcases hsplit id b hid with ⟨e1, e2⟩ | ⟨e1, e2⟩ | ⟨e1, e2, e3⟩
    · rw [e1, e2]
      refine .inr ⟨l, by simp [Ren.set], hb, fun b cap e => ?_⟩
      obtain ⟨g1, g2⟩ := hl b cap e
      refine ⟨g1, ?_, ?_⟩
      · rcases g2 with g2 | ⟨cap0, g2⟩
        · exact .inl (Nat.le_trans R.upd.size g2)
        · obtain ⟨l', m1, _, m3⟩ := R.heap k blk0 hk
          rw [g2] at m1
          injection m1 with m1
          exact (m3 b cap0 m1.symm).2
      · rcases g2 with g2 | ⟨cap0, g2⟩
        · exact .inl g2
        · exact .inr ⟨k, blk0, cap0, hk, hk0, g2⟩
    · rw [e1, e2]
      obtain ⟨l', m1, m2, m3⟩ := R.heap k blk0 hk
      exact .inr ⟨l', by rw [hset _ hkn]; exact m1, fun K => hob K l' m1, fun b cap e => ⟨Nat.lt_of_lt_of_le (m3 b cap e).1 U.size, (m3 b cap e).2, .inr ⟨k, blk0, cap, hk, hk0, by rw [m1, e]⟩⟩⟩
    · exact .inl ⟨e3, hnY id b e3 e2⟩
  · rcases hsplit i x0 hi with ⟨ei, ex⟩ | ⟨ei, ex⟩ | ⟨i1, i2, i3⟩
    · rcases hsplit j y0 hj with ⟨ej, ey⟩ | ⟨ej, ey⟩ | ⟨j1, j2, j3⟩
      · rw [ei, ej]
      · rw [ex, ey, hbm, hold] at hm; exact absurd hm (by decide)
      · rw [ei] at h1; rw [hset j j1] at h2; exact (far b c j y0 c' h1 j3 j2 h2).elim
    · rcases hsplit j y0 hj with ⟨ej, ey⟩ | ⟨ej, ey⟩ | ⟨j1, j2, j3⟩
      · rw [ex, ey, hbm, hold] at hm; exact absurd hm (by decide)
      · rw [ei, ej]
      · rw [ei, hset k hkn] at h1; rw [hset j j1] at h2
        exact (j2 (R.inj k j b c c' blk0 y0 hk j3 (.inl hk0) h1 h2).symm).elim
    · rw [hset i i1] at h1
      rcases hsplit j y0 hj with ⟨ej, ey⟩ | ⟨ej, ey⟩ | ⟨j1, j2, j3⟩
      · rw [ej] at h2; exact (far b c' i x0 c h2 i3 i2 h1).elim
      · rw [ej, hset k hkn] at h2
        exact (i2 (R.inj i k b c c' x0 blk0 i3 hk (.inr hk0) h1 h2)).elim
      · rw [hset j j1] at h2
        exact R.inj i j b c c' x0 y0 i3 j3 hm h1 h2
  · by_cases e : some t = d
    · rw [setTm, if_pos e] at ht
      refine .inr fun K => ?_
      rw [← e, put_eq v (by rw [R.size]; exact hd t e.symm)]
      exact hv K x ht
    · rw [setTm, if_neg e] at ht
      refine .inl ⟨ht, ?_⟩
      cases d with
      | none => rfl
      | some d => exact put_ne v fun h => e (by rw [h])
theorem reRow_mut {e : TypeId} {sz n : Nat} {f : Nat → Nat → T} {q : Option (Nat × (Nat → Nat → T))} : (reRow e true sz n f q).2.1.mut = false := by
  cases q with
  | none => rfl
  | some p => rfl
def aAppendK (tt : TT) (h : Hp) (t tx : TypeId) (s x : AV) (nid : Nat) (hi : Hint) : Option Eff :=
  match tt t with
  | some { k := .slice e, .. } => match tt e with
    | some ie => if 0 < ie.size ∧ ie.zero.length = ie.size ∧ srcKind tt tx x then match s, aSrc h ie.size x with
      | .c (.ref id sz' off n), some (m, g, sc) => if sz' = ie.size ∧ off = 0 then match h id with
        | some (.row ty0 false sz'' n' f) => if sz'' = ie.size ∧ ty0 = e then
            some ⟨some (.c (.ref nid ie.size 0 (reRow ty0 true ie.size (n + m) (appRow n f g) hi.row).1)), [(nid, some (reRow ty0 true ie.size (n + m) (appRow n f g) hi.row).2.1), (id, some (.row ty0 true ie.size n' f))],
              n = n' ∧ sc ∧ (n + m ≤ 1099511627776 ∧ ie.bytes ≤ 128) ∧ (reRow ty0 true ie.size (n + m) (appRow n f g) hi.row).2.2⟩ else none
        | _ => none else none
      | _, _ => none else none
    | none => none
  | _ => none
theorem aAppendK_good (R : Rep c.base c.X c.nt used ρ tm h a w) (hfresh : ¬ used nid) (hu : ∀ id, used id → used' id) (hn : used' nid) (hd : ∀ t, o.dst = some t → t < c.nt) {tt : TT} (hT : TTok c.P tt) {t tx : TypeId} {s x : AV} {hi : Hint} {r : Eff} {sv xv : Value}
    (e : aAppendK tt h t tx s x nid hi = some r) (hc : r.chk) (hs : RV w (okOf c.base w ρ h) ρ s sv) (hx : RV w (okOf c.base w ρ h) ρ x xv) {ty : TypeId} {res : Result Next}
    (hr : ∀ v w', (Builtin.append_ #[t, tx] ty #[sv, xv]).run c.P w = .ok v w' → res = .ok (.value v) w') : Good c used' tm h a o r.val r.W res := by
  unfold aAppendK at e
  split at e
  · rename_i el i1 i2 i3 i4 hti
    have hut := (hT _ _ hti).slice rfl
    split at e
    · rename_i ie hie
      obtain ⟨it, z, t1, t2, t3, t4, t5⟩ := (hT _ _ hie).info
      split at e
      · rename_i hcond
        obtain ⟨s1, s2, s3⟩ := hcond
        split at e
        · rename_i id sz' off n m g sc hsrc
          split at e
          · rename_i h1
            split at e
            · rename_i ty0 sz'' n' f hid
              split at e
              · rename_i h2
                injection e with e
                subst e
                obtain ⟨rfl, rfl⟩ := h1
                obtain ⟨rfl, rfl⟩ := h2
                obtain ⟨c1, c2, ⟨c3, c4⟩, c5⟩ := hc
                have c1' : n = n' := c1
                subst c1'
                obtain ⟨news, n1, n2⟩ := aSrc_ok hT R s1 s3 hsrc c2 hx
                rw [← t2] at n1
                have hzs : z.cells.size = ie.size := by rw [← s2, ← t5]; simp
                have hnl : news.length = m * ie.size := by rw [n1.newsLen, t2]
                -- the old row, where its block has not changed
                have oldSame : ∀ {w' : World}, (∀ b cap, ρ id = some (.at b cap) → w'.heap[b]? = w.heap[b]?) → ∀ (okN : Nat → Prop) (ρN : Ren), Keeps w w' (okOf c.base w ρ h) okN → ∀ lk, ρ id = some lk → RB w' okN ρN (.row ty0 true ie.size n f) lk := fun hb okN ρN K lk hlk => by
                  obtain ⟨l', m1, m2, _⟩ := R.heap id _ hid
                  rw [hlk] at m1
                  injection m1 with m1
                  subst m1
                  cases lk with
                  | nil => exact m2
                  | _ b cap =>
                    obtain ⟨v0, vs, fz, v1, v2, _, v4⟩ := m2
                    exact ⟨v0, vs, fz, (hb b cap hlk).trans v1, v2, fun e => (by cases e), fun i hi j hj => let ⟨x, x1, x2⟩ := v4 i hi j hj; ⟨x, x1, RT.mono K _ _ x2⟩⟩
                -- a new row, out of the elements that were there
                have grow : ∀ (q : Option Addr) (cap : Nat) (olds : List Value), sv = .slice q n cap → cap < n + m → olds.length = n * ie.size → (Builtin.firstCells it.size n (.slice q n cap)).run c.P w.drew = .ok olds.toArray w.drew →
                    (∀ i, i < n → ∀ j, j < ie.size → ∃ v, olds[i * ie.size + j]? = some v ∧ RT w (okOf c.base w ρ h) (f i j) v) → Good c used' tm h a o (some (.c (.ref nid ie.size 0 (reRow ty0 true ie.size (n + m) (appRow n f g) hi.row).1))) ([(nid, some (reRow ty0 true ie.size (n + m) (appRow n f g) hi.row).2.1), (id, some (.row ty0 true ie.size n f))]) res := by
                  intro q cap olds hsv hcap hol hold hcell
                  have hb : (n + m) * it.bytes ≤ 140737488355328 := by
                    rw [t3]
                    have : (n + m) * ie.bytes ≤ 1099511627776 * 128 := Nat.mul_le_mul c3 c4
                    omega
                  have hrun := run_append_grow_src (P := c.P) w t tx ty ty0 it z hut t1 t4 q n cap olds hold xv m news n1 hcap (by omega) (growslice_fits hcap hb)
                  rw [← hsv] at hrun
                  rw [hr _ _ hrun]
                  have hge := grownCap_ge w (n + m) cap ty0
                  have hle := grownCap_le_maxLen w (n + m) cap ty0 (by unfold maxLen; omega)
                  have hsize : ((olds ++ news).toArray ++ Builtin.zeroCells z.cells (grownCap w (n + m) cap ty0 - (n + m))).size = grownCap w (n + m) cap ty0 * ie.size := by
                    simp only [Array.size_append, List.size_toArray, List.length_append, zeroCells_size', hzs, hol, hnl, ← Nat.add_mul]
                    congr 1; omega
                  have U : Upd (fun _ => False) w (w.drew.alloc (.cells ((olds ++ news).toArray ++ Builtin.zeroCells z.cells (grownCap w (n + m) cap ty0 - (n + m))) ty0)) := ⟨rfl, rfl, rfl, by simp, fun b hb _ => heap_alloc_old w.drew _ hb⟩
                  refine ⟨ρ.set nid (.at w.heap.size (grownCap w (n + m) cap ty0)), R.keepK hid rfl rfl reRow_mut U (fun _ x => x.elim) hfresh hu hn (fun b cp e => by injection e with e1 e2; subst e1; exact ⟨by simp, .inl (Nat.le_refl _)⟩) (fun K => ?_) (fun K lk hlk => oldSame (fun b cap e => by obtain ⟨l', m1, _, m3⟩ := R.heap id _ hid; rw [e] at m1; injection m1 with m1; exact heap_alloc_old w.drew _ (m3 b cap m1.symm).1) _ _ K lk hlk) _ hd _ _ (fun K x hx' => ?_)⟩
                  · refine reRow_ok (l := .at _ _) c5 ⟨hge, _, (0, 0), heap_alloc_new w.drew _, hsize, fun e => (by cases e), fun i hi j hj => ?_⟩
                    have hij : i * ie.size + j < (n + m) * ie.size := by
                      have : (i + 1) * ie.size ≤ (n + m) * ie.size := Nat.mul_le_mul_right _ hi
                      rw [Nat.add_mul] at this
                      omega
                    rw [Nat.add_mul] at hij
                    by_cases hin : i < n
                    · obtain ⟨v, v1, v2⟩ := hcell i hin j hj
                      have hlo : i * ie.size + j < olds.length := by
                        rw [hol]
                        have : (i + 1) * ie.size ≤ n * ie.size := Nat.mul_le_mul_right _ hin
                        rw [Nat.add_mul] at this
                        omega
                      refine ⟨v, ?_, by simp only [appRow, if_pos hin]; exact RT.mono K _ _ v2⟩
                      rw [Array.getElem?_append_left (by simp; omega)]
                      simp [List.getElem?_append_left hlo, v1]
                    · obtain ⟨v, v1, v2⟩ := n2 (i - n) (by omega) j hj
                      have hi2 : i * ie.size = n * ie.size + (i - n) * ie.size := by rw [← Nat.add_mul]; congr 1; omega
                      refine ⟨v, ?_, by simp only [appRow, if_neg hin]; exact RT.mono K _ _ v2⟩
                      rw [Array.getElem?_append_left (by simp; omega)]
                      rw [List.getElem?_toArray, List.getElem?_append_right (by rw [hol, hi2]; omega), ← v1]
                      congr 1; rw [hol, hi2]; omega
                  · injection hx' with hx'; subst hx'
                    refine ⟨.at w.heap.size (grownCap w (n + m) cap ty0), by simp [Ren.set], .inl ⟨grownCap w (n + m) cap ty0, ?_, ?_, by omega⟩⟩
                    · rw [reRow_n c5]; simp
                    · rw [reRow_n c5]; omega
                -- nothing is there, nothing comes
                have none_ : ∀ (q : Option Addr), sv = .slice q 0 0 → n = 0 → m = 0 →
                    Good c used' tm h a o (some (.c (.ref nid ie.size 0 (reRow ty0 true ie.size (n + m) (appRow n f g) hi.row).1))) ([(nid, some (reRow ty0 true ie.size (n + m) (appRow n f g) hi.row).2.1), (id, some (.row ty0 true ie.size n f))]) res := by
                  intro q hsv hn0 hm0
                  subst hn0
                  subst hm0
                  have hnews : news = [] := List.eq_nil_of_length_eq_zero (by simpa using hnl)
                  subst hnews
                  have hrun : (Builtin.append_ #[t, tx] ty #[sv, xv]).run c.P w = .ok (.slice q 0 0) w := by
                    have hl := n1.len w
                    have hf := n1.cells
                    rw [hsv]
                    rcases n1.kind with ⟨e', hk⟩ | hk <;> cases q <;> simp [Builtin.append_, run_underlying hut, run_underlying hk, sizeOf, typeInfo, t1, hl, hf, storeCells]
                  rw [hr _ _ hrun]
                  refine ⟨ρ.set nid .nil, R.keepK hid rfl rfl reRow_mut (Upd.refl (fun _ => False) w) (fun _ x => x.elim) hfresh hu hn (fun b cp e => by cases e) (fun K => reRow_ok (l := .nil) c5 rfl) (fun K lk hlk => oldSame (fun _ _ _ => rfl) _ _ K lk hlk) _ hd _ _ (fun K x hx' => ?_)⟩
                  injection hx' with hx'; subst hx'
                  exact ⟨.nil, by simp [Ren.set], rfl, by rw [reRow_n c5], q, rfl⟩
                obtain ⟨l, l1, l2⟩ := hs
                obtain ⟨l', m1, m2, m3⟩ := R.heap id _ hid
                rw [l1] at m1
                injection m1 with m1
                subst m1
                cases l with
                | nil =>
                  obtain ⟨_, rfl, q, rfl⟩ := l2
                  by_cases hm : m = 0
                  · exact none_ q rfl rfl hm
                  · refine grow q 0 [] rfl (by omega) (by simp) ?_ (fun i hi => by omega)
                    cases q with
                    | none => exact run_firstCells_none w.drew it.size 0 0 0
                    | some ad => exact run_firstCells_some w.drew it.size 0 ad 0 0 [] (by simp) (fun j v hv => by simp at hv)
                | _ b cap =>
                  obtain ⟨v0, vs, fz, v1, v2, v3, v4⟩ := m2
                  obtain ⟨hfz, hcm⟩ := v3 rfl
                  rcases l2 with ⟨cc, rfl, hle1, hle⟩ | ⟨rfl, q, rfl⟩
                  · simp only [Nat.zero_mul] at hr grow
                    by_cases hroom : n + m ≤ cc
                    · have hroom' : n + m ≤ cap := by omega
                      have hfit : n * ie.size + news.length ≤ vs.size := by
                        rw [hnl, v2, ← Nat.add_mul]; exact Nat.mul_le_mul_right _ hroom'
                      have hrun := run_append_room_src (P := c.P) w t tx ty ty0 it hut t1 b 0 n cc xv m news n1 hroom
                        (fun j hj => by rw [cell_of_row w _ _ vs ty0 fz v1, t2]; simp; omega) (fun j hj => hfz.free v1 (by rw [t2]; omega))
                      rw [hr _ _ hrun, t2, Nat.zero_add]
                      refine ⟨ρ.set nid (.at b cap), R.keepK hid rfl rfl reRow_mut (setCells_upd b _ _ w) (fun x hx => ⟨cap, by rw [hx]; exact l1⟩) hfresh hu hn (fun b' cp e => by injection e with e1 e2; subst e1; exact ⟨Nat.lt_of_lt_of_le (m3 b cap rfl).1 (setCells_upd b _ _ w).size, .inr ⟨cap, l1⟩⟩) (fun K => ?_) (fun K lk hlk => ?_) _ hd _ _ (fun K x hx' => ?_)⟩
                      rotate_left
                      · rw [l1] at hlk
                        injection hlk with hlk
                        subst hlk
                        have hfit' : n * ie.size + news.length ≤ vs.toList.length := by simpa using hfit
                        refine ⟨v0, _, fz, setCells_heap b ty0 fz news (n * ie.size) vs w v1 hfit, ?_, fun e => (by cases e), fun i hi j hj => ?_⟩
                        · rw [List.size_toArray, splice_length hfit']; simpa using v2
                        · obtain ⟨v, x1, x2⟩ := v4 i hi j hj
                          have hlo : i * ie.size + j < n * ie.size := by
                            have : (i + 1) * ie.size ≤ n * ie.size := Nat.mul_le_mul_right _ hi
                            rw [Nat.add_mul] at this
                            omega
                          refine ⟨v, ?_, RT.mono K _ _ x2⟩
                          rw [List.getElem?_toArray, splice_out hfit' (.inl hlo), Array.getElem?_toList, x1]
                      rotate_right
                      · have hfit' : n * ie.size + news.length ≤ vs.toList.length := by simpa using hfit
                        refine reRow_ok (l := .at _ _) c5 ⟨hroom', _, fz, setCells_heap b ty0 fz news (n * ie.size) vs w v1 hfit, ?_, fun e => (by cases e), fun i hi j hj => ?_⟩
                        · rw [List.size_toArray, splice_length hfit']; simpa using v2
                        · by_cases hin : i < n
                          · obtain ⟨v, x1, x2⟩ := v4 i hin j hj
                            have hlo : i * ie.size + j < n * ie.size := by
                              have : (i + 1) * ie.size ≤ n * ie.size := Nat.mul_le_mul_right _ hin
                              rw [Nat.add_mul] at this
                              omega
                            refine ⟨v, ?_, by simp only [appRow, if_pos hin]; exact RT.mono K _ _ x2⟩
                            rw [List.getElem?_toArray, splice_out hfit' (.inl hlo), Array.getElem?_toList, x1]
                          · obtain ⟨v, x1, x2⟩ := n2 (i - n) (by omega) j hj
                            have hi2 : i * ie.size = n * ie.size + (i - n) * ie.size := by rw [← Nat.add_mul]; congr 1; omega
                            have hlt : (i - n) * ie.size + j < news.length := by
                              rcases Nat.lt_or_ge ((i - n) * ie.size + j) news.length with h' | h'
                              · exact h'
                              · rw [List.getElem?_eq_none h'] at x1; cases x1
                            refine ⟨v, ?_, by simp only [appRow, if_neg hin]; exact RT.mono K _ _ x2⟩
                            rw [List.getElem?_toArray, hi2, Nat.add_assoc, splice_in hfit' hlt, x1]
                      · injection hx' with hx'; subst hx'
                        refine ⟨.at b cap, by simp [Ren.set], .inl ⟨cc, ?_, ?_, by omega⟩⟩
                        · rw [reRow_n c5]; simp
                        · rw [reRow_n c5]; omega
                    · let gg : Nat → Value := fun k => vs.getD k undef
                      have hlen : n * ie.size ≤ vs.size := by rw [v2]; exact Nat.mul_le_mul_right _ v0
                      refine grow (some ⟨b, 0, none⟩) cc (vs.toList.take (n * ie.size)) rfl (by omega) (by simp; omega) ?_ (fun i hi j hj => ?_)
                      · refine run_firstCells_some w.drew it.size n ⟨b, 0, none⟩ n cc _ (by rw [t2]; simp; omega) (fun j v hv => ?_)
                        rw [Addr.add_lit, Nat.zero_add, World.cell?_drew, cell_of_row w _ _ vs ty0 fz v1]
                        rw [List.getElem?_take] at hv
                        split at hv
                        · simpa using hv
                        · cases hv
                      · obtain ⟨v, x1, x2⟩ := v4 i hi j hj
                        have hlo : i * ie.size + j < n * ie.size := by
                          have : (i + 1) * ie.size ≤ n * ie.size := Nat.mul_le_mul_right _ hi
                          rw [Nat.add_mul] at this
                          omega
                        exact ⟨v, by rw [List.getElem?_take, if_pos hlo]; simpa using x1, x2⟩
                  · by_cases hm : m = 0
                    · exact none_ q rfl rfl hm
                    · refine grow q 0 [] rfl (by omega) (by simp) ?_ (fun i hi => by omega)
                      cases q with
                      | none => exact run_firstCells_none w.drew it.size 0 0 0
                      | some ad => exact run_firstCells_some w.drew it.size 0 ad 0 0 [] (by simp) (fun j v hv => by simp at hv)
              · cases e
            · cases e
          · cases e
        · cases e
      · cases e
    · cases e
  · cases e
/-! A made slice out of rows that are read only by then. -/
theorem close_ref (R : Rep base X nt used ρ tm h a w) {id sz n m : Nat} {ty : TypeId} {f : Nat → Nat → T} (hid : h id = some (.row ty true sz m f)) (hle : n ≤ m) {v : Value} (k : RC w (okOf base w ρ h) ρ (.ref id sz 0 n) v) : RC w (okOf base w ρ h) ρ (.t (.tree n sz f)) v := by
  obtain ⟨l, h1, h2⟩ := k
  obtain ⟨l', m1, m2, m3⟩ := R.heap id _ hid
  rw [h1] at m1
  injection m1 with m1
  subst m1
  cases l with
  | nil => obtain ⟨_, rfl, q, rfl⟩ := h2; exact ⟨q, 0, rfl, Nat.le_refl _, fun i hi => by omega⟩
  | _ b cap =>
    rcases h2 with ⟨_, rfl, hlc, hle2⟩ | ⟨rfl, q, rfl⟩
    · obtain ⟨_, vs, fz, v1, v2, _, v4⟩ := m2
      refine ⟨_, _, rfl, by omega, fun i hi j hj => ?_⟩
      obtain ⟨x, x1, x2⟩ := v4 i (by omega) j hj
      refine ⟨b, 0 * sz, x, rfl, ⟨(m3 b cap rfl).1, R.mid hid h1, fun id2 blk2 cap2 k1 k2 k3 => ?_⟩, ?_, x2⟩
      · have := R.inj id2 id b cap2 cap _ _ k1 hid (.inl k2) k3 h1
        subst this
        rw [hid] at k1
        injection k1 with k1
        subst k1
        cases k2
      · rw [cell_of_row w _ _ vs ty fz v1, ← x1]; congr 1; omega
    · exact ⟨q, 0, rfl, Nat.le_refl _, fun i hi => by omega⟩
def closeL (h : Hp) : List C → Option (List C × Prop)
  | [] => some ([], True)
  | .ref id sz 0 n :: l => match h id, closeL h l with
    | some (.row _ true sz' m f), some (r, p) => if sz' = sz then some (.t (.tree n sz f) :: r, n ≤ m ∧ p) else none
    | _, _ => none
  | .t x :: l => match closeL h l with
    | some (r, p) => some (.t x :: r, p)
    | none => none
  | _ :: _ => none
theorem closeL_ok (R : Rep base X nt used ρ tm h a w) : ∀ {l r : List C} {p : Prop} {vs : List Value}, closeL h l = some (r, p) → p → All2 (RC w (okOf base w ρ h) ρ) l vs → All2 (RC w (okOf base w ρ h) ρ) r vs
  | [], r, p, vs, e, _, k => by simp only [closeL, Option.some.injEq, Prod.mk.injEq] at e; obtain ⟨rfl, _⟩ := e; exact k
  | .ref id sz 0 n :: l, r, p, [], e, _, k => k.elim
  | .ref id sz 0 n :: l, r, p, v :: vs, e, hp, k => by
    simp only [closeL] at e
    split at e
    · rename_i ty sz' m f r' p' hid hr
      split at e
      · rename_i hs
        subst hs
        simp only [Option.some.injEq, Prod.mk.injEq] at e
        obtain ⟨rfl, rfl⟩ := e
        exact ⟨close_ref R hid hp.1 k.1, closeL_ok R hr hp.2 k.2⟩
      · cases e
    · cases e
  | .ref id sz (_ + 1) n :: l, r, p, vs, e, _, k => by simp only [closeL] at e; cases e
  | .ptr .. :: l, r, p, vs, e, _, k => by simp only [closeL] at e; cases e
  | .t x :: l, r, p, [], e, _, k => k.elim
  | .t x :: l, r, p, v :: vs, e, hp, k => by
    simp only [closeL] at e
    split at e
    · rename_i r' p' hr
      simp only [Option.some.injEq, Prod.mk.injEq] at e
      obtain ⟨rfl, rfl⟩ := e
      exact ⟨k.1, closeL_ok R hr hp k.2⟩
    · cases e
def closeP (h : Hp) : List (Nat × List C) → Option (List (Nat × List C) × Prop)
  | [] => some ([], True)
  | (i, l) :: q => match closeL h l, closeP h q with
    | some (r, p), some (s, p') => some ((i, r) :: s, p ∧ p')
    | _, _ => none
theorem closeP_ok (R : Rep base X nt used ρ tm h a w) : ∀ {q r : List (Nat × List C)} {p : Prop} {vs : List (Nat × Value)}, closeP h q = some (r, p) → p → All2 (fun p q => p.1 = q.1 ∧ All2 (RC w (okOf base w ρ h) ρ) p.2 q.2.cells.toList) q vs → All2 (fun p q => p.1 = q.1 ∧ All2 (RC w (okOf base w ρ h) ρ) p.2 q.2.cells.toList) r vs
  | [], r, p, vs, e, _, k => by simp only [closeP, Option.some.injEq, Prod.mk.injEq] at e; obtain ⟨rfl, _⟩ := e; exact k
  | (i, l) :: q, r, p, [], e, _, k => k.elim
  | (i, l) :: q, r, p, v :: vs, e, hp, k => by
    simp only [closeP] at e
    split at e
    · rename_i r' p' s p2 h1 h2
      simp only [Option.some.injEq, Prod.mk.injEq] at e
      obtain ⟨rfl, rfl⟩ := e
      exact ⟨⟨k.1.1, closeL_ok R h1 hp.1 k.1.2⟩, closeP_ok R h2 hp.2 k.2⟩
    · cases e
def aBuildSliceK (tt : TT) (tm : Tm) (h : Hp) (t : TypeId) (len : Nat) (parts : List (Nat × Operand)) (nid : Nat) (hi : Hint) : Option Eff :=
  match evParts tm parts with
  | some ps => match closeP h ps with
    | some (qs, p) => match aBuildSliceC tt qs t len nid hi with
      | some r => some ⟨r.val, r.W, p ∧ r.chk⟩
      | none => none
    | none => none
  | none => none
theorem aBuildSliceK_good (R : Rep c.base c.X c.nt used ρ tm h a w) (hfresh : ¬ used nid) (hu : ∀ id, used id → used' id) (hn : used' nid) (hd : ∀ t, o.dst = some t → t < c.nt) {tt : TT} (hT : TTok c.P tt) {t : TypeId} {len : Nat} {parts : Array (Nat × Operand)} {hi : Hint} {r : Eff}
    (ho : o.op = .buildSlice t len parts) (e : aBuildSliceK tt tm h t len parts.toList nid hi = some r) (hc : r.chk) : Good c used' tm h a o r.val r.W ((execOp a.eval o).run c.P w) := by
  unfold aBuildSliceK at e
  split at e
  · rename_i ps hps
    split at e
    · rename_i qs p hq
      split at e
      · rename_i r' hr
        injection e with e
        subst e
        exact aBuildSliceC_good (r := r') R hfresh hu hn hd hT (closeP_ok R hq hc.1 (evParts_ok R hps)) ho hr hc.2
      · cases e
    · cases e
  · cases e
end
end Vm
end Go.Proofs.Ytknlckjpgmjenaa
