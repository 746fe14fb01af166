/- The abstract machine: append, cuts of slices and strings, conversions, the least and the greatest. -/
import Derived.Test.YteholdifeilkkaaVf
namespace Go.Proofs.Yteholdifeilkkaa
set_option linter.unusedVariables false
namespace Vm
def killW : Option Nat → List (Nat × Option Blk)
  | none => []
  | some k => [(k, none)]
section
variable {c : Cx} {used used' : Nat → Prop} {ρ ρ' : Ren} {tm : Tm} {h h' : Hp} {a : Act} {w w' : World} {base : Base} {X Y : Nat → Prop} {nt : Nat} {ok : Nat → Prop} {o : Oper} {nid : Nat}
/-- A block is given up; another stands for what became of it. -/
theorem Rep.change (R : Rep base X nt used ρ tm h a w) (kid : Option Nat) (hk : ∀ k, kid = some k → ∃ blk, h k = some blk ∧ blk.mut = true ∧ blk.isRow = true) (U : Upd Y w w') (hY : ∀ b, Y b → ∃ k cap, kid = some k ∧ ρ k = some (.at b cap))
    (hfresh : ¬ used nid) (hu : ∀ id, used id → used' id) (hn : used' nid) {blk : Blk} {l : Loc}
    (hl : ∀ b cap, l = .at b cap → b < w'.heap.size ∧ (w.heap.size ≤ b ∨ ∃ k cap0, kid = some k ∧ ρ k = some (.at b cap0)))
    (hb : Keeps w w' (okOf base w ρ h) (okOf base w' (ρ.set nid l) (setHp h ((nid, some blk) :: killW kid))) → RB w' (okOf base w' (ρ.set nid l) (setHp h ((nid, some blk) :: killW kid))) (ρ.set nid l) blk l)
    (d : Option Tmp) (hd : ∀ t, d = some t → t < nt) (av : Option AV) (v : Value)
    (hv : Keeps w w' (okOf base w ρ h) (okOf base w' (ρ.set nid l) (setHp h ((nid, some blk) :: killW kid))) → ∀ x, av = some x → RV w' (okOf base w' (ρ.set nid l) (setHp h ((nid, some blk) :: killW kid))) (ρ.set nid l) x v) :
    Rep base X nt used' (ρ.set nid l) (setTm tm d av) (setHp h ((nid, some blk) :: killW kid)) (a.put d v) w' := by
  have hnone : ρ nid = none := by
    cases e : ρ nid with
    | none => rfl
    | some x => exact absurd (R.used nid (by rw [e]; simp)) hfresh
  have hext := ext_set R hfresh l
  have hold : ∀ id b, setHp h (killW kid) id = some b → h id = some b ∧ kid ≠ some id := fun id b hb => by
    cases kid with
    | none => exact ⟨hb, by simp⟩
    | some k =>
      simp only [killW, setHp] at hb
      split at hb
      · cases hb
      · rename_i hne; exact ⟨hb, fun e => hne (by injection e)⟩
  have hsplit : ∀ id b, setHp h ((nid, some blk) :: killW kid) id = some b → (id = nid ∧ b = blk) ∨ (id ≠ nid ∧ h id = some b ∧ kid ≠ some id) := fun id b hb => by
    simp only [setHp] at hb
    split at hb
    · rename_i e; injection hb with hb; exact .inl ⟨e.symm, hb.symm⟩
    · rename_i e; obtain ⟨k1, k2⟩ := hold id b hb; exact .inr ⟨fun x => e x.symm, k1, k2⟩
  have hnY : ∀ id b, h id = some b → kid ≠ some id → ∀ x cap, ρ id = some (.at x cap) → ¬ Y x := fun id b hb hk' x cap hx hy => by
    obtain ⟨k, cap', e1, e2⟩ := hY x hy
    obtain ⟨bk, k1, _⟩ := hk k e1
    have := R.inj id k x cap cap' ⟨b, hb⟩ ⟨bk, k1⟩ hx e2
    exact hk' (by rw [e1, this])
  refine R.step U (fun b hy _ => ?_) hext (fun id hid => ?_) (fun id b hid => ?_) (fun i j b c c' hi hj h1 h2 => ?_) (fun t x ht => ?_) (by rw [put_size', R.size]) (by rw [put_def', R.defers])
  · obtain ⟨k, cap, e1, e2⟩ := hY b hy
    obtain ⟨bk, k1, k2, k2r⟩ := hk k e1
    exact ⟨k, bk, cap, k1, k2, e2⟩
  · unfold Ren.set at hid
    split at hid
    · rename_i e; rw [e]; exact hn
    · exact hu id (R.used id hid)
  · rcases hsplit id b hid with ⟨rfl, rfl⟩ | ⟨e1, e2, e3⟩
    · refine .inr ⟨l, by simp [Ren.set], hb, fun b cap e => ?_⟩
      obtain ⟨g1, g2⟩ := hl b cap e
      refine ⟨g1, ?_, ?_, fun _ => ?_⟩
      · rcases g2 with g2 | ⟨k, cap0, e1, e2⟩
        · exact .inl (Nat.le_trans R.upd.size g2)
        · obtain ⟨bk, k1, k2, k2r⟩ := hk k e1
          obtain ⟨l', m1, _, m3⟩ := R.heap k bk k1
          rw [e2] at m1
          injection m1 with m1
          exact (m3 b cap0 m1.symm).2
      · rcases g2 with g2 | ⟨k, cap0, e1, e2⟩
        · exact .inl g2
        · obtain ⟨bk, k1, k2, k2r⟩ := hk k e1
          exact .inr ⟨k, bk, cap0, k1, k2, e2⟩
      · rcases g2 with g2 | ⟨k, cap0, e1, e2⟩
        · exact Nat.le_trans R.upd.size g2
        · obtain ⟨bk, k1, k2, k2r⟩ := hk k e1
          exact R.own k bk b cap0 k1 k2r e2
    · exact .inl ⟨e2, hnY id b e2 e3⟩
  · have key : ∀ k, k ≠ nid → (∃ x, setHp h ((nid, some blk) :: killW kid) k = some x) → ∀ cc, (ρ.set nid l) k = some (.at b cc) → b < w.heap.size ∧ (∃ x, h k = some x) ∧ ρ k = some (.at b cc) ∧ kid ≠ some k := by
      intro k hk' ⟨x, hx⟩ cc hc
      rcases hsplit k x hx with ⟨e, _⟩ | ⟨_, e2, e3⟩
      · exact absurd e hk'
      · simp only [Ren.set, if_neg hk'] at hc
        obtain ⟨l', m1, _, m3⟩ := R.heap k x e2
        rw [hc] at m1
        injection m1 with m1
        exact ⟨(m3 b cc m1.symm).1, ⟨x, e2⟩, hc, e3⟩
    have new : ∀ cc, (ρ.set nid l) nid = some (.at b cc) → ∀ k, k ≠ nid → (∃ x, setHp h ((nid, some blk) :: killW kid) k = some x) → ∀ c2, (ρ.set nid l) k = some (.at b c2) → False := by
      intro cc hc k hk' hx c2 hc2
      simp only [Ren.set, if_true, Option.some.injEq] at hc
      obtain ⟨k1, ⟨x, k2⟩, k3, k4⟩ := key k hk' hx c2 hc2
      rcases (hl b cc hc).2 with g | ⟨k', cap0, e1, e2⟩
      · omega
      · obtain ⟨bk, q1, q2, _⟩ := hk k' e1
        have := R.inj k k' b c2 cap0 ⟨x, k2⟩ ⟨bk, q1⟩ k3 e2
        exact k4 (by rw [e1, this])
    by_cases ei : i = nid
    · by_cases ej : j = nid
      · rw [ei, ej]
      · rw [ei] at h1; exact (new c h1 j ej hj c' h2).elim
    · by_cases ej : j = nid
      · rw [ej] at h2; exact (new c' h2 i ei hi c h1).elim
      · obtain ⟨_, i1, i2, _⟩ := key i ei hi c h1
        obtain ⟨_, j1, j2, _⟩ := key j ej hj c' h2
        exact R.inj i j b c c' i1 j1 i2 j2
  · by_cases e : some t = d
    · rw [setTm, if_pos e] at ht
      refine .inr fun K => ?_
      rw [← e, put_eq v (by rw [R.size]; exact hd t e.symm)]
      exact hv K x ht
    · rw [setTm, if_neg e] at ht
      refine .inl ⟨ht, ?_⟩
      cases d with
      | none => rfl
      | some d => exact put_ne v fun h => e (by rw [h])
/-! What an append appends. -/
def aSrc (h : Hp) (sz : Nat) : AV → Option (Nat × (Nat → Nat → T) × Prop)
  | .c (.t (.v (.string s))) => if sz = 1 then some (s.size, fun i _ => .v (.int .u8 (s.data.toList.getD i 0).toNat), True) else none
  | .c (.t (.v (.slice none 0 _))) => some (0, fun _ _ => .v undef, True)
  | .c (.t (.tree m sz' f)) => if sz' = sz then some (m, f, True) else none
  | .c (.ref id sz' off m) => if sz' = sz then match h id with
    | some (.row _ _ sz'' n f) => if sz'' = sz then some (m, fun i j => f (off + i) j, off + m ≤ n) else none
    | _ => none else none
  | _ => none
def srcKind (tt : TT) (tx : TypeId) (x : AV) : Bool := match tt tx with
  | some { k := .str, .. } => match x with
    | .c (.t (.v (.string _))) => true
    | _ => false
  | some { k := .slice _, .. } => match x with
    | .c (.t (.v (.string _))) => false
    | _ => true
  | _ => false
theorem aSrc_ok {P : Program} {tt : TT} (hT : TTok P tt) (R : Rep base X nt used ρ tm h a w) {sz : Nat} (hsz : 0 < sz) {tx : TypeId} {x : AV} {y : Value} {r : Nat × (Nat → Nat → T) × Prop} (hk : srcKind tt tx x = true) (e : aSrc h sz x = some r) (hc : r.2.2)
    (hr : RV w (okOf base w ρ h) ρ x y) : ∃ news, Src P sz tx y r.1 news w ∧ ∀ i, i < r.1 → ∀ j, j < sz → ∃ v, news[i * sz + j]? = some v ∧ RT w (okOf base w ρ h) (r.2.1 i j) v := by
  have slice : (∀ s, x ≠ .c (.t (.v (.string s)))) → ∃ e', P.underlying tx = some (.slice e') := by
    intro hx
    unfold srcKind at hk
    split at hk
    · split at hk
      · exact absurd rfl (hx _)
      · cases hk
    · rename_i hti; exact ⟨_, (hT _ _ hti).slice rfl⟩
    · cases hk
  -- cells behind an address
  have cells : ∀ (q : Option Addr) (m cp : Nat) (f : Nat → Nat → T), (∃ e', P.underlying tx = some (.slice e')) → y = .slice q m cp → (∀ i, i < m → ∀ j, j < sz → ∃ b o v, q = some ⟨b, o, none⟩ ∧ w.cell? ⟨b, o + i * sz + j, none⟩ = some v ∧ RT w (okOf base w ρ h) (f i j) v) →
      ∃ news, Src P sz tx y m news w ∧ ∀ i, i < m → ∀ j, j < sz → ∃ v, news[i * sz + j]? = some v ∧ RT w (okOf base w ρ h) (f i j) v := by
    rintro q m cp f ⟨e', he'⟩ rfl hcell
    by_cases hm : m = 0
    · subst hm
      refine ⟨[], ?_, fun i hi => by omega⟩
      cases q with
      | none => exact Src.ofNil w he' cp
      | some ad => exact Src.ofSlice w he' ad 0 cp [] (by simp) (fun j u hu => by simp at hu) (fun u hu => by cases hu)
    · obtain ⟨b, o, _, rfl, _⟩ := hcell 0 (by omega) 0 hsz
      have hcell' : ∀ i, i < m → ∀ j, j < sz → ∃ v, w.cell? ⟨b, o + i * sz + j, none⟩ = some v ∧ RT w (okOf base w ρ h) (f i j) v := fun i hi j hj => by
        obtain ⟨b', o', v, e1, e2, e3⟩ := hcell i hi j hj
        injection e1 with e1
        injection e1 with e4 e5
        subst e4; subst e5
        exact ⟨v, e2, e3⟩
      let g : Nat → Value := fun k => (w.cell? ⟨b, o + k, none⟩).getD undef
      have hg : ∀ i, i < m → ∀ j, j < sz → w.cell? ⟨b, o + (i * sz + j), none⟩ = some (g (i * sz + j)) ∧ RT w (okOf base w ρ h) (f i j) (g (i * sz + j)) := fun i hi j hj => by
        obtain ⟨v, e1, e2⟩ := hcell' i hi j hj
        rw [Nat.add_assoc] at e1
        have : g (i * sz + j) = v := by simp [g, e1]
        exact ⟨by rw [this]; exact e1, by rw [this]; exact e2⟩
      have hk' : ∀ k, k < m * sz → w.cell? ⟨b, o + k, none⟩ = some (g k) ∧ (g k).oneCell' = true := fun k hk => by
        have h1 := hg (k / sz) ((Nat.div_lt_iff_lt_mul hsz).2 hk) (k % sz) (Nat.mod_lt _ hsz)
        rw [Nat.mul_comm, Nat.div_add_mod] at h1
        exact ⟨h1.1, RT.one h1.2⟩
      refine ⟨tab g 0 (m * sz), Src.ofSlice w he' ⟨b, o, none⟩ m cp _ (tab_length _ _ _) (fun j u hu => ?_) (fun u hu => ?_), fun i hi j hj => ?_⟩
      · have hj : j < m * sz := by
          rcases Nat.lt_or_ge j (m * sz) with h' | h'
          · exact h'
          · rw [List.getElem?_eq_none (by rw [tab_length]; exact h')] at hu; cases hu
        rw [tab_get _ _ _ _ hj, Nat.zero_add] at hu
        injection hu with hu
        rw [Addr.add_lit, (hk' j hj).1, hu]
      · obtain ⟨k, hk⟩ := List.mem_iff_getElem?.1 hu
        have hj : k < m * sz := by
          rcases Nat.lt_or_ge k (m * sz) with h' | h'
          · exact h'
          · rw [List.getElem?_eq_none (by rw [tab_length]; exact h')] at hk; cases hk
        rw [tab_get _ _ _ _ hj, Nat.zero_add] at hk
        injection hk with hk
        rw [← hk]; exact (hk' k hj).2
      · have hlt : i * sz + j < m * sz := by
          have : (i + 1) * sz ≤ m * sz := Nat.mul_le_mul_right _ hi
          rw [Nat.add_mul] at this
          omega
        exact ⟨_, by rw [tab_get _ _ _ _ hlt, Nat.zero_add], (hg i hi j hj).2⟩
  unfold aSrc at e
  split at e
  · rename_i s
    split at e
    · rename_i h1
      injection e with e
      subst e
      subst h1
      obtain ⟨rfl, _⟩ := hr
      have hst : P.underlying tx = some .string := by
        unfold srcKind at hk
        split at hk
        · rename_i hti; exact (hT _ _ hti).str rfl
        · cases hk
        · cases hk
      refine ⟨byteCells s, Src.ofString w hst s, fun i hi j hj => ?_⟩
      obtain rfl : j = 0 := by omega
      have hi' : i < s.data.toList.length := by rw [Array.length_toList]; exact hi
      refine ⟨.int .u8 (s.data.toList[i]).toNat, ?_, ?_, rfl⟩
      · show (s.data.toList.map fun b => Value.int .u8 b.toNat)[i * 1 + 0]? = _
        rw [Nat.mul_one, Nat.add_zero, List.getElem?_map, List.getElem?_eq_getElem hi']; rfl
      · rw [List.getD_eq_getElem?_getD, List.getElem?_eq_getElem hi']; rfl
    · cases e
  · rename_i cp
    injection e with e
    subst e
    obtain ⟨rfl, _⟩ := hr
    exact cells none 0 cp _ (slice (fun s hs => by simp at hs)) rfl (fun i hi => by omega)
  · rename_i m sz' f
    split at e
    · rename_i h1
      injection e with e
      subst e
      subst h1
      obtain ⟨q, cp, rfl, _, hcell⟩ := hr
      exact cells q m cp f (slice (fun s hs => by simp at hs)) rfl fun i hi j hj => let ⟨b, o, v, e1, _, e3, e4⟩ := hcell i hi j hj; ⟨b, o, v, e1, e3, e4⟩
    · cases e
  · rename_i id sz' off m
    split at e
    · rename_i h1
      split at e
      · rename_i ty fro sz'' n f hid
        split at e
        · rename_i h2
          injection e with e
          subst e
          subst h1
          subst h2
          have hsl := slice (fun s hs => by simp at hs)
          obtain ⟨l, l1, l2⟩ := hr
          obtain ⟨l', m1, m2, _⟩ := R.heap id _ hid
          rw [l1] at m1
          injection m1 with m1
          subst m1
          cases l with
          | nil =>
            obtain ⟨_, rfl, q, rfl⟩ := l2
            exact cells q 0 0 _ hsl rfl (fun i hi => by omega)
          | _ b cap =>
            rcases l2 with ⟨rfl, hle⟩ | ⟨rfl, q, rfl⟩
            · obtain ⟨_, vs, fz, v1, v2, _, v4⟩ := m2
              refine cells _ m _ _ hsl rfl fun i hi j hj => ?_
              have hc' : off + m ≤ n := hc
              obtain ⟨x, x1, x2⟩ := v4 (off + i) (by omega) j hj
              refine ⟨b, off * sz'', x, rfl, ?_, x2⟩
              rw [cell_of_row w _ _ vs ty fz v1, ← x1, Nat.add_mul]
            · exact cells q 0 0 _ hsl rfl (fun i hi => by omega)
        · cases e
      · cases e
    · cases e
  · cases e
def appRow (n : Nat) (f g : Nat → Nat → T) : Nat → Nat → T := fun i j => if i < n then f i j else g (i - n) j
/-- The slice that is appended to: how many elements, what they are, the block that is given up. -/
def aDst (h : Hp) (el : TypeId) (sz : Nat) : AV → Option (Nat × (Nat → Nat → T) × Option Nat × Prop)
  | .c (.t (.v (.slice none 0 0))) => some (0, fun _ _ => .v undef, none, True)
  | .c (.ref id sz' off n) => if sz' = sz ∧ off = 0 then match h id with
    | some (.row ty false sz'' n' f) => if sz'' = sz ∧ ty = el then some (n, f, some id, n = n') else none
    | _ => none else none
  | _ => none
def aAppend (tt : TT) (h : Hp) (t tx : TypeId) (s x : AV) (nid : Nat) (hi : Hint) : Option Eff :=
  match tt t with
  | some { k := .slice e, .. } => match tt e with
    | some ie => if 0 < ie.size ∧ ie.zero.length = ie.size ∧ srcKind tt tx x then match aDst h e ie.size s, aSrc h ie.size x with
      | some (n, f, kid, dc), some (m, g, sc) =>
        some ⟨some (.c (.ref nid ie.size 0 (reRow e false ie.size (n + m) (appRow n f g) hi.row).1)), (nid, some (reRow e false ie.size (n + m) (appRow n f g) hi.row).2.1) :: killW kid,
          dc ∧ sc ∧ (n + m ≤ 1099511627776 ∧ ie.bytes ≤ 128) ∧ (reRow e false ie.size (n + m) (appRow n f g) hi.row).2.2⟩
      | _, _ => none else none
    | none => none
  | _ => none
theorem zeroCells_size' (z : Array Value) (n : Nat) : (Builtin.zeroCells z n).size = n * z.size := by simp [Builtin.zeroCells]
theorem aAppend_good (R : Rep c.base c.X c.nt used ρ tm h a w) (hfresh : ¬ used nid) (hu : ∀ id, used id → used' id) (hn : used' nid) (hd : ∀ t, o.dst = some t → t < c.nt) {tt : TT} (hT : TTok c.P tt) {t tx : TypeId} {s x : AV} {hi : Hint} {r : Eff} {sv xv : Value}
    (e : aAppend tt h t tx s x nid hi = some r) (hc : r.chk) (hs : RV w (okOf c.base w ρ h) ρ s sv) (hx : RV w (okOf c.base w ρ h) ρ x xv) {ty : TypeId} {res : Result Next}
    (hr : ∀ v w', (Builtin.append_ #[t, tx] ty #[sv, xv]).run c.P w = .ok v w' → res = .ok (.value v) w') : Good c used' tm h a o r.val r.W res := by
  unfold aAppend at e
  split at e
  · rename_i el i1 i2 i3 hti
    have hut := (hT _ _ hti).slice rfl
    split at e
    · rename_i ie hie
      obtain ⟨it, z, t1, t2, t3, t4, t5⟩ := (hT _ _ hie).info
      split at e
      · rename_i hcond
        obtain ⟨s1, s2, s3⟩ := hcond
        split at e
        · rename_i n f kid dc m g sc hdst hsrc
          injection e with e
          subst e
          obtain ⟨c1, c2, ⟨c3, c4⟩, c5⟩ := hc
          obtain ⟨news, n1, n2⟩ := aSrc_ok hT R s1 s3 hsrc c2 hx
          rw [← t2] at n1
          have hzs : z.cells.size = ie.size := by rw [← s2, ← t5]; simp
          have hnl : news.length = m * ie.size := by rw [n1.newsLen, t2]
          -- a new row, out of the elements that were there
          have grow : ∀ (q : Option Addr) (cap : Nat) (olds : List Value), sv = .slice q n cap → cap < n + m → olds.length = n * ie.size → (Builtin.firstCells it.size n (.slice q n cap)).run c.P w.drew = .ok olds.toArray w.drew →
              (∀ i, i < n → ∀ j, j < ie.size → ∃ v, olds[i * ie.size + j]? = some v ∧ RT w (okOf c.base w ρ h) (f i j) v) → (∀ k, kid = some k → ∃ blk, h k = some blk ∧ blk.mut = true ∧ blk.isRow = true) →
              Good c used' tm h a o (some (.c (.ref nid ie.size 0 (reRow el false ie.size (n + m) (appRow n f g) hi.row).1))) ((nid, some (reRow el false ie.size (n + m) (appRow n f g) hi.row).2.1) :: killW kid) res := by
            intro q cap olds hsv hcap hol hold hcell hkid
            have hb : (n + m) * it.bytes ≤ 140737488355328 := by
              rw [t3]
              have : (n + m) * ie.bytes ≤ 1099511627776 * 128 := Nat.mul_le_mul c3 c4
              omega
            have hrun := run_append_grow_src (P := c.P) w t tx ty el it z hut t1 t4 q n cap olds hold xv m news n1 hcap (by omega) (growslice_fits hcap hb)
            rw [← hsv] at hrun
            rw [hr _ _ hrun]
            have hge := grownCap_ge w (n + m) cap el
            have hle := grownCap_le_maxLen w (n + m) cap el (by unfold maxLen; omega)
            have hsize : ((olds ++ news).toArray ++ Builtin.zeroCells z.cells (grownCap w (n + m) cap el - (n + m))).size = grownCap w (n + m) cap el * ie.size := by
              simp only [Array.size_append, List.size_toArray, List.length_append, zeroCells_size', hzs, hol, hnl, ← Nat.add_mul]
              congr 1; omega
            have U : Upd (fun _ => False) w (w.drew.alloc (.cells ((olds ++ news).toArray ++ Builtin.zeroCells z.cells (grownCap w (n + m) cap el - (n + m))) el)) := ⟨rfl, rfl, rfl, by simp, fun b hb _ => heap_alloc_old w.drew _ hb⟩
            refine ⟨ρ.set nid (.at w.heap.size (grownCap w (n + m) cap el)), R.change kid hkid U (fun _ x => x.elim) hfresh hu hn (fun b cp e => by injection e with e1 e2; subst e1; exact ⟨by simp, .inl (Nat.le_refl _)⟩) (fun K => ?_) _ hd _ _ (fun K x hx' => ?_)⟩
            · refine reRow_ok (l := .at _ _) c5 ⟨hge, _, (0, 0), heap_alloc_new w.drew _, hsize, fun _ => ⟨.inl (Nat.le_refl 0), hle⟩, fun i hi j hj => ?_⟩
              have hij : i * ie.size + j < (n + m) * ie.size := by
                have : (i + 1) * ie.size ≤ (n + m) * ie.size := Nat.mul_le_mul_right _ hi
                rw [Nat.add_mul] at this
                omega
              rw [Nat.add_mul] at hij
              by_cases hin : i < n
              · obtain ⟨v, v1, v2⟩ := hcell i hin j hj
                have hlo : i * ie.size + j < olds.length := by
                  rw [hol]
                  have : (i + 1) * ie.size ≤ n * ie.size := Nat.mul_le_mul_right _ hin
                  rw [Nat.add_mul] at this
                  omega
                refine ⟨v, ?_, by simp only [appRow, if_pos hin]; exact RT.mono K _ _ v2⟩
                rw [Array.getElem?_append_left (by simp; omega)]
                simp [List.getElem?_append_left hlo, v1]
              · obtain ⟨v, v1, v2⟩ := n2 (i - n) (by omega) j hj
                have hi2 : i * ie.size = n * ie.size + (i - n) * ie.size := by rw [← Nat.add_mul]; congr 1; omega
                refine ⟨v, ?_, by simp only [appRow, if_neg hin]; exact RT.mono K _ _ v2⟩
                rw [Array.getElem?_append_left (by simp; omega)]
                rw [List.getElem?_toArray, List.getElem?_append_right (by rw [hol, hi2]; omega), ← v1]
                congr 1; rw [hol, hi2]; omega
            · injection hx' with hx'; subst hx'
              refine ⟨.at w.heap.size (grownCap w (n + m) cap el), by simp [Ren.set], .inl ⟨?_, ?_⟩⟩
              · rw [reRow_n c5]; simp
              · rw [reRow_n c5]; omega
          -- nothing is there, nothing comes
          have none_ : ∀ (q : Option Addr), sv = .slice q 0 0 → n = 0 → (∀ k, kid = some k → ∃ blk, h k = some blk ∧ blk.mut = true ∧ blk.isRow = true) → m = 0 →
              Good c used' tm h a o (some (.c (.ref nid ie.size 0 (reRow el false ie.size (n + m) (appRow n f g) hi.row).1))) ((nid, some (reRow el false ie.size (n + m) (appRow n f g) hi.row).2.1) :: killW kid) res := by
            intro q hsv hn0 hkid hm0
            subst hn0
            subst hm0
            have hnews : news = [] := List.eq_nil_of_length_eq_zero (by simpa using hnl)
            subst hnews
            have hrun : (Builtin.append_ #[t, tx] ty #[sv, xv]).run c.P w = .ok (.slice q 0 0) w := by
              have hl := n1.len w
              have hf := n1.cells
              rw [hsv]
              rcases n1.kind with ⟨e', hk⟩ | hk <;> cases q <;> simp [Builtin.append_, run_underlying hut, run_underlying hk, sizeOf, typeInfo, t1, hl, hf, storeCells]
            rw [hr _ _ hrun]
            refine ⟨ρ.set nid .nil, R.change kid hkid (Upd.refl (fun _ => False) w) (fun _ x => x.elim) hfresh hu hn (fun b cp e => by cases e) (fun K => reRow_ok (l := .nil) c5 rfl) _ hd _ _ (fun K x hx' => ?_)⟩
            injection hx' with hx'; subst hx'
            exact ⟨.nil, by simp [Ren.set], rfl, by rw [reRow_n c5], q, rfl⟩
          unfold aDst at hdst
          split at hdst
          · injection hdst with hdst
            injection hdst with d1 d2
            injection d2 with d2 d3
            injection d3 with d3 d4
            subst d1; subst d3
            obtain ⟨rfl, _⟩ := hs
            by_cases hm : m = 0
            · exact none_ none rfl rfl (fun k hk => by cases hk) hm
            · refine grow none 0 [] rfl (by omega) (by simp) (run_firstCells_none w.drew it.size 0 0 0) (fun i hi => by omega) (fun k hk => by cases hk)
          · rename_i id sz' off n0
            split at hdst
            · rename_i h1
              split at hdst
              · rename_i ty0 sz'' n' f0 hid
                split at hdst
                · rename_i h2
                  injection hdst with hdst
                  injection hdst with d1 d2
                  injection d2 with d2 d3
                  injection d3 with d3 d4
                  subst d1; subst d2; subst d3; subst d4
                  obtain ⟨rfl, rfl⟩ := h1
                  obtain ⟨rfl, rfl⟩ := h2
                  have c1' : n0 = n' := c1
                  subst c1'
                  have hkid : ∀ k, some id = some k → ∃ blk, h k = some blk ∧ blk.mut = true ∧ blk.isRow = true := fun k hk => by injection hk with hk; subst hk; exact ⟨_, hid, rfl, rfl⟩
                  obtain ⟨l, l1, l2⟩ := hs
                  obtain ⟨l', m1, m2, m3⟩ := R.heap id _ hid
                  rw [l1] at m1
                  injection m1 with m1
                  subst m1
                  cases l with
                  | nil =>
                    obtain ⟨_, rfl, q, rfl⟩ := l2
                    by_cases hm : m = 0
                    · exact none_ q rfl rfl hkid hm
                    · refine grow q 0 [] rfl (by omega) (by simp) ?_ (fun i hi => by omega) hkid
                      cases q with
                      | none => exact run_firstCells_none w.drew it.size 0 0 0
                      | some ad => exact run_firstCells_some w.drew it.size 0 ad 0 0 [] (by simp) (fun j v hv => by simp at hv)
                  | _ b cap =>
                    obtain ⟨v0, vs, fz, v1, v2, v3, v4⟩ := m2
                    obtain ⟨hfz, hcm⟩ := v3 rfl
                    rcases l2 with ⟨rfl, hle⟩ | ⟨rfl, q, rfl⟩
                    · simp only [Nat.zero_mul, Nat.sub_zero] at hr grow
                      by_cases hroom : n0 + m ≤ cap
                      · have hfit : n0 * ie.size + news.length ≤ vs.size := by
                          rw [hnl, v2, ← Nat.add_mul]; exact Nat.mul_le_mul_right _ hroom
                        have hrun := run_append_room_src (P := c.P) w t tx ty ty0 it hut t1 b 0 n0 cap xv m news n1 hroom
                          (fun j hj => by rw [cell_of_row w _ _ vs ty0 fz v1, t2]; simp; omega) (fun j hj => hfz.free v1 (by rw [t2]; omega))
                        rw [hr _ _ hrun, t2, Nat.zero_add]
                        refine ⟨ρ.set nid (.at b cap), R.change (some id) hkid (setCells_upd b _ _ w) (fun x hx => ⟨id, cap, rfl, by rw [hx]; exact l1⟩) hfresh hu hn (fun b' cp e => by injection e with e1 e2; subst e1; exact ⟨Nat.lt_of_lt_of_le (m3 b cap rfl).1 (setCells_upd b _ _ w).size, .inr ⟨id, cap, rfl, l1⟩⟩) (fun K => ?_) _ hd _ _ (fun K x hx' => ?_)⟩
                        · have hfit' : n0 * ie.size + news.length ≤ vs.toList.length := by simpa using hfit
                          refine reRow_ok (l := .at _ _) c5 ⟨hroom, _, fz, setCells_heap b ty0 fz news (n0 * ie.size) vs w v1 hfit, ?_, fun _ => ⟨by rw [List.size_toArray, splice_length hfit']; simpa using hfz, hcm⟩, fun i hi j hj => ?_⟩
                          · rw [List.size_toArray, splice_length hfit']; simpa using v2
                          · by_cases hin : i < n0
                            · obtain ⟨v, x1, x2⟩ := v4 i hin j hj
                              have hlo : i * ie.size + j < n0 * ie.size := by
                                have : (i + 1) * ie.size ≤ n0 * ie.size := Nat.mul_le_mul_right _ hin
                                rw [Nat.add_mul] at this
                                omega
                              refine ⟨v, ?_, by simp only [appRow, if_pos hin]; exact RT.mono K _ _ x2⟩
                              rw [List.getElem?_toArray, splice_out hfit' (.inl hlo), Array.getElem?_toList, x1]
                            · obtain ⟨v, x1, x2⟩ := n2 (i - n0) (by omega) j hj
                              have hi2 : i * ie.size = n0 * ie.size + (i - n0) * ie.size := by rw [← Nat.add_mul]; congr 1; omega
                              have hlt : (i - n0) * ie.size + j < news.length := by
                                rcases Nat.lt_or_ge ((i - n0) * ie.size + j) news.length with h' | h'
                                · exact h'
                                · rw [List.getElem?_eq_none h'] at x1; cases x1
                              refine ⟨v, ?_, by simp only [appRow, if_neg hin]; exact RT.mono K _ _ x2⟩
                              rw [List.getElem?_toArray, hi2, Nat.add_assoc, splice_in hfit' hlt, x1]
                        · injection hx' with hx'; subst hx'
                          refine ⟨.at b cap, by simp [Ren.set], .inl ⟨?_, ?_⟩⟩
                          · rw [reRow_n c5]; simp
                          · rw [reRow_n c5]; omega
                      · let gg : Nat → Value := fun k => vs.getD k undef
                        have hlen : n0 * ie.size ≤ vs.size := by rw [v2]; exact Nat.mul_le_mul_right _ v0
                        refine grow (some ⟨b, 0, none⟩) cap (vs.toList.take (n0 * ie.size)) rfl (by omega) (by simp; omega) ?_ (fun i hi j hj => ?_) hkid
                        · refine run_firstCells_some w.drew it.size n0 ⟨b, 0, none⟩ n0 cap _ (by rw [t2]; simp; omega) (fun j v hv => ?_)
                          rw [Addr.add_lit, Nat.zero_add, World.cell?_drew, cell_of_row w _ _ vs ty0 fz v1]
                          rw [List.getElem?_take] at hv
                          split at hv
                          · simpa using hv
                          · cases hv
                        · obtain ⟨v, x1, x2⟩ := v4 i hi j hj
                          have hlo : i * ie.size + j < n0 * ie.size := by
                            have : (i + 1) * ie.size ≤ n0 * ie.size := Nat.mul_le_mul_right _ hi
                            rw [Nat.add_mul] at this
                            omega
                          exact ⟨v, by rw [List.getElem?_take, if_pos hlo]; simpa using x1, x2⟩
                    · by_cases hm : m = 0
                      · exact none_ q rfl rfl hkid hm
                      · refine grow q 0 [] rfl (by omega) (by simp) ?_ (fun i hi => by omega) hkid
                        cases q with
                        | none => exact run_firstCells_none w.drew it.size 0 0 0
                        | some ad => exact run_firstCells_some w.drew it.size 0 ad 0 0 [] (by simp) (fun j v hv => by simp at hv)
                · cases hdst
              · cases hdst
            · cases hdst
          · cases hdst
        · cases e
      · cases e
    · cases e
  · cases e
end
end Vm
end Go.Proofs.Yteholdifeilkkaa
