/- The abstract machine: cuts, conversions, and one operation in general. -/
import Derived.Test.YteholdifeilkkaaVg
namespace Go.Proofs.Yteholdifeilkkaa
set_option linter.unusedVariables false
namespace Vm
/-- A bound of a cut. -/
def bnd (d : Nat) : Option AV → Option (Nat × Prop)
  | none => some (d, True)
  | some (.c (.t (.v (.int _ i)))) => some (i.toNat, 0 ≤ i)
  | _ => none
def offBy (lo : Option AV) (off l : Nat) : Nat := match lo with
  | none => off
  | some _ => off + l
def fBy (lo : Option AV) (f : Nat → Nat → T) (l : Nat) : Nat → Nat → T := match lo with
  | none => f
  | some _ => fun i j => f (l + i) j
def lenBy (lo : Option AV) (n l : Nat) : Nat := match lo with
  | none => n
  | some _ => n - l
def aCut (tt : TT) (t : TypeId) (x : AV) (lo hi : Option AV) : Option (AV × Prop) :=
  match tt t with
  | some { k := .str, .. } => match x with
    | .c (.t (.v (.string s))) => match bnd 0 lo, bnd s.size hi with
      | some (l, lp), some (m, mp) => some (.c (.t (.v (.string (s.extract l m)))), lp ∧ mp ∧ l ≤ m ∧ m ≤ s.size)
      | _, _ => none
    | _ => none
  | some { k := .slice e, .. } => match tt e with
    | some ie => match x with
      | .c (.ref id sz off n) => if sz = ie.size then match bnd 0 lo, bnd n hi with
        | some (l, lp), some (m, mp) => some (.c (.ref id sz (offBy lo off l) (lenBy lo m l)), lp ∧ mp ∧ l ≤ m ∧ m ≤ n)
        | _, _ => none else none
      | .c (.t (.tree n sz f)) => if sz = ie.size then match bnd 0 lo, bnd n hi with
        | some (l, lp), some (m, mp) => some (.c (.t (.tree (lenBy lo m l) sz (fBy lo f l))), lp ∧ mp ∧ l ≤ m ∧ m ≤ n)
        | _, _ => none else none
      | _ => none
    | none => none
  | _ => none
section
variable {c : Cx} {used used' : Nat → Prop} {ρ ρ' : Ren} {tm : Tm} {h h' : Hp} {a : Act} {w w' : World} {base : Base} {X Y : Nat → Prop} {nt : Nat} {ok : Nat → Prop} {o : Oper} {nid : Nat}
theorem bnd_l {P : Program} {lo : Option AV} {vlo : Option Value} {l : Nat} {lp : Prop} (e : bnd 0 lo = some (l, lp)) (hp : lp) (hr : ∀ av, lo = some av → ∃ v, vlo = some v ∧ RV w ok ρ av v) (hn : lo = none → vlo = none) {m : Nat} (hle : l ≤ m) (cd : BoundsCode) :
    (lo = none ∧ vlo = none ∧ l = 0) ∨ ∃ k i av, lo = some av ∧ vlo = some (.int k i) ∧ i.toNat = l ∧ (Instr.sliceBound (.int k i) m cd).run P w = .ok l w := by
  cases lo with
  | none =>
    simp only [bnd, Option.some.injEq, Prod.mk.injEq] at e
    exact .inl ⟨rfl, hn rfl, e.1.symm⟩
  | some av =>
    unfold bnd at e
    split at e
    · rename_i h; cases h
    · rename_i k i h
      injection h with h
      subst h
      simp only [Option.some.injEq, Prod.mk.injEq] at e
      obtain ⟨e1, e2⟩ := e
      subst e1; subst e2
      obtain ⟨v, v1, v2⟩ := hr _ rfl
      obtain ⟨rfl, _⟩ := v2
      exact .inr ⟨k, i, _, rfl, v1, rfl, run_sliceBound w k i m cd hp (by omega)⟩
    · cases e
theorem bnd_h {P : Program} {hi : Option AV} {vhi : Option Value} {d m : Nat} {mp : Prop} (e : bnd d hi = some (m, mp)) (hp : mp) (hr : ∀ av, hi = some av → ∃ v, vhi = some v ∧ RV w ok ρ av v) (hn : hi = none → vhi = none) {n : Nat} (hle : m ≤ n) (cd : BoundsCode) :
    (vhi = none ∧ m = d) ∨ ∃ k i, vhi = some (.int k i) ∧ (Instr.sliceBound (.int k i) n cd).run P w = .ok m w := by
  cases hi with
  | none =>
    simp only [bnd, Option.some.injEq, Prod.mk.injEq] at e
    exact .inl ⟨hn rfl, e.1.symm⟩
  | some av =>
    unfold bnd at e
    split at e
    · rename_i h; cases h
    · rename_i k i h
      injection h with h
      subst h
      simp only [Option.some.injEq, Prod.mk.injEq] at e
      obtain ⟨e1, e2⟩ := e
      subst e1; subst e2
      obtain ⟨v, v1, v2⟩ := hr _ rfl
      obtain ⟨rfl, _⟩ := v2
      exact .inr ⟨k, i, v1, run_sliceBound w k i n cd hp (by omega)⟩
    · cases e
theorem bounds_run {P : Program} {lo hi : Option AV} {vlo vhi : Option Value} {isS : Bool} {n cap l m : Nat} {lp mp : Prop} (e1 : bnd 0 lo = some (l, lp)) (e2 : bnd n hi = some (m, mp)) (p1 : lp) (p2 : mp) (hlm : l ≤ m) (hmn : m ≤ n) (hnc : n ≤ cap)
    (r1 : ∀ av, lo = some av → ∃ v, vlo = some v ∧ RV w ok ρ av v) (n1 : lo = none → vlo = none) (r2 : ∀ av, hi = some av → ∃ v, vhi = some v ∧ RV w ok ρ av v) (n2 : hi = none → vhi = none) :
    (Instr.sliceBounds isS n cap vlo vhi none).run P w = .ok (l, m, cap) w := by
  rcases bnd_h (P := P) e2 p2 r2 n2 (Nat.le_trans hmn hnc) (if isS then .sliceAcap else .sliceAlen) with ⟨rfl, rfl⟩ | ⟨k, i, rfl, g⟩ <;>
    rcases bnd_l (P := P) e1 p1 r1 n1 hlm .sliceB with ⟨_, rfl, rfl⟩ | ⟨k', i', av, _, rfl, _, g'⟩
  · simp [Instr.sliceBounds]
  · simp [Instr.sliceBounds, g']
  · simp [Instr.sliceBounds, g]
  · simp [Instr.sliceBounds, g, g']
theorem lo_cases {lo : Option AV} {l : Nat} {lp : Prop} (e1 : bnd 0 lo = some (l, lp)) : (lo = none ∧ l = 0) ∨ ∃ av, lo = some av := by
  cases lo with
  | none => simp only [bnd, Option.some.injEq, Prod.mk.injEq] at e1; exact .inl ⟨rfl, e1.1.symm⟩
  | some av => exact .inr ⟨av, rfl⟩
theorem lenBy_eq {lo : Option AV} {l : Nat} {lp : Prop} (e1 : bnd 0 lo = some (l, lp)) (m : Nat) : lenBy lo m l = m - l := by
  rcases lo_cases e1 with ⟨rfl, rfl⟩ | ⟨av, rfl⟩ <;> simp [lenBy]
theorem offBy_eq {lo : Option AV} {l : Nat} {lp : Prop} (e1 : bnd 0 lo = some (l, lp)) (off : Nat) : offBy lo off l = off + l := by
  rcases lo_cases e1 with ⟨rfl, rfl⟩ | ⟨av, rfl⟩ <;> simp [offBy]
theorem fBy_eq {lo : Option AV} {l : Nat} {lp : Prop} (e1 : bnd 0 lo = some (l, lp)) (f : Nat → Nat → T) (i j : Nat) : fBy lo f l i j = f (l + i) j := by
  rcases lo_cases e1 with ⟨rfl, rfl⟩ | ⟨av, rfl⟩ <;> simp [fBy]
theorem aCut_run {P : Program} {tt : TT} (hT : TTok P tt) {t : TypeId} {x : AV} {y : Value} {lo hi : Option AV} {vlo vhi : Option Value} {r : AV × Prop} (e : aCut tt t x lo hi = some r) (hc : r.2) (hx : RV w ok ρ x y)
    (r1 : ∀ av, lo = some av → ∃ v, vlo = some v ∧ RV w ok ρ av v) (n1 : lo = none → vlo = none) (r2 : ∀ av, hi = some av → ∃ v, vhi = some v ∧ RV w ok ρ av v) (n2 : hi = none → vhi = none) :
    ∃ v, (Instr.sliceAt t y vlo vhi none).run P w = .ok v w ∧ RV w ok ρ r.1 v := by
  unfold aCut at e
  split at e
  · rename_i i1 i2 i3 hti
    have hu := (hT _ _ hti).str rfl
    split at e
    · rename_i s
      obtain ⟨rfl, _⟩ := hx
      split at e
      · rename_i l lp m mp e1 e2
        injection e with e
        subst e
        obtain ⟨p1, p2, p3, p4⟩ := hc
        have hb := bounds_run (P := P) (isS := false) e1 e2 p1 p2 p3 p4 (Nat.le_refl _) r1 n1 r2 n2
        refine ⟨_, ?_, rfl, rfl⟩
        simp [Instr.sliceAt, Instr.slice, run_underlying hu, hb]
      · cases e
    · cases e
  · rename_i el i1 i2 i3 hti
    have hu := (hT _ _ hti).slice rfl
    split at e
    · rename_i ie hie
      have hsz := (hT _ _ hie).size w
      split at e
      · rename_i id sz off n
        split at e
        · rename_i hs
          subst hs
          split at e
          · rename_i l lp m mp e1 e2
            injection e with e
            subst e
            obtain ⟨p1, p2, p3, p4⟩ := hc
            obtain ⟨loc, l1, l2⟩ := hx
            cases loc with
            | nil =>
              obtain ⟨rfl, rfl, q, rfl⟩ := l2
              have hb := bounds_run (P := P) (isS := true) (cap := 0) e1 e2 p1 p2 p3 p4 (Nat.le_refl _) r1 n1 r2 n2
              have hm : m = 0 := by omega
              have hl : l = 0 := by omega
              subst hm; subst hl
              refine ⟨.slice q 0 0, by simp [Instr.sliceAt, Instr.slice, run_underlying hu, hb, hsz], .nil, l1, by rw [offBy_eq e1], by rw [lenBy_eq e1], q, rfl⟩
            | _ b cap =>
              rcases l2 with ⟨rfl, hle⟩ | ⟨rfl, q, rfl⟩
              · have hb := bounds_run (P := P) (isS := true) (cap := cap - off) e1 e2 p1 p2 p3 p4 (by omega) r1 n1 r2 n2
                by_cases hcl : cap - off = l
                · subst hcl
                  refine ⟨.slice (some ⟨b, off * ie.size, none⟩) (m - (cap - off)) 0, by simp [Instr.sliceAt, Instr.slice, run_underlying hu, hb, hsz], .at b cap, l1, ?_⟩
                  have hm : m - (cap - off) = 0 := by omega
                  exact .inr ⟨by rw [lenBy_eq e1, hm], _, by rw [hm]⟩
                · refine ⟨.slice (some ⟨b, off * ie.size + l * ie.size, none⟩) (m - l) (cap - off - l), by simp [Instr.sliceAt, Instr.slice, run_underlying hu, hb, hsz, hcl, Addr.add_lit], .at b cap, l1, .inl ⟨?_, ?_⟩⟩
                  · rw [lenBy_eq e1, offBy_eq e1, Nat.add_mul, Nat.sub_sub]
                  · rw [lenBy_eq e1, offBy_eq e1]; omega
              · have hb := bounds_run (P := P) (isS := true) (cap := 0) e1 e2 p1 p2 p3 p4 (Nat.le_refl _) r1 n1 r2 n2
                have hm : m = 0 := by omega
                have hl : l = 0 := by omega
                subst hm; subst hl
                exact ⟨.slice q 0 0, by simp [Instr.sliceAt, Instr.slice, run_underlying hu, hb, hsz], .at b cap, l1, .inr ⟨by rw [lenBy_eq e1], q, rfl⟩⟩
          · cases e
        · cases e
      · rename_i n sz f
        split at e
        · rename_i hs
          subst hs
          split at e
          · rename_i l lp m mp e1 e2
            injection e with e
            subst e
            obtain ⟨p1, p2, p3, p4⟩ := hc
            obtain ⟨q, cp, rfl, hnc, hcell⟩ := hx
            have hb := bounds_run (P := P) (isS := true) (cap := cp) e1 e2 p1 p2 p3 p4 hnc r1 n1 r2 n2
            refine ⟨.slice (if cp = l then q else q.map (·.add (l * ie.size))) (m - l) (cp - l), by simp [Instr.sliceAt, Instr.slice, run_underlying hu, hb, hsz], _, cp - l, by rw [lenBy_eq e1], by rw [lenBy_eq e1]; omega, fun i hi j hj => ?_⟩
            rw [lenBy_eq e1] at hi
            obtain ⟨b, o, v, rfl, c2, c3, c4⟩ := hcell (l + i) (by omega) j hj
            refine ⟨b, o + l * ie.size, v, ?_, c2, ?_, ?_⟩
            · rw [if_neg (by omega)]; simp [Addr.add_lit]
            · rw [← c3]; congr 2; rw [Nat.add_mul]; omega
            · rw [fBy_eq e1]; exact c4
          · cases e
        · cases e
      · cases e
    · cases e
  · cases e
/-! Conversions. -/
def bytesOf (n : Nat) (bs : Nat → Int) : ByteArray := ⟨(tab (fun i => UInt8.ofNat (bs i).toNat) 0 n).toArray⟩
def notV : AV → Bool
  | .c (.t (.v _)) => false
  | _ => true
theorem srcKind_nv {tt : TT} {tx e : TypeId} {j1 j2 : Nat} {j3 : List Value} {x : AV} (h : tt tx = some { k := .slice e, size := j1, bytes := j2, zero := j3 }) (hn : notV x = true) : srcKind tt tx x = true := by
  simp only [srcKind, h]
  split
  · simp [notV] at hn
  · rfl
def aConvV (tt : TT) (dst : TypeId) (h : Hp) (src : TypeId) (x : AV) (hi : Hint) : Option (AV × Prop) :=
  match tt dst with
  | some { k := .int k, .. } => match x with
    | .c (.t (.v (.int _ n))) => some (.c (.t (.v (.int k (k.wrap n)))), True)
    | _ => none
  | some { k := .str, .. } => match x with
    | .c (.t (.v (.string s))) => some (.c (.t (.v (.string s))), True)
    | _ => match tt src with
      | some { k := .slice e, .. } => match tt e, hi.ints, aSrc h 1 x with
        | some { k := .int .u8, .. }, some bs, some (n, f, p) => if notV x = true then some (.c (.t (.v (.string (bytesOf n bs)))), p ∧ ∀ i, i < n → f i 0 = .v (.int .u8 (bs i))) else none
        | _, _, _ => none
      | _ => none
  | _ => none
theorem foldl_push_tab (bs : Nat → Int) : ∀ (n s : Nat) (r : ByteArray), (tab bs s n).foldl (fun r n => r.push (UInt8.ofNat n.toNat)) r = ⟨r.data ++ (tab (fun i => UInt8.ofNat (bs i).toNat) s n).toArray⟩
  | 0, s, r => by simp [tab]
  | n + 1, s, r => by
    simp only [tab, List.foldl_cons]
    rw [foldl_push_tab bs n (s + 1)]
    congr 1
    apply Array.ext'
    simp [ByteArray.push]
theorem aConvV_run {P : Program} {tt : TT} (hT : TTok P tt) (R : Rep base X nt used ρ tm h a w) {src dst : TypeId} {x : AV} {y : Value} {hi : Hint} {r : AV × Prop} (e : aConvV tt dst h src x hi = some r) (hc : r.2) (hx : RV w (okOf base w ρ h) ρ x y) (hus : ∃ d, P.underlying src = some d) :
    ∃ v, (convert src dst y).run P w = .ok v w ∧ RV w (okOf base w ρ h) ρ r.1 v := by
  obtain ⟨ds, hus⟩ := hus
  unfold aConvV at e
  split at e
  · rename_i k i1 i2 i3 hti
    have hu := (hT _ _ hti).int rfl
    split at e
    · injection e with e
      subst e
      obtain ⟨rfl, _⟩ := hx
      refine ⟨_, ?_, rfl, rfl⟩
      unfold convert
      simp only [Sem.run_bind, run_underlying hus, run_underlying hu, Result.andThen_ok]
      rfl
    · cases e
  · rename_i i1 i2 i3 hti
    have hu := (hT _ _ hti).str rfl
    split at e
    · injection e with e
      subst e
      obtain ⟨rfl, _⟩ := hx
      refine ⟨_, ?_, rfl, rfl⟩
      unfold convert
      simp only [Sem.run_bind, run_underlying hus, run_underlying hu, Result.andThen_ok]
      rfl
    · split at e
      · rename_i el j1 j2 j3 hsi
        have hs := (hT _ _ hsi).slice rfl
        split at e
        · rename_i m1 m2 m3 bs n f p hel hint hsrc
          have he := (hT _ _ hel).int rfl
          split at e
          · rename_i hnotv
            injection e with e
            subst e
            obtain ⟨c1, c2⟩ := hc
            have hk := srcKind_nv hsi hnotv
            obtain ⟨news, n1, n2⟩ := aSrc_ok hT R (by omega) hk hsrc c1 hx
            have hsl : ∃ q cp, y = .slice q n cp := by
              unfold aSrc at hsrc
              split at hsrc
              · simp [notV] at hnotv
              · simp [notV] at hnotv
              · split at hsrc
                · injection hsrc with hsrc; injection hsrc with e1 e2; subst e1
                  obtain ⟨q, cp, rfl, _⟩ := hx; exact ⟨q, cp, rfl⟩
                · cases hsrc
              · split at hsrc
                · split at hsrc
                  · split at hsrc
                    · injection hsrc with hsrc; injection hsrc with e1 e2; subst e1
                      obtain ⟨l, l1, l2⟩ := hx
                      cases l with
                      | nil => obtain ⟨_, rfl, q, rfl⟩ := l2; exact ⟨q, 0, rfl⟩
                      | _ b cap =>
                        rcases l2 with ⟨rfl, _⟩ | ⟨rfl, q, rfl⟩
                        · exact ⟨_, _, rfl⟩
                        · exact ⟨q, 0, rfl⟩
                    · cases hsrc
                  · cases hsrc
                · cases hsrc
              · cases hsrc
            obtain ⟨q, cp, rfl⟩ := hsl
            have hnl := n1.newsLen
            have hnews : news = (tab bs 0 n).map (Value.int .u8) := by
              apply List.ext_getElem?
              intro i
              by_cases hi : i < n
              · obtain ⟨v, v1, v2⟩ := n2 i hi 0 (by omega)
                rw [show i * 1 + 0 = i by omega] at v1
                have c3 : f i 0 = .v (.int .u8 (bs i)) := c2 i hi
                simp only [c3] at v2
                rw [v1, List.getElem?_map, tab_get _ _ _ _ hi, Nat.zero_add, v2.1]; rfl
              · rw [List.getElem?_eq_none (by omega), List.getElem?_eq_none (by simp [tab_length]; omega)]
            refine ⟨.string (bytesOf n bs), ?_, rfl, rfl⟩
            rw [run_convert_bytes_string w src dst el q n cp hs he hu]
            cases q with
            | none =>
              have h0 := n1.cells
              rw [run_firstCells_none] at h0
              injection h0 with h0
              have : news = [] := by have := congrArg Array.toList h0; simpa using this.symm
              have hn0 : n = 0 := by rw [this] at hnl; simp at hnl; omega
              subst hn0
              simp [Conv.bytesToString, bytesOf, tab]
              rfl
            | some ad =>
              have h0 := n1.cells
              simp only [Builtin.firstCells, Nat.mul_one] at h0
              rw [run_bytesToString w ad n cp (tab bs 0 n) (by rw [h0, hnews]), foldl_push_tab]
              simp [bytesOf]
          · cases e
        · cases e
      · cases e
  · cases e
def bytesT (s : ByteArray) : Nat → Nat → T := fun i _ => .v (.int .u8 (s.data.toList.getD i 0).toNat)
def aConvB (tt : TT) (src dst : TypeId) (x : AV) (nid : Nat) (hi : Hint) : Option Eff :=
  match tt src, tt dst, x with
  | some { k := .str, .. }, some { k := .slice e, .. }, .c (.t (.v (.string s))) => match tt e with
    | some { k := .int .u8, .. } => some ⟨some (.c (.ref nid 1 0 (reRow e false 1 s.size (bytesT s) hi.row).1)), [(nid, some (reRow e false 1 s.size (bytesT s) hi.row).2.1)], s.size ≤ maxLen ∧ (reRow e false 1 s.size (bytesT s) hi.row).2.2⟩
    | _ => none
  | _, _, _ => none
theorem aConvB_good (R : Rep c.base c.X c.nt used ρ tm h a w) (hfresh : ¬ used nid) (hu : ∀ id, used id → used' id) (hn : used' nid) (hd : ∀ t, o.dst = some t → t < c.nt) {tt : TT} (hT : TTok c.P tt) {src dst : TypeId} {x : Operand} {xv : AV} {hi : Hint} {r : Eff}
    (ho : o.op = .convert src dst x) (hx : ev tm x = some xv) (e : aConvB tt src dst xv nid hi = some r) (hc : r.chk) : Good c used' tm h a o r.val r.W ((execOp a.eval o).run c.P w) := by
  unfold aConvB at e
  split at e
  · rename_i i1 i2 i3 el i4 i5 i6 s hsi hdi
    have hs := (hT _ _ hsi).str rfl
    have hdd := (hT _ _ hdi).slice rfl
    have hx' := ev_v R hx
    split at e
    · rename_i i7 i8 i9 hel
      have he := (hT _ _ hel).int rfl
      injection e with e
      subst e
      obtain ⟨c1, c2⟩ := hc
      have hge := grownCap_ge w s.size 0 el
      have hle := grownCap_le_maxLen w s.size 0 el c1
      have hrun := run_bytes_of_string (P := c.P) w src dst el s hs hdd he
      have hbs : (bytesRow s (grownCap w s.size 0 el)).size = grownCap w s.size 0 el * 1 := by
        simp only [bytesRow, Array.size_append, Array.size_map, Array.size_replicate]
        have : s.data.size = s.size := rfl
        omega
      have U : Upd (fun _ => False) w (w.drew.alloc (.cells (bytesRow s (grownCap w s.size 0 el)) el ((bytesRow s (grownCap w s.size 0 el)).size, (bytesRow s (grownCap w s.size 0 el)).size + 1))) := ⟨rfl, rfl, rfl, by simp, fun b hb _ => heap_alloc_old w.drew _ hb⟩
      refine good_row R U hfresh hu hn hd c2 (Nat.le_refl _) hge (heap_alloc_new w.drew _) hbs (fun _ => ⟨.inr (Nat.le_refl _), hle⟩) (fun K i hi j hj => ?_) (by simp only [execOp, ho, hx', Sem.run_bind, hrun]; rfl)
      obtain rfl : j = 0 := by omega
      have hi' : i < s.data.size := hi
      refine ⟨_, by rw [show i * 1 + 0 = i by omega]; exact bytesRow_at s _ i hi', ?_, rfl⟩
      have hi2 : i < s.data.toList.length := by simpa using hi'
      rw [List.getD_eq_getElem?_getD, List.getElem?_eq_getElem hi2]; rfl
    · cases e
  · cases e
/-! The least, the greatest. -/
def aMM (b : Builtin) (x y : AV) : Option (AV × Prop) :=
  match b, x, y with
  | .min, .c (.t (.v (.int k m))), .c (.t (.v (.int k' n))) => some (.c (.t (.v (.int k (if n < m then n else m)))), True)
  | .max, .c (.t (.v (.int k m))), .c (.t (.v (.int k' n))) => some (.c (.t (.v (.int k (if n > m then n else m)))), True)
  | _, _, _ => none
end
end Vm
end Go.Proofs.Yteholdifeilkkaa
