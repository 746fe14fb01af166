/- The abstract machine: a region that draws its order. -/
import Derived.Test.YtknlckjpgmjenaaVl
namespace Go.Proofs.Ytknlckjpgmjenaa
set_option linter.unusedVariables false
namespace Vm
abbrev OE := Oper × Option Eff
/-- The slots, the blocks, behind those operations of E; in the order of the text. -/
def FT (E : Nat → Bool) : List OE → Nat → Tm → Tm
  | [], _, tm => tm
  | (o, e) :: r, j, tm => FT E r (j + 1) (if E j then setTm tm o.dst (effVal e) else tm)
def FH (E : Nat → Bool) : List OE → Nat → Hp → Hp
  | [], _, h => h
  | (_, e) :: r, j, h => FH E r (j + 1) (if E j then setHp h (effW e) else h)
def keyB (W : List (Nat × Option Blk)) (id : Nat) : Bool := W.any fun p => Nat.beq p.1 id
theorem setHp_not {W : List (Nat × Option Blk)} {id : Nat} (h : Hp) (k : keyB W id = false) : setHp h W id = h id := by
  induction W with
  | nil => rfl
  | cons p W ih =>
    obtain ⟨i, b⟩ := p
    simp only [keyB, List.any_cons, Bool.or_eq_false_iff] at k
    simp only [setHp]
    rw [if_neg (fun e => by subst e; simp at k)]
    exact ih k.2
theorem setHp_in {W : List (Nat × Option Blk)} {id : Nat} (h h' : Hp) (k : keyB W id = true) : setHp h W id = setHp h' W id := by
  induction W with
  | nil => cases k
  | cons p W ih =>
    obtain ⟨i, b⟩ := p
    simp only [setHp]
    by_cases e : i = id
    · simp [e]
    · rw [if_neg e, if_neg e]
      refine ih ?_
      have e' : Nat.beq i id = false := by simpa [← Nat.beq_eq] using e
      simpa [keyB, e'] using k
section
variable {E F : Nat → Bool}
theorem FT_congr {t : Nat} : ∀ (l : List OE) (j : Nat) (tm tm' : Tm), tm t = tm' t → (∀ m o e, l[m]? = some (o, e) → o.dst = some t → E (j + m) = F (j + m)) → FT E l j tm t = FT F l j tm' t
  | [], j, tm, tm', h, _ => h
  | (o, e) :: r, j, tm, tm', h, hw => by
    simp only [FT]
    refine FT_congr r (j + 1) _ _ ?_ (fun m o' e' hm hd => by have := hw (m + 1) o' e' (by simpa using hm) hd; rwa [show j + (m + 1) = j + 1 + m by omega] at this)
    by_cases hd : o.dst = some t
    · have := hw 0 o e (by simp) hd
      simp only [Nat.add_zero] at this
      rw [this]
      split
      · simp [setTm, hd]
      · exact h
    · have h1 : ∀ (b : Bool) (u : Tm), (if b then setTm u o.dst (effVal e) else u) t = u t := fun b u => by
        cases b
        · rfl
        · simp only [if_true, setTm]; rw [if_neg (fun x => hd x.symm)]
      rw [h1, h1]; exact h
theorem FH_congr {id : Nat} : ∀ (l : List OE) (j : Nat) (h h' : Hp), h id = h' id → (∀ m o e, l[m]? = some (o, e) → keyB (effW e) id = true → E (j + m) = F (j + m)) → FH E l j h id = FH F l j h' id
  | [], j, h, h', hh, _ => hh
  | (o, e) :: r, j, h, h', hh, hw => by
    simp only [FH]
    refine FH_congr r (j + 1) _ _ ?_ (fun m o' e' hm hd => by have := hw (m + 1) o' e' (by simpa using hm) hd; rwa [show j + (m + 1) = j + 1 + m by omega] at this)
    cases hd : keyB (effW e) id with
    | true =>
      have := hw 0 o e (by simp) hd
      simp only [Nat.add_zero] at this
      rw [this]
      split
      · exact setHp_in _ _ hd
      · exact hh
    | false =>
      have h1 : ∀ (b : Bool) (u : Hp), (if b then setHp u (effW e) else u) id = u id := fun b u => by
        cases b
        · rfl
        · exact setHp_not _ hd
      rw [h1, h1]; exact hh
theorem FT_last {t i : Nat} {o : Oper} {e : Option Eff} : ∀ (l : List OE) (j : Nat) (tm : Tm), l[i]? = some (o, e) → o.dst = some t → E (j + i) = true → (∀ m o' e', i < m → l[m]? = some (o', e') → o'.dst = some t → E (j + m) = false) → FT E l j tm t = effVal e
  | [], _, _, h, _, _, _ => by simp at h
  | (o1, e1) :: r, j, tm, h, hd, hE, hw => by
    cases i with
    | zero =>
      simp at h
      obtain ⟨rfl, rfl⟩ := h
      simp only [FT]
      simp only [Nat.add_zero] at hE
      rw [hE, if_pos rfl]
      have h2 : FT E r (j + 1) (setTm tm o1.dst (effVal e1)) t = FT (fun _ => false) r (j + 1) (setTm tm o1.dst (effVal e1)) t :=
        FT_congr r (j + 1) _ _ rfl (fun m o' e' hm hd' => by have := hw (m + 1) o' e' (by omega) (by simpa using hm) hd'; rwa [show j + (m + 1) = j + 1 + m by omega] at this)
      have h3 : ∀ (r : List OE) (j : Nat) (u : Tm), FT (fun _ => false) r j u = u := by
        intro r
        induction r with
        | nil => intro j u; rfl
        | cons p r ih => intro j u; obtain ⟨a, b⟩ := p; simp only [FT]; exact ih _ _
      rw [h2, h3]; simp [setTm, hd]
    | succ i =>
      simp only [FT]
      exact FT_last r (j + 1) _ (by simpa using h) hd (by rw [← hE]; congr 1; omega) (fun m o' e' hm hl hd' => by have := hw (m + 1) o' e' (by omega) (by simpa using hl) hd'; rwa [show j + (m + 1) = j + 1 + m by omega] at this)
theorem FH_last {id i : Nat} {o : Oper} {e : Option Eff} : ∀ (l : List OE) (j : Nat) (h : Hp), l[i]? = some (o, e) → keyB (effW e) id = true → E (j + i) = true → (∀ m o' e', i < m → l[m]? = some (o', e') → keyB (effW e') id = true → E (j + m) = false) → ∀ h0 : Hp, FH E l j h id = setHp h0 (effW e) id
  | [], _, _, h, _, _, _, _ => by simp at h
  | (o1, e1) :: r, j, h, hl, hd, hE, hw, h0 => by
    cases i with
    | zero =>
      simp at hl
      obtain ⟨rfl, rfl⟩ := hl
      simp only [FH]
      simp only [Nat.add_zero] at hE
      rw [hE, if_pos rfl]
      have h2 : FH E r (j + 1) (setHp h (effW e1)) id = FH (fun _ => false) r (j + 1) (setHp h (effW e1)) id :=
        FH_congr r (j + 1) _ _ rfl (fun m o' e' hm hd' => by have := hw (m + 1) o' e' (by omega) (by simpa using hm) hd'; rwa [show j + (m + 1) = j + 1 + m by omega] at this)
      have h3 : ∀ (r : List OE) (j : Nat) (u : Hp), FH (fun _ => false) r j u = u := by
        intro r
        induction r with
        | nil => intro j u; rfl
        | cons p r ih => intro j u; obtain ⟨a, b⟩ := p; simp only [FH]; exact ih _ _
      rw [h2, h3]; exact setHp_in _ _ hd
    | succ i =>
      simp only [FH]
      exact FH_last r (j + 1) _ (by simpa using hl) hd (by rw [← hE]; congr 1; omega) (fun m o' e' hm hl hd' => by have := hw (m + 1) o' e' (by omega) (by simpa using hl) hd'; rwa [show j + (m + 1) = j + 1 + m by omega] at this) h0
/-- One more is carried out. -/
theorem FT_insert {i : Nat} {o : Oper} {e : Option Eff} {l : List OE} {tm : Tm} (hi : l[i]? = some (o, e)) (hE : E i = false) (hF : ∀ m, F m = (E m || Nat.beq m i)) (hw : ∀ m o' e' t, i < m → l[m]? = some (o', e') → o'.dst = some t → o.dst = some t → E m = false) :
    FT F l 0 tm = setTm (FT E l 0 tm) o.dst (effVal e) := by
  funext t
  by_cases hd : o.dst = some t
  · rw [FT_last l 0 tm hi hd (by rw [hF]; simp) (fun m o' e' hm hl hd' => by
      rw [Nat.zero_add, hF, hw m o' e' t hm hl hd' hd]
      have : Nat.beq m i = false := by simpa [← Nat.beq_eq] using (by omega : m ≠ i)
      simp [this])]
    simp [setTm, hd]
  · rw [setTm, if_neg (fun x => hd x.symm)]
    refine FT_congr l 0 _ _ rfl fun m o' e' hm hd' => ?_
    rw [Nat.zero_add, hF]
    have : m ≠ i := fun x => by subst x; rw [hi] at hm; injection hm with hm; injection hm with h1 _; subst h1; exact hd hd'
    have : Nat.beq m i = false := by simpa [← Nat.beq_eq] using this
    simp [this]
theorem FH_insert {i : Nat} {o : Oper} {e : Option Eff} {l : List OE} {h : Hp} (hi : l[i]? = some (o, e)) (hE : E i = false) (hF : ∀ m, F m = (E m || Nat.beq m i)) (hw : ∀ m o' e' id, i < m → l[m]? = some (o', e') → keyB (effW e') id = true → keyB (effW e) id = true → E m = false) :
    FH F l 0 h = setHp (FH E l 0 h) (effW e) := by
  funext id
  cases hd : keyB (effW e) id with
  | true =>
    exact FH_last l 0 h hi hd (by rw [hF]; simp) (fun m o' e' hm hl hd' => by
      rw [Nat.zero_add, hF, hw m o' e' id hm hl hd' hd]
      have : Nat.beq m i = false := by simpa [← Nat.beq_eq] using (by omega : m ≠ i)
      simp [this]) _
  | false =>
    rw [setHp_not _ hd]
    refine FH_congr l 0 _ _ rfl fun m o' e' hm hd' => ?_
    rw [Nat.zero_add, hF]
    have : m ≠ i := fun x => by subst x; rw [hi] at hm; injection hm with hm; injection hm with _ h1; subst h1; rw [hd] at hd'; cases hd'
    have : Nat.beq m i = false := by simpa [← Nat.beq_eq] using this
    simp [this]
end
theorem FT_none {E : Nat → Bool} (h : ∀ i, E i = false) : ∀ (r : List OE) (j : Nat) (u : Tm), FT E r j u = u
  | [], j, u => rfl
  | (o, e) :: r, j, u => by
    have := h j
    simp only [FT, this]
    exact FT_none h r _ _
theorem FH_none {E : Nat → Bool} (h : ∀ i, E i = false) : ∀ (r : List OE) (j : Nat) (u : Hp), FH E r j u = u
  | [], j, u => rfl
  | (o, e) :: r, j, u => by
    have := h j
    simp only [FH, this]
    exact FH_none h r _ _
/-! The same, as lists. -/
def LT (E : Nat → Bool) : List OE → Nat → List (Nat × AV) → List (Nat × AV)
  | [], _, l => l
  | (o, e) :: r, j, l => LT E r (j + 1) (bif E j then putTm l o.dst (effVal e) else l)
def LH (E : Nat → Bool) : List OE → Nat → List (Nat × Blk) → List (Nat × Blk)
  | [], _, l => l
  | (_, e) :: r, j, l => LH E r (j + 1) (bif E j then putHp l (effW e) else l)
theorem look_LT (E : Nat → Bool) : ∀ (l : List OE) (j : Nat) (s : List (Nat × AV)), look (LT E l j s) = FT E l j (look s)
  | [], j, s => rfl
  | (o, e) :: r, j, s => by
    simp only [LT, FT]
    rw [look_LT E r (j + 1)]
    cases E j
    · rfl
    · simp only [cond_true, look_putTm]; rfl
theorem look_LH (E : Nat → Bool) : ∀ (l : List OE) (j : Nat) (s : List (Nat × Blk)), look (LH E l j s) = FH E l j (look s)
  | [], j, s => rfl
  | (o, e) :: r, j, s => by
    simp only [LH, FH]
    rw [look_LH E r (j + 1)]
    cases E j
    · rfl
    · simp only [cond_true, look_putHp]; rfl
def keepL {α : Type} (p : Nat → Bool) : List (Nat × α) → List (Nat × α)
  | [] => []
  | (k, v) :: l => bif p k then (k, v) :: keepL p l else keepL p l
theorem look_keep {α : Type} (p : Nat → Bool) : ∀ (l : List (Nat × α)) (i : Nat), look (keepL p l) i = if p i then look l i else none
  | [], i => by simp [keepL, look]
  | (k, v) :: l, i => by
    simp only [keepL]
    cases h : p k with
    | true =>
      simp only [cond_true, look_cons, look_keep p l i]
      by_cases e : k = i
      · subst e; simp [h]
      · simp [e]
    | false =>
      simp only [cond_false, look_cons, look_keep p l i]
      by_cases e : k = i
      · subst e; simp [h]
      · simp [e]
/-- Whether operation j waits for operation i, by the masks. -/
def bit (masks : List Nat) (j i : Nat) : Bool := (masks.getD j 0).testBit i
def maskOf (masks : List Nat) : List Edge → Nat
  | [] => 0
  | e :: l => bif Region.binds .any e then (2 ^ e.on ||| masks.getD e.on 0) ||| maskOf masks l else maskOf masks l
def lowB (i : Nat) (l : List Edge) : Bool := l.all fun e => !Region.binds .any e || Nat.blt e.on i
/-- The masks are the operations that each one waits for. -/
def masksB (masks : List Nat) : List Oper → Nat → Bool
  | [], _ => true
  | o :: l, i => lowB i o.after.toList && Nat.beq (masks.getD i 0) (maskOf masks o.after.toList) && masksB masks l (i + 1)
/-- May operation i see slot t (block id) as it stands in its own past? No other one writes it, but those that it waits for and those that wait for it. -/
def seesT (masks : List Nat) (ops : List Oper) (i t : Nat) : Bool := (ops.zipIdx).all fun p => match p.1.dst with
  | some d => !Nat.beq d t || Nat.beq p.2 i || bit masks i p.2 || bit masks p.2 i
  | none => true
def seesH (masks : List Nat) (wk : List (List Nat)) (i id : Nat) : Bool := (wk.zipIdx).all fun p => !p.1.contains id || Nat.beq p.2 i || bit masks i p.2 || bit masks p.2 i
/-- Two that write one slot, or one block, do so in one order. -/
def wwT (masks : List Nat) (ops : List Oper) : Bool := (ops.zipIdx).all fun p => (ops.zipIdx).all fun q => match p.1.dst, q.1.dst with
  | some d, some t => !Nat.beq d t || Nat.ble q.2 p.2 || bit masks q.2 p.2
  | _, _ => true
def wwH (masks : List Nat) (wk : List (List Nat)) : Bool := (wk.zipIdx).all fun p => (wk.zipIdx).all fun q => Nat.ble q.2 p.2 || bit masks q.2 p.2 || p.1.all fun x => !q.1.contains x
def drawGo (P : Program) (tt : TT) (ops : List Oper) (masks : List Nat) (wk : List (List Nat)) (S : St) : List Oper → Nat → List Hi → List OE → Nat → Option (List OE × Nat)
  | [], _, _, acc, nid => some (acc, nid)
  | o :: rest, i, xs, acc, nid =>
    let x := xs.headD {}
    match aStep P tt ops (look (keepL (seesT masks ops i) (LT (bit masks i) acc 0 S.tm))) (look (keepL (seesH masks wk i) (LH (bit masks i) acc 0 S.h))) o nid x with
    | some r => if (effW r).all fun p => (wk.getD i []).contains p.1 then drawGo P tt ops masks wk S rest (i + 1) xs.tail (acc ++ [(o, r)]) (nid + x.cnt) else none
    | none => none
def all_ : Nat → Bool := fun _ => true
def drawRun (P : Program) (tt : TT) (ops : List Oper) (masks : List Nat) (wk : List (List Nat)) (xs : List Hi) (S : St) : Option (St × List Prop) :=
  if masksB masks ops 0 && Nat.beq wk.length ops.length && Nat.beq masks.length ops.length && wwT masks ops && wwH masks wk then
    match drawGo P tt ops masks wk S ops 0 xs [] S.n with
    | some (l, n) => some (⟨LT all_ l 0 S.tm, LH all_ l 0 S.h, n⟩, l.map fun p => effChk p.2)
    | none => none
  else none
def nidAt (n : Nat) : List Hi → Nat → Nat
  | _, 0 => n
  | xs, i + 1 => nidAt (n + (xs.headD {}).cnt) xs.tail i
theorem nidAt_succ : ∀ (i n : Nat) (xs : List Hi), nidAt n xs (i + 1) = nidAt n xs i + (xs.getD i {}).cnt
  | 0, n, xs => by cases xs <;> simp [nidAt]
  | i + 1, n, xs => by
    rw [nidAt, nidAt_succ i]
    cases xs <;> simp [nidAt]
theorem nidAt_le (n : Nat) (xs : List Hi) : ∀ {i j : Nat}, i ≤ j → nidAt n xs i ≤ nidAt n xs j := by
  intro i j h
  induction j with
  | zero => have : i = 0 := by omega
            subst this; exact Nat.le_refl _
  | succ j ih =>
    rcases Nat.lt_or_ge i (j + 1) with h1 | h1
    · have := ih (by omega); rw [nidAt_succ]; omega
    · have : i = j + 1 := by omega
      subst this; exact Nat.le_refl _
theorem drawGo_spec {P : Program} {tt : TT} {ops : List Oper} {masks : List Nat} {wk : List (List Nat)} {S : St} : ∀ (rest : List Oper) (i : Nat) (xs : List Hi) (acc : List OE) (nid : Nat) (l : List OE) (n : Nat), acc.length = i → drawGo P tt ops masks wk S rest i xs acc nid = some (l, n) →
    n = nidAt nid xs rest.length ∧ l.take i = acc ∧ l.length = i + rest.length ∧ ∀ m o, rest[m]? = some o → ∃ r, l[i + m]? = some (o, r) ∧
      aStep P tt ops (look (keepL (seesT masks ops (i + m)) (LT (bit masks (i + m)) (l.take (i + m)) 0 S.tm))) (look (keepL (seesH masks wk (i + m)) (LH (bit masks (i + m)) (l.take (i + m)) 0 S.h))) o (nidAt nid xs m) (xs.getD m {}) = some r ∧ ∀ id, keyB (effW r) id = true → id ∈ wk.getD (i + m) []
  | [], i, xs, acc, nid, l, n, ha, e => by
    simp only [drawGo, Option.some.injEq, Prod.mk.injEq] at e
    obtain ⟨rfl, rfl⟩ := e
    exact ⟨rfl, by rw [List.take_of_length_le (by omega)], by simp [ha], fun m o hm => by simp at hm⟩
  | o :: rest, i, xs, acc, nid, l, n, ha, e => by
    simp only [drawGo] at e
    split at e
    · rename_i r hr
      split at e
      · rename_i hk
        obtain ⟨h1, h2, h3, h4⟩ := drawGo_spec rest (i + 1) xs.tail (acc ++ [(o, r)]) _ l n (by simp [ha]) e
        have htake : l.take i = acc := by
          have := congrArg (List.take i) h2
          rw [List.take_take, Nat.min_eq_left (by omega), List.take_append_of_le_length (by omega), List.take_of_length_le (by omega : acc.length ≤ i)] at this
          exact this
        have hli : l[i]? = some (o, r) := by
          have := congrArg (fun x => x[i]?) h2
          simp only [List.getElem?_take, List.getElem?_append] at this
          rw [if_pos (by omega), if_neg (by omega)] at this
          rw [this]; simp [ha]
        refine ⟨by rw [h1]; simp [nidAt], htake, by rw [h3]; simp; omega, fun m o' hm => ?_⟩
        cases m with
        | zero =>
          simp at hm
          subst hm
          refine ⟨r, by simpa using hli, ?_, fun id hid => ?_⟩
          · simp only [Nat.add_zero, nidAt]
            rw [htake]
            have : xs.getD 0 ({} : Hi) = xs.headD {} := by cases xs <;> rfl
            rw [this]; exact hr
          · simp only [keyB, List.any_eq_true] at hid
            obtain ⟨p, hp, hpe⟩ := hid
            have := List.all_eq_true.1 hk p hp
            have hpi : p.1 = id := Nat.eq_of_beq_eq_true hpe
            rw [hpi] at this
            simpa using this
        | succ m =>
          obtain ⟨r', k1, k2, k3⟩ := h4 m o' (by simpa using hm)
          have e1 : i + 1 + m = i + (m + 1) := by omega
          rw [e1] at k1 k2 k3
          refine ⟨r', k1, ?_, k3⟩
          have e2 : nidAt nid xs (m + 1) = nidAt (nid + (xs.headD {}).cnt) xs.tail m := rfl
          have e3 : xs.getD (m + 1) ({} : Hi) = xs.tail.getD m {} := by cases xs <;> simp
          rw [e2, e3]; exact k2
      · cases e
    · cases e
theorem maskOf_bit {masks : List Nat} : ∀ {l : List Edge} {k : Nat}, (maskOf masks l).testBit k = true → ∃ e ∈ l, Region.binds .any e = true ∧ (k = e.on ∨ bit masks e.on k = true)
  | [], k, h => by simp [maskOf] at h
  | e :: l, k, h => by
    simp only [maskOf] at h
    cases hb : Region.binds .any e with
    | true =>
      simp only [hb, cond_true, Nat.testBit_or, Bool.or_eq_true] at h
      rcases h with (h | h) | h
      · rw [Nat.testBit_two_pow] at h
        exact ⟨e, by simp, hb, .inl (by simpa using h : e.on = k).symm⟩
      · exact ⟨e, by simp, hb, .inr h⟩
      · obtain ⟨e', h1, h2, h3⟩ := maskOf_bit h
        exact ⟨e', by simp [h1], h2, h3⟩
    | false =>
      simp only [hb, cond_false] at h
      obtain ⟨e', h1, h2, h3⟩ := maskOf_bit h
      exact ⟨e', by simp [h1], h2, h3⟩
theorem masksB_spec {masks : List Nat} : ∀ {l : List Oper} {i : Nat}, masksB masks l i = true → ∀ m o, l[m]? = some o → (∀ e ∈ o.after.toList, Region.binds .any e = true → e.on < i + m) ∧ masks.getD (i + m) 0 = maskOf masks o.after.toList
  | [], i, _, m, o, hm => by simp at hm
  | p :: l, i, h, m, o, hm => by
    simp only [masksB, Bool.and_eq_true] at h
    cases m with
    | zero =>
      simp at hm
      subst hm
      refine ⟨fun e he hb => ?_, Nat.eq_of_beq_eq_true h.1.2⟩
      have := List.all_eq_true.1 h.1.1 e he
      simp [hb] at this
      simpa using this
    | succ m =>
      have := masksB_spec h.2 m o (by simpa using hm)
      rw [show i + 1 + m = i + (m + 1) by omega] at this
      exact this
theorem getD_true {ls : Array Bool} {i : Nat} (h : ls.getD i false = true) : i < ls.size := by
  rcases Nat.lt_or_ge i ls.size with h' | h'
  · exact h'
  · simp [Array.getD_eq_getD_getElem?, Array.getElem?_eq_none h'] at h
theorem set_getD {ls : Array Bool} {i : Nat} (hi : i < ls.size) (m : Nat) : (ls.setIfInBounds i true).getD m false = (ls.getD m false || Nat.beq m i) := by
  by_cases h : m = i
  · subst h; simp [Array.getD_eq_getD_getElem?, hi]
  · have h2 : Nat.beq m i = false := by simpa [← Nat.beq_eq] using h
    simp only [Array.getD_eq_getD_getElem?, Array.getElem?_setIfInBounds_ne (Ne.symm h), h2, Bool.or_false]
def leftN (ls : Array Bool) (n : Nat) : Nat := (List.range n).countP fun i => !ls.getD i false
theorem leftN_set : ∀ (n i : Nat) (ls : Array Bool), i < n → i < ls.size → ls.getD i false = false → leftN (ls.setIfInBounds i true) n + 1 = leftN ls n
  | 0, _, _, h, _, _ => by omega
  | n + 1, i, ls, h, hs, hu => by
    unfold leftN
    rw [List.range_succ, List.countP_append, List.countP_append]
    by_cases hin : i = n
    · subst hin
      have h1 : (List.range i).countP (fun j => !(ls.setIfInBounds i true).getD j false) = (List.range i).countP fun j => !ls.getD j false :=
        List.countP_congr fun j hj => by
          have : Nat.beq j i = false := by simpa [← Nat.beq_eq] using (by have := List.mem_range.1 hj; omega : j ≠ i)
          rw [set_getD hs, this, Bool.or_false]
      rw [h1, List.countP_singleton, List.countP_singleton, set_getD hs, hu]
      simp
    · have := leftN_set n i ls (by omega) hs hu
      unfold leftN at this
      have h2 : Nat.beq n i = false := by simpa [← Nat.beq_eq] using (by omega : n ≠ i)
      rw [List.countP_singleton, List.countP_singleton, set_getD hs, h2, Bool.or_false]
      omega
theorem leftN_zero {n : Nat} {ls : Array Bool} (h : leftN ls n = 0) : ∀ i, i < n → ls.getD i false = true := fun i hi => by
  unfold leftN at h
  rw [List.countP_eq_zero] at h
  simpa using h i (List.mem_range.2 hi)
theorem mem_ready' {ops : Array Oper} {ls : Array Bool} {i : Nat} (h : i ∈ Region.ready .any ops ls) (hs : ls.size = ops.size) : i < ops.size ∧ ls.getD i false = false ∧ ∃ o, ops[i]? = some o ∧ ∀ e ∈ o.after.toList, Region.binds .any e = true → ls.getD e.on false = true := by
  unfold Region.ready at h
  obtain ⟨h1, h2⟩ := List.mem_filter.1 h
  have hi := List.mem_range.1 h1
  simp only [Bool.and_eq_true] at h2
  obtain ⟨h2, h3⟩ := h2
  have ho : ops[i]? = some ops[i] := by simp [hi]
  refine ⟨hi, ?_, _, ho, fun e he hb => ?_⟩
  · have : i < ls.size := by omega
    simp [Array.getD_eq_getD_getElem?, this] at h2 ⊢
    exact h2
  · rw [ho] at h3
    simp only [Option.map_some, Option.getD_some] at h3
    rw [← Array.all_toList] at h3
    have := List.all_eq_true.1 h3 e he
    simpa [hb] using this
/-- The operations of a region that draws its order: whatever the order, they come to what they come to in the order of the text. -/
theorem region_draw {c : Cx} {tt : TT} (hT : TTok c.P tt) (hm : c.P.follows .mixedOrders = true) {id : Nat} {ops : List Oper} (hds : dstB ops c.nt = true) {masks : List Nat} {wk : List (List Nat)} {xs : List Hi} {S S' : St} {ps : List Prop} (e : drawRun c.P tt ops masks wk xs S = some (S', ps)) (hp : AllP ps) {ρ : Ren} {a : Act} {w : World} (R : RepS c ρ S a w) {Q : Exit → Act → World → Prop}
    (hQ : ∀ ρ' a' w', RepS c ρ' S' a' w' → Q .normal a' w') : (Code.region id ops.toArray true).wp c.P Q a w := by
  unfold drawRun at e
  split at e
  · rename_i hB
    simp only [Bool.and_eq_true] at hB
    obtain ⟨⟨⟨⟨b1, b2⟩, b3⟩, b4⟩, b5⟩ := hB
    split at e
    · rename_i l n hgo
      simp only [Option.some.injEq, Prod.mk.injEq] at e
      obtain ⟨rfl, rfl⟩ := e
      obtain ⟨g1, g2, g3, g4⟩ := drawGo_spec ops 0 xs [] S.n l n rfl hgo
      simp only [Nat.zero_add] at g3 g4
      have hops : ∀ i o, ops[i]? = some o → ∃ r, l[i]? = some (o, r) := fun i o ho => let ⟨r, h, _⟩ := g4 i o ho; ⟨r, h⟩
      have hl : ∀ i o r, l[i]? = some (o, r) → ops[i]? = some o := fun i o r hi => by
        have hlt : i < ops.length := by
          rw [← g3]
          rcases Nat.lt_or_ge i l.length with h' | h'
          · exact h'
          · rw [List.getElem?_eq_none h'] at hi; cases hi
        obtain ⟨r', h'⟩ := hops i _ (List.getElem?_eq_getElem hlt)
        rw [hi] at h'
        injection h' with h'
        injection h' with h1 _
        rw [List.getElem?_eq_getElem hlt, h1]
      have hmask := fun m o ho => masksB_spec b1 m o ho
      simp only [Nat.zero_add] at hmask
      -- what the masks say
      have hlow : ∀ i, i < ops.length → ∀ k, bit masks i k = true → k < i := by
        intro i
        induction i using Nat.strongRecOn with
        | _ i ih =>
          intro hi k hk
          have ho := List.getElem?_eq_getElem hi
          obtain ⟨m1, m2⟩ := hmask i _ ho
          unfold bit at hk
          rw [m2] at hk
          obtain ⟨ed, h1, h2, h3⟩ := maskOf_bit hk
          have := m1 ed h1 h2
          rcases h3 with h3 | h3
          · omega
          · have := ih ed.on this (by omega) k h3; omega
      have hclosed : ∀ (ls : Array Bool), (∀ i, ls.getD i false = true → ∀ k, bit masks i k = true → ls.getD k false = true) → ∀ i o, ops[i]? = some o → (∀ ed ∈ o.after.toList, Region.binds .any ed = true → ls.getD ed.on false = true) → ∀ k, bit masks i k = true → ls.getD k false = true := fun ls hc i o ho hr k hk => by
        obtain ⟨m1, m2⟩ := hmask i _ ho
        unfold bit at hk
        rw [m2] at hk
        obtain ⟨ed, h1, h2, h3⟩ := maskOf_bit hk
        have hed := hr ed h1 h2
        rcases h3 with h3 | h3
        · rw [h3]; exact hed
        · exact hc ed.on hed k h3
      let usedE : Array Bool → Nat → Prop := fun ls id => id < S.n ∨ ∃ i, ls.getD i false = true ∧ i < ops.length ∧ nidAt S.n xs i ≤ id ∧ id < nidAt S.n xs i + (xs.getD i {}).cnt
      refine wp_region_any hm ?_
      have main : ∀ (f : Nat) (ls : Array Bool) (a : Act) (w : World), leftN ls ops.length = f → ls.size = ops.length → (∀ i, ls.getD i false = true → ∀ k, bit masks i k = true → ls.getD k false = true) →
          (∃ ρ, Rep c.base c.X c.nt (usedE ls) ρ (FT (fun i => ls.getD i false) l 0 (look S.tm)) (FH (fun i => ls.getD i false) l 0 (look S.h)) a w) → wpAny c.P .any ops.toArray Q f ls a w := by
        intro f
        induction f with
        | zero =>
          rintro ls a w hf hs hc ⟨ρ, R⟩
          have hall := leftN_zero hf
          refine ⟨?_, hQ ρ a w ?_⟩
          · cases hr : Region.ready .any ops.toArray ls with
            | nil => rfl
            | cons i r =>
              have := mem_ready' (i := i) (by rw [hr]; simp) (by simpa using hs)
              rw [hall i (by simpa using this.1)] at this
              cases this.2.1
          · unfold RepS
            rw [look_LT, look_LH]
            have e1 : FT all_ l 0 (look S.tm) = FT (fun i => ls.getD i false) l 0 (look S.tm) := by
              funext t
              refine FT_congr l 0 _ _ rfl fun m o ee hm _ => ?_
              rw [Nat.zero_add]
              refine (hall m ?_).symm
              rw [← g3]
              rcases Nat.lt_or_ge m l.length with h' | h'
              · exact h'
              · rw [List.getElem?_eq_none h'] at hm; cases hm
            have e2 : FH all_ l 0 (look S.h) = FH (fun i => ls.getD i false) l 0 (look S.h) := by
              funext t
              refine FH_congr l 0 _ _ rfl fun m o ee hm _ => ?_
              rw [Nat.zero_add]
              refine (hall m ?_).symm
              rw [← g3]
              rcases Nat.lt_or_ge m l.length with h' | h'
              · exact h'
              · rw [List.getElem?_eq_none h'] at hm; cases hm
            rw [e1, e2]
            refine R.used_mono fun id hid => ?_
            rw [g1]
            rcases hid with hid | ⟨i, _, hi, _, h2⟩
            · exact Nat.lt_of_lt_of_le hid (nidAt_le S.n xs (Nat.zero_le _))
            · refine Nat.lt_of_lt_of_le h2 ?_
              rw [← nidAt_succ]
              exact nidAt_le S.n xs hi
        | succ f ih =>
          rintro ls a w hf hs hc ⟨ρ, R⟩
          refine ⟨fun h0 => ?_, fun i hi => ?_⟩
          · -- the lowest one that is left is ready
            exfalso
            have hex : ∃ i, i < ops.length ∧ ls.getD i false = false := by
              have hpos : 0 < leftN ls ops.length := by omega
              unfold leftN at hpos
              obtain ⟨i, hi, hv⟩ := List.countP_pos_iff.1 hpos
              exact ⟨i, List.mem_range.1 hi, by simpa using hv⟩
            obtain ⟨i, hi, hv⟩ := hex
            induction i using Nat.strongRecOn with
            | _ i ih2 =>
              by_cases hlow' : ∃ j, j < i ∧ ls.getD j false = false
              · obtain ⟨j, hj, hjv⟩ := hlow'
                exact ih2 j hj (by omega) hjv
              · have : i ∈ Region.ready .any ops.toArray ls := by
                  unfold Region.ready
                  refine List.mem_filter.2 ⟨List.mem_range.2 (by simpa using hi), ?_⟩
                  have his : i < ls.size := by omega
                  have ho : ops.toArray[i]? = some ops[i] := by simp [hi]
                  rw [ho]
                  simp only [Option.map_some, Option.getD_some, Bool.and_eq_true]
                  refine ⟨by simp [Array.getD_eq_getD_getElem?, his] at hv ⊢; exact hv, ?_⟩
                  rw [← Array.all_toList, List.all_eq_true]
                  intro ed hed
                  cases hb : Region.binds .any ed with
                  | false => rfl
                  | true =>
                    have hlt := (hmask i _ (List.getElem?_eq_getElem hi)).1 ed hed hb
                    cases hv' : ls.getD ed.on false with
                    | true => rfl
                    | false => exact absurd ⟨ed.on, hlt, hv'⟩ hlow'
                rw [h0] at this
                cases this
          · obtain ⟨r1, r2, o, r3, r4⟩ := mem_ready' hi (by simpa using hs)
            have hio : ops[i]? = some o := by simpa using r3
            have hil : i < ops.length := by simpa using r1
            obtain ⟨r, q1, q2, q3⟩ := g4 i o hio
            have hD := hclosed ls hc i o hio r4
            have hnotin : ∀ j, bit masks j i = true → ls.getD j false = false := fun j hj => by
              cases hv : ls.getD j false with
              | false => rfl
              | true => have := hc j hv i hj; rw [r2] at this; cases this
            -- what operation i sees is so
            have L : Le (look (keepL (seesT masks ops i) (LT (bit masks i) (l.take i) 0 S.tm))) (FT (fun i => ls.getD i false) l 0 (look S.tm)) (look (keepL (seesH masks wk i) (LH (bit masks i) (l.take i) 0 S.h))) (FH (fun i => ls.getD i false) l 0 (look S.h)) := by
              have ext1 : ∀ (r : List OE) (j : Nat) (u : Tm) (t : Nat), FT (bit masks i) r j u t = FT (bit masks i) (r.take (i - j)) j u t := by
                intro r
                induction r with
                | nil => intro j u t; simp
                | cons p r ih3 =>
                  obtain ⟨o1, e1⟩ := p
                  intro j u t
                  rcases Nat.lt_or_ge j i with h' | h'
                  · rw [show i - j = (i - (j + 1)) + 1 by omega, List.take_succ_cons]
                    simp only [FT]
                    exact ih3 _ _ _
                  · rw [show i - j = 0 by omega, List.take_zero]
                    have : ∀ (r : List OE) (k : Nat) (u : Tm), i ≤ k → FT (bit masks i) r k u = u := by
                      intro r
                      induction r with
                      | nil => intro k u _; rfl
                      | cons p r ih4 =>
                        obtain ⟨o2, e2⟩ := p
                        intro k u hk
                        have : bit masks i k = false := by
                          cases hb : bit masks i k with
                          | false => rfl
                          | true => have := hlow i hil k hb; omega
                        simp only [FT, this]
                        exact ih4 _ _ (by omega)
                    rw [this _ _ _ h']; rfl
              have ext2 : ∀ (r : List OE) (j : Nat) (u : Hp) (t : Nat), FH (bit masks i) r j u t = FH (bit masks i) (r.take (i - j)) j u t := by
                intro r
                induction r with
                | nil => intro j u t; simp
                | cons p r ih3 =>
                  obtain ⟨o1, e1⟩ := p
                  intro j u t
                  rcases Nat.lt_or_ge j i with h' | h'
                  · rw [show i - j = (i - (j + 1)) + 1 by omega, List.take_succ_cons]
                    simp only [FH]
                    exact ih3 _ _ _
                  · rw [show i - j = 0 by omega, List.take_zero]
                    have : ∀ (r : List OE) (k : Nat) (u : Hp), i ≤ k → FH (bit masks i) r k u = u := by
                      intro r
                      induction r with
                      | nil => intro k u _; rfl
                      | cons p r ih4 =>
                        obtain ⟨o2, e2⟩ := p
                        intro k u hk
                        have : bit masks i k = false := by
                          cases hb : bit masks i k with
                          | false => rfl
                          | true => have := hlow i hil k hb; omega
                        simp only [FH, this]
                        exact ih4 _ _ (by omega)
                    rw [this _ _ _ h']; rfl
              refine ⟨fun t v ht => ?_, fun k v hk => ?_⟩
              · rw [look_keep] at ht
                split at ht
                · rename_i hsee
                  rw [look_LT] at ht
                  rw [← ht]
                  have e0 := ext1 l 0 (look S.tm) t
                  rw [Nat.sub_zero] at e0
                  rw [← e0]
                  refine FT_congr l 0 _ _ rfl fun m o' e' hm hd => ?_
                  rw [Nat.zero_add]
                  have hm' := hl m o' e' hm
                  have hz : (o', m) ∈ ops.zipIdx := by
                    rw [List.mem_iff_getElem?]
                    exact ⟨m, by simp [hm']⟩
                  have := List.all_eq_true.1 hsee (o', m) hz
                  simp only [hd, Nat.beq_refl, Bool.not_true, Bool.false_or, Bool.or_eq_true] at this
                  rcases this with (h1 | h1) | h1
                  · have : m = i := Nat.eq_of_beq_eq_true h1
                    subst this
                    rw [r2]
                    cases hb : bit masks m m with
                    | false => rfl
                    | true => have := hlow m hil m hb; omega
                  · rw [h1]; exact hD m h1
                  · rw [hnotin m h1]
                    cases hb : bit masks i m with
                    | false => rfl
                    | true => have := hD m hb; rw [hnotin m h1] at this; cases this
                · cases ht
              · rw [look_keep] at hk
                split at hk
                · rename_i hsee
                  rw [look_LH] at hk
                  rw [← hk]
                  have e0 := ext2 l 0 (look S.h) k
                  rw [Nat.sub_zero] at e0
                  rw [← e0]
                  refine FH_congr l 0 _ _ rfl fun m o' e' hm hd => ?_
                  rw [Nat.zero_add]
                  have hm' := hl m o' e' hm
                  obtain ⟨r', k1, _, k3⟩ := g4 m o' hm'
                  rw [hm] at k1
                  injection k1 with k1
                  injection k1 with _ k1
                  subst k1
                  have hwk := k3 k hd
                  have hmw : m < wk.length := by
                    rcases Nat.lt_or_ge m wk.length with h' | h'
                    · exact h'
                    · rw [List.getD_eq_getElem?_getD, List.getElem?_eq_none h'] at hwk; simp at hwk
                  have hz : (wk[m], m) ∈ wk.zipIdx := by
                    rw [List.mem_iff_getElem?]
                    exact ⟨m, by simp [hmw]⟩
                  have hwk' : k ∈ wk[m] := by rw [List.getD_eq_getElem?_getD, List.getElem?_eq_getElem hmw] at hwk; exact hwk
                  have := List.all_eq_true.1 hsee (wk[m], m) hz
                  have hcon : wk[m].contains k = true := by simpa using hwk'
                  simp only [hcon, Bool.not_true, Bool.false_or, Bool.or_eq_true] at this
                  rcases this with (h1 | h1) | h1
                  · have : m = i := Nat.eq_of_beq_eq_true h1
                    subst this
                    rw [r2]
                    cases hb : bit masks m m with
                    | false => rfl
                    | true => have := hlow m hil m hb; omega
                  · rw [h1]; exact hD m h1
                  · rw [hnotin m h1]
                    cases hb : bit masks i m with
                    | false => rfl
                    | true => have := hD m hb; rw [hnotin m h1] at this; cases this
                · cases hk
            have q2' := aStep_mono L q2
            have hcnt := nidAt_succ i S.n xs
            have his : i < ls.size := by omega
            refine aStep_wp (used' := usedE (ls.setIfInBounds i true)) R hT (dstB_ok hds) hio (fun id h1 h2 hu => ?_) (fun id hu => ?_) (fun id h1 h2 => .inr ⟨i, by rw [set_getD his]; simp, hil, h1, h2⟩) q2' ?_ (fun ρ' a' w' R' => ?_)
            · rcases hu with hu | ⟨j, j1, j2, j3, j4⟩
              · have := nidAt_le S.n xs (Nat.zero_le i); simp only [nidAt] at this; omega
              · rcases Nat.lt_trichotomy i j with h' | h' | h'
                · have := nidAt_le S.n xs h'; rw [nidAt_succ] at this; omega
                · subst h'; rw [r2] at j1; cases j1
                · have := nidAt_le S.n xs h'; rw [nidAt_succ] at this; omega
            · rcases hu with hu | ⟨j, j1, j2, j3, j4⟩
              · exact .inl hu
              · exact .inr ⟨j, by rw [set_getD his, j1]; rfl, j2, j3, j4⟩
            · have : effChk r ∈ l.map fun p => effChk p.2 := List.mem_map.2 ⟨(o, r), List.mem_of_getElem? q1, rfl⟩
              have hall : ∀ (ps : List Prop), AllP ps → ∀ p ∈ ps, p := by
                intro ps
                induction ps with
                | nil => intro _ p hp; cases hp
                | cons x ps ih5 =>
                  intro h p hp
                  rcases List.mem_cons.1 hp with rfl | hp
                  · exact h.1
                  · exact ih5 h.2 p hp
              exact hall _ hp _ this
            · refine ih (ls.setIfInBounds i true) a' w' ?_ (by simpa using hs) (fun j hj k hk => ?_) ⟨ρ', ?_⟩
              · have := leftN_set ops.length i ls hil his r2; omega
              · rw [set_getD his] at hj ⊢
                simp only [Bool.or_eq_true] at hj
                rcases hj with hj | hj
                · rw [hc j hj k hk]; rfl
                · have : j = i := Nat.eq_of_beq_eq_true hj
                  subst this
                  rw [hD k hk]; rfl
              · have f1 : FT (fun m => (ls.setIfInBounds i true).getD m false) l 0 (look S.tm) = setTm (FT (fun i => ls.getD i false) l 0 (look S.tm)) o.dst (effVal r) := by
                  refine FT_insert q1 r2 (fun m => set_getD his m) fun m o' e' t hm hlm hd hd' => ?_
                  have hm' := hl m o' e' hlm
                  have z1 : (o, i) ∈ ops.zipIdx := by rw [List.mem_iff_getElem?]; exact ⟨i, by simp [hio]⟩
                  have z2 : (o', m) ∈ ops.zipIdx := by rw [List.mem_iff_getElem?]; exact ⟨m, by simp [hm']⟩
                  have := List.all_eq_true.1 (List.all_eq_true.1 b4 (o, i) z1) (o', m) z2
                  simp only [hd, hd', Nat.beq_refl, Bool.not_true, Bool.false_or, Bool.or_eq_true] at this
                  rcases this with h1 | h1
                  · have : m ≤ i := Nat.le_of_ble_eq_true h1
                    omega
                  · exact hnotin m h1
                have f2 : FH (fun m => (ls.setIfInBounds i true).getD m false) l 0 (look S.h) = setHp (FH (fun i => ls.getD i false) l 0 (look S.h)) (effW r) := by
                  refine FH_insert q1 r2 (fun m => set_getD his m) fun m o' e' k hm hlm hd hd' => ?_
                  have hm' := hl m o' e' hlm
                  obtain ⟨r', k1, _, k3⟩ := g4 m o' hm'
                  rw [hlm] at k1
                  injection k1 with k1
                  injection k1 with _ k1
                  subst k1
                  have w1 := k3 k hd
                  have w2 := q3 k hd'
                  have hlen : ∀ j, k ∈ wk.getD j [] → ∃ hj : j < wk.length, k ∈ wk[j] := fun j hj => by
                    rcases Nat.lt_or_ge j wk.length with h' | h'
                    · exact ⟨h', by rw [List.getD_eq_getElem?_getD, List.getElem?_eq_getElem h'] at hj; exact hj⟩
                    · rw [List.getD_eq_getElem?_getD, List.getElem?_eq_none h'] at hj; simp at hj
                  obtain ⟨l1, w1⟩ := hlen m w1
                  obtain ⟨l2, w2⟩ := hlen i w2
                  have z1 : (wk[i], i) ∈ wk.zipIdx := by rw [List.mem_iff_getElem?]; exact ⟨i, by simp [l2]⟩
                  have z2 : (wk[m], m) ∈ wk.zipIdx := by rw [List.mem_iff_getElem?]; exact ⟨m, by simp [l1]⟩
                  have := List.all_eq_true.1 (List.all_eq_true.1 b5 (wk[i], i) z1) (wk[m], m) z2
                  simp only [Bool.or_eq_true] at this
                  rcases this with (h1 | h1) | h1
                  · have : m ≤ i := Nat.le_of_ble_eq_true h1
                    omega
                  · exact hnotin m h1
                  · have := List.all_eq_true.1 h1 k w2
                    simp [w1] at this
                rw [f1, f2]; exact R'
      have hrep : ∀ i, (Array.replicate ops.toArray.size false).getD i false = false := fun i => by
        simp only [Array.getD_eq_getD_getElem?, Array.getElem?_replicate]; split <;> rfl
      have h0 : leftN (Array.replicate ops.toArray.size false) ops.length = ops.toArray.size := by
        unfold leftN
        have : ∀ m, (List.range m).countP (fun i => !(Array.replicate ops.toArray.size false).getD i false) = m := by
          intro m
          induction m with
          | zero => rfl
          | succ m ih => rw [List.range_succ, List.countP_append, ih, List.countP_singleton, hrep]; rfl
        rw [this]; simp
      refine main ops.toArray.size _ a _ h0 (by simp) (fun i hi => by rw [hrep] at hi; cases hi) ⟨ρ, ?_⟩
      rw [FT_none hrep, FH_none hrep]
      exact (R.upd_w (w' := { w with drawn := w.drawn + 1 }) ⟨rfl, rfl, rfl, Nat.le_refl _, fun _ _ _ => rfl⟩).used_mono fun id hid => .inl hid
    · cases e
  · cases e
end Vm
end Go.Proofs.Ytknlckjpgmjenaa
