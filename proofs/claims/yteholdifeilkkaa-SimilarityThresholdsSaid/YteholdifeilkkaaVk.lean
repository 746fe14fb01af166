/- The abstract machine: a call comes to what the callee's contract says. -/
import Derived.Test.YteholdifeilkkaaVj
namespace Go.Proofs.Yteholdifeilkkaa
set_option linter.unusedVariables false
namespace Vm
theorem ren_mut (σ : Nat → Nat) (b : Blk) : (b.ren σ).mut = b.mut := by cases b <;> rfl
theorem ren_isRow (σ : Nat → Nat) (b : Blk) : (b.ren σ).isRow = b.isRow := by cases b <;> rfl
theorem nodupB_get : ∀ {l : List Nat} {i j x : Nat}, nodupB l = true → l[i]? = some x → l[j]? = some x → i = j
  | [], i, j, x, _, h, _ => by simp at h
  | y :: l, 0, 0, x, _, _, _ => rfl
  | y :: l, 0, j + 1, x, hn, h1, h2 => by
    simp [nodupB] at hn
    simp at h1 h2
    subst h1
    exact absurd (List.mem_of_getElem? h2) hn.1
  | y :: l, i + 1, 0, x, hn, h1, h2 => by
    simp [nodupB] at hn
    simp at h1 h2
    subst h2
    exact absurd (List.mem_of_getElem? h1) hn.1
  | y :: l, i + 1, j + 1, x, hn, h1, h2 => by
    simp [nodupB] at hn
    simp at h1 h2
    rw [nodupB_get hn.2 h1 h2]
section
variable {c : Cx} {used used' : Nat → Prop} {ρ ρ' : Ren} {tm : Tm} {h h' : Hp} {a : Act} {w w' : World} {base : Base} {X Y : Nat → Prop} {nt : Nat} {ok ok' : Nat → Prop} {o : Oper} {nid : Nat}
theorem tL_ok : ∀ {l : List C} {r : List T} {ys : List Value}, asT l = some r → (∀ b, ok b → ok' b) → All2 (RC w ok ρ) l ys → All2 (RC w ok' ρ') l ys
  | [], _, [], _, _, _ => trivial
  | .t x :: l, r, y :: ys, e, hok, ⟨h1, h2⟩ => by
    simp only [asT] at e
    split at e
    · rename_i r' hr; exact ⟨RT.mono ⟨hok, fun _ _ => rfl⟩ x y h1, tL_ok hr hok h2⟩
    · cases e
  | .ref .. :: _, _, _ :: _, e, _, _ => by simp [asT] at e
  | .ptr .. :: _, _, _ :: _, e, _, _ => by simp [asT] at e
  | [], _, _ :: _, _, _, h => h.elim
  | .t _ :: _, _, [], _, _, h => h.elim
  | .ref .. :: _, _, [], _, _, h => h.elim
  | .ptr .. :: _, _, [], _, _, h => h.elim
theorem inOf_get : ∀ {ids : List Nat} {s : Nat} {inb : List (Nat × Blk)}, inOf h ids s = some inb → ∀ m id, ids[m]? = some id → ∃ blk, look inb (s + m) = some blk ∧ h id = some blk ∧ blk.mut = true
  | [], s, inb, _, m, id, hm => by simp at hm
  | k :: l, s, inb, e, m, id, hm => by
    simp only [inOf] at e
    split at e
    · rename_i ty cs r hk hr
      split at e
      · injection e with e
        subst e
        cases m with
        | zero => simp at hm; subst hm; exact ⟨_, by rw [look_cons, if_pos (by omega)], hk, rfl⟩
        | succ m =>
          obtain ⟨b, b1, b2⟩ := inOf_get hr m id (by simpa using hm)
          exact ⟨b, by rw [look_cons, if_neg (by omega)]; rw [← b1]; congr 1; omega, b2⟩
      · cases e
    · rename_i ty sz n f r hk hr
      injection e with e
      subst e
      cases m with
      | zero => simp at hm; subst hm; exact ⟨_, by rw [look_cons, if_pos (by omega)], hk, rfl⟩
      | succ m =>
        obtain ⟨b, b1, b2⟩ := inOf_get hr m id (by simpa using hm)
        exact ⟨b, by rw [look_cons, if_neg (by omega)]; rw [← b1]; congr 1; omega, b2⟩
    · cases e
theorem inOf_back : ∀ {ids : List Nat} {s : Nat} {inb : List (Nat × Blk)}, inOf h ids s = some inb → ∀ j blk, look inb j = some blk → ∃ m id, j = s + m ∧ ids[m]? = some id ∧ h id = some blk ∧ (∀ ty cs, blk = .box ty cs → ∃ r, asT cs = some r)
  | [], s, inb, e, j, blk, hj => by simp [inOf] at e; subst e; cases hj
  | k :: l, s, inb, e, j, blk, hj => by
    simp only [inOf] at e
    split at e
    · rename_i ty cs r hk hr
      split at e
      · rename_i hm
        injection e with e
        subst e
        rw [look_cons] at hj
        split at hj
        · rename_i e1
          injection hj with hj
          subst hj
          refine ⟨0, k, by omega, by simp, hk, fun ty' cs' e2 => ?_⟩
          injection e2 with _ e2
          subst e2
          unfold mutT at hm
          split at hm
          · rename_i r' hr'; exact ⟨r', hr'⟩
          · cases hm
        · obtain ⟨m, id, e1, e2, e3⟩ := inOf_back hr j blk hj
          exact ⟨m + 1, id, by omega, by simpa using e2, e3⟩
      · cases e
    · rename_i ty sz n f r hk hr
      injection e with e
      subst e
      rw [look_cons] at hj
      split at hj
      · injection hj with hj
        subst hj
        exact ⟨0, k, by omega, by simp, hk, fun ty' cs' e2 => by cases e2⟩
      · obtain ⟨m, id, e1, e2, e3⟩ := inOf_back hr j blk hj
        exact ⟨m + 1, id, by omega, by simpa using e2, e3⟩
    · cases e
theorem setHp_back {outb : List (Nat × Blk)} {σ : Nat → Nat} {V : List (Nat × Option Blk)} {blk : Blk} {id : Nat} : ∀ {ids : List Nat} {s : Nat}, setHp h (backW ids outb σ s ++ V) id = some blk →
    (∃ m b, ids[m]? = some id ∧ look outb (s + m) = some b ∧ blk = b.ren σ) ∨ (id ∉ ids ∧ setHp h V id = some blk)
  | [], s, e => .inr ⟨by simp, by simpa [backW] using e⟩
  | k :: l, s, e => by
    simp only [backW, List.cons_append, setHp] at e
    split at e
    · rename_i hk
      split at e
      · rename_i b hb
        injection e with e
        exact .inl ⟨0, b, by simp [hk], by simpa using hb, e.symm⟩
      · cases e
    · rename_i hk
      rcases setHp_back e with ⟨m, b, e1, e2, e3⟩ | ⟨e1, e2⟩
      · exact .inl ⟨m + 1, b, by simpa using e1, by rw [← e2]; congr 1; omega, e3⟩
      · exact .inr ⟨by simp only [List.mem_cons, not_or]; exact ⟨fun x => hk x.symm, e1⟩, e2⟩
theorem setHp_new {σ : Nat → Nat} {V : List (Nat × Option Blk)} {blk : Blk} {id k : Nat} (hσ : ∀ i j, k ≤ i → k ≤ j → σ i = σ j → i = j) : ∀ {outb : List (Nat × Blk)}, setHp h (newW k σ outb ++ V) id = some blk →
    (∃ j b, k ≤ j ∧ look outb j = some b ∧ id = σ j ∧ blk = b.ren σ) ∨ setHp h V id = some blk
  | [], e => .inr (by simpa [newW] using e)
  | (j, b) :: l, e => by
    simp only [newW] at e
    by_cases hj : j < k
    · have : Nat.blt j k = true := by simpa using hj
      simp only [this, cond_true] at e
      rcases setHp_new hσ e with ⟨i, b', e1, e2, e3⟩ | e1
      · exact .inl ⟨i, b', e1, by rw [look_cons, if_neg (by omega)]; exact e2, e3⟩
      · exact .inr e1
    · have : Nat.blt j k = false := by
        cases e1 : Nat.blt j k with
        | false => rfl
        | true => exact absurd (by simpa using e1) hj
      simp only [this, cond_false, List.cons_append, setHp] at e
      split at e
      · rename_i hid
        injection e with e
        exact .inl ⟨j, b, by omega, by rw [look_cons, if_pos rfl], hid.symm, e.symm⟩
      · rename_i hid
        rcases setHp_new hσ e with ⟨i, b', e1, e2, e3, e4⟩ | e1
        · refine .inl ⟨i, b', e1, ?_, e3, e4⟩
          rw [look_cons, if_neg (fun x => hid (by rw [x, e3]))]; exact e2
        · exact .inr e1
theorem setHp_frz {id : Nat} {blk : Blk} : ∀ {frz : List Nat} {fw : List (Nat × Option Blk)}, frzW h frz = some fw → setHp h fw id = some blk →
    (id ∈ frz ∧ ∃ ty fro sz n f, h id = some (.row ty fro sz n f) ∧ blk = .row ty true sz n f) ∨ (id ∉ frz ∧ h id = some blk)
  | [], fw, e, hb => by simp [frzW] at e; subst e; exact .inr ⟨by simp, hb⟩
  | k :: l, fw, e, hb => by
    simp only [frzW] at e
    split at e
    · rename_i ty fro sz n f r hk hr
      injection e with e
      subst e
      simp only [setHp] at hb
      split at hb
      · rename_i hid
        injection hb with hb
        exact .inl ⟨by simp [hid], ty, fro, sz, n, f, by rw [← hid]; exact hk, hb.symm⟩
      · rename_i hid
        rcases setHp_frz hr hb with ⟨e1, e2⟩ | ⟨e1, e2⟩
        · exact .inl ⟨by simp [e1], e2⟩
        · exact .inr ⟨by simp only [List.mem_cons, not_or]; exact ⟨fun x => hid x.symm, e1⟩, e2⟩
    · cases e
/-- The blocks that the callee may read for ever. -/
def okCall (base : Base) (w : World) (ρ : Ren) (h : Hp) (ci : CI) (b : Nat) : Prop :=
  okOf base w ρ h b ∨ ∃ id ty fro sz n f cap, h id = some (.row ty fro sz n f) ∧ id ∉ ci.ids ∧ (fro = true ∨ ci.flat = true ∨ id ∈ ci.frz) ∧ ρ id = some (.at b cap) ∧ b < w.heap.size
def ρCall (ρ : Ren) (ids : List Nat) : Ren := fun i => match ids[i]? with
  | some id => ρ id
  | none => none
theorem argC_ok (R : Rep base X nt used ρ tm h a w) {ci : CI} {x y : C} {p : Prop} {v : Value} (e : argC h ci x = some (y, p)) (hp : p) (hr : RC w (okOf base w ρ h) ρ x v) : RC w (okCall base w ρ h ci) (ρCall ρ ci.ids) y v := by
  cases x with
  | t x =>
    simp only [argC, Option.some.injEq, Prod.mk.injEq] at e
    obtain ⟨rfl, rfl⟩ := e
    exact RT.mono ⟨fun b hb => .inl hb, fun _ _ => rfl⟩ x v hr
  | ref id sz off n =>
    simp only [argC] at e
    split at e
    · rename_i i hi
      simp only [Option.some.injEq, Prod.mk.injEq] at e
      obtain ⟨rfl, rfl⟩ := e
      obtain ⟨l, h1, h2⟩ := hr
      exact ⟨l, by simp only [ρCall, posOf_some hi]; exact h1, h2⟩
    · rename_i hni
      split at e
      · rename_i ty fro sz' m f hid
        split at e
        · rename_i hc
          simp only [Option.some.injEq, Prod.mk.injEq] at e
          obtain ⟨rfl, rfl⟩ := e
          obtain ⟨rfl, hc⟩ := hc
          have hc' : fro = true ∨ ci.flat = true ∨ id ∈ ci.frz := by simpa [or_assoc] using hc
          obtain ⟨l, h1, h2⟩ := hr
          obtain ⟨l', m1, m2, m3⟩ := R.heap id _ hid
          rw [h1] at m1
          injection m1 with m1
          subst m1
          cases l with
          | nil => obtain ⟨_, rfl, q, rfl⟩ := h2; exact ⟨q, 0, rfl, Nat.le_refl _, fun i hi => by omega⟩
          | _ b cap =>
            rcases h2 with ⟨rfl, hle⟩ | ⟨rfl, q, rfl⟩
            · obtain ⟨_, vs, fz, v1, v2, _, v4⟩ := m2
              refine ⟨_, _, rfl, by omega, fun i hi j hj => ?_⟩
              obtain ⟨x, x1, x2⟩ := v4 (off + i) (by omega) j hj
              refine ⟨b, off * sz, x, rfl, .inr ⟨id, ty, fro, sz, m, f, cap, hid, posOf_none hni, hc', h1, (m3 b cap rfl).1⟩, ?_, ?_⟩
              · rw [cell_of_row w _ _ vs ty fz v1, ← x1, Nat.add_mul]
              · rw [subF_eq]; exact RT.mono ⟨fun b hb => .inl hb, fun _ _ => rfl⟩ _ _ x2
            · exact ⟨q, 0, rfl, Nat.le_refl _, fun i hi => by omega⟩
        · cases e
      · cases e
  | ptr id sz e0 sub =>
    simp only [argC] at e
    split at e
    · rename_i i hi
      simp only [Option.some.injEq, Prod.mk.injEq] at e
      obtain ⟨rfl, rfl⟩ := e
      obtain ⟨b, cap, h1, h2⟩ := hr
      exact ⟨b, cap, by simp only [ρCall, posOf_some hi]; exact h1, h2⟩
    · cases e
theorem argL_ok (R : Rep base X nt used ρ tm h a w) {ci : CI} : ∀ {x y : List C} {p : Prop} {vs : List Value}, argL h ci x = some (y, p) → p → All2 (RC w (okOf base w ρ h) ρ) x vs → All2 (RC w (okCall base w ρ h ci) (ρCall ρ ci.ids)) y vs
  | [], y, p, [], e, _, _ => by simp only [argL, Option.some.injEq, Prod.mk.injEq] at e; obtain ⟨rfl, rfl⟩ := e; trivial
  | x :: l, y, p, v :: vs, e, hp, ⟨h1, h2⟩ => by
    simp only [argL] at e
    split at e
    · rename_i y' p' r q hy hr
      simp only [Option.some.injEq, Prod.mk.injEq] at e
      obtain ⟨rfl, rfl⟩ := e
      exact ⟨argC_ok R hy hp.1 h1, argL_ok R hr hp.2 h2⟩
    · cases e
  | [], _, _, _ :: _, _, _, h => h.elim
  | _ :: _, _, _, [], _, _, h => h.elim
theorem argA_ok (R : Rep base X nt used ρ tm h a w) {ci : CI} {x y : AV} {p : Prop} {v : Value} (e : argA h ci x = some (y, p)) (hp : p) (hr : RV w (okOf base w ρ h) ρ x v) : RV w (okCall base w ρ h ci) (ρCall ρ ci.ids) y v := by
  cases x with
  | c x =>
    simp only [argA] at e
    split at e
    · rename_i y' p' hy
      simp only [Option.some.injEq, Prod.mk.injEq] at e
      obtain ⟨rfl, rfl⟩ := e
      exact argC_ok R hy hp hr
    · cases e
  | agg l =>
    simp only [argA] at e
    split at e
    · rename_i y' p' hy
      simp only [Option.some.injEq, Prod.mk.injEq] at e
      obtain ⟨rfl, rfl⟩ := e
      obtain ⟨ys, h1, h2⟩ := hr
      exact ⟨ys, h1, argL_ok R hy hp h2⟩
    · cases e
  | fagg n f =>
    simp only [argA, Option.some.injEq, Prod.mk.injEq] at e
    obtain ⟨rfl, rfl⟩ := e
    obtain ⟨ys, h1, h2, h3⟩ := hr
    exact ⟨ys, h1, h2, fun i hi => let ⟨x, a, b⟩ := h3 i hi; ⟨x, a, RT.mono ⟨fun b hb => .inl hb, fun _ _ => rfl⟩ _ _ b⟩⟩
  | tup l => cases e
theorem evArgs_ok (R : Rep base X nt used ρ tm h a w) {ci : CI} : ∀ {x : List Operand} {y : List AV} {p : Prop}, evArgs tm h ci x = some (y, p) → p → All2 (RV w (okCall base w ρ h ci) (ρCall ρ ci.ids)) y (x.map a.eval)
  | [], y, p, e, _ => by simp only [evArgs, Option.some.injEq, Prod.mk.injEq] at e; obtain ⟨rfl, rfl⟩ := e; trivial
  | x :: l, y, p, e, hp => by
    simp only [evArgs] at e
    split at e
    · rename_i v hv
      split at e
      · rename_i y' p' r q hy hr
        simp only [Option.some.injEq, Prod.mk.injEq] at e
        obtain ⟨rfl, rfl⟩ := e
        exact ⟨argA_ok R hy hp.1 (ev_ok R hv), evArgs_ok R hr hp.2⟩
      · cases e
    · cases e
theorem sigma_lt {ids : List Nat} {k nid j id : Nat} (h : ids[j]? = some id) : sigma ids k nid j = id := by simp [sigma, h]
theorem sigma_ge {ids : List Nat} {k nid j : Nat} (h : ids.length ≤ j) : sigma ids k nid j = nid + (j - k) := by simp [sigma, List.getElem?_eq_none h]
/-- The blocks' places behind a call. -/
def ρBack (ρ ρ' : Ren) (outb : List (Nat × Blk)) (k nid cnt : Nat) : Ren := fun id => match ρ id with
  | some l => some l
  | none => if nid ≤ id ∧ id < nid + cnt ∧ (look outb (id - nid + k)).isSome = true then ρ' (id - nid + k) else none
theorem look_mem {α : Type} : ∀ {l : List (Nat × α)} {j : Nat} {b : α}, look l j = some b → (j, b) ∈ l
  | [], _, _, h => by cases h
  | (k, v) :: l, j, b, h => by
    rw [look_cons] at h
    split at h
    · rename_i e; injection h with h; subst e; subst h; simp
    · exact List.mem_cons_of_mem _ (look_mem h)
theorem blkIds_mem : ∀ {l : List (Nat × Blk)} {j : Nat} {b : Blk}, look l j = some b → ∀ i ∈ b.ids, i ∈ blkIds l
  | [], _, _, h, _, _ => by cases h
  | (k, v) :: l, j, b, h, i, hi => by
    rw [look_cons] at h
    simp only [blkIds, List.mem_append]
    split at h
    · injection h with h; subst h; exact .inl hi
    · exact .inr (blkIds_mem h i hi)
theorem flatB_look : ∀ {l : List (Nat × Blk)} {j : Nat} {b : Blk}, flatB l → look l j = some b → b.flat
  | [], _, _, _, h => by cases h
  | (k, v) :: l, j, b, hf, h => by
    rw [look_cons] at h
    split at h
    · injection h with h; subst h; exact hf.1
    · exact flatB_look hf.2 h
set_option maxHeartbeats 1000000 in
theorem aCall_good (R : Rep c.base c.X c.nt used ρ tm h a w) {ci : CI} (hfresh : ∀ id, nid ≤ id → id < nid + ci.cnt → ¬ used id) (hu : ∀ id, used id → used' id) (hn : ∀ id, nid ≤ id → id < nid + ci.cnt → used' id) (hd : ∀ t, o.dst = some t → t < c.nt)
    {f : FuncId} {args : List Operand} {r : Eff} (e : aCall c.P tm h f args nid ci = some r) (hc : r.chk) {vs : Array Value} (hvs : vs.toList = args.map a.eval) {res : Result Next} (hres : res = .ok (.enter f vs) w) :
    Good c used' tm h a o r.val r.W res := by
  subst hres
  unfold aCall at e
  simp only at e
  split at e
  · rename_i as p inb fw has hin hfw
    split at e
    · rename_i hcond
      obtain ⟨d1, d2, d3, d4, d5, d6⟩ := hcond
      injection e with e
      subst e
      obtain ⟨q1, q2, q3, q4⟩ := hc
      have hargs := argLe_trans (P := []) q2 (evArgs_ok R has q1)
      have hblk : ∀ m id, ci.ids[m]? = some id → ∃ blk l, look inb m = some blk ∧ h id = some blk ∧ blk.mut = true ∧ ρ id = some l ∧ ρCall ρ ci.ids m = some l := fun m id hm => by
        obtain ⟨blk, b1, b2, b3⟩ := inOf_get hin m id hm
        obtain ⟨l, l1, _⟩ := R.heap id blk b2
        exact ⟨blk, l, by simpa using b1, b2, b3, l1, by simp only [ρCall, hm]; exact l1⟩
      have hρ0 : ∀ i l, ρCall ρ ci.ids i = some l → ∃ id, ci.ids[i]? = some id ∧ ρ id = some l := fun i l hl => by
        unfold ρCall at hl
        split at hl
        · rename_i id hid; exact ⟨id, hid, hl⟩
        · cases hl
      have hcalls := q4.2 w (okCall c.base w ρ h ci) (ρCall ρ ci.ids) vs
        (fun b hb => by
          rcases hb with hb | ⟨_, _, _, _, _, _, _, _, _, _, _, hb⟩
          · exact hb.1
          · exact hb)
        (fun i hi => by
          cases hl : ρCall ρ ci.ids i with
          | none => exact absurd hl hi
          | some l =>
            obtain ⟨id, h1, _⟩ := hρ0 i l hl
            obtain ⟨blk, _, b1, _⟩ := hblk i id h1
            exact ⟨blk, b1⟩)
        (fun j blk hj => by
          obtain ⟨m, id, rfl, e2, e3, e4⟩ := inOf_back hin j blk hj
          rw [Nat.zero_add] at hj ⊢
          obtain ⟨l, l1, l2, l3⟩ := R.heap id blk e3
          obtain ⟨_, l', _, _, bm, k1, k2⟩ := hblk m id e2
          rw [l1] at k1
          injection k1 with k1
          subst k1
          refine ⟨l, k2, ?_, fun b cap hb => ⟨(l3 b cap hb).1, fun hok => ?_⟩⟩
          · cases blk with
            | box ty cs =>
              obtain ⟨b, vs', v1, v2, v3⟩ := l2
              obtain ⟨rr, hrr⟩ := e4 ty cs rfl
              exact ⟨b, vs', v1, v2, tL_ok hrr (fun b hb => .inl hb) v3⟩
            | row ty fro sz n f =>
              cases l with
              | nil => exact l2
              | _ b cap =>
                obtain ⟨v0, vs', fz, v1, v2, v3, v4⟩ := l2
                exact ⟨v0, vs', fz, v1, v2, v3, fun i hi j hj => let ⟨x, x1, x2⟩ := v4 i hi j hj; ⟨x, x1, RT.mono ⟨fun b hb => .inl hb, fun _ _ => rfl⟩ _ _ x2⟩⟩
          · subst hb
            obtain ⟨blk2, _, _, c2, c3, c4, _⟩ := hblk m id e2
            rcases hok with hok | ⟨id', ty, fro, sz, n, f, cap', g1, g2, g3, g4, g5⟩
            · exact hok.2.2 id blk2 cap c2 c3 l1
            · have := R.inj id' id b cap' cap ⟨_, g1⟩ ⟨_, c2⟩ g4 l1
              subst this
              exact g2 (List.mem_of_getElem? e2))
        (fun i j b cc cc' hi hj => by
          obtain ⟨idi, i1, i2⟩ := hρ0 i _ hi
          obtain ⟨idj, j1, j2⟩ := hρ0 j _ hj
          obtain ⟨bi, _, _, bi2, _⟩ := hblk i idi i1
          obtain ⟨bj, _, _, bj2, _⟩ := hblk j idj j1
          have := R.inj idi idj b cc cc' ⟨_, bi2⟩ ⟨_, bj2⟩ i2 j2
          subst this
          exact nodupB_get d1 i1 j1)
        (by rw [hvs]; exact hargs)
      refine Calls.mono hcalls ?_
      rintro en w' ⟨v, ρ', rfl, hext, hU, hv, hbs, hinj⟩
      refine ⟨v, rfl, ρBack ρ ρ' ci.outb ci.ids.length nid ci.cnt, ?_⟩
      -- names
      have hnone : ∀ id, nid ≤ id → id < nid + ci.cnt → ρ id = none := fun id h1 h2 => by
        cases hl : ρ id with
        | none => rfl
        | some l => exact absurd (R.used id (by rw [hl]; simp)) (hfresh id h1 h2)
      have hback : Ext ρ (ρBack ρ ρ' ci.outb ci.ids.length nid ci.cnt) := fun id l hl => by simp only [ρBack, hl]
      have htop : ∀ j b, look ci.outb j = some b → j < ci.ids.length + ci.cnt := fun j b hb => by
        have := List.all_eq_true.1 d5 (j, b) (look_mem hb)
        simpa using this
      have hσ : ∀ j, (j < ci.ids.length ∨ (look ci.outb j).isSome = true) → ∀ l, ρ' j = some l → ρBack ρ ρ' ci.outb ci.ids.length nid ci.cnt (sigma ci.ids ci.ids.length nid j) = some l := fun j hj l hl => by
        by_cases hlt : j < ci.ids.length
        · have hid : ci.ids[j]? = some ci.ids[j] := List.getElem?_eq_getElem hlt
          rw [sigma_lt hid]
          obtain ⟨blk, l', _, _, _, k1, k2⟩ := hblk j _ hid
          have := hext j l' k2
          rw [hl] at this
          injection this with this
          subst this
          exact hback _ _ k1
        · have hj' : (look ci.outb j).isSome = true := by rcases hj with hj | hj; exact absurd hj hlt; exact hj
          rw [sigma_ge (by omega)]
          have hjt : j < ci.ids.length + ci.cnt := by
            cases hb : look ci.outb j with
            | none => rw [hb] at hj'; cases hj'
            | some b => exact htop j b hb
          have e1 : nid + (j - ci.ids.length) - nid + ci.ids.length = j := by omega
          unfold ρBack
          rw [hnone _ (by omega) (by omega)]
          simp only
          rw [e1, if_pos ⟨by omega, by omega, hj'⟩]
          exact hl
      have hσinj : ∀ i j, ci.ids.length ≤ i → ci.ids.length ≤ j → sigma ci.ids ci.ids.length nid i = sigma ci.ids ci.ids.length nid j → i = j := fun i j hi hj he => by
        rw [sigma_ge hi, sigma_ge hj] at he; omega
      -- what the blocks behind the call are
      have hcase : ∀ id blk, setHp h (backW ci.ids ci.outb (sigma ci.ids ci.ids.length nid) 0 ++ newW ci.ids.length (sigma ci.ids ci.ids.length nid) ci.outb ++ fw) id = some blk →
          (∃ j b, look ci.outb j = some b ∧ id = sigma ci.ids ci.ids.length nid j ∧ blk = b.ren (sigma ci.ids ci.ids.length nid)) ∨
          (id ∉ ci.ids ∧ ((id ∈ ci.frz ∧ ∃ ty fro sz n f, h id = some (.row ty fro sz n f) ∧ blk = .row ty true sz n f) ∨ (id ∉ ci.frz ∧ h id = some blk))) := fun id blk hb => by
        rw [List.append_assoc] at hb
        rcases setHp_back hb with ⟨m, b, e1, e2, e3⟩ | ⟨e1, e2⟩
        · exact .inl ⟨m, b, by simpa using e2, (sigma_lt e1).symm, e3⟩
        · rcases setHp_new hσinj e2 with ⟨j, b, f1, f2, f3, f4⟩ | f1
          · exact .inl ⟨j, b, f2, f3, f4⟩
          · exact .inr ⟨e1, setHp_frz hfw f1⟩
      have hold : ∀ id blk, h id = some blk → id ∉ ci.ids → ∀ b cap, ρ id = some (.at b cap) → ¬ ∃ i cap', ρCall ρ ci.ids i = some (.at b cap') := fun id blk hb hni b cap hl ⟨i, cap', hi⟩ => by
        obtain ⟨id', i1, i2⟩ := hρ0 i _ hi
        obtain ⟨b2, _, _, b22, _⟩ := hblk i id' i1
        have := R.inj id id' b cap cap' ⟨_, hb⟩ ⟨_, b22⟩ hl i2
        subst this
        exact hni (List.mem_of_getElem? i1)
      have hout : ∀ j b, look ci.outb j = some b → ∃ l, ρ' j = some l ∧ ρBack ρ ρ' ci.outb ci.ids.length nid ci.cnt (sigma ci.ids ci.ids.length nid j) = some l := fun j b hb => by
        obtain ⟨l, l1, _⟩ := hbs j b hb
        exact ⟨l, l1, hσ j (.inr (by rw [hb]; rfl)) l l1⟩
      have hok : ci.flat = false → ∀ b, okOf ⟨w, okCall c.base w ρ h ci, ρCall ρ ci.ids⟩ w' ρ' (look ci.outb) b →
          okOf c.base w' (ρBack ρ ρ' ci.outb ci.ids.length nid ci.cnt) (setHp h (backW ci.ids ci.outb (sigma ci.ids ci.ids.length nid) 0 ++ newW ci.ids.length (sigma ci.ids ci.ids.length nid) ci.outb ++ fw)) b := fun hfl b hb => by
        obtain ⟨o1, o2, o3⟩ := hb
        refine ⟨o1, ?_, fun id blk cap hid hmut hl => ?_⟩
        · rcases o2 with o2 | o2
          · exact .inl (Nat.le_trans R.upd.size o2)
          · rcases o2 with o2 | ⟨id', ty, fro, sz, n, f, cap', g1, g2, g3, g4, g5⟩
            · exact o2.2.1
            · exact .inl (R.own id' _ b cap' g1 rfl g4)
        · rcases hcase id blk hid with ⟨j, b0, e1, rfl, rfl⟩ | ⟨e1, e2⟩
          · rw [ren_mut] at hmut
            obtain ⟨l, l1, l2⟩ := hout j b0 e1
            rw [hl] at l2
            injection l2 with l2
            exact o3 j b0 cap e1 hmut (by rw [l1, ← l2])
          · rcases e2 with ⟨e2, ty, fro, sz, n, f, e3, rfl⟩ | ⟨e2, e3⟩
            · simp [Blk.mut] at hmut
            · obtain ⟨l, l1, _, l3⟩ := R.heap id blk e3
              have := hback id l l1
              rw [hl] at this
              injection this with this
              subst this
              have hlt := (l3 b cap rfl).1
              rcases o2 with o2 | o2
              · simp only at o2; omega
              · rcases o2 with o2 | ⟨id', ty, fro, sz, n, f, cap', g1, g2, g3, g4, g5⟩
                · exact o2.2.2 id blk cap e3 hmut l1
                · have := R.inj id id' b cap cap' ⟨_, e3⟩ ⟨_, g1⟩ l1 g4
                  subst this
                  rw [e3] at g1
                  injection g1 with g1
                  subst g1
                  rcases g3 with g3 | g3 | g3
                  · simp [Blk.mut, g3] at hmut
                  · rw [hfl] at g3; cases g3
                  · exact e2 g3
      have hids : ∀ i, i ∈ ci.out.ids → i < ci.ids.length ∨ (look ci.outb i).isSome = true := fun i hi => by
        have := List.all_eq_true.1 d3 i hi
        simp at this
        rcases this with h' | h'
        · exact .inr h'
        · exact .inl h'
      have hbids : ∀ i, i ∈ blkIds ci.outb → i < ci.ids.length ∨ (look ci.outb i).isSome = true := fun i hi => by
        have := List.all_eq_true.1 d4 i hi
        simp at this
        rcases this with h' | h'
        · exact .inr h'
        · exact .inl h'
      refine R.step hU (fun b hb hlt => ?_) hback (fun id hid => ?_) (fun id blk hid => ?_) (fun i j b cc cc' hi hj h1 h2 => ?_) (fun t x ht => ?_) (by rw [put_size', R.size]) (by rw [put_def', R.defers])
      · obtain ⟨i, cap, hi⟩ := hb
        obtain ⟨id, i1, i2⟩ := hρ0 i _ hi
        obtain ⟨blk, l, _, b2, b3, b4, _⟩ := hblk i id i1
        exact ⟨id, blk, cap, b2, b3, i2⟩
      · unfold ρBack at hid
        split at hid
        · rename_i l hl; exact hu id (R.used id (by rw [hl]; simp))
        · split at hid
          · rename_i hh; exact hn id hh.1 hh.2.1
          · exact absurd rfl hid
      · rcases hcase id blk hid with ⟨j, b0, e1, rfl, rfl⟩ | ⟨e1, e2⟩
        · obtain ⟨l, l1, l2, l3⟩ := hbs j b0 e1
          refine .inr ⟨l, hσ j (.inr (by rw [e1]; rfl)) l l1, fun _ => ?_, fun b cap hb => ?_⟩
          · refine RB.ren_ ?_ (fun i hi l hl => hσ i (hbids i (blkIds_mem e1 i hi)) l hl) l2
            cases hfl : ci.flat with
            | true => exact .inl (flatB_look (q3 hfl) e1)
            | false => exact .inr (hok hfl)
          · obtain ⟨m1, m2, m3⟩ := l3 b cap hb
            have key : ∀ i cap', ρCall ρ ci.ids i = some (.at b cap') → ∃ id0 blk0 cap0, h id0 = some blk0 ∧ blk0.mut = true ∧ ρ id0 = some (.at b cap0) ∧ (c.base.w.heap.size ≤ b ∨ c.X b) := fun i cap' hi => by
              obtain ⟨id0, i1, i2⟩ := hρ0 i _ hi
              obtain ⟨blk0, l0, _, b2, b3, b4, _⟩ := hblk i id0 i1
              obtain ⟨l4, n1, _, n3⟩ := R.heap id0 blk0 b2
              rw [i2] at n1
              injection n1 with n1
              exact ⟨id0, blk0, cap', b2, b3, i2, (n3 b cap' n1.symm).2⟩
            refine ⟨m1, ?_, ?_, fun hr => ?_⟩
            · rcases m2 with m2 | ⟨i, cap', hi⟩
              · exact .inl (Nat.le_trans R.upd.size m2)
              · obtain ⟨_, _, _, _, _, _, k⟩ := key i cap' hi; exact k
            · rcases m2 with m2 | ⟨i, cap', hi⟩
              · exact .inl m2
              · obtain ⟨id0, blk0, cap0, k1, k2, k3, _⟩ := key i cap' hi; exact .inr ⟨id0, blk0, cap0, k1, k2, k3⟩
            · rw [ren_isRow] at hr
              rcases m3 hr with m3 | ⟨i, bk, cap', s1, s2, s3⟩
              · exact Nat.le_trans R.upd.size m3
              · obtain ⟨id0, i1, i2⟩ := hρ0 i _ s3
                obtain ⟨blk0, l0, z1, b2, b3, b4, _⟩ := hblk i id0 i1
                rw [s1] at z1
                injection z1 with z1
                subst z1
                exact R.own id0 bk b cap' b2 s2 i2
        · rcases e2 with ⟨e2, ty, fro, sz, n, f, e3, rfl⟩ | ⟨e2, e3⟩
          · cases fro with
            | true => exact .inl ⟨e3, fun b cap hl hy => hold id _ e3 e1 b cap hl hy⟩
            | false =>
              obtain ⟨l, l1, l2, l3⟩ := R.heap id _ e3
              refine .inr ⟨l, hback id l l1, fun K => ?_, fun b cap hb => ⟨Nat.lt_of_lt_of_le (l3 b cap hb).1 hU.size, (l3 b cap hb).2, .inr ⟨id, _, cap, e3, rfl, by rw [l1, hb]⟩, fun _ => R.own id _ b cap e3 rfl (by rw [l1, hb])⟩⟩
              cases l with
              | nil => exact l2
              | _ b cap =>
                obtain ⟨v0, vs', fz, v1, v2, v3, v4⟩ := l2
                refine ⟨v0, vs', fz, ?_, v2, fun x => (by cases x), fun i hi j hj => let ⟨x, x1, x2⟩ := v4 i hi j hj; ⟨x, x1, RT.mono K _ _ x2⟩⟩
                rw [hU.block b (l3 b cap rfl).1 (hold id _ e3 e1 b cap l1)]
                exact v1
          · exact .inl ⟨e3, fun b cap hl hy => hold id _ e3 e1 b cap hl hy⟩
      · have place : ∀ i, (∃ x, setHp h (backW ci.ids ci.outb (sigma ci.ids ci.ids.length nid) 0 ++ newW ci.ids.length (sigma ci.ids ci.ids.length nid) ci.outb ++ fw) i = some x) → ∀ c1, ρBack ρ ρ' ci.outb ci.ids.length nid ci.cnt i = some (.at b c1) →
            (∃ j b0, look ci.outb j = some b0 ∧ i = sigma ci.ids ci.ids.length nid j ∧ ρ' j = some (.at b c1)) ∨ (i ∉ ci.ids ∧ (∃ x, h i = some x) ∧ ρ i = some (.at b c1)) := fun i ⟨x, hx⟩ c1 hl => by
          rcases hcase i x hx with ⟨j, b0, e1, rfl, rfl⟩ | ⟨e1, e2⟩
          · obtain ⟨l, l1, l2⟩ := hout j b0 e1
            rw [hl] at l2
            injection l2 with l2
            exact .inl ⟨j, b0, e1, rfl, by rw [l1, l2]⟩
          · have hx' : ∃ y, h i = some y := by
              rcases e2 with ⟨_, ty, fro, sz, n, f, e3, _⟩ | ⟨_, e3⟩
              · exact ⟨_, e3⟩
              · exact ⟨_, e3⟩
            obtain ⟨y, hy⟩ := hx'
            obtain ⟨l, l1, _⟩ := R.heap i y hy
            have := hback i l l1
            rw [hl] at this
            injection this with this
            exact .inr ⟨e1, ⟨y, hy⟩, by rw [l1, this]⟩
        have mixed : ∀ j, (∃ jj b0, look ci.outb jj = some b0 ∧ ∃ c1, ρ' jj = some (.at b c1)) → (j ∉ ci.ids ∧ (∃ x, h j = some x) ∧ ∃ c2, ρ j = some (.at b c2)) → False := fun j ⟨jj, b0, g1, c1, g2⟩ ⟨k1, ⟨x, k2⟩, c2, k3⟩ => by
          obtain ⟨l, l1, _, l3⟩ := hbs jj b0 g1
          rw [g2] at l1
          injection l1 with l1
          obtain ⟨l4, n1, _, n3⟩ := R.heap j x k2
          rw [k3] at n1
          injection n1 with n1
          have := (n3 b c2 n1.symm).1
          rcases (l3 b c1 l1.symm).2.1 with m2 | ⟨i', cap', hi'⟩
          · omega
          · exact hold j x k2 k1 b c2 k3 ⟨i', cap', hi'⟩
        rcases place i hi cc h1 with ⟨j1, b1, p1, p2, p3⟩ | ⟨p1, p2, p3⟩
        · rcases place j hj cc' h2 with ⟨j2, b2, r1, r2, r3⟩ | ⟨r1, r2, r3⟩
          · have := hinj j1 j2 b cc cc' ⟨_, p1⟩ ⟨_, r1⟩ p3 r3
            rw [p2, r2, this]
          · exact (mixed j ⟨j1, b1, p1, cc, p3⟩ ⟨r1, r2, cc', r3⟩).elim
        · rcases place j hj cc' h2 with ⟨j2, b2, r1, r2, r3⟩ | ⟨r1, r2, r3⟩
          · exact (mixed i ⟨j2, b2, r1, cc', r3⟩ ⟨p1, p2, cc, p3⟩).elim
          · exact R.inj i j b cc cc' p2 r2 p3 r3
      · by_cases e : some t = o.dst
        · rw [setTm, if_pos e] at ht
          injection ht with ht
          subst ht
          refine .inr fun _ => ?_
          rw [← e, put_eq v (by rw [R.size]; exact hd t e.symm)]
          refine RV.ren_ ?_ (fun i hi l hl => hσ i (hids i hi) l hl) hv
          rcases d6 with d6 | d6
          · exact .inr (hok d6)
          · exact .inl d6
        · rw [setTm, if_neg e] at ht
          refine .inl ⟨ht, ?_⟩
          cases hdst : o.dst with
          | none => rfl
          | some d => exact put_ne v fun h => e (by rw [hdst, h])
    · cases e
  · cases e
end
end Vm
end Go.Proofs.Yteholdifeilkkaa
