/- The abstract machine: structs and arrays that are compared. -/
import Derived.Test.YtknlckjpgmjenaaVh
namespace Go.Proofs.Ytknlckjpgmjenaa
set_option linter.unusedVariables false
namespace Vm
def allO {α : Type} (g : α → Option Bool) : List α → Option Bool
  | [] => some true
  | x :: l => match g x, allO g l with
    | some a, some b => some (a && b)
    | _, _ => none
/-- Whether two values of a type are equal, by their cells. -/
def eqT (tt : TT) : Nat → TypeId → List C → List C → Option Bool
  | 0, _, _, _ => none
  | d + 1, t, X, Y => match tt t with
    | some i => match i.k with
      | .int _ => match X, Y with
        | [.t (.v (.int k a))], [.t (.v (.int k' b))] => if k = k' then some (a == b) else none
        | _, _ => none
      | .bool => match X, Y with
        | [.t (.v (.bool a))], [.t (.v (.bool b))] => some (a == b)
        | _, _ => none
      | .str => match X, Y with
        | [.t (.v (.string a))], [.t (.v (.string b))] => some (a.toList == b.toList)
        | _, _ => none
      | .struct fs => match i.eq with
        | true => allO (fun f => match tt f.1 with
          | some fi => eqT tt d f.1 ((X.drop f.2).take fi.size) ((Y.drop f.2).take fi.size)
          | none => none) fs
        | false => none
      | .arr n e => match tt e with
        | some ei => allO (fun j => eqT tt d e ((X.drop (j * ei.size)).take ei.size) ((Y.drop (j * ei.size)).take ei.size)) (List.range n)
        | none => none
      | _ => none
    | none => none
/-- A value, by its cells. -/
def RepC (w : World) (ok : Nat → Prop) (ρ : Ren) (agg : Bool) (X : List C) (v : Value) : Prop := match agg with
  | true => ∃ xs : Array Value, v = .agg xs ∧ All2 (RC w ok ρ) X xs.toList
  | false => ∃ c, X = [c] ∧ RC w ok ρ c v
section
variable {P : Program} {w : World} {ok : Nat → Prop} {ρ : Ren}
theorem part_rep {t : TypeId} {i : TI} (hi : tiOk P t i) {X : List C} {xs : Array Value} {off : Nat} (hX : All2 (RC w ok ρ) X xs.toList) (h1 : i.k.agg = true ∨ ∃ c, (X.drop off).take i.size = [c]) :
    ∃ v, (part t xs off).run P w = .ok v w ∧ RepC w ok ρ i.k.agg ((X.drop off).take i.size) v := by
  cases ha : i.k.agg with
  | true =>
    refine ⟨.agg (xs.extract off (off + i.size)), by simp [part, hi.isAgg, ha, hi.size], _, rfl, ?_⟩
    rw [Array.toList_extract, List.extract_eq_take_drop, Nat.add_sub_cancel_left]
    exact (hX.drop off).take i.size
  | false =>
    rw [ha] at h1
    rcases h1 with h1 | ⟨c, h1⟩
    · cases h1
    · have hc : X[off]? = some c := by
        have h2 : ((X.drop off).take i.size)[0]? = some c := by rw [h1]; rfl
        rw [List.getElem?_take] at h2
        split at h2
        · rw [List.getElem?_drop] at h2; simpa using h2
        · cases h2
      obtain ⟨v, v1, v2⟩ := All2.get hX hc
      have v1' : xs[off]? = some v := by simpa using v1
      exact ⟨v, by simp [part, hi.isAgg, ha, v1'], c, h1, v2⟩
theorem eqT_one {tt : TT} {d : Nat} {t : TypeId} {i : TI} (hti : tt t = some i) {X Y : List C} {b : Bool} (e : eqT tt d t X Y = some b) : (i.k.agg = true ∨ ∃ c, X = [c]) ∧ (i.k.agg = true ∨ ∃ c, Y = [c]) := by
  cases d with
  | zero => cases e
  | succ d =>
    simp only [eqT, hti] at e
    split at e
    · split at e
      · exact ⟨.inr ⟨_, rfl⟩, .inr ⟨_, rfl⟩⟩
      · cases e
    · split at e
      · exact ⟨.inr ⟨_, rfl⟩, .inr ⟨_, rfl⟩⟩
      · cases e
    · split at e
      · exact ⟨.inr ⟨_, rfl⟩, .inr ⟨_, rfl⟩⟩
      · cases e
    · rename_i hk; rw [hk]; exact ⟨.inl rfl, .inl rfl⟩
    · rename_i hk; rw [hk]; exact ⟨.inl rfl, .inl rfl⟩
    · cases e
theorem allO_cons {α : Type} {g : α → Option Bool} {x : α} {l : List α} {b : Bool} (e : allO g (x :: l) = some b) : ∃ p q, g x = some p ∧ allO g l = some q ∧ b = (p && q) := by
  simp only [allO] at e
  split at e
  · rename_i p q h1 h2
    injection e with e
    exact ⟨p, q, h1, h2, e.symm⟩
  · cases e
theorem eqT_run {tt : TT} (hT : TTok P tt) : ∀ (d D : Nat) (t : TypeId) (i : TI) (X Y : List C) (x y : Value) (b : Bool), tt t = some i → eqT tt d t X Y = some b → RepC w ok ρ i.k.agg X x → RepC w ok ρ i.k.agg Y y →
    (Op.equalIn (D + d) t x y).run P w = .ok b w
  | 0, D, t, i, X, Y, x, y, b, hti, e, hx, hy => by cases e
  | d + 1, D, t, i, X, Y, x, y, b, hti, e, hx, hy => by
    have hi := hT _ _ hti
    have ih := eqT_run hT d D
    simp only [eqT, hti] at e
    show (Op.equalIn ((D + d) + 1) t x y).run P w = .ok b w
    split at e
    · rename_i k0 hk
      split at e
      · split at e
        · rename_i hkk
          injection e with e
          subst hkk; subst e
          rw [hk] at hx hy
          obtain ⟨c, h1, h2⟩ := hx
          obtain ⟨c', h1', h2'⟩ := hy
          simp only [List.cons.injEq, and_true] at h1 h1'
          subst h1; subst h1'
          obtain ⟨rfl, _⟩ := h2
          obtain ⟨rfl, _⟩ := h2'
          exact run_equalIn_int w _ t _ k0 _ _ (hi.int hk)
        · cases e
      · cases e
    · rename_i hk
      split at e
      · injection e with e
        subst e
        rw [hk] at hx hy
        obtain ⟨c, h1, h2⟩ := hx
        obtain ⟨c', h1', h2'⟩ := hy
        simp only [List.cons.injEq, and_true] at h1 h1'
        subst h1; subst h1'
        obtain ⟨rfl, _⟩ := h2
        obtain ⟨rfl, _⟩ := h2'
        exact run_equalIn_bool' w _ t _ _ (hi.bool hk)
      · cases e
    · rename_i hk
      split at e
      · injection e with e
        subst e
        rw [hk] at hx hy
        obtain ⟨c, h1, h2⟩ := hx
        obtain ⟨c', h1', h2'⟩ := hy
        simp only [List.cons.injEq, and_true] at h1 h1'
        subst h1; subst h1'
        obtain ⟨rfl, _⟩ := h2
        obtain ⟨rfl, _⟩ := h2'
        exact run_equalIn_string w _ t _ _ (hi.str hk)
      · cases e
    · rename_i fs hk
      split at e
      · rename_i heq
        rw [hk] at hx hy
        obtain ⟨xs, rfl, hx⟩ := hx
        obtain ⟨ys, rfl, hy⟩ := hy
        obtain ⟨hp, hg, hn⟩ := hi.eqOk heq
        obtain ⟨fields, hu, hf⟩ := hi.struct hk
        have hS : P.underlying t = some (.struct (P.fieldsOf t)) := by rw [Program.fieldsOf, hu]
        have hfo : P.fieldsOf t = fields := by rw [Program.fieldsOf, hu]
        rw [run_equalIn_agg w _ t xs ys hS hp]
        rw [hfo] at hn ⊢
        rw [← hf] at e
        clear hf hu hS hfo hk
        generalize fields.toList = l at e hn ⊢
        induction l generalizing b with
        | nil => simp only [List.map_nil, allO, Option.some.injEq] at e; subst e; simp [Op.eqFields]
        | cons f l ihl =>
          obtain ⟨p, q, e1, e2, rfl⟩ := allO_cons e
          simp only [List.all_cons, Bool.and_eq_true, bne_iff_ne] at hn
          simp only at e1
          split at e1
          · rename_i fi hfi
            obtain ⟨o1, o2⟩ := eqT_one hfi e1
            obtain ⟨u, u1, u2⟩ := part_rep (hT _ _ hfi) (off := f.offset) hx o1
            obtain ⟨v, v1, v2⟩ := part_rep (hT _ _ hfi) (off := f.offset) hy o2
            have h3 := ih f.type fi _ _ u v p hfi e1 u2 v2
            simp only [Op.eqFields, if_pos hn.1, Sem.run_bind, u1, v1, h3, Result.andThen_ok]
            cases p with
            | true => simp only [Bool.not_true, Bool.false_eq_true, if_false, Bool.true_and]; exact ihl q e2 hn.2
            | false => simp
          · cases e1
      · cases e
    · rename_i n el hk
      rw [hk] at hx hy
      obtain ⟨xs, rfl, hx⟩ := hx
      obtain ⟨ys, rfl, hy⟩ := hy
      split at e
      · rename_i ei hei
        have hsz := (hT _ _ hei).size
        rw [Op.equalIn]
        simp only [Sem.run_bind, run_underlying (hi.arr hk), Result.andThen_ok, hsz, Std.Legacy.Range.forIn_eq_forIn_range', Std.Legacy.Range.size, Nat.sub_zero, Nat.add_sub_cancel, Nat.div_one]
        rw [List.range_eq_range'] at e
        generalize List.range' 0 n 1 = l at e ⊢
        induction l generalizing b with
        | nil => simp only [allO, Option.some.injEq] at e; subst e; simp
        | cons j l ihl =>
          obtain ⟨p, q, e1, e2, rfl⟩ := allO_cons e
          obtain ⟨o1, o2⟩ := eqT_one hei e1
          obtain ⟨u, u1, u2⟩ := part_rep (hT _ _ hei) (off := j * ei.size) hx o1
          obtain ⟨v, v1, v2⟩ := part_rep (hT _ _ hei) (off := j * ei.size) hy o2
          have h3 := ih el ei _ _ u v p hei e1 u2 v2
          simp only [List.forIn_cons, Sem.run_bind, u1, v1, h3, Result.andThen_ok]
          cases p with
          | true => simp only [Bool.not_true, Bool.false_eq_true, if_false, Sem.run_pure, Result.andThen_ok, Bool.true_and]; exact ihl q e2
          | false => simp
      · cases e
    · cases e
/-- Two structs or arrays, compared. -/
def aEqS (tt : TT) (op : BinOp) (t : TypeId) (x y : AV) (q : Option Bool) : Option (AV × Prop) :=
  match x, y with
  | .agg X, .agg Y => match tt t with
    | some i => match i.eq, i.k.agg with
      | true, true => match eqT tt 8 t X Y with
        | some b => match op with
          | .eql => some (asB b q)
          | .neq => some (asB (!b) q)
          | _ => none
        | none => none
      | _, _ => none
    | none => none
  | _, _ => none
theorem aEqS_run {tt : TT} (hT : TTok P tt) {op : BinOp} {t : TypeId} {x y : Operand} {u v : AV} {q : Option Bool} {r : AV × Prop} (h : aEqS tt op t u v q = some r) (hc : r.2) {m n : Value} (hm : RV w ok ρ u m) (hn : RV w ok ρ v n) :
    ∃ z, (do eqGuard op t x y m n; binOp op t m n : Sem Value).run P w = .ok z w ∧ RV w ok ρ r.1 z := by
  unfold aEqS at h
  split at h
  · rename_i X Y
    obtain ⟨xs, rfl, hx⟩ := hm
    obtain ⟨ys, rfl, hy⟩ := hn
    split at h
    · rename_i i hti
      split at h
      · rename_i heq hagg
        obtain ⟨hp, hg, _⟩ := (hT _ _ hti).eqOk heq
        split at h
        · rename_i b hb
          have hrun := eqT_run hT 8 9992 t i X Y (.agg xs) (.agg ys) b hti hb (by rw [hagg]; exact ⟨xs, rfl, hx⟩) (by rw [hagg]; exact ⟨ys, rfl, hy⟩)
          split at h
          · injection h with h; subst h
            refine ⟨.bool b, ?_, asB_ok _ q hc _ _ _⟩
            rw [Sem.run_bind, run_eqGuard_agg w _ t x y xs ys hg]
            simp only [Result.andThen_ok]
            rw [run_eql_struct]
            show ((Op.equalIn (9992 + 8) t (.agg xs) (.agg ys)).run P w).andThen _ = _
            rw [hrun]; rfl
          · injection h with h; subst h
            refine ⟨.bool (!b), ?_, asB_ok _ q hc _ _ _⟩
            rw [Sem.run_bind, run_eqGuard_agg w _ t x y xs ys hg]
            simp only [Result.andThen_ok]
            rw [run_neq_struct]
            show ((Op.equalIn (9992 + 8) t (.agg xs) (.agg ys)).run P w).andThen _ = _
            rw [hrun]; rfl
          · cases h
        · cases h
      · cases h
    · cases h
  · cases h
end
end Vm
end Go.Proofs.Ytknlckjpgmjenaa
