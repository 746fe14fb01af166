/- A region that draws its order, whose operations may make memory: what each of its first n operations comes to is said by a property that later worlds keep; the others stand in one forced order behind them. One walk in the order of the text serves every order. -/
import Derived.Test.YteholdifeilkkaaReg
namespace Go.Proofs.Yteholdifeilkkaa
section
variable {P : Program} {ops : Array Oper}

abbrev Fact := Value → World → Prop
/-- What is said of one operation: the value, where it is known; else a property of it. -/
structure Spec where
  det : Option Value
  fact : Fact
  ok : ∀ c, det = some c → ∀ v w, fact v w → v = c
def is (v : Value) : Spec := ⟨some v, fun x _ => x = v, fun c h x _ hx => by injection h with h; rw [hx, h]⟩
def such (f : Fact) : Spec := ⟨none, f, fun _ h => by cases h⟩
/-- What one operation must come to. -/
def Yield (P : Program) (G : Fact) : Result Next → Prop
  | .ok (.value v) w => G v w
  | .ok .skip w => G undef w
  | .ok (.enter f args) w => Calls P f args w fun e w' => ∃ v, e = .returned v ∧ G v w'
  | _ => False
theorem yield_value (G : Fact) (v : Value) (w : World) : Yield P G (.ok (.value v) w) = G v w := rfl
theorem yield_skip (G : Fact) (w : World) : Yield P G (.ok .skip w) = G undef w := rfl
theorem yield_enter (G : Fact) (f : FuncId) (args : Array Value) (w : World) : Yield P G (.ok (.enter f args) w) = Calls P f args w fun e w' => ∃ v, e = .returned v ∧ G v w' := rfl
attribute [go_sem] yield_value yield_skip yield_enter

def specAt (fs : List Spec) (j : Nat) : Spec := fs.getD j (such fun _ _ => True)
def factAt (fs : List Spec) (j : Nat) : Fact := (specAt fs j).fact
def Facts (fs : List Spec) (vs : List Value) (w : World) : List Nat → Prop
  | [] => True
  | j :: js => factAt fs j (vs.getD j undef) w ∧ Facts fs vs w js
def boundOn (o : Oper) : List Nat := (o.after.toList.filter fun e => Region.binds .any e).map (·.on)
/-- The walk in the order of the text: what each operation comes to, given what those that it waits for came to; then what follows. -/
def Steps (P : Program) (ops : Array Oper) (Ext : World → World → Prop) (w0 : World) (fs : List Spec) (Fin : Act → World → Prop) : List Value → Act → List Oper → Prop
  | vs, a, [] => ∀ w, Ext w0 w → Facts fs vs w (List.range vs.length) → Fin a w
  | vs, a, o :: rest =>
    (∀ w, Ext w0 w → Facts fs vs w (boundOn o) →
      if Region.wanted o (yielded ops a.tmps) = true then Yield P (fun v w' => factAt fs vs.length v w' ∧ Ext w w') ((execOp a.eval o).run P w) else factAt fs vs.length undef w) ∧
    match (specAt fs vs.length).det with
    | some c => Steps P ops Ext w0 fs Fin (vs ++ [c]) (a.put o.dst c) rest
    | none => ∀ v, Steps P ops Ext w0 fs Fin (vs ++ [v]) (a.put o.dst v) rest

def putsL (a : Act) : List Oper → List Value → Act
  | o :: os, v :: vs => putsL (a.put o.dst v) os vs
  | _, _ => a

def dstOf (o : Oper) : Nat := o.dst.getD 0
/-- The region's form: the first n operations write slots of their own, below N; whoever reads a slot that a later one of them writes is waited for. -/
def relyB (ops : Array Oper) (n N : Nat) : Bool :=
  Region.noSelect ops && decide (n ≤ ops.size) && (n == ops.size || (Region.sinkB .any ops n && Region.chainB .any ops n)) &&
  ((List.range n).all fun i => ((ops[i]?).map fun o => o.dst.isSome && decide (dstOf o < N) && (boundOn o).all (fun j => decide (j < i)) &&
    (List.range n).all fun j => ((ops[j]?).map fun p => (i == j || dstOf p != dstOf o) && (j == i || !(o.looksAt ops).contains (dstOf p) || if j < i then (boundOn o).contains j else (boundOn p).contains i)).getD false).getD false) &&
  Region.seqB .any ops (ops.size - n) n ((Array.range ops.size).map fun i => decide (i < n))

theorem put_tmps (a : Act) (t : Nat) (v : Value) : (a.put (some t) v).tmps = a.tmps.setIfInBounds t v := rfl
theorem put_size (a : Act) (d : Option Tmp) (v : Value) : (a.put d v).tmps.size = a.tmps.size := by cases d <;> simp [Act.put]
theorem put_defers' (a : Act) (d : Option Tmp) (v : Value) : (a.put d v).defers = a.defers := by cases d <;> rfl
theorem putsL_size : ∀ (os : List Oper) (vs : List Value) (a : Act), (putsL a os vs).tmps.size = a.tmps.size
  | [], _, _ => by simp [putsL]
  | _ :: _, [], _ => by simp [putsL]
  | o :: os, v :: vs, a => by simp only [putsL]; rw [putsL_size os vs, put_size]
theorem putsL_defers : ∀ (os : List Oper) (vs : List Value) (a : Act), (putsL a os vs).defers = a.defers
  | [], _, _ => by simp [putsL]
  | _ :: _, [], _ => by simp [putsL]
  | o :: os, v :: vs, a => by simp only [putsL]; rw [putsL_defers os vs, put_defers']
theorem putsL_snoc : ∀ (os : List Oper) (vs : List Value) (a : Act) (o : Oper) (v : Value), vs.length = os.length → putsL a (os ++ [o]) (vs ++ [v]) = (putsL a os vs).put o.dst v
  | [], [], _, _, _, _ => rfl
  | o' :: os, v' :: vs, a, o, v, h => by simp only [List.cons_append, putsL]; exact putsL_snoc os vs _ o v (by simpa using h)
  | [], _ :: _, _, _, _, h => by simp at h
  | _ :: _, [], _, _, _, h => by simp at h
/-- A slot that none of them writes. -/
theorem putsL_other : ∀ (os : List Oper) (vs : List Value) (a : Act) (t : Nat), (∀ (j : Nat) (o : Oper), os[j]? = some o → o.dst ≠ some t) → (putsL a os vs).tmps[t]? = a.tmps[t]?
  | [], _, _, _, _ => by simp [putsL]
  | _ :: _, [], _, _, _ => by simp [putsL]
  | o :: os, v :: vs, a, t, h => by
    simp only [putsL]
    rw [putsL_other os vs _ t (fun j o' hj => h (j + 1) o' (by simpa using hj))]
    have h0 := h 0 o (by simp)
    cases hd : o.dst with
    | none => rfl
    | some d =>
      have hne : d ≠ t := fun e => h0 (by rw [hd, e])
      simp [Act.put, Array.getElem?_setIfInBounds_ne hne]
/-- The slot that operation j alone writes. -/
theorem putsL_at : ∀ (os : List Oper) (vs : List Value) (a : Act) (j t : Nat) (o : Oper), vs.length = os.length → os[j]? = some o → o.dst = some t → t < a.tmps.size → (∀ (k : Nat) (p : Oper), os[k]? = some p → k ≠ j → p.dst ≠ some t) →
    (putsL a os vs).tmps[t]? = some (vs.getD j undef)
  | [], _, _, _, _, _, _, h, _, _, _ => by simp at h
  | _ :: _, [], _, _, _, _, h, _, _, _, _ => by simp at h
  | o' :: os, v :: vs, a, 0, t, o, hl, hj, hd, ht, hu => by
    have : o' = o := by simpa using hj
    subst this
    simp only [putsL]
    rw [putsL_other os vs _ t (fun k p hk => hu (k + 1) p (by simpa using hk) (by omega)), hd]
    simp [Act.put, ht]
  | o' :: os, v :: vs, a, j + 1, t, o, hl, hj, hd, ht, hu => by
    simp only [putsL, List.getD_cons_succ]
    exact putsL_at os vs _ j t o (by simpa using hl) (by simpa using hj) hd (by rw [put_size]; exact ht) (fun k p hk hne => hu (k + 1) p (by simpa using hk) (by omega))

theorem steps_at {Ext : World → World → Prop} {w0 : World} {fs : List Spec} {Fin : Act → World → Prop} : ∀ (l : List Oper) (vs : List Value) (a : Act), Steps P ops Ext w0 fs Fin vs a l →
    ∀ (i : Nat) (us : List Value), us.length = i → i ≤ l.length → (∀ j, j < i → ∀ c, (specAt fs (vs.length + j)).det = some c → us.getD j undef = c) → Steps P ops Ext w0 fs Fin (vs ++ us) (putsL a (l.take i) us) (l.drop i)
  | l, vs, a, h, 0, us, hu, _, _ => by
    have : us = [] := List.eq_nil_of_length_eq_zero hu
    subst this
    simpa [putsL] using h
  | [], _, _, _, i + 1, _, _, hi, _ => by simp at hi
  | o :: l, vs, a, h, i + 1, u :: us, hu, hi, hd => by
    simp only [List.take_succ_cons, List.drop_succ_cons, putsL]
    have h2 : Steps P ops Ext w0 fs Fin (vs ++ [u]) (a.put o.dst u) l := by
      have h2 := h.2
      split at h2
      · rename_i c hc
        have : u = c := hd 0 (by omega) c (by simpa using hc)
        rw [this]; exact h2
      · exact h2 u
    have := steps_at l (vs ++ [u]) (a.put o.dst u) h2 i us (by simpa using hu) (by simpa using hi) (fun j hj c hc => by
      have := hd (j + 1) (by omega) c (by rw [← hc]; simp [Nat.add_assoc, Nat.add_comm 1 j])
      simpa using this)
    simpa using this
  | _ :: _, _, _, _, i + 1, [], hu, _, _ => by simp at hu

theorem facts_of {fs : List Spec} {vs : List Value} {w : World} : ∀ (js : List Nat), (∀ j ∈ js, factAt fs j (vs.getD j undef) w) → Facts fs vs w js
  | [], _ => trivial
  | j :: js, h => ⟨h j (by simp), facts_of js fun k hk => h k (by simp [hk])⟩

/-- What operation j has left in its slot. -/
def valOf (ops : Array Oper) (a : Act) (j : Nat) : Value := ((ops[j]?).map fun o => (a.tmps[dstOf o]?).getD undef).getD undef

structure RInv (ops : Array Oper) (n : Nat) (Ext : World → World → Prop) (w0 : World) (a0 : Act) (fs : List Spec) (ls : Array Bool) (a : Act) (w : World) : Prop where
  ext : Ext w0 w
  defers : a.defers = a0.defers
  tsize : a.tmps.size = a0.tmps.size
  old : ∀ t : Nat, (∀ (j : Nat) (o : Oper), j < n → ops[j]? = some o → o.dst = some t → ls.getD j false = false) → a.tmps[t]? = a0.tmps[t]?
  val : ∀ j, j < n → ls.getD j false = true → factAt fs j (valOf ops a j) w
  head : HeadInv .any ops n ls

theorem mem_boundOn {o : Oper} {e : Edge} (h : e ∈ o.after) (hb : Region.binds .any e = true) : e.on ∈ boundOn o := by
  unfold boundOn
  exact List.mem_map.2 ⟨e, List.mem_filter.2 ⟨by simpa using h, hb⟩, rfl⟩
theorem of_boundOn {o : Oper} {j : Nat} (h : j ∈ boundOn o) : ∃ e ∈ o.after, Region.binds .any e = true ∧ e.on = j := by
  unfold boundOn at h
  obtain ⟨e, he, hj⟩ := List.mem_map.1 h
  obtain ⟨h1, h2⟩ := List.mem_filter.1 he
  exact ⟨e, by simpa using h1, h2, hj⟩

structure RelyOk (ops : Array Oper) (n N : Nat) : Prop where
  sel : Region.noSelect ops = true
  le : n ≤ ops.size
  tail : n = ops.size ∨ (Region.sinkB .any ops n = true ∧ Region.chainB .any ops n = true)
  dst : ∀ (i : Nat) (o : Oper), i < n → ops[i]? = some o → o.dst = some (dstOf o) ∧ dstOf o < N
  low : ∀ (i : Nat) (o : Oper), i < n → ops[i]? = some o → ∀ j ∈ boundOn o, j < i
  own : ∀ (i j : Nat) (o p : Oper), i < n → j < n → ops[i]? = some o → ops[j]? = some p → i ≠ j → dstOf p ≠ dstOf o
  read : ∀ (i j : Nat) (o p : Oper), i < j → j < n → ops[i]? = some o → ops[j]? = some p → dstOf p ∈ o.looksAt ops → i ∈ boundOn p
  new : ∀ (i j : Nat) (o p : Oper), j < i → i < n → ops[i]? = some o → ops[j]? = some p → dstOf p ∈ o.looksAt ops → j ∈ boundOn o
  seq : Region.seqB .any ops (ops.size - n) n ((Array.range ops.size).map fun i => decide (i < n)) = true

theorem relyOk_of {n N : Nat} (h : relyB ops n N = true) : RelyOk ops n N := by
  simp only [relyB, Bool.and_eq_true, decide_eq_true_eq, Bool.or_eq_true, beq_iff_eq, List.all_eq_true, List.mem_range] at h
  obtain ⟨⟨⟨⟨h1, h2⟩, h3⟩, h4⟩, h5⟩ := h
  have key : ∀ (i : Nat) (o : Oper), i < n → ops[i]? = some o → (o.dst.isSome = true ∧ dstOf o < N) ∧ (∀ j ∈ boundOn o, j < i) ∧
      ∀ j, j < n → ∀ p, ops[j]? = some p → (i = j ∨ dstOf p ≠ dstOf o) ∧ ((j = i ∨ dstOf p ∉ o.looksAt ops) ∨ if j < i then j ∈ boundOn o else i ∈ boundOn p) := by
    intro i o hi ho
    have h := h4 i hi
    rw [ho] at h
    simp only [Option.map_some, Option.getD_some, Bool.and_eq_true, decide_eq_true_eq, List.all_eq_true, List.mem_range] at h
    refine ⟨h.1.1, h.1.2, fun j hj p hp => ?_⟩
    have := h.2 j hj
    rw [hp] at this
    by_cases hji : j < i
    · simpa [hji] using this
    · simpa [hji] using this
  refine ⟨h1, h2, h3, fun i o hi ho => ?_, fun i o hi ho => (key i o hi ho).2.1, fun i j o p hi hj ho hp hne => ?_, fun i j o p hij hj ho hp hr => ?_, fun i j o p hji hi ho hp hr => ?_, h5⟩
  · obtain ⟨⟨h6, h7⟩, _⟩ := key i o hi ho
    refine ⟨?_, h7⟩
    unfold dstOf
    cases hd : o.dst with
    | none => rw [hd] at h6; cases h6
    | some d => rfl
  · rcases ((key i o hi ho).2.2 j hj p hp).1 with h | h
    · exact absurd h hne
    · exact h
  · rcases ((key i o (by omega) ho).2.2 j hj p hp).2 with (h | h) | h
    · omega
    · exact absurd hr h
    · rw [if_neg (by omega)] at h; exact h
  · rcases ((key i o hi ho).2.2 j (by omega) p hp).2 with (h | h) | h
    · omega
    · exact absurd hr h
    · rw [if_pos hji] at h; exact h

section
variable {n : Nat} {Ext : World → World → Prop} {w0 : World} {a0 : Act} {fs : List Spec} {ls : Array Bool} {a : Act} {w : World}

/-- What operation j comes to: its value where that is known, else what its slot holds. -/
def useOf (ops : Array Oper) (fs : List Spec) (a : Act) (j : Nat) : Value := ((specAt fs j).det).getD (valOf ops a j)
theorem valsLen (a : Act) (i : Nat) : ((List.range i).map (useOf ops fs a)).length = i := by simp
theorem valsAt (a : Act) {i j : Nat} (h : j < i) : ((List.range i).map (useOf ops fs a)).getD j undef = useOf ops fs a j := by
  simp [List.getD_eq_getElem?_getD, h]
theorem valsDet (a : Act) (i : Nat) : ∀ j, j < i → ∀ c, (specAt fs (([] : List Value).length + j)).det = some c → ((List.range i).map (useOf ops fs a)).getD j undef = c := fun j hj c hc => by
  rw [valsAt a hj]
  simp only [List.length_nil, Nat.zero_add] at hc
  simp [useOf, hc]
theorem useOf_val (inv : RInv ops n Ext w0 a0 fs ls a w) {j : Nat} (hj : j < n) (hl : ls.getD j false = true) : useOf ops fs a j = valOf ops a j := by
  unfold useOf
  cases hd : (specAt fs j).det with
  | none => rfl
  | some c => exact ((specAt fs j).ok c hd _ _ (inv.val j hj hl)).symm

/-- The state of the walk in the order of the text, ahead of operation i, agrees with the run's state at every slot that operation i looks at. -/
theorem rely_agree (ok : RelyOk ops n a0.tmps.size) (inv : RInv ops n Ext w0 a0 fs ls a w) {i : Nat} (hin : i ≤ n) (t : Nat)
    (hearly : ∀ (j : Nat) (o : Oper), j < i → ops[j]? = some o → o.dst = some t → ls.getD j false = true)
    (hlater : ∀ (j : Nat) (o : Oper), i ≤ j → j < n → ops[j]? = some o → o.dst = some t → ls.getD j false = false) :
    (putsL a0 (ops.toList.take i) ((List.range i).map (useOf ops fs a))).tmps[t]? = a.tmps[t]? := by
  have hle := ok.le
  by_cases hw : ∃ (j : Nat) (o : Oper), j < i ∧ ops[j]? = some o ∧ o.dst = some t
  · obtain ⟨j, o, hj, ho, hd⟩ := hw
    have hdst := ok.dst j o (by omega) ho
    have ht : dstOf o = t := by have := hdst.1; rw [hd] at this; injection this with this; exact this.symm
    have htN : t < a0.tmps.size := by rw [← ht]; exact hdst.2
    have hget : (ops.toList.take i)[j]? = some o := by rw [List.getElem?_take_of_lt hj]; simpa using ho
    have hlen : ((List.range i).map (useOf ops fs a)).length = (ops.toList.take i).length := by simp; omega
    rw [putsL_at _ _ a0 j t o hlen hget hd htN (fun k p hk hne => ?_), valsAt a hj, useOf_val inv (by omega) (hearly j o hj ho hd)]
    · have htA : t < a.tmps.size := by rw [inv.tsize]; exact htN
      simp [valOf, ho, ht, htA]
    · have hki : k < i := by
        rcases Nat.lt_or_ge k i with h | h
        · exact h
        · rw [List.getElem?_eq_none (by simp; omega)] at hk; cases hk
      rw [List.getElem?_take_of_lt hki] at hk
      have hp : ops[k]? = some p := by simpa using hk
      rw [(ok.dst k p (by omega) hp).1]
      intro e
      injection e with e
      exact ok.own j k o p (by omega) (by omega) ho hp (Ne.symm hne) (by rw [e, ht])
  · rw [putsL_other _ _ _ t (fun j o hj hd => ?_)]
    · refine (inv.old t fun j o hj ho hd => ?_).symm
      rcases Nat.lt_or_ge j i with h | h
      · exact absurd ⟨j, o, h, ho, hd⟩ hw
      · exact hlater j o h hj ho hd
    · have hji : j < i := by
        rcases Nat.lt_or_ge j i with h | h
        · exact h
        · rw [List.getElem?_eq_none (by simp; omega)] at hj; cases hj
      rw [List.getElem?_take_of_lt hji] at hj
      exact hw ⟨j, o, hji, by simpa using hj, hd⟩

theorem rely_keep (ok : RelyOk ops n a0.tmps.size) (htrans : ∀ x y z, Ext x y → Ext y z → Ext x z) (hmono : ∀ (j : Nat) v x y, Ext x y → factAt fs j v x → factAt fs j v y)
    (inv : RInv ops n Ext w0 a0 fs ls a w) {i : Nat} {o : Oper} (hi : i ∈ Region.ready .any ops ls) (hin : i < n) (ho : ops[i]? = some o) (v : Value) (w' : World) (hf : factAt fs i v w') (he : Ext w w') :
    RInv ops n Ext w0 a0 fs (ls.setIfInBounds i true) (a.put o.dst v) w' := by
  obtain ⟨hd, hdN⟩ := ok.dst i o hin ho
  have hat : ∀ j, j ≠ i → (ls.setIfInBounds i true).getD j false = ls.getD j false := fun j hj => getD_set_ne false (Ne.symm hj)
  refine ⟨htrans _ _ _ inv.ext he, by rw [put_defers']; exact inv.defers, by rw [put_size]; exact inv.tsize, fun t ht => ?_, fun j hj hl => ?_, inv.head.set hi hin⟩
  · have hne : dstOf o ≠ t := by
      intro e
      have := ht i o hin ho (by rw [hd, e])
      have hu := (mem_ready.1 hi).1
      have hs : i < ls.size := by rw [inv.head.size]; exact (Array.getElem?_eq_some_iff.1 ho).1
      rw [show (ls.setIfInBounds i true).getD i false = true by simp [hs]] at this
      cases this
    rw [hd, put_tmps, Array.getElem?_setIfInBounds_ne hne]
    refine inv.old t fun j p hj hp hpd => ?_
    by_cases hji : j = i
    · subst hji
      exact getD_both (mem_ready.1 hi).1
    · rw [← hat j hji]; exact ht j p hj hp hpd
  · by_cases hji : j = i
    · subst hji
      have : valOf ops (a.put o.dst v) j = v := by
        have : dstOf o < a.tmps.size := by rw [inv.tsize]; exact hdN
        simp [valOf, ho, hd, put_tmps, this]
      rw [this]; exact hf
    · rw [hat j hji] at hl
      have h0 := hmono j _ _ _ he (inv.val j hj hl)
      have hjs : j < ops.size := by have := ok.le; omega
      have hp : ops[j]? = some ops[j] := by simp [hjs]
      have hne : dstOf o ≠ dstOf ops[j] := ok.own j i _ o hj hin hp ho hji
      have : valOf ops (a.put o.dst v) j = valOf ops a j := by
        simp [valOf, hp, hd, put_tmps, Array.getElem?_setIfInBounds_ne hne]
      rw [this]; exact h0

theorem wpOp_of_yield {o : Oper} {i : Nat} {K : Act → World → Prop} {Q : Exit → Act → World → Prop} (ho : ops[i]? = some o) (G : Fact) (hK : ∀ v w', G v w' → K (a.put o.dst v) w')
    (h : if Region.wanted o (yielded ops a.tmps) = true then Yield P G ((execOp a.eval o).run P w) else G undef w) : wpOp P ops Q i K a w := by
  unfold wpOp
  simp only [ho]
  split
  · rename_i hw
    rw [if_pos hw] at h
    refine .inl ?_
    unfold Oper.wp
    generalize (execOp a.eval o).run P w = r at h
    cases r with
    | ok x w' =>
      cases x <;> simp only [Yield] at h
      case value v => exact hK v w' h
      case skip => exact hK _ w' h
      case enter f args =>
        refine Calls.mono h ?_
        rintro e w'' ⟨v, rfl, hg⟩
        exact hK v w'' hg
    | halt x w' => exact h.elim
  · rename_i hw
    rw [if_neg hw] at h
    exact hK _ _ h

theorem rely_step {Fin : Act → World → Prop} {K : Act → World → Prop} {Q : Exit → Act → World → Prop} (ok : RelyOk ops n a0.tmps.size) (hrefl : ∀ x, Ext x x) (htrans : ∀ x y z, Ext x y → Ext y z → Ext x z)
    (hmono : ∀ (j : Nat) v x y, Ext x y → factAt fs j v x → factAt fs j v y) (hs : Steps P ops Ext w0 fs Fin [] a0 (ops.toList.take n))
    (inv : RInv ops n Ext w0 a0 fs ls a w) {i : Nat} (hi : i ∈ Region.ready .any ops ls) (hin : i < n)
    (hK : ∀ a' w', RInv ops n Ext w0 a0 fs (ls.setIfInBounds i true) a' w' → K a' w') : wpOp P ops Q i K a w := by
  obtain ⟨hu, o, ho, hall⟩ := mem_ready.1 hi
  have hle := ok.le
  have hlen : (ops.toList.take n).length = n := by simp; omega
  have h1 := steps_at _ _ _ hs i ((List.range i).map (useOf ops fs a)) (by simp) (by rw [hlen]; omega) (valsDet a i)
  have hget : (ops.toList.take n).drop i = o :: (ops.toList.take n).drop (i + 1) := by
    have hi' : i < (ops.toList.take n).length := by rw [hlen]; exact hin
    rw [List.drop_eq_getElem_cons hi']
    congr 1
    obtain ⟨hlt, he⟩ := Array.getElem?_eq_some_iff.1 ho
    simp [he]
  rw [hget, List.take_take, Nat.min_eq_left (by omega), List.nil_append] at h1
  have hstep := h1.1 w inv.ext (facts_of _ fun j hj => by
    obtain ⟨e, he, hb, rfl⟩ := of_boundOn hj
    have hji := ok.low i o hin ho e.on hj
    rw [valsAt a hji, useOf_val inv (by omega) (hall e he hb)]
    exact inv.val e.on (by omega) (hall e he hb))
  rw [valsLen] at hstep
  -- agreement at what operation i looks at
  have hag : ∀ t ∈ o.looksAt ops, (putsL a0 (ops.toList.take i) ((List.range i).map (useOf ops fs a))).tmps[t]? = a.tmps[t]? := fun t ht =>
    rely_agree ok inv (by omega) t (fun j p hj hp hpd => by
      have hpt : dstOf p = t := by have := (ok.dst j p (by omega) hp).1; rw [hpd] at this; injection this with this; exact this.symm
      obtain ⟨ed, hed, hbb, hon⟩ := of_boundOn (ok.new i j o p hj hin ho hp (by rw [hpt]; exact ht))
      have := hall ed hed hbb
      rw [hon] at this; exact this) fun j p hj hjn hp hpd => by
      rcases Nat.eq_or_lt_of_le hj with e | e
      · subst e; exact getD_both hu
      · have hpt : dstOf p = t := by have := (ok.dst j p hjn hp).1; rw [hpd] at this; injection this with this; exact this.symm
        have hb := ok.read i j o p e hjn ho hp (by rw [hpt]; exact ht)
        obtain ⟨ed, hed, hbb, hon⟩ := of_boundOn hb
        cases hl : ls.getD j false with
        | false => rfl
        | true =>
          have := inv.head.closed j p hp hl ed hed hbb
          rw [hon, getD_both hu] at this
          cases this
  have hexec : execOp (putsL a0 (ops.toList.take i) ((List.range i).map (useOf ops fs a))).eval o = execOp a.eval o := by
    refine execOp_congr o (fun cs b => Region.noSelect_spec ok.sel i o cs b ho) fun x hx => ?_
    cases x with
    | tmp t =>
      have := hag t (List.mem_append_left _ (List.mem_filterMap.2 ⟨.tmp t, by simpa using hx, rfl⟩))
      simp only [Act.eval, Array.getD_eq_getD_getElem?, this]
    | _ => rfl
  have hwant : Region.wanted o (yielded ops (putsL a0 (ops.toList.take i) ((List.range i).map (useOf ops fs a))).tmps) = Region.wanted o (yielded ops a.tmps) := by
    unfold Region.wanted
    cases hg : o.guard with
    | none => rfl
    | some gw =>
      obtain ⟨g, want⟩ := gw
      have hy : yielded ops (putsL a0 (ops.toList.take i) ((List.range i).map (useOf ops fs a))).tmps g = yielded ops a.tmps g := by
        unfold yielded
        cases ht : (ops[g]?).bind (·.dst) with
        | none => rfl
        | some t =>
          have := hag t (by simp [Oper.looksAt, hg, ht])
          simp only [Option.bind_some, this]
      simp only [hy]
  rw [hexec, hwant] at hstep
  refine wpOp_of_yield ho (fun v w' => factAt fs i v w' ∧ Ext w w') (fun v w' hg => hK _ _ (rely_keep ok htrans hmono inv hi hin ho v w' hg.1 hg.2)) ?_
  split
  · rename_i hw; rw [if_pos hw] at hstep; exact hstep
  · rename_i hw; rw [if_neg hw] at hstep; exact ⟨hstep, hrefl _⟩

def left (ls : Array Bool) (n : Nat) : Nat := (List.range n).countP fun i => !ls.getD i true
theorem left_set : ∀ (n i : Nat) (ls : Array Bool), i < n → ls.getD i true = false → left (ls.setIfInBounds i true) n + 1 = left ls n
  | 0, _, _, h, _ => by omega
  | n + 1, i, ls, h, hu => by
    unfold left
    rw [List.range_succ, List.countP_append, List.countP_append]
    by_cases hin : i = n
    · subst hin
      have hs : i < ls.size := by
        rcases Nat.lt_or_ge i ls.size with h' | h'
        · exact h'
        · simp [Array.getElem?_eq_none h'] at hu
      have h1 : (List.range i).countP (fun j => !(ls.setIfInBounds i true).getD j true) = (List.range i).countP fun j => !ls.getD j true :=
        List.countP_congr fun j hj => by rw [getD_set_ne true (by have := List.mem_range.1 hj; omega)]
      have h2 : (ls.setIfInBounds i true).getD i true = true := by simp [hs]
      rw [h1, List.countP_singleton, List.countP_singleton, h2, hu]
      simp
    · have := left_set n i ls (by omega) hu
      unfold left at this
      rw [List.countP_singleton, List.countP_singleton, getD_set_ne true hin]
      omega
theorem left_zero {n : Nat} {ls : Array Bool} (h : left ls n = 0) : ∀ i, i < n → ls.getD i true = true := fun i hi => by
  unfold left at h
  rw [List.countP_eq_zero] at h
  simpa using h i (List.mem_range.2 hi)
theorem left_pos {n : Nat} {ls : Array Bool} (h : left ls n ≠ 0) : ∃ i, i < n ∧ ls.getD i true = false ∧ ∀ j, j < i → ls.getD j true = true := by
  have h0 : ∃ i, i < n ∧ ls.getD i true = false := by
    have := List.countP_pos_iff.1 (Nat.pos_of_ne_zero h)
    obtain ⟨i, hi, hv⟩ := this
    exact ⟨i, List.mem_range.1 hi, by simpa using hv⟩
  obtain ⟨i, hi, hv⟩ := h0
  induction i using Nat.strongRecOn with
  | _ i ih =>
    by_cases hex : ∃ j, j < i ∧ ls.getD j true = false
    · obtain ⟨j, hj, hjv⟩ := hex
      exact ih j hj (by omega) hjv
    · exact ⟨i, hi, hv, fun j hj => by
        cases hl : ls.getD j true with
        | true => rfl
        | false => exact absurd ⟨j, hj, hl⟩ hex⟩

theorem getD_flip {ls : Array Bool} {i : Nat} (hs : i < ls.size) (h : ls.getD i true = true) : ls.getD i false = true := by
  simp [hs] at h ⊢; exact h

theorem facts_range {fs : List Spec} {vs : List Value} {w : World} (h : ∀ j, j < vs.length → factAt fs j (vs.getD j undef) w) : Facts fs vs w (List.range vs.length) :=
  facts_of _ fun j hj => h j (List.mem_range.1 hj)

theorem rely_all {Q : Exit → Act → World → Prop} (ok : RelyOk ops n a0.tmps.size) (hrefl : ∀ x, Ext x x) (htrans : ∀ x y z, Ext x y → Ext y z → Ext x z)
    (hmono : ∀ (j : Nat) v x y, Ext x y → factAt fs j v x → factAt fs j v y) (hs : Steps P ops Ext w0 fs (fun a w => wpList P ops Q (ops.toList.drop n) a w) [] a0 (ops.toList.take n)) :
    ∀ (f : Nat) (ls : Array Bool) (a : Act) (w : World), RInv ops n Ext w0 a0 fs ls a w → left ls n = f → wpAny P .any ops Q (f + (ops.size - n)) ls a w
  | 0, ls, a, w, inv, hf => by
    have hle := ok.le
    have hall := left_zero hf
    have hls : ls = (Array.range ops.size).map fun i => decide (i < n) := by
      apply Array.ext
      · simp [inv.head.size]
      · intro j h1 h2
        have hjs : j < ops.size := by rw [← inv.head.size]; exact h1
        rcases Nat.lt_or_ge j n with h | h
        · have := hall j h
          simp [h1] at this
          simp [this, h]
        · have := inv.head.tail j h hjs
          simp [h1] at this
          simp [this, show ¬ j < n by omega]
    have hlen : (ops.toList.take n).length = n := by simp; omega
    have h1 := steps_at _ _ _ hs n ((List.range n).map (useOf ops fs a)) (by simp) (by rw [hlen]; exact Nat.le_refl _) (valsDet a n)
    have e1 : (ops.toList.take n).drop n = [] := List.drop_of_length_le (by rw [hlen]; exact Nat.le_refl _)
    have e2 : (ops.toList.take n).take n = ops.toList.take n := by rw [List.take_take, Nat.min_self]
    rw [e1, e2, List.nil_append] at h1
    have hval : ∀ j, j < n → factAt fs j (valOf ops a j) w := fun j hj => inv.val j hj (getD_flip (by rw [inv.head.size]; omega) (hall j hj))
    have h2 := h1 w inv.ext (facts_range fun j hj => by
      have hjn : j < n := by simpa using hj
      rw [valsAt a hjn, useOf_val inv hjn (getD_flip (by rw [inv.head.size]; omega) (hall j hjn))]; exact hval j hjn)
    have ha : putsL a0 (ops.toList.take n) ((List.range n).map (useOf ops fs a)) = a := by
      have htm : (putsL a0 (ops.toList.take n) ((List.range n).map (useOf ops fs a))).tmps = a.tmps := by
        apply Array.ext_getElem?
        intro t
        exact rely_agree ok inv (Nat.le_refl _) t (fun j o hj _ _ => getD_flip (by rw [inv.head.size]; omega) (hall j hj)) fun j o hj hjn => by omega
      have hde : (putsL a0 (ops.toList.take n) ((List.range n).map (useOf ops fs a))).defers = a.defers := by rw [putsL_defers, inv.defers]
      cases hA : putsL a0 (ops.toList.take n) ((List.range n).map (useOf ops fs a)) with
      | mk t d => cases a; rw [hA] at htm hde; simp only at htm hde; rw [htm, hde]
    rw [ha] at h2
    rw [Nat.zero_add]
    have := wpAny_of_seq (md := .any) (Q' := Q) (ops.toList.drop n) n ls a w (fun j => by simp [List.getElem?_drop]) (by rw [hls]; simpa using ok.seq) h2
    simpa using this
  | f + 1, ls, a, w, inv, hf => by
    have hle := ok.le
    obtain ⟨i, hin, hu, hlow⟩ := left_pos (show left ls n ≠ 0 by omega)
    have hsz : i < ops.size := by omega
    have ho : ops[i]? = some ops[i] := by simp [hsz]
    have hr : i ∈ Region.ready .any ops ls := mem_ready.2 ⟨hu, ops[i], ho, fun e he hb => by
      have hl := ok.low i _ hin ho e.on (mem_boundOn he hb)
      exact getD_flip (by rw [inv.head.size]; omega) (hlow e.on hl)⟩
    rw [show f + 1 + (ops.size - n) = (f + (ops.size - n)) + 1 by omega]
    refine ⟨fun h0 => (by rw [h0] at hr; cases hr), fun j hj => ?_⟩
    have hjn : j < n := by
      rcases Nat.lt_or_ge j n with h | h
      · exact h
      · rcases ok.tail with e | ⟨hs1, hc1⟩
        · obtain ⟨_, oj, hoj, _⟩ := mem_ready.1 hj
          have := (Array.getElem?_eq_some_iff.1 hoj).1
          omega
        · rcases Nat.eq_or_lt_of_le hle with e | e
          · obtain ⟨_, oj, hoj, _⟩ := mem_ready.1 hj
            have := (Array.getElem?_eq_some_iff.1 hoj).1
            omega
          · exact absurd hj (tail_waits hs1 hc1 e inv.head _ i rfl hin hu j h)
    exact rely_step ok hrefl htrans hmono hs inv hj hjn fun a' w' inv' => by
      have hl := left_set n j ls hjn (mem_ready.1 hj).1
      exact rely_all ok hrefl htrans hmono hs f _ a' w' inv' (by omega)
end
end

/-- **A region that draws its order: its first n operations, which may make memory, in whatever order; the others behind them in one.** -/
theorem wp_region_rely {P : Program} {id : Nat} {Q : Exit → Act → World → Prop} {a : Act} {w : World} {l : List Oper} (n : Nat) (Ext : World → World → Prop) (fs : List Spec) (hm : P.follows .mixedOrders = true)
    (hB : relyB l.toArray n a.tmps.size = true) (hrefl : ∀ x, Ext x x) (htrans : ∀ x y z, Ext x y → Ext y z → Ext x z) (hmono : ∀ (j : Nat) v x y, Ext x y → factAt fs j v x → factAt fs j v y)
    (hs : Steps P l.toArray Ext w.drew fs (fun a w => wpList P l.toArray Q (l.drop n) a w) [] a (l.take n)) : (Code.region id l.toArray true).wp P Q a w := by
  have ok := relyOk_of hB
  refine wp_region_any hm ?_
  have inv0 : RInv l.toArray n Ext w.drew a fs (Array.replicate l.toArray.size false) a w.drew := by
    refine ⟨hrefl _, rfl, rfl, fun _ _ => rfl, fun j _ hl => ?_, ⟨by simp, fun j oj _ hl => ?_, fun t _ ht => getD_in (by simpa using ht) (getD_replicate_false _ _)⟩⟩
    · rw [getD_replicate_false] at hl; cases hl
    · rw [getD_replicate_false] at hl; cases hl
  have hleft : left (Array.replicate l.toArray.size false) n = n := by
    unfold left
    have h := ok.le
    have : ∀ m, m ≤ l.toArray.size → (List.range m).countP (fun i => !(Array.replicate l.toArray.size false).getD i true) = m := by
      intro m
      induction m with
      | zero => intro _; rfl
      | succ m ih =>
        intro hm
        rw [List.range_succ, List.countP_append, ih (by omega), List.countP_singleton]
        have : (Array.replicate l.toArray.size false).getD m true = false := getD_in (by simp at hm ⊢; omega) (getD_replicate_false _ _)
        rw [this]; rfl
    exact this n h
  have := rely_all (Q := Q) ok hrefl htrans hmono (by simpa using hs) n _ a w.drew inv0 hleft
  rw [show n + (l.toArray.size - n) = l.toArray.size by have := ok.le; omega] at this
  exact this

/-- What was there is as it was; there may be new blocks. -/
def Grow (x y : World) : Prop := Go.RowKit.Below x.heap.size x y
namespace Grow
open Go.RowKit
theorem refl (x : World) : Grow x x := Below.refl _ _
theorem trans {x y z : World} (h : Grow x y) (k : Grow y z) : Grow x z := Below.trans h (k.mono h.size)
theorem alloc (x : World) (o : Obj) : Grow x (x.alloc o) := (Below.refl _ _).alloc (Nat.le_refl _) o
theorem drewN (x : World) (n : Nat) : Grow x (x.drewN n) := below_drewN (Below.refl _ _) n
theorem drew (x : World) : Grow x x.drew := (Below.refl _ _).drew
theorem size {x y : World} (h : Grow x y) : x.heap.size ≤ y.heap.size := Below.size h
theorem cells {x y : World} (h : Grow x y) : (∀ b o, b < x.heap.size → y.cell? ⟨b, o, none⟩ = x.cell? ⟨b, o, none⟩) ∧ (∀ b o, b < x.heap.size → y.frozen? ⟨b, o, none⟩ = x.frozen? ⟨b, o, none⟩) := bcell h
end Grow
def Mono (f : Spec) : Prop := ∀ v x y, Grow x y → f.fact v x → f.fact v y
theorem is_mono (v : Value) : Mono (is v) := fun _ _ _ _ h => h
def MonoAll (fs : List Spec) : Prop := ∀ j v x y, Grow x y → factAt fs j v x → factAt fs j v y
theorem mono_nil : MonoAll [] := fun j _ _ _ _ h => by cases j <;> exact h
theorem mono_cons {f : Spec} {fs : List Spec} (h : Mono f) (k : MonoAll fs) : MonoAll (f :: fs)
  | 0 => h
  | j + 1 => k j
/-- A slice that reads as a list. -/
def isCells (n c : Nat) (l : List Value) : Fact := fun v w => ∃ q, v = .slice q n c ∧ Cells w q l
theorem isCells_mono (n c : Nat) (l : List Value) : Mono (such (isCells n c l)) := fun _ _ _ h ⟨q, hv, hc⟩ => ⟨q, hv, hc.below h⟩
theorem facts_get {fs : List Spec} {vs : List Value} {w : World} {j : Nat} : ∀ {js : List Nat}, Facts fs vs w js → j ∈ js → factAt fs j (vs.getD j undef) w
  | [], _, h => by simp at h
  | k :: js, hF, h => by
    rcases List.mem_cons.1 h with rfl | h
    · exact hF.1
    · exact facts_get hF.2 h
theorem wp_rely {P : Program} {id : Nat} {Q : Exit → Act → World → Prop} {a : Act} {w : World} {l : List Oper} (n : Nat) (fs : List Spec) (hm : P.follows .mixedOrders = true)
    (hB : relyB l.toArray n a.tmps.size = true) (hmono : MonoAll fs)
    (hs : Steps P l.toArray Grow w.drew fs (fun a w => wpList P l.toArray Q (l.drop n) a w) [] a (l.take n)) : (Code.region id l.toArray true).wp P Q a w :=
  wp_region_rely n Grow fs hm hB Grow.refl (fun _ _ _ => Grow.trans) hmono hs
theorem wanted_guard {o : Oper} {ops : Array Oper} {tmps : Array Value} {j : Nat} {b : Bool} (hg : o.guard = some (j, b)) (hy : yielded ops tmps j = some b) : Region.wanted o (yielded ops tmps) = true := by
  simp [Region.wanted, hg, hy]
theorem not_wanted {o : Oper} {ops : Array Oper} {tmps : Array Value} {j : Nat} {b : Bool} (hg : o.guard = some (j, b)) (hy : yielded ops tmps j = some (!b)) : ¬ Region.wanted o (yielded ops tmps) = true := by
  cases b <;> simp [Region.wanted, hg, hy]
theorem put_lit (l : List Value) (d : List Deferred) (k : Nat) (v : Value) : Act.put ⟨l.toArray, d⟩ (some k) v = ⟨(l.set k v).toArray, d⟩ := by simp [Act.put]
end Go.Proofs.Yteholdifeilkkaa
