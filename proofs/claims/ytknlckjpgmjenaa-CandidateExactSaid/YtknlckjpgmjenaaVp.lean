/- The abstract machine: words that printed proofs use. -/
import Derived.Test.YtknlckjpgmjenaaVo
namespace Go.Proofs.Ytknlckjpgmjenaa
set_option linter.unusedVariables false
namespace Vm
def iand (k : IntKind) (x y : Int) : Int := k.wrap (BitVec.ofInt k.bits x &&& BitVec.ofInt k.bits y).toNat
def ior (k : IntKind) (x y : Int) : Int := k.wrap (BitVec.ofInt k.bits x ||| BitVec.ofInt k.bits y).toNat
def ixor (k : IntKind) (x y : Int) : Int := k.wrap (BitVec.ofInt k.bits x ^^^ BitVec.ofInt k.bits y).toNat
def iandn (k : IntKind) (x y : Int) : Int := k.wrap (BitVec.ofInt k.bits x &&& ~~~BitVec.ofInt k.bits y).toNat
def ishl (k : IntKind) (x y : Int) : Int := k.wrap (x * 2 ^ min y.toNat k.bits)
def ishr (k : IntKind) (x y : Int) : Int := x.fdiv (2 ^ min y.toNat k.bits)
def inot (k : IntKind) (x : Int) : Int := k.wrap (BitVec.ofInt k.bits (if k.signed then -1 else k.max) ^^^ BitVec.ofInt k.bits x).toNat
/-- A list, as a row's contents. -/
def rowL {τ : Type} (d : τ) (enc : τ → List T) (xs : List τ) : Nat → Nat → T := fun i j => (enc (xs.getD i d)).getD j (.v undef)
/-- A string's bytes as numbers; a string of such numbers. -/
def bytesL (s : ByteArray) : List Int := s.data.toList.map fun b => (b.toNat : Int)
theorem bytesL_length (s : ByteArray) : s.size = (bytesL s).length := by
  rw [bytesL, List.length_map, Array.length_toList]; rfl
theorem bytesL_row {s : ByteArray} : ∀ i, i < s.size → ∀ j, j < 1 → bytesT s i j = rowL (0 : Int) (fun x => [.v (.int .u8 x)]) (bytesL s) i j := by
  intro i hi j hj
  obtain rfl : j = 0 := by omega
  simp only [bytesT, rowL, bytesL, List.getD_eq_getElem?_getD, List.getElem?_map]
  cases s.data.toList[i]? <;> rfl
def strOf (xs : List Int) : ByteArray := bytesOf xs.length (fun i => xs.getD i 0)
/-- A string of some of these numbers. -/
def strP (o n : Nat) (xs : List Int) : ByteArray := bytesOf n (fun i => xs.getD (o + i) 0)
theorem short_row {τ : Type} {d : τ} {enc : τ → List T} {xs : List τ} {m : Nat} (i j : Nat) (h : i < (xs.take m).length) : rowL d enc xs i j = rowL d enc (xs.take m) i j := by
  unfold rowL
  rw [List.length_take] at h
  simp only [List.getD_eq_getElem?_getD]
  rw [List.getElem?_take_of_lt (by omega)]
/-- The same state, its lengths written otherwise. -/
theorem conv_len {c : Fx} {S S' : St} (h : S = S') : Conv c S S' := h ▸ Conv.refl c S
open Classical in
/-- What two ways agree on, where it is not known which of them is gone (the first only if p). -/
noncomputable def orBoth {α : Type} (p : Prop) (A B : Option α) : Option α := if p → A = B then B else none
theorem orBoth_some {α : Type} {p : Prop} {A B : Option α} {r : α} (h : orBoth p A B = some r) : (p → A = some r) ∧ B = some r := by
  unfold orBoth at h
  split at h
  · rename_i k
    exact ⟨fun hp => (k hp).trans h, h⟩
  · cases h
theorem orBoth_eq {α : Type} {p : Prop} {A B : Option α} (h : p → A = B) : orBoth p A B = B := by
  unfold orBoth; rw [if_pos h]
def allV : List T → Prop
  | [] => True
  | t :: l => isV t ∧ allV l
theorem allV_getD : ∀ {l : List T} (j : Nat), allV l → isV (l.getD j (.v undef))
  | [], _, _ => trivial
  | t :: l, 0, h => h.1
  | t :: l, j + 1, h => by simpa using allV_getD (l := l) j h.2
theorem rowL_flat {τ : Type} {d : τ} {enc : τ → List T} (h : ∀ x, allV (enc x)) (xs : List τ) (sz n : Nat) : ∀ i, i < n → ∀ j, j < sz → isV (rowL d enc xs i j) := fun i _ j _ => allV_getD j (h _)
section
variable {τ : Type} {d : τ} {enc : τ → List T}
/-- make -/
theorem mk_row {n sz : Nat} {z : Nat → T} {y : τ} (hz : ∀ j, j < sz → TLe (z j) ((enc y).getD j (.v undef))) : n = (List.replicate n y).length ∧ ∀ i, i < (List.replicate n y).length → ∀ j, j < sz → TLe (z j) (rowL d enc (List.replicate n y) i j) := by
  refine ⟨by simp, fun i hi j hj => ?_⟩
  rw [List.length_replicate] at hi
  have h := hz j hj
  rw [List.getD_eq_getElem?_getD] at h
  simpa only [rowL, List.getD_eq_getElem?_getD, List.getElem?_replicate, if_pos hi, Option.getD_some] using h
/-- a store of a whole element, or of a part of one -/
theorem set_rowN {xs : List τ} {n e sub sz : Nat} {tl : List T} {y : τ} (hn : n = xs.length) (he : e < n) (hy : ∀ j, j < sz → TLe (if sub ≤ j ∧ j < sub + tl.length then tl.getD (j - sub) (.v undef) else (enc (xs.getD e d)).getD j (.v undef)) ((enc y).getD j (.v undef))) :
    n = n ∧ ∀ i, i < n → ∀ j, j < sz → TLe (updRow (rowL d enc xs) e sub tl i j) (rowL d enc (xs.set e y) i j) := by
  subst hn
  refine ⟨rfl, fun i hi j hj => ?_⟩
  simp only [updRow, rowL]
  by_cases h : i = e
  · subst h
    have h1 : (xs.set i y).getD i d = y := by simp [List.getD_eq_getElem?_getD, he]
    rw [h1]
    have h3 := hy j hj
    by_cases h2 : sub ≤ j ∧ j < sub + tl.length
    · rw [if_pos ⟨rfl, h2⟩]; rw [if_pos h2] at h3; exact h3
    · rw [if_neg (fun x => h2 x.2)]; rw [if_neg h2] at h3; exact h3
  · have h1 : (xs.set e y).getD i d = xs.getD i d := by simp [List.getD_eq_getElem?_getD, Ne.symm h]
    rw [if_neg (fun x => h x.1), h1]
    exact TLe.refl _
/-- rows told alike -/
theorem rowT {f g : Nat → Nat → T} {n m sz : Nat} (h : n = m ∧ ∀ i, i < m → ∀ j, j < sz → f i j = g i j) : n = m ∧ ∀ i, i < m → ∀ j, j < sz → TLe (f i j) (g i j) := ⟨h.1, fun i hi j hj => by rw [h.2 i hi j hj]; exact TLe.refl _⟩
theorem app_row {xs ys : List τ} {n m sz : Nat} {f g : Nat → Nat → T} (hn : n = xs.length) (hm : m = ys.length) (hf : ∀ i, i < n → ∀ j, j < sz → f i j = rowL d enc xs i j) (hg : ∀ i, i < m → ∀ j, j < sz → g i j = rowL d enc ys i j) :
    n + m = (xs ++ ys).length ∧ ∀ i, i < (xs ++ ys).length → ∀ j, j < sz → appRow n f g i j = rowL d enc (xs ++ ys) i j := by
  subst hn; subst hm
  refine ⟨by simp, fun i hi j hj => ?_⟩
  rw [List.length_append] at hi
  simp only [appRow]
  by_cases h : i < xs.length
  · rw [if_pos h, hf i h j hj]
    simp only [rowL, List.getD_eq_getElem?_getD, List.getElem?_append_left h]
  · rw [if_neg h, hg (i - xs.length) (by omega) j hj]
    simp only [rowL, List.getD_eq_getElem?_getD, List.getElem?_append_right (Nat.le_of_not_lt h)]
theorem row_rfl {f : Nat → Nat → T} {n sz : Nat} : ∀ i, i < n → ∀ j, j < sz → f i j = f i j := fun _ _ _ _ => rfl
theorem row_nil {f g : Nat → Nat → T} {sz : Nat} : ∀ i, i < 0 → ∀ j, j < sz → f i j = g i j := fun _ h => absurd h (Nat.not_lt_zero _)
/-- a part of a list -/
theorem sub_row {xs : List τ} {l n m sz : Nat} (h : l ≤ m ∧ m ≤ xs.length) (hn : n = m - l) : n = ((xs.drop l).take (m - l)).length ∧ ∀ i, i < ((xs.drop l).take (m - l)).length → ∀ j, j < sz → rowL d enc xs (l + i) j = rowL d enc ((xs.drop l).take (m - l)) i j := by
  have hlen : ((xs.drop l).take (m - l)).length = m - l := by simp; omega
  refine ⟨by rw [hlen, hn], fun i hi j hj => ?_⟩
  rw [hlen] at hi
  simp only [rowL]
  congr 2
  rw [List.getD_eq_getElem?_getD, List.getD_eq_getElem?_getD, List.getElem?_take, if_pos hi, List.getElem?_drop]
/-- a list that is written out -/
def litAll (P : Nat → Nat → Prop) (sz : Nat) : Nat → Prop
  | 0 => True
  | n + 1 => litAll P sz n ∧ litRow P n sz
where litRow (P : Nat → Nat → Prop) (i : Nat) : Nat → Prop
  | 0 => True
  | j + 1 => litRow P i j ∧ P i j
theorem lit_row {P : Nat → Nat → Prop} {sz : Nat} : ∀ {n : Nat}, litAll P sz n → ∀ i, i < n → ∀ j, j < sz → P i j
  | 0, _, i, h, _, _ => by omega
  | n + 1, hp, i, hi, j, hj => by
    by_cases e : i = n
    · subst e
      have : ∀ m, litAll.litRow P i m → ∀ j, j < m → P i j := by
        intro m
        induction m with
        | zero => intro _ j h; omega
        | succ m ih =>
          intro h j hj
          by_cases e : j = m
          · subst e; exact h.2
          · exact ih h.1 j (by omega)
      exact this sz hp.2 j hj
    · exact lit_row hp.1 i (by omega) j hj
end
theorem ArgLe.nil {n sz : Nat} {f : Nat → Nat → T} (hn : n = 0) : ArgLe (.c (.t (.v (.slice none 0 0)))) (.c (.t (.tree n sz f))) := fun w ok ρ v h => by
  obtain ⟨rfl, _⟩ := h
  subst hn
  exact ⟨none, 0, rfl, Nat.le_refl _, fun i hi => by omega⟩
def CAle (x y : C) : Prop := ∀ (w : World) (ok : Nat → Prop) (ρ : Ren) (v : Value), RC w ok ρ x v → RC w ok ρ y v
theorem CAle.refl (x : C) : CAle x x := fun _ _ _ _ h => h
theorem CAle.nil {n sz : Nat} {f : Nat → Nat → T} (hn : n = 0) : CAle (.t (.v (.slice none 0 0))) (.t (.tree n sz f)) := fun w ok ρ v h => by
  obtain ⟨rfl, _⟩ := h
  subst hn
  exact ⟨none, 0, rfl, Nat.le_refl _, fun i hi => by omega⟩
theorem CAle.tree {n m sz : Nat} {f g : Nat → Nat → T} (h : n = m ∧ ∀ i, i < m → ∀ j, j < sz → f i j = g i j) : CAle (.t (.tree n sz f)) (.t (.tree m sz g)) := fun w ok ρ v k => by
  obtain ⟨rfl, hg⟩ := h
  obtain ⟨q, c, rfl, h1, h2⟩ := k
  exact ⟨q, c, rfl, h1, fun i hi j hj => let ⟨b, o, x, a1, a2, a3, a4⟩ := h2 i hi j hj; ⟨b, o, x, a1, a2, a3, by rw [← hg i hi j hj]; exact a4⟩⟩
theorem ArgLe.c {x y : C} (h : CAle x y) : ArgLe (.c x) (.c y) := fun w ok ρ v k => h w ok ρ v k
theorem ArgLe.agg {l m : List C} (h : All2 CAle l m) : ArgLe (.agg l) (.agg m) := fun w ok ρ v ⟨ys, h1, h2⟩ => ⟨ys, h1, All2.comp (fun x y v k1 k2 => k1 w ok ρ v k2) h h2⟩
theorem CAle.cle {h : Hp} {x y : C} (k : CAle x y) : CLe h x y := fun _ _ _ _ ρ _ _ w _ v hv => k w _ ρ v hv
theorem CLe.bool {h : Hp} {b c : Bool} (e : b = c) : CLe h (.t (.v (.bool b))) (.t (.v (.bool c))) := by subst e; exact CLe.refl _ _
def memB : List Nat → Nat → Bool
  | [], _ => false
  | k :: l, i => Nat.beq k i || memB l i
/-- What need not be known any more is forgotten. -/
def cutSt (slots ids : List Nat) (S : St) : St := ⟨keepL (memB slots) S.tm, keepL (memB ids) S.h, S.n⟩
theorem conv_cut {c : Fx} (slots ids : List Nat) (S : St) : Conv c S (cutSt slots ids S) := fun ρ a w R =>
  ⟨ρ, R.weaken (fun t av ht => by
      simp only [cutSt] at ht
      rw [look_keep] at ht
      split at ht
      · exact ht
      · cases ht) (fun i b hb => by
      simp only [cutSt] at hb
      rw [look_keep] at hb
      split at hb
      · exact hb
      · cases hb)⟩
def cutRun (slots ids : List Nat) : Option (St × List Prop) → Option (St × List Prop)
  | some (S, ps) => some (cutSt slots ids S, ps)
  | none => none
theorem cutRun_some {slots ids : List Nat} {q : Option (St × List Prop)} {S' : St} {ps : List Prop} (e : cutRun slots ids q = some (S', ps)) : ∃ S, q = some (S, ps) ∧ S' = cutSt slots ids S := by
  cases q with
  | none => cases e
  | some p =>
    obtain ⟨S, qs⟩ := p
    simp only [cutRun, Option.some.injEq, Prod.mk.injEq] at e
    exact ⟨S, by rw [e.2], e.1.symm⟩
theorem AW.reg {c : Fx} {S : St} {Q : Exit → St → Prop} {tt : TT} (hT : TTok c.P tt) {id : Nat} {ops : List Oper} (slots ids : List Nat) (xs : List Hi) (S' : St) (ps : List Prop) (hds : dstB ops c.nt = true) (e : cutRun slots ids (runOps c.P tt ops ops xs S) = some (S', ps)) (hp : AllP ps) (hQ : Q .normal S') : AW c S (.region id ops.toArray false) Q := by
  obtain ⟨S1, h1, rfl⟩ := cutRun_some e
  exact AW.post (AW.region hT hds h1 hp ⟨_, conv_cut slots ids S1, hQ⟩)
theorem AW.regD {c : Fx} {S : St} {Q : Exit → St → Prop} {tt : TT} (hT : TTok c.P tt) (hm : c.P.follows .mixedOrders = true) {id : Nat} {ops : List Oper} (masks : List Nat) (wk : List (List Nat)) (slots ids : List Nat) (xs : List Hi) (S' : St) (ps : List Prop) (hds : dstB ops c.nt = true)
    (e : cutRun slots ids (drawRun c.P tt ops masks wk xs S) = some (S', ps)) (hp : AllP ps) (hQ : Q .normal S') : AW c S (.region id ops.toArray true) Q := by
  obtain ⟨S1, h1, rfl⟩ := cutRun_some e
  exact AW.post (AW.regionD hT hm hds h1 hp ⟨_, conv_cut slots ids S1, hQ⟩)
theorem AW.thenQ_exit {c : Fx} {y : Code} {Q : Exit → St → Prop} {i : Nat} {S : St} (h : Q (.exit i) S) : AW.thenQ c y Q (.exit i) S := h
theorem AW.thenQ_ret {c : Fx} {y : Code} {Q : Exit → St → Prop} {S : St} (h : Q .ret S) : AW.thenQ c y Q .ret S := h
theorem AW.thenQ_normal {c : Fx} {y : Code} {Q : Exit → St → Prop} {S : St} (h : AW c S y Q) : AW.thenQ c y Q .normal S := h
theorem AW.noG_normal {Q : Exit → St → Prop} {S : St} (h : Q .normal S) : AW.noG Q .normal S := h
theorem AW.noG_ret {Q : Exit → St → Prop} {S : St} (h : Q .ret S) : AW.noG Q .ret S := h
theorem AW.noG_exit {Q : Exit → St → Prop} {i : Nat} {S : St} (h : Q (.exit i) S) : AW.noG Q (.exit i) S := h
theorem AW.inBlock_ret {Q : Exit → St → Prop} {id : Nat} {S : St} (h : Q .ret S) : AW.inBlock id Q .ret S := h
theorem AW.inBlock_normal {Q : Exit → St → Prop} {id : Nat} {S : St} (h : Q .normal S) : AW.inBlock id Q .normal S := h
theorem joinQ_exit {ι : Type} {c : Fx} {st : ι → St} {k : ι → Prop} {Q : Exit → St → Prop} {i : Nat} {S : St} (h : Q (.exit i) S) : joinQ c st k Q (.exit i) S := h
theorem joinQ_ret {ι : Type} {c : Fx} {st : ι → St} {k : ι → Prop} {Q : Exit → St → Prop} {S : St} (h : Q .ret S) : joinQ c st k Q .ret S := h
theorem joinQ_leaf {ι : Type} {c : Fx} {st : ι → St} {k : ι → Prop} {Q : Exit → St → Prop} {S : St} (i : ι) (h : k i) (hc : Conv c S (st i)) : joinQ c st k Q .normal S := ⟨i, h, hc⟩
def loopQ {σ τ : Type} (c : Fx) (st : σ → St) (out : τ → Exit × St) (o : σ ⊕ τ) : Exit → St → Prop := fun e S => match o with
  | .inl s => e = .normal ∧ Conv c S (st s)
  | .inr t => e = (out t).1 ∧ Conv c S (out t).2
theorem loopQ_next {σ τ : Type} {c : Fx} {st : σ → St} {out : τ → Exit × St} {s : σ} {S : St} (h : Conv c S (st s)) : loopQ c st out (.inl s) .normal S := ⟨rfl, h⟩
theorem loopQ_out {σ τ : Type} {c : Fx} {st : σ → St} {out : τ → Exit × St} {t : τ} {e : Exit} {S : St} (he : e = (out t).1) (h : Conv c S (out t).2) : loopQ c st out (.inr t) e S := ⟨he, h⟩
def notNormal : Exit → Prop
  | .normal => False
  | _ => True
theorem AW.loop2 {c : Fx} {Q : Exit → St → Prop} {σ τ : Type} {step : σ → Option (σ ⊕ τ)} {s0 : σ} {t : τ} {body : Code} (st : σ → St) (out : τ → Exit × St) (hl : Vm.loop step s0 = some t) (hne : ∀ t, notNormal (out t).1)
    (hbody : ∀ s o, step s = some o → AW c (st s) body (loopQ c st out o)) (hA : Q (out t).1 (out t).2) : AW c (st s0) (.loop body) Q := by
  refine AW.post (AW.loop st hl fun s o ho => AW.mono (hbody s o ho) fun e S h => ?_)
  cases o with
  | inl s' => exact h
  | inr t' =>
    obtain ⟨he, hc⟩ := h
    intro ht
    subst ht
    have hn := hne t'
    refine ⟨fun e1 => ?_, (out t').2, hc, by rw [he]; exact hA⟩
    rw [← he, e1] at hn
    exact hn
/-- nil in a box's cell is taken for a row of the machine's own. -/
theorem conv_adoptB {c : Fx} {S : St} {id : Nat} {ty0 : TypeId} {cs : List C} (i : Nat) {ty : TypeId} {sz n : Nat} {f : Nat → Nat → T} (hid : look S.h id = some (.box ty0 cs)) (hi : cs[i]? = some (.t (.v (.slice none 0 0)))) (hn : n = 0) :
    Conv c S ⟨S.tm, (id, .box ty0 (cs.set i (.ref S.n sz 0 n))) :: (S.n, .row ty false sz n f) :: S.h, S.n + 1⟩ := fun ρ a w R => by
  subst hn
  have hlt : id < S.n := by
    obtain ⟨l, l1, _⟩ := R.heap id _ hid
    exact R.used id (by rw [l1]; simp)
  have R2 := R.add (w' := w) (nid := S.n) (used' := fun id => id < S.n + 1) (Upd.refl _ _) (by omega) (fun id h => by omega) (by omega) (blk := .row ty false sz 0 f) (l := .nil) (fun b cap e => by cases e) (fun _ => rfl) none (fun t h => by cases h) none undef (fun _ x hx => by cases hx)
  have e1 : look ((S.n, Blk.row ty false sz 0 f) :: S.h) = setHp (look S.h) [(S.n, some (.row ty false sz 0 f))] := by
    funext i; rw [look_cons]; rfl
  have R3 : RepS c.toCx (ρ.set S.n .nil) ⟨S.tm, (S.n, .row ty false sz 0 f) :: S.h, S.n + 1⟩ a w := by
    unfold RepS; rw [e1]; exact R2
  have hid2 : look ((S.n, Blk.row ty false sz 0 f) :: S.h) id = some (.box ty0 cs) := by rw [look_cons, if_neg (by omega)]; exact hid
  obtain ⟨l, l1, ⟨b, vs, v1, v2, v3⟩, l3⟩ := R3.heap id _ hid2
  have hok : ∀ x, okOf c.base w (ρ.set S.n .nil) (look ((S.n, Blk.row ty false sz 0 f) :: S.h)) x → okOf c.base w (ρ.set S.n .nil) (look ((id, .box ty0 (cs.set i (.ref S.n sz 0 0))) :: (S.n, Blk.row ty false sz 0 f) :: S.h)) x := fun x ⟨o1, o2, o3⟩ => ⟨o1, o2, fun k blk cap h1 h2 h3 => by
    rw [look_cons] at h1
    split at h1
    · rename_i e; subst e; exact o3 id _ cap hid2 rfl h3
    · exact o3 k blk cap h1 h2 h3⟩
  have hex : ∀ k x, look ((id, Blk.box ty0 (cs.set i (.ref S.n sz 0 0))) :: (S.n, Blk.row ty false sz 0 f) :: S.h) k = some x → ∃ y, look ((S.n, Blk.row ty false sz 0 f) :: S.h) k = some y ∧ (x.mut = true → y.mut = true) := fun k x hx => by
    rw [look_cons] at hx
    split at hx
    · rename_i e; subst e; exact ⟨_, hid2, fun _ => rfl⟩
    · exact ⟨x, hx, fun q => q⟩
  refine ⟨ρ.set S.n .nil, fun t av ht => RV.mono ⟨hok, fun _ _ => rfl⟩ (Ext.rfl_ _) _ _ (R3.tmp t av ht), fun k blk hk => ?_, R3.hX, fun i j b c1 c2 x y hi hj hk h1 h2 => by
    obtain ⟨x', a1, a2⟩ := hex i x hi
    obtain ⟨y', b1, b2⟩ := hex j y hj
    exact R3.inj i j b c1 c2 x' y' a1 b1 (hk.imp a2 b2) h1 h2, R3.used, R3.upd, R3.ext0, R3.size, R3.defers⟩
  · simp only at hk
    rw [look_cons] at hk
    split at hk
    · rename_i e
      injection hk with hk
      subst e; subst hk
      refine ⟨l, l1, ⟨b, vs, v1, v2, ?_⟩, l3⟩
      obtain ⟨y, y1, y2⟩ := All2.get v3 hi
      have h4 : All2 (RC w (okOf c.base w (ρ.set S.n .nil) (look ((id, .box ty0 (cs.set i (.ref S.n sz 0 0))) :: (S.n, Blk.row ty false sz 0 f) :: S.h))) (ρ.set S.n .nil)) cs vs.toList := v3.mono (RC.mono ⟨hok, fun _ _ => rfl⟩ (Ext.rfl_ _))
      have h7 : RC w (okOf c.base w (ρ.set S.n .nil) (look ((id, .box ty0 (cs.set i (.ref S.n sz 0 0))) :: (S.n, Blk.row ty false sz 0 f) :: S.h))) (ρ.set S.n .nil) (.ref S.n sz 0 0) y := ⟨.nil, by simp [Ren.set], rfl, rfl, none, y2.1⟩
      have h5 := All2.set (i := i) h4 h7
      have h6 : vs.toList.set i y = vs.toList := by
        apply List.ext_getElem?
        intro j
        rw [List.getElem?_set]
        split
        · rename_i e; subst e; rw [y1]; split <;> simp_all
        · rfl
      rw [h6] at h5; exact h5
    · obtain ⟨l, l1, l2, l3⟩ := R3.heap k blk hk
      exact ⟨l, l1, RB.mono ⟨hok, fun _ _ => rfl⟩ (Ext.rfl_ _) _ _ (fun _ _ _ => rfl) l2, l3⟩
/-! Short names of cells. -/
@[reducible] def vi8 (x : Int) : AV := .c (.t (.v (.int .i8 x)))
@[reducible] def ci8 (x : Int) : C := .t (.v (.int .i8 x))
@[reducible] def vi16 (x : Int) : AV := .c (.t (.v (.int .i16 x)))
@[reducible] def ci16 (x : Int) : C := .t (.v (.int .i16 x))
@[reducible] def vi32 (x : Int) : AV := .c (.t (.v (.int .i32 x)))
@[reducible] def ci32 (x : Int) : C := .t (.v (.int .i32 x))
@[reducible] def vi64 (x : Int) : AV := .c (.t (.v (.int .i64 x)))
@[reducible] def ci64 (x : Int) : C := .t (.v (.int .i64 x))
@[reducible] def vu8 (x : Int) : AV := .c (.t (.v (.int .u8 x)))
@[reducible] def cu8 (x : Int) : C := .t (.v (.int .u8 x))
@[reducible] def vu16 (x : Int) : AV := .c (.t (.v (.int .u16 x)))
@[reducible] def cu16 (x : Int) : C := .t (.v (.int .u16 x))
@[reducible] def vu32 (x : Int) : AV := .c (.t (.v (.int .u32 x)))
@[reducible] def cu32 (x : Int) : C := .t (.v (.int .u32 x))
@[reducible] def vu64 (x : Int) : AV := .c (.t (.v (.int .u64 x)))
@[reducible] def cu64 (x : Int) : C := .t (.v (.int .u64 x))
@[reducible] def vb (x : Bool) : AV := .c (.t (.v (.bool x)))
@[reducible] def cb (x : Bool) : C := .t (.v (.bool x))
@[reducible] def vs (x : ByteArray) : AV := .c (.t (.v (.string x)))
@[reducible] def cs (x : ByteArray) : C := .t (.v (.string x))
@[reducible] def vl {τ : Type} (sz : Nat) (f : List τ → Nat → Nat → T) (xs : List τ) : AV := .c (.t (.tree xs.length sz (f xs)))
@[reducible] def cl {τ : Type} (sz : Nat) (f : List τ → Nat → Nat → T) (xs : List τ) : C := .t (.tree xs.length sz (f xs))
/-! Binds, by how many values they bring. -/
def bind2 {α β γ : Type} (x : Option (α × β)) (f : α → β → Option γ) : Option γ := x.bind fun p => f p.1 p.2
def bind3 {α β γ δ : Type} (x : Option (α × β × γ)) (f : α → β → γ → Option δ) : Option δ := x.bind fun p => f p.1 p.2.1 p.2.2
def bind4 {α β γ δ ε : Type} (x : Option (α × β × γ × δ)) (f : α → β → γ → δ → Option ε) : Option ε := x.bind fun p => f p.1 p.2.1 p.2.2.1 p.2.2.2
def bind5 {α β γ δ ε ζ : Type} (x : Option (α × β × γ × δ × ε)) (f : α → β → γ → δ → ε → Option ζ) : Option ζ := x.bind fun p => f p.1 p.2.1 p.2.2.1 p.2.2.2.1 p.2.2.2.2
def bind6 {α β γ δ ε ζ η : Type} (x : Option (α × β × γ × δ × ε × ζ)) (f : α → β → γ → δ → ε → ζ → Option η) : Option η := x.bind fun p => f p.1 p.2.1 p.2.2.1 p.2.2.2.1 p.2.2.2.2.1 p.2.2.2.2.2
theorem bind2_some {α β γ : Type} {x : Option (α × β)} {f : α → β → Option γ} {r : γ} (h : bind2 x f = some r) : ∃ a b, x = some (a, b) ∧ f a b = some r := by
  obtain ⟨⟨a, b⟩, h1, h2⟩ := bnd_some h; exact ⟨a, b, h1, h2⟩
theorem bind3_some {α β γ δ : Type} {x : Option (α × β × γ)} {f : α → β → γ → Option δ} {r : δ} (h : bind3 x f = some r) : ∃ a b c, x = some (a, b, c) ∧ f a b c = some r := by
  obtain ⟨⟨a, b, c⟩, h1, h2⟩ := bnd_some h; exact ⟨a, b, c, h1, h2⟩
theorem bind4_some {α β γ δ ε : Type} {x : Option (α × β × γ × δ)} {f : α → β → γ → δ → Option ε} {r : ε} (h : bind4 x f = some r) : ∃ a b c d, x = some (a, b, c, d) ∧ f a b c d = some r := by
  obtain ⟨⟨a, b, c, d⟩, h1, h2⟩ := bnd_some h; exact ⟨a, b, c, d, h1, h2⟩
theorem bind5_some {α β γ δ ε ζ : Type} {x : Option (α × β × γ × δ × ε)} {f : α → β → γ → δ → ε → Option ζ} {r : ζ} (h : bind5 x f = some r) : ∃ a b c d e, x = some (a, b, c, d, e) ∧ f a b c d e = some r := by
  obtain ⟨⟨a, b, c, d, e⟩, h1, h2⟩ := bnd_some h; exact ⟨a, b, c, d, e, h1, h2⟩
theorem bind6_some {α β γ δ ε ζ η : Type} {x : Option (α × β × γ × δ × ε × ζ)} {f : α → β → γ → δ → ε → ζ → Option η} {r : η} (h : bind6 x f = some r) : ∃ a b c d e g, x = some (a, b, c, d, e, g) ∧ f a b c d e g = some r := by
  obtain ⟨⟨a, b, c, d, e, g⟩, h1, h2⟩ := bnd_some h; exact ⟨a, b, c, d, e, g, h1, h2⟩
/-- Behind a loop that is left in two ways. -/
def bindE {α β γ : Type} (x : Option (α ⊕ β)) (f : α → Option γ) (g : β → Option γ) : Option γ := x.bind fun p => match p with
  | .inl a => f a
  | .inr b => g b
theorem bindE_some {α β γ : Type} {x : Option (α ⊕ β)} {f : α → Option γ} {g : β → Option γ} {r : γ} (h : bindE x f g = some r) : (∃ a, x = some (.inl a) ∧ f a = some r) ∨ ∃ b, x = some (.inr b) ∧ g b = some r := by
  obtain ⟨p, h1, h2⟩ := bnd_some h
  cases p with
  | inl a => exact .inl ⟨a, h1, h2⟩
  | inr b => exact .inr ⟨b, h1, h2⟩
theorem part_row {τ : Type} {d : τ} {enc : τ → List T} {xs : List τ} {l n sz : Nat} (h : l + n ≤ xs.length) : n = ((xs.drop l).take n).length ∧ ∀ i, i < ((xs.drop l).take n).length → ∀ j, j < sz → rowL d enc xs (l + i) j = rowL d enc ((xs.drop l).take n) i j := by
  have hlen : ((xs.drop l).take n).length = n := by simp; omega
  refine ⟨hlen.symm, fun i hi j hj => ?_⟩
  rw [hlen] at hi
  simp only [rowL]
  congr 2
  simp [List.getD_eq_getElem?_getD, hi, List.getElem?_drop]
theorem part_rowS {τ : Type} {d : τ} {enc : τ → List T} {xs : List τ} {l n sz : Nat} (h : l + n ≤ xs.length) : n = ((xs.drop l).take n).length ∧ ∀ i, i < ((xs.drop l).take n).length → ∀ j, j < sz → subF l (rowL d enc xs) i j = rowL d enc ((xs.drop l).take n) i j := by
  refine ⟨(part_row (d := d) (enc := enc) (sz := sz) h).1, fun i hi j hj => ?_⟩
  rw [subF_eq]
  exact (part_row h).2 i hi j hj
theorem take_row {τ : Type} {d : τ} {enc : τ → List T} {xs : List τ} {n sz : Nat} (h : n ≤ xs.length) : n = (xs.take n).length ∧ ∀ i, i < (xs.take n).length → ∀ j, j < sz → rowL d enc xs i j = rowL d enc (xs.take n) i j := by
  have hlen : (xs.take n).length = n := by simp; omega
  refine ⟨hlen.symm, fun i hi j hj => ?_⟩
  rw [hlen] at hi
  simp only [rowL]
  congr 2
  simp [List.getD_eq_getElem?_getD, hi]
theorem eq_Q {Q : Exit → St → Prop} {e : Exit} {S S' : St} (h : S = S') (k : Q e S') : Q e S := h ▸ k
theorem le0 {n : Nat} : 0 + n ≤ n := by omega
theorem tv : True := trivial
theorem nb {b : Bool} (h : b = false) : ¬ b = true := by rw [h]; exact Bool.false_ne_true
theorem AW.tr {c : Fx} {y : Code} {Q : Exit → St → Prop} {S : St} (h : Q .ret S) : AW.thenQ c y Q .ret S := h
theorem AW.tn {c : Fx} {y : Code} {Q : Exit → St → Prop} {S : St} (h : AW c S y Q) : AW.thenQ c y Q .normal S := h
end Vm
end Go.Proofs.Ytknlckjpgmjenaa
