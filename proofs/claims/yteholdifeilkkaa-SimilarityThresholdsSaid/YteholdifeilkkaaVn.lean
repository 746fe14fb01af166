/- The abstract machine: code, loops, whole functions. -/
import Derived.Test.YteholdifeilkkaaVm
namespace Go.Proofs.Yteholdifeilkkaa
set_option linter.unusedVariables false
namespace Vm
/-- Where a body runs: k blocks were handed to it. -/
structure Fx extends Cx where
  k : Nat
  hk : ∀ id, base.ρ0 id ≠ none → id < k
def AW (c : Fx) (S : St) (code : Code) (Q : Exit → St → Prop) : Prop := ∀ ρ a w, RepS c.toCx ρ S a w → code.wp c.P (fun e a' w' => ∃ S', Q e S' ∧ ∃ ρ', RepS c.toCx ρ' S' a' w') a w
def Conv (c : Fx) (S S' : St) : Prop := ∀ ρ a w, RepS c.toCx ρ S a w → ∃ ρ', RepS c.toCx ρ' S' a w
theorem Conv.refl (c : Fx) (S : St) : Conv c S S := fun ρ _ _ R => ⟨ρ, R⟩
theorem Conv.trans {c : Fx} {S S' S'' : St} (h : Conv c S S') (k : Conv c S' S'') : Conv c S S'' := fun ρ a w R => let ⟨ρ', R'⟩ := h ρ a w R; k ρ' a w R'
namespace AW
variable {c : Fx} {S S' : St} {Q : Exit → St → Prop}
theorem mono {code : Code} {Q' : Exit → St → Prop} (h : AW c S code Q') (hq : ∀ e S, Q' e S → Q e S) : AW c S code Q := fun ρ a w R =>
  wp_mono (h ρ a w R) fun e a' w' ⟨S', q, r⟩ => ⟨S', hq e S' q, r⟩
theorem pre {code : Code} (k : Conv c S S') (h : AW c S' code Q) : AW c S code Q := fun ρ a w R => let ⟨ρ', R'⟩ := k ρ a w R; h ρ' a w R'
theorem post {code : Code} (h : AW c S code fun e S1 => ∃ S2, Conv c S1 S2 ∧ Q e S2) : AW c S code Q := fun ρ a w R =>
  wp_mono (h ρ a w R) fun e a' w' ⟨S1, ⟨S2, k, q⟩, ρ', R'⟩ => ⟨S2, q, k ρ' a' w' R'⟩
theorem skip (h : Q .normal S) : AW c S .skip Q := fun ρ a w R => wp_skip ⟨S, h, ρ, R⟩
theorem ret (h : Q .ret S) : AW c S .ret Q := fun ρ a w R => wp_ret ⟨S, h, ρ, R⟩
theorem exit {id : Nat} (h : Q (.exit id) S) : AW c S (.exit id) Q := fun ρ a w R => wp_exit ⟨S, h, ρ, R⟩
theorem label {l : Nat} (h : Q .normal S) : AW c S (.label l) Q := fun ρ a w R => wp_label ⟨S, h, ρ, R⟩
def thenQ (c : Fx) (y : Code) (Q : Exit → St → Prop) : Exit → St → Prop
  | .normal, S => AW c S y Q
  | e, S => Q e S
theorem seq {x y : Code} (h : AW c S x (thenQ c y Q)) : AW c S (.seq x y) Q := fun ρ a w R => by
  refine wp_seq (wp_mono (h ρ a w R) fun e a' w' ⟨S', q, ρ', R'⟩ => ?_)
  cases e with
  | normal => exact q ρ' a' w' R'
  | _ => exact ⟨S', q, ρ', R'⟩
theorem cond_true {x : Operand} {y z : Code} (hx : ev (look S.tm) x = some (.c (.t (.v (.bool true))))) (h : AW c S y Q) : AW c S (.cond x y z) Q := fun ρ a w R => wp_cond_true (ev_v R hx) (h ρ a w R)
theorem cond_false {x : Operand} {y z : Code} (hx : ev (look S.tm) x = some (.c (.t (.v (.bool false))))) (h : AW c S z Q) : AW c S (.cond x y z) Q := fun ρ a w R => wp_cond_false (ev_v R hx) (h ρ a w R)
theorem cond_tst {x : Operand} {y z : Code} {p : Prop} (hx : ev (look S.tm) x = some (.c (.t (.tst p)))) (h1 : p → AW c S y Q) (h2 : AW c S z Q) : AW c S (.cond x y z) Q := fun ρ a w R => by
  obtain ⟨b, hb, hp⟩ := ev_ok R hx
  cases b with
  | true => exact wp_cond_true hb (h1 (hp rfl) ρ a w R)
  | false => exact wp_cond_false hb (h2 ρ a w R)
theorem cond {x : Operand} {y z : Code} {b : Bool} (hx : ev (look S.tm) x = some (.c (.t (.v (.bool b))))) (h1 : b = true → AW c S y Q) (h2 : b = false → AW c S z Q) : AW c S (.cond x y z) Q := fun ρ a w R => by
  cases b with
  | true => exact wp_cond_true (ev_v R hx) (h1 rfl ρ a w R)
  | false => exact wp_cond_false (ev_v R hx) (h2 rfl ρ a w R)
def inBlock (id : Nat) (Q : Exit → St → Prop) : Exit → St → Prop
  | .exit i, S => if i = id then Q .normal S else Q (.exit i) S
  | e, S => Q e S
theorem block {id : Nat} {x : Code} (h : AW c S x (inBlock id Q)) : AW c S (.block id x) Q := fun ρ a w R => by
  refine wp_block (wp_mono (h ρ a w R) fun e a' w' ⟨S', q, ρ', R'⟩ => ?_)
  cases e with
  | exit i =>
    simp only [inBlock] at q
    simp only [Exit.inBlock]
    split at q
    · rename_i e; rw [if_pos e]; exact ⟨S', q, ρ', R'⟩
    · rename_i e; rw [if_neg e]; exact ⟨S', q, ρ', R'⟩
  | _ => exact ⟨S', q, ρ', R'⟩
theorem region {tt : TT} (hT : TTok c.P tt) {id : Nat} {ops : List Oper} {xs : List Hi} {S' : St} {ps : List Prop} (hds : dstB ops c.nt = true) (e : runOps c.P tt ops ops xs S = some (S', ps)) (hp : AllP ps) (hQ : Q .normal S') : AW c S (.region id ops.toArray false) Q := fun ρ a w R =>
  region_seq hT hds e hp R fun ρ' a' w' R' => ⟨S', hQ, ρ', R'⟩
theorem regionD {tt : TT} (hT : TTok c.P tt) (hm : c.P.follows .mixedOrders = true) {id : Nat} {ops : List Oper} {masks : List Nat} {wk : List (List Nat)} {xs : List Hi} {S' : St} {ps : List Prop} (hds : dstB ops c.nt = true) (e : drawRun c.P tt ops masks wk xs S = some (S', ps)) (hp : AllP ps) (hQ : Q .normal S') :
    AW c S (.region id ops.toArray true) Q := fun ρ a w R => region_draw hT hm hds e hp R fun ρ' a' w' R' => ⟨S', hQ, ρ', R'⟩
end AW
/-! Loops: what a loop comes to, where it comes to an end. -/
def loopN {σ τ : Type} (step : σ → Option (σ ⊕ τ)) : Nat → σ → Option τ
  | 0, _ => none
  | n + 1, s => match step s with
    | none => none
    | some (.inl s') => loopN step n s'
    | some (.inr t) => some t
open Classical in
noncomputable def loop {σ τ : Type} (step : σ → Option (σ ⊕ τ)) (s : σ) : Option τ := if h : ∃ n t, loopN step n s = some t then some (Classical.choose (Classical.choose_spec h)) else none
theorem loopN_more {σ τ : Type} {step : σ → Option (σ ⊕ τ)} : ∀ {n : Nat} {s : σ} {t : τ}, loopN step n s = some t → ∀ m, loopN step (n + m) s = some t
  | 0, _, _, h, _ => by cases h
  | n + 1, s, t, h, m => by
    rw [show n + 1 + m = (n + m) + 1 by omega]
    simp only [loopN] at h ⊢
    split at h
    · cases h
    · rename_i s' hs; exact loopN_more h m
    · exact h
theorem loop_iff {σ τ : Type} {step : σ → Option (σ ⊕ τ)} {s : σ} {t : τ} : loop step s = some t ↔ ∃ n, loopN step n s = some t := by
  unfold loop
  constructor
  · intro h
    split at h
    · rename_i hex
      injection h with h
      exact ⟨Classical.choose hex, by rw [← h]; exact Classical.choose_spec (Classical.choose_spec hex)⟩
    · cases h
  · rintro ⟨n, hn⟩
    have hex : ∃ n t, loopN step n s = some t := ⟨n, t, hn⟩
    rw [dif_pos hex]
    have h1 := loopN_more (Classical.choose_spec (Classical.choose_spec hex)) n
    have h2 := loopN_more hn (Classical.choose hex)
    rw [Nat.add_comm] at h2
    rw [h2] at h1
    injection h1 with h1
    rw [← h1]
theorem loop_eq {σ τ : Type} (step : σ → Option (σ ⊕ τ)) (s : σ) : loop step s = match step s with
    | none => none
    | some (.inl s') => loop step s'
    | some (.inr t) => some t := by
  apply Option.ext
  intro t
  rw [loop_iff]
  constructor
  · rintro ⟨n, hn⟩
    cases n with
    | zero => cases hn
    | succ n =>
      simp only [loopN] at hn
      split at hn
      · cases hn
      · rename_i s' hs; (try simp only [hs]); exact loop_iff.2 ⟨n, hn⟩
      · rename_i t' hs; (try simp only [hs]); exact hn
  · intro h
    split at h
    · cases h
    · rename_i s' hs
      obtain ⟨n, hn⟩ := loop_iff.1 h
      exact ⟨n + 1, by simp only [loopN, hs]; exact hn⟩
    · rename_i t' hs; exact ⟨1, by simp only [loopN, hs]; exact h⟩
/-- A loop ends, with what is said of it, if a measure goes down. -/
theorem loop_of {σ τ : Type} {step : σ → Option (σ ⊕ τ)} (I : σ → Prop) (μ : σ → Nat) (R : τ → Prop) (h : ∀ s, I s → (∃ s', step s = some (.inl s') ∧ I s' ∧ μ s' < μ s) ∨ ∃ t, step s = some (.inr t) ∧ R t) : ∀ s, I s → ∃ t, loop step s = some t ∧ R t := by
  intro s
  generalize hn : μ s = n
  induction n using Nat.strongRecOn generalizing s with
  | _ n ih =>
    intro hs
    rcases h s hs with ⟨s', h1, h2, h3⟩ | ⟨t, h1, h2⟩
    · obtain ⟨t, k1, k2⟩ := ih (μ s') (by omega) s' rfl h2
      exact ⟨t, by rw [loop_eq, h1]; exact k1, k2⟩
    · exact ⟨t, by rw [loop_eq, h1], h2⟩
theorem AW.loop {c : Fx} {Q : Exit → St → Prop} {σ τ : Type} {step : σ → Option (σ ⊕ τ)} {s0 : σ} {t : τ} {body : Code} (st : σ → St) (hl : Vm.loop step s0 = some t)
    (hbody : ∀ s o, step s = some o → AW c (st s) body fun e S' => match o with
      | .inl s' => e = .normal ∧ Conv c S' (st s')
      | .inr t' => t' = t → e ≠ .normal ∧ Q e S') : AW c (st s0) (.loop body) Q := by
  intro ρ a w R b k cs
  obtain ⟨n, hn⟩ := loop_iff.1 hl
  have key : ∀ (n : Nat) (s : σ) (ρ : Ren) (a : Act) (w : World), loopN step n s = some t → RepS c.toCx ρ (st s) a w →
      ∃ e a' w', (∃ S', Q e S' ∧ ∃ ρ', RepS c.toCx ρ' S' a' w') ∧ Arrives c.P (lone (b.at a (.code body :: .inLoop body :: k)) cs w) b k cs e a' w' := by
    intro n
    induction n with
    | zero => intro s ρ a w hs; cases hs
    | succ n ih =>
      intro s ρ a w hs R
      simp only [loopN] at hs
      cases ho : step s with
      | none => rw [ho] at hs; cases hs
      | some o =>
        rw [ho] at hs
        obtain ⟨e, a₁, w₁, ⟨S', hq, ρ', R'⟩, harr⟩ := hbody s o ho ρ a w R b (.inLoop body :: k) cs
        cases o with
        | inl s' =>
          obtain ⟨rfl, hcv⟩ := hq
          obtain ⟨ρ2, R2⟩ := hcv ρ' a₁ w₁ R'
          obtain ⟨e₂, a₂, w₂, hq₂, harr₂⟩ := ih s' ρ2 a₁ w₁ hs R2
          exact ⟨e₂, a₂, w₂, hq₂, .of_steps (Steps.trans harr (.one step_inLoop)) harr₂⟩
        | inr t' =>
          injection hs with hs
          obtain ⟨hne, hq⟩ := hq hs
          refine ⟨e, a₁, w₁, ⟨S', hq, ρ', R'⟩, ?_⟩
          cases e with
          | normal => exact absurd rfl hne
          | exit id => exact .pass (x := .inLoop body) rfl (fun _ _ => .inl (by simp)) harr
          | goto l => exact .pass (x := .inLoop body) rfl (fun _ _ => .inl (by simp)) harr
          | ret => exact .pass (x := .inLoop body) rfl (fun _ _ => .inl (by simp)) harr
          | panic ch => exact .pass (x := .inLoop body) rfl (fun _ _ => .inl (by simp)) harr
          | outgrown => exact .pass (x := .inLoop body) rfl (fun _ _ => .inl (by simp)) harr
  obtain ⟨e, a', w', hq, harr⟩ := key n s0 ρ a w hn R
  exact ⟨e, a', w', hq, .of_steps (.one step_loop) harr⟩
theorem All2.comp {α β γ : Type} {A : α → β → Prop} {B : α → γ → Prop} {D : β → γ → Prop} (h : ∀ x y v, A x y → B x v → D y v) : ∀ {l : List α} {m : List β} {vs : List γ}, All2 A l m → All2 B l vs → All2 D m vs
  | [], [], [], _, _ => trivial
  | _ :: _, _ :: _, _ :: _, ⟨a, b⟩, ⟨c, d⟩ => ⟨h _ _ _ a c, All2.comp h b d⟩
  | [], _ :: _, _, x, _ => x.elim
  | _ :: _, [], _, x, _ => x.elim
  | _ :: _, _ :: _, [], _, x => x.elim
  | [], [], _ :: _, _, x => x.elim
/-! States told in another way. -/
/-- Values: the same slot holds what y says, wherever it holds what x says. -/
def CLe (h : Hp) (x y : C) : Prop := ∀ (base : Base) (X : Nat → Prop) (nt : Nat) (used : Nat → Prop) (ρ : Ren) (tm : Tm) (a : Act) (w : World), Rep base X nt used ρ tm h a w → ∀ v, RC w (okOf base w ρ h) ρ x v → RC w (okOf base w ρ h) ρ y v
theorem CLe.refl (h : Hp) (x : C) : CLe h x x := fun _ _ _ _ _ _ _ _ _ _ k => k
theorem CLe.nil {h : Hp} {n sz : Nat} {f : Nat → Nat → T} (hn : n = 0) : CLe h (.t (.v (.slice none 0 0))) (.t (.tree n sz f)) := fun _ _ _ _ _ _ _ _ _ v k => by
  obtain ⟨rfl, _⟩ := k
  subst hn
  exact ⟨none, 0, rfl, Nat.le_refl _, fun i hi => by omega⟩
theorem CLe.tree {h : Hp} {n m sz : Nat} {f g : Nat → Nat → T} (hn : n = m) (hg : ∀ i, i < m → ∀ j, j < sz → f i j = g i j) : CLe h (.t (.tree n sz f)) (.t (.tree m sz g)) := fun _ _ _ _ _ _ _ _ _ v k => by
  subst hn
  obtain ⟨q, c, rfl, h1, h2⟩ := k
  exact ⟨q, c, rfl, h1, fun i hi j hj => let ⟨b, o, x, a1, a2, a3, a4⟩ := h2 i hi j hj; ⟨b, o, x, a1, a2, a3, by rw [← hg i hi j hj]; exact a4⟩⟩
theorem CLe.ref {h : Hp} {id sz off n m : Nat} {ty : TypeId} {f : Nat → Nat → T} (hid : h id = some (.row ty true sz m f)) (hle : off + n ≤ m) : CLe h (.ref id sz off n) (.t (.tree n sz (subF off f))) := fun base X nt used ρ tm a w R v k => by
  obtain ⟨l, h1, h2⟩ := k
  obtain ⟨l', m1, m2, m3⟩ := R.heap id _ hid
  rw [h1] at m1
  injection m1 with m1
  subst m1
  cases l with
  | nil => obtain ⟨_, rfl, q, rfl⟩ := h2; exact ⟨q, 0, rfl, Nat.le_refl _, fun i hi => by omega⟩
  | _ b cap =>
    rcases h2 with ⟨rfl, hle2⟩ | ⟨rfl, q, rfl⟩
    · obtain ⟨_, vs, fz, v1, v2, _, v4⟩ := m2
      refine ⟨_, _, rfl, by omega, fun i hi j hj => ?_⟩
      obtain ⟨x, x1, x2⟩ := v4 (off + i) (by omega) j hj
      refine ⟨b, off * sz, x, rfl, ⟨(m3 b cap rfl).1, .inl (R.own id _ b cap hid rfl h1), fun id2 blk2 cap2 k1 k2 k3 => ?_⟩, ?_, ?_⟩
      · have := R.inj id2 id b cap2 cap ⟨_, k1⟩ ⟨_, hid⟩ k3 h1
        subst this
        rw [hid] at k1
        injection k1 with k1
        subst k1
        cases k2
      · rw [cell_of_row w _ _ vs ty fz v1, ← x1, Nat.add_mul]
      · rw [subF_eq]; exact x2
    · exact ⟨q, 0, rfl, Nat.le_refl _, fun i hi => by omega⟩
theorem CLe.trans {h : Hp} {x y z : C} (a : CLe h x y) (b : CLe h y z) : CLe h x z := fun base X nt used ρ tm ac w R v k => b base X nt used ρ tm ac w R v (a base X nt used ρ tm ac w R v k)
def ALe (h : Hp) (x y : AV) : Prop := ∀ (base : Base) (X : Nat → Prop) (nt : Nat) (used : Nat → Prop) (ρ : Ren) (tm : Tm) (a : Act) (w : World), Rep base X nt used ρ tm h a w → ∀ v, RV w (okOf base w ρ h) ρ x v → RV w (okOf base w ρ h) ρ y v
theorem ALe.refl (h : Hp) (x : AV) : ALe h x x := fun _ _ _ _ _ _ _ _ _ _ k => k
theorem ALe.c {h : Hp} {x y : C} (k : CLe h x y) : ALe h (.c x) (.c y) := fun base X nt used ρ tm a w R v hv => k base X nt used ρ tm a w R v hv
theorem ALe.agg {h : Hp} {l m : List C} (k : All2 (CLe h) l m) : ALe h (.agg l) (.agg m) := fun base X nt used ρ tm a w R v ⟨ys, h1, h2⟩ => by
  refine ⟨ys, h1, ?_⟩
  exact All2.comp (fun x y v k1 k2 => k1 base X nt used ρ tm _ w R v k2) k h2
theorem ALe.fagg {h : Hp} {l : List C} {r : List T} {n : Nat} {f : Nat → T} (ht : asT l = some r) (hn : r.length = n) (hf : ∀ i, i < n → r.getD i (.v undef) = f i) : ALe h (.agg l) (.fagg n f) := fun base X nt used ρ tm a w R v ⟨ys, h1, h2⟩ => by
  have h3 := asT_ok ht h2
  refine ⟨ys, h1, by have := h3.length; simp at this; omega, fun i hi => ?_⟩
  obtain ⟨y, y1, y2⟩ := All2.get h3 (List.getElem?_eq_getElem (by omega : i < r.length))
  refine ⟨y, by simpa using y1, ?_⟩
  rw [← hf i hi]
  rw [List.getD_eq_getElem?_getD, List.getElem?_eq_getElem (by omega : i < r.length)]
  exact y2
/-- Slots told anew; those that are not named are forgotten. -/
def tmLe (h : Hp) (tm : Tm) : List (Nat × AV) → Prop
  | [] => True
  | (t, y) :: l => (∃ x, tm t = some x ∧ ALe h x y) ∧ tmLe h tm l
theorem tmLe_get {h : Hp} {tm : Tm} : ∀ {l : List (Nat × AV)} {t : Nat} {y : AV}, tmLe h tm l → look l t = some y → ∃ x, tm t = some x ∧ ALe h x y
  | [], _, _, _, h => by cases h
  | (k, v) :: l, t, y, ⟨h1, h2⟩, hl => by
    rw [look_cons] at hl
    split at hl
    · rename_i e; injection hl with hl; subst e; subst hl; exact h1
    · exact tmLe_get h2 hl
theorem conv_tm {c : Fx} {S : St} {tm' : List (Nat × AV)} (h : tmLe (look S.h) (look S.tm) tm') : Conv c S ⟨tm', S.h, S.n⟩ := fun ρ a w R =>
  ⟨ρ, fun t av ht => by
    obtain ⟨x, h1, h2⟩ := tmLe_get h ht
    exact h2 _ _ _ _ ρ _ a w R _ (R.tmp t x h1), R.heap, R.own, R.inj, R.used, R.upd, R.ext0, R.size, R.defers⟩
/-- A box's contents told anew. -/
theorem conv_box {c : Fx} {S : St} {id : Nat} {ty : TypeId} {cs ds : List C} (hid : look S.h id = some (.box ty cs)) (h : All2 (CLe (look S.h)) cs ds) : Conv c S ⟨S.tm, (id, .box ty ds) :: S.h, S.n⟩ := fun ρ a w R => by
  have hok : ∀ b, okOf c.base w ρ (look S.h) b → okOf c.base w ρ (look ((id, Blk.box ty ds) :: S.h)) b := fun b ⟨o1, o2, o3⟩ => ⟨o1, o2, fun k blk cap h1 h2 h3 => by
    rw [look_cons] at h1
    split at h1
    · rename_i e; subst e; exact o3 id _ cap hid rfl h3
    · exact o3 k blk cap h1 h2 h3⟩
  have hex : ∀ k, (∃ x, look ((id, Blk.box ty ds) :: S.h) k = some x) → ∃ x, look S.h k = some x := fun k ⟨x, hx⟩ => by
    rw [look_cons] at hx
    split at hx
    · rename_i e; subst e; exact ⟨_, hid⟩
    · exact ⟨x, hx⟩
  refine ⟨ρ, fun t av ht => RV.mono ⟨hok, fun _ _ => rfl⟩ (Ext.rfl_ _) _ _ (R.tmp t av ht), fun k blk hk => ?_, fun k blk b cap hk hr hb => ?_, fun i j b c1 c2 hi hj => R.inj i j b c1 c2 (hex i hi) (hex j hj), R.used, R.upd, R.ext0, R.size, R.defers⟩
  · simp only at hk
    rw [look_cons] at hk
    split at hk
    · rename_i e
      injection hk with hk
      subst e; subst hk
      obtain ⟨l, l1, ⟨b, vs, v1, v2, v3⟩, l3⟩ := R.heap id _ hid
      refine ⟨l, l1, ⟨b, vs, v1, v2, ?_⟩, l3⟩
      exact All2.comp (fun x y v k1 k2 => RC.mono ⟨hok, fun _ _ => rfl⟩ (Ext.rfl_ _) _ _ (k1 _ _ _ _ ρ _ a w R v k2)) h v3
    · obtain ⟨l, l1, l2, l3⟩ := R.heap k blk hk
      exact ⟨l, l1, RB.mono ⟨hok, fun _ _ => rfl⟩ (Ext.rfl_ _) _ _ (fun _ _ _ => rfl) l2, l3⟩
  · simp only at hk
    rw [look_cons] at hk
    split at hk
    · injection hk with hk; subst hk; cases hr
    · exact R.own k blk b cap hk hr hb
/-- A row told anew; it may be closed to writing. -/
theorem conv_row {c : Fx} {S : St} {id : Nat} {ty : TypeId} {fro fro' : Bool} {sz n m : Nat} {f g : Nat → Nat → T} (hid : look S.h id = some (.row ty fro sz n f)) (hfro : fro = fro' ∨ fro' = true) (hn : n = m) (hg : ∀ i, i < m → ∀ j, j < sz → f i j = g i j) : Conv c S ⟨S.tm, (id, .row ty fro' sz m g) :: S.h, S.n⟩ := fun ρ a w R => by
  subst hn
  have hok : ∀ b, okOf c.base w ρ (look S.h) b → okOf c.base w ρ (look ((id, Blk.row ty fro' sz n g) :: S.h)) b := fun b ⟨o1, o2, o3⟩ => ⟨o1, o2, fun k blk cap h1 h2 h3 => by
    rw [look_cons] at h1
    split at h1
    · rename_i e
      injection h1 with h1
      subst e; subst h1
      rcases hfro with hfro | hfro
      · subst hfro; exact o3 id _ cap hid h2 h3
      · subst hfro; cases h2
    · exact o3 k blk cap h1 h2 h3⟩
  have hex : ∀ k, (∃ x, look ((id, Blk.row ty fro' sz n g) :: S.h) k = some x) → ∃ x, look S.h k = some x := fun k ⟨x, hx⟩ => by
    rw [look_cons] at hx
    split at hx
    · rename_i e; subst e; exact ⟨_, hid⟩
    · exact ⟨x, hx⟩
  refine ⟨ρ, fun t av ht => RV.mono ⟨hok, fun _ _ => rfl⟩ (Ext.rfl_ _) _ _ (R.tmp t av ht), fun k blk hk => ?_, fun k blk b cap hk hr hb => ?_, fun i j b c1 c2 hi hj => R.inj i j b c1 c2 (hex i hi) (hex j hj), R.used, R.upd, R.ext0, R.size, R.defers⟩
  · simp only at hk
    rw [look_cons] at hk
    split at hk
    · rename_i e
      injection hk with hk
      subst e; subst hk
      obtain ⟨l, l1, l2, l3⟩ := R.heap id _ hid
      refine ⟨l, l1, ?_, l3⟩
      cases l with
      | nil => exact l2
      | _ b cap =>
        obtain ⟨v0, vs, fz, v1, v2, v3, v4⟩ := l2
        refine ⟨v0, vs, fz, v1, v2, fun h => v3 ?_, fun i hi j hj => ?_⟩
        · rcases hfro with hfro | hfro
          · rw [hfro]; exact h
          · rw [hfro] at h; cases h
        · obtain ⟨x, x1, x2⟩ := v4 i hi j hj
          exact ⟨x, x1, by rw [← hg i hi j hj]; exact RT.mono ⟨hok, fun _ _ => rfl⟩ _ _ x2⟩
    · obtain ⟨l, l1, l2, l3⟩ := R.heap k blk hk
      exact ⟨l, l1, RB.mono ⟨hok, fun _ _ => rfl⟩ (Ext.rfl_ _) _ _ (fun _ _ _ => rfl) l2, l3⟩
  · simp only at hk
    rw [look_cons] at hk
    split at hk
    · rename_i e
      injection hk with hk
      subst e
      exact R.own id _ b cap hid rfl hb
    · exact R.own k blk b cap hk hr hb
/-- A nil slice is taken for a row of the machine's own, without elements. -/
theorem conv_adopt {c : Fx} {S : St} {t : Nat} {ty : TypeId} {sz n : Nat} {f : Nat → Nat → T} (ht : look S.tm t = some (.c (.t (.v (.slice none 0 0))))) (hn : n = 0) : Conv c S ⟨(t, .c (.ref S.n sz 0 n)) :: S.tm, (S.n, .row ty false sz n f) :: S.h, S.n + 1⟩ := fun ρ a w R => by
  subst hn
  have hput : a.tmps.getD t undef = .slice none 0 0 := (R.tmp t _ ht).1
  have R2 := R.add (w' := w) (nid := S.n) (used' := fun id => id < S.n + 1) (Upd.refl _ _) (by omega) (fun id h => by omega) (by omega) (blk := .row ty false sz 0 f) (l := .nil) (fun b cap e => by cases e) (fun _ => rfl) none (fun t h => by cases h) none undef (fun _ x hx => by cases hx)
  refine ⟨ρ.set S.n .nil, ?_⟩
  have e1 : look ((S.n, Blk.row ty false sz 0 f) :: S.h) = setHp (look S.h) [(S.n, some (.row ty false sz 0 f))] := by
    funext i; rw [look_cons]; rfl
  have R3 : Rep c.base c.X c.nt (fun id => id < S.n + 1) (ρ.set S.n .nil) (look S.tm) (setHp (look S.h) [(S.n, some (.row ty false sz 0 f))]) a w := R2
  unfold RepS
  rw [e1]
  exact ⟨fun u av hu => by
    rw [look_cons] at hu
    split at hu
    · rename_i e
      injection hu with hu
      subst e; subst hu
      exact ⟨.nil, by simp [Ren.set], rfl, rfl, none, hput⟩
    · exact R3.tmp u av hu, R3.heap, R3.own, R3.inj, R3.used, R3.upd, R3.ext0, R3.size, R3.defers⟩
/-! Blocks by other numbers; what is not named is forgotten. -/
def C.renO (σ : Nat → Option Nat) : C → Option C
  | .t x => some (.t x)
  | .ref id sz off n => match σ id with
    | some i => some (.ref i sz off n)
    | none => none
  | .ptr id sz e sub => match σ id with
    | some i => some (.ptr i sz e sub)
    | none => none
def renOL (σ : Nat → Option Nat) : List C → Option (List C)
  | [] => some []
  | x :: l => match x.renO σ, renOL σ l with
    | some y, some r => some (y :: r)
    | _, _ => none
def AV.renO1 (σ : Nat → Option Nat) : AV → Option AV
  | .c x => match x.renO σ with
    | some y => some (.c y)
    | none => none
  | .agg l => match renOL σ l with
    | some r => some (.agg r)
    | none => none
  | .fagg n f => some (.fagg n f)
  | .tup l => none
def renO1L (σ : Nat → Option Nat) : List AV → Option (List AV)
  | [] => some []
  | x :: l => match x.renO1 σ, renO1L σ l with
    | some y, some r => some (y :: r)
    | _, _ => none
def AV.renO (σ : Nat → Option Nat) : AV → Option AV
  | .tup l => match renO1L σ l with
    | some r => some (.tup r)
    | none => none
  | x => x.renO1 σ
def Blk.renO (σ : Nat → Option Nat) : Blk → Option Blk
  | .box ty cs => match renOL σ cs with
    | some r => some (.box ty r)
    | none => none
  | .row ty fro sz n f => some (.row ty fro sz n f)
section
variable {w : World} {ok ok' : Nat → Prop} {ρ ρ' : Ren} {σ : Nat → Option Nat}
theorem C.renO_ok {x y : C} {v : Value} (hok : ∀ b, ok b → ok' b) (hσ : ∀ i j l, σ i = some j → ρ i = some l → ρ' j = some l) (e : x.renO σ = some y) (h : RC w ok ρ x v) : RC w ok' ρ' y v := by
  cases x with
  | t x => simp only [C.renO, Option.some.injEq] at e; subst e; exact RT.mono ⟨hok, fun _ _ => rfl⟩ _ _ h
  | ref id sz off n =>
    simp only [C.renO] at e
    split at e
    · rename_i i hi; injection e with e; subst e; obtain ⟨l, h1, h2⟩ := h; exact ⟨l, hσ _ _ _ hi h1, h2⟩
    · cases e
  | ptr id sz e0 sub =>
    simp only [C.renO] at e
    split at e
    · rename_i i hi; injection e with e; subst e; obtain ⟨b, cap, h1, h2⟩ := h; exact ⟨b, cap, hσ _ _ _ hi h1, h2⟩
    · cases e
theorem renOL_ok (hok : ∀ b, ok b → ok' b) (hσ : ∀ i j l, σ i = some j → ρ i = some l → ρ' j = some l) : ∀ {l r : List C} {vs : List Value}, renOL σ l = some r → All2 (RC w ok ρ) l vs → All2 (RC w ok' ρ') r vs
  | [], r, [], e, _ => by simp only [renOL, Option.some.injEq] at e; subst e; trivial
  | x :: l, r, v :: vs, e, ⟨h1, h2⟩ => by
    simp only [renOL] at e
    split at e
    · rename_i y r' hy hr; injection e with e; subst e; exact ⟨C.renO_ok hok hσ hy h1, renOL_ok hok hσ hr h2⟩
    · cases e
  | [], _, _ :: _, _, h => h.elim
  | _ :: _, _, [], _, h => h.elim
theorem AV.renO1_ok {x y : AV} {v : Value} (hok : ∀ b, ok b → ok' b) (hσ : ∀ i j l, σ i = some j → ρ i = some l → ρ' j = some l) (e : x.renO1 σ = some y) (h : R1 w ok ρ x v) : R1 w ok' ρ' y v := by
  cases x with
  | c x =>
    simp only [AV.renO1] at e
    split at e
    · rename_i y' hy; injection e with e; subst e; exact C.renO_ok hok hσ hy h
    · cases e
  | agg l =>
    simp only [AV.renO1] at e
    split at e
    · rename_i y' hy; injection e with e; subst e; obtain ⟨ys, h1, h2⟩ := h; exact ⟨ys, h1, renOL_ok hok hσ hy h2⟩
    · cases e
  | fagg n f => simp only [AV.renO1, Option.some.injEq] at e; subst e; obtain ⟨ys, h1, h2, h3⟩ := h; exact ⟨ys, h1, h2, fun i hi => let ⟨x, a, b⟩ := h3 i hi; ⟨x, a, RT.mono ⟨hok, fun _ _ => rfl⟩ _ _ b⟩⟩
  | tup l => exact h.elim
theorem renO1L_ok (hok : ∀ b, ok b → ok' b) (hσ : ∀ i j l, σ i = some j → ρ i = some l → ρ' j = some l) : ∀ {l r : List AV} {vs : List Value}, renO1L σ l = some r → All2 (R1 w ok ρ) l vs → All2 (R1 w ok' ρ') r vs
  | [], r, [], e, _ => by simp only [renO1L, Option.some.injEq] at e; subst e; trivial
  | x :: l, r, v :: vs, e, ⟨h1, h2⟩ => by
    simp only [renO1L] at e
    split at e
    · rename_i y r' hy hr; injection e with e; subst e; exact ⟨AV.renO1_ok hok hσ hy h1, renO1L_ok hok hσ hr h2⟩
    · cases e
  | [], _, _ :: _, _, h => h.elim
  | _ :: _, _, [], _, h => h.elim
theorem AV.renO_ok {x y : AV} {v : Value} (hok : ∀ b, ok b → ok' b) (hσ : ∀ i j l, σ i = some j → ρ i = some l → ρ' j = some l) (e : x.renO σ = some y) (h : RV w ok ρ x v) : RV w ok' ρ' y v := by
  cases x with
  | tup l =>
    simp only [AV.renO] at e
    split at e
    · rename_i y' hy; injection e with e; subst e; obtain ⟨ys, h1, h2⟩ := h; exact ⟨ys, h1, renO1L_ok hok hσ hy h2⟩
    · cases e
  | c x => exact r1_rv (AV.renO1_ok (x := .c x) hok hσ e h)
  | agg l => exact r1_rv (AV.renO1_ok (x := .agg l) hok hσ e h)
  | fagg n f => exact r1_rv (AV.renO1_ok (x := .fagg n f) hok hσ e h)
theorem Blk.renO_ok {x y : Blk} {l : Loc} (hok : ∀ b, ok b → ok' b) (hσ : ∀ i j l, σ i = some j → ρ i = some l → ρ' j = some l) (e : x.renO σ = some y) (h : RB w ok ρ x l) : RB w ok' ρ' y l ∧ y.mut = x.mut ∧ y.isRow = x.isRow := by
  cases x with
  | box ty cs =>
    simp only [Blk.renO] at e
    split at e
    · rename_i r hr; injection e with e; subst e; obtain ⟨b, vs, h1, h2, h3⟩ := h; exact ⟨⟨b, vs, h1, h2, renOL_ok hok hσ hr h3⟩, rfl, rfl⟩
    · cases e
  | row ty fro sz n f =>
    simp only [Blk.renO, Option.some.injEq] at e
    subst e
    refine ⟨?_, rfl, rfl⟩
    cases l with
    | nil => exact h
    | _ b cap =>
      obtain ⟨h0, vs, fz, h1, h2, h3, h4⟩ := h
      exact ⟨h0, vs, fz, h1, h2, h3, fun i hi j hj => let ⟨x, a, b⟩ := h4 i hi j hj; ⟨x, a, RT.mono ⟨hok, fun _ _ => rfl⟩ _ _ b⟩⟩
end
/-- The new numbers (m: new, old), turned round. -/
def sigO (m : List (Nat × Nat)) (i : Nat) : Option Nat := match m with
  | [] => none
  | (n, o) :: l => bif Nat.beq o i then some n else sigO l i
theorem sigO_mem : ∀ {m : List (Nat × Nat)} {i j : Nat}, sigO m i = some j → (j, i) ∈ m
  | (n, o) :: l, i, j, h => by
    simp only [sigO] at h
    by_cases e : o = i
    · subst e; simp at h; subst h; simp
    · have : Nat.beq o i = false := by simpa [← Nat.beq_eq] using e
      simp only [this, cond_false] at h
      exact List.mem_cons_of_mem _ (sigO_mem h)
  | [], _, _, h => by cases h
def keepTm (σ : Nat → Option Nat) (tm : Tm) : List Nat → Option (List (Nat × AV))
  | [] => some []
  | t :: l => match tm t with
    | some x => match x.renO σ, keepTm σ tm l with
      | some y, some r => some ((t, y) :: r)
      | _, _ => none
    | none => none
def keepHp (σ : Nat → Option Nat) (h : Hp) : List (Nat × Nat) → Option (List (Nat × Blk))
  | [] => some []
  | (n, o) :: l => match h o with
    | some x => match x.renO σ, keepHp σ h l with
      | some y, some r => some ((n, y) :: r)
      | _, _ => none
    | none => none
def renSt (m : List (Nat × Nat)) (slots : List Nat) (n : Nat) (S : St) : Option St :=
  match keepTm (sigO m) (look S.tm) slots, keepHp (sigO m) (look S.h) m with
  | some tm, some h => some ⟨tm, h, n⟩
  | _, _ => none
theorem keepTm_get {σ : Nat → Option Nat} {tm : Tm} : ∀ {l : List Nat} {r : List (Nat × AV)} {t : Nat} {y : AV}, keepTm σ tm l = some r → look r t = some y → ∃ x, tm t = some x ∧ x.renO σ = some y
  | [], r, t, y, e, h => by simp only [keepTm, Option.some.injEq] at e; subst e; cases h
  | k :: l, r, t, y, e, h => by
    simp only [keepTm] at e
    split at e
    · rename_i x hx
      split at e
      · rename_i y' r' hy hr
        injection e with e
        subst e
        rw [look_cons] at h
        split at h
        · rename_i e1; injection h with h; subst e1; subst h; exact ⟨x, hx, hy⟩
        · exact keepTm_get hr h
      · cases e
    · cases e
theorem keepHp_get {σ : Nat → Option Nat} {hp : Hp} : ∀ {l : List (Nat × Nat)} {r : List (Nat × Blk)} {i : Nat} {y : Blk}, keepHp σ hp l = some r → look r i = some y → ∃ o x, look l i = some o ∧ hp o = some x ∧ x.renO σ = some y
  | [], r, i, y, e, h => by simp only [keepHp, Option.some.injEq] at e; subst e; cases h
  | (n, o) :: l, r, i, y, e, h => by
    simp only [keepHp] at e
    split at e
    · rename_i x hx
      split at e
      · rename_i y' r' hy hr
        injection e with e
        subst e
        rw [look_cons] at h
        split at h
        · rename_i e1; injection h with h; subst e1; subst h; exact ⟨o, x, by rw [look_cons, if_pos rfl], hx, hy⟩
        · rename_i e1
          obtain ⟨o', x', a1, a2, a3⟩ := keepHp_get hr h
          exact ⟨o', x', by rw [look_cons, if_neg e1]; exact a1, a2, a3⟩
      · cases e
    · cases e
def keysLt (n : Nat) (m : List (Nat × Nat)) : Bool := m.all fun p => Nat.blt p.1 n
def firstK (k : Nat) (m : List (Nat × Nat)) : Bool := match k with
  | 0 => true
  | k + 1 => (match look m k with
    | some o => Nat.beq o k
    | none => false) && firstK k m
theorem firstK_ok {m : List (Nat × Nat)} : ∀ {k : Nat}, firstK k m = true → ∀ i, i < k → look m i = some i
  | 0, _, i, h => by omega
  | k + 1, hk, i, hi => by
    simp only [firstK, Bool.and_eq_true] at hk
    by_cases e : i = k
    · subst e
      have := hk.1
      split at this
      · rename_i o ho; rw [ho]; congr 1; exact Nat.eq_of_beq_eq_true this
      · cases this
    · exact firstK_ok hk.2 i (by omega)
theorem look_inj_snd : ∀ {m : List (Nat × Nat)}, nodupB (m.map (·.2)) = true → ∀ {i j o : Nat}, look m i = some o → look m j = some o → i = j
  | [], _, i, j, o, h, _ => by cases h
  | (n, p) :: l, hn, i, j, o, h1, h2 => by
    simp only [List.map_cons, nodupB, Bool.and_eq_true] at hn
    have hmem : ∀ k, look l k = some p → False := fun k hk => by
      have h := hn.1
      have : p ∈ l.map (·.2) := List.mem_map.2 ⟨(k, p), look_mem hk, rfl⟩
      rw [Bool.not_eq_true'] at h
      simp at h
      obtain ⟨⟨x, y⟩, h3, h4⟩ := List.mem_map.1 this
      simp only at h4
      subst h4
      exact h x h3
    rw [look_cons] at h1 h2
    split at h1
    · rename_i e1
      injection h1 with h1
      split at h2
      · rename_i e2; omega
      · rw [← h1] at h2; exact (hmem j h2).elim
    · split at h2
      · injection h2 with h2
        rw [← h2] at h1; exact (hmem i h1).elim
      · exact look_inj_snd hn.2 h1 h2
theorem conv_ren {c : Fx} {S S' : St} (m : List (Nat × Nat)) (slots : List Nat) {n : Nat} (e : renSt m slots n S = some S') (h1 : (nodupB (m.map (·.2)) && nodupB (m.map (·.1)) && keysLt n m && firstK c.k m) = true) : Conv c S S' := fun ρ a w R => by
  simp only [Bool.and_eq_true] at h1
  obtain ⟨⟨⟨b1, b0⟩, b2⟩, b3⟩ := h1
  unfold renSt at e
  split at e
  · rename_i tm hp htm hhp
    injection e with e
    subst e
    let ρ' : Ren := fun i => match look m i with
      | some o => ρ o
      | none => none
    have hlook : ∀ i o, (i, o) ∈ m → look m i = some o := by
      have : ∀ (m : List (Nat × Nat)), nodupB (m.map (·.1)) = true → ∀ i o, (i, o) ∈ m → look m i = some o := by
        intro m
        induction m with
        | nil => intro _ i o h; cases h
        | cons p m ih =>
          obtain ⟨x, y⟩ := p
          intro hn i o h
          simp only [List.map_cons, nodupB, Bool.and_eq_true] at hn
          rw [look_cons]
          rcases List.mem_cons.1 h with h | h
          · injection h with e1 e2; subst e1; subst e2; rw [if_pos rfl]
          · have hne : x ≠ i := fun e => by
              subst e
              have h3 := hn.1
              rw [Bool.not_eq_true'] at h3
              simp at h3
              exact h3 o h
            rw [if_neg hne]
            exact ih hn.2 i o h
      exact this m b0
    have hσ : ∀ i j l, sigO m i = some j → ρ i = some l → ρ' j = some l := fun i j l h1 h2 => by
      simp only [ρ', hlook j i (sigO_mem h1)]; exact h2
    have hback : ∀ i l, ρ' i = some l → ∃ o, look m i = some o ∧ ρ o = some l := fun i l h => by
      simp only [ρ'] at h
      split at h
      · rename_i o ho; exact ⟨o, ho, h⟩
      · cases h
    have hh : ∀ i y, look hp i = some y → ∃ o x, look m i = some o ∧ look S.h o = some x ∧ x.renO (sigO m) = some y := fun i y h => keepHp_get hhp h
    have hok : ∀ b, okOf c.base w ρ (look S.h) b → okOf c.base w ρ' (look hp) b := fun b ⟨o1, o2, o3⟩ => ⟨o1, o2, fun i blk cap k1 k2 k3 => by
      obtain ⟨o, x, x1, x2, x3⟩ := hh i blk k1
      obtain ⟨o', y1, y2⟩ := hback i _ k3
      rw [x1] at y1
      injection y1 with y1
      subst y1
      obtain ⟨l, _, l2, _⟩ := R.heap o x x2
      exact o3 o x cap x2 (by rw [← (Blk.renO_ok (ok := okOf c.base w ρ (look S.h)) (ok' := okOf c.base w ρ (look S.h)) (fun _ h => h) hσ x3 l2).2.1]; exact k2) y2⟩
    refine ⟨ρ', fun t av ht => ?_, fun i y hy => ?_, fun i y b cap hy hr hb => ?_, fun i j b c1 c2 hi hj k1 k2 => ?_, fun id hid => ?_, R.upd, fun id l hl => ?_, R.size, R.defers⟩
    · obtain ⟨x, x1, x2⟩ := keepTm_get htm ht
      exact AV.renO_ok hok hσ x2 (R.tmp t x x1)
    · obtain ⟨o, x, x1, x2, x3⟩ := hh i y hy
      obtain ⟨l, l1, l2, l3⟩ := R.heap o x x2
      exact ⟨l, by simp only [ρ', x1]; exact l1, (Blk.renO_ok hok hσ x3 l2).1, l3⟩
    · obtain ⟨o, x, x1, x2, x3⟩ := hh i y hy
      obtain ⟨l, l1, l2, l3⟩ := R.heap o x x2
      obtain ⟨o', y1, y2⟩ := hback i _ hb
      rw [x1] at y1
      injection y1 with y1
      subst y1
      exact R.own o x b cap x2 (by rw [← (Blk.renO_ok (ok := okOf c.base w ρ (look S.h)) (ok' := okOf c.base w ρ (look S.h)) (fun _ h => h) hσ x3 l2).2.2]; exact hr) y2
    · obtain ⟨x, hx⟩ := hi
      obtain ⟨y, hy⟩ := hj
      obtain ⟨o1, x1, p1, p2, _⟩ := hh i x hx
      obtain ⟨o2, x2, q1, q2, _⟩ := hh j y hy
      obtain ⟨o1', r1, r2⟩ := hback i _ k1
      obtain ⟨o2', s1, s2⟩ := hback j _ k2
      rw [p1] at r1
      injection r1 with r1
      rw [q1] at s1
      injection s1 with s1
      subst r1; subst s1
      have := R.inj o1 o2 b c1 c2 ⟨_, p2⟩ ⟨_, q2⟩ r2 s2
      subst this
      exact look_inj_snd b1 p1 q1
    · cases hl : ρ' id with
      | none => exact absurd hl hid
      | some l =>
        obtain ⟨o, ho, _⟩ := hback id l hl
        have := List.all_eq_true.1 b2 (id, o) (look_mem ho)
        simpa using this
    · have hlt := c.hk id (by rw [hl]; simp)
      simp only [ρ', firstK_ok b3 id hlt]
      exact R.ext0 id l hl
  · cases e
end Vm
end Go.Proofs.Yteholdifeilkkaa
