/- Lemmas for the statement TopEncodes: Go functions told as pure functions, and laws about these; texts joined and shortened by a program of mine; no condition. -/
import Derived.Test.YtfmhbcfklokmaaaGreatDoorSQ1
import Derived.Test.YtfmhbcfklokmaaaGreatDoorRows
import Derived.Test.YtfmhbcfklokmaaaGreatDoorSQ4
set_option linter.unusedVariables false
set_option linter.unusedSimpArgs false
set_option linter.defProp false
namespace Go.Proofs.YtfmhbcfklokmaaaGreatDoor
open Vm
open AW (block cond exit ret seq skip)
open _root_.ByteArray (mk)
open IntKind (i64 u64 u32 u8)
set_option maxRecDepth 100000
set_option maxHeartbeats 10000000
theorem eC : Tryz.prog.follows .mixedOrders = true := by kernel_rfl
section
open Go.RowKit Go.Maps
theorem yz {H : Type} {P : Program} (w : World) {ops : Array Oper} {rest : List Oper} {o : Oper} {a : Act} {Q : Exit → Act → World → Prop}
  (hg : o.guard = none) (m x v : Operand) (t : TypeId) (hop : o.op = Op.insert t m x v)
  (k e : TypeId) (K : Keyed P k) (ht : P.underlying t = some (.map k e)) (R : Value → Option (DataW H × List MemPlace)) (b n : Nat) (D : DataW H)
  (hm : a.eval m = .map (some b)) (hown : w.ownsMap P k R b n D) (hn : n < maxLen) (key val : Value) (kl : Lit) (hx : a.eval x = key) (hv : a.eval v = val) (hkey : keyOf P k key = some kl)
  (d : DataW H) (ps : List MemPlace) (hval : R val = some (d, ps))
  (hK : ∀ w', w'.ownsMap P k R b (n + 1) (D.put kl d) → w.grownBy w' (some b) → wpList P ops Q rest (a.put o.dst undef) w') :
  wpList P ops Q (o :: rest) a w := by
 refine wpList_plain hg fun K' hK' => ?_
 obtain ⟨w', hrun, r1, r2⟩ := hown.update K ht hn hkey hval
 unfold Oper.wp
 simp [execOp, hop, hm, hx, hv, hrun, Result.andThen]
 exact hK' _ _ (hK w' r1 r2)
open Classical in
noncomputable def eB : Value → Option (DataW Unit × List MemPlace) := fun v => if v = .nilFunc then some (.agg [], []) else if h : ∃ f : Nat, v = .func (.func f) #[] #[] then some (.lit (.int .i64 (h.choose : Int)), []) else none
theorem N8 (f : Nat) : eB (.func (.func f) #[] #[]) = some (.lit (.int .i64 (f : Int)), []) := by
 have h : ∃ g : Nat, Value.func (.func f) #[] #[] = .func (.func g) #[] #[] := ⟨f, rfl⟩
 unfold eB
 rw [if_neg (by intro h; cases h), dif_pos h]
 have := h.choose_spec
 injection this with this
 injection this with this
 rw [← this]
theorem BH : eB .nilFunc = some (.agg [], []) := by unfold eB; rw [if_pos rfl]
theorem BI {v : Value} {f : Nat} {ps : List MemPlace} (h : eB v = some (.lit (.int .i64 (f : Int)), ps)) : v = .func (.func f) #[] #[] := by
 unfold eB at h
 split at h
 ·injection h with h; injection h with h; cases h
 ·split at h
  ·rename_i h2
   have e := h2.choose_spec
   injection h with h; injection h with h
   injection h with h; injection h with _ h
   rw [e]
   have : h2.choose = f := by omega
   rw [this]
  ·cases h
def sZ : DataW Unit := (((((DataW.map []).put (.int .i64 1) (.lit (.int .i64 174))).put (.int .i64 2) (.lit (.int .i64 175))).put (.int .i64 3) (.lit (.int .i64 176))).put (.int .i64 4) (.lit (.int .i64 178))).put (.int .i64 5) (.lit (.int .i64 179))
theorem yU (w : World) (N : Nat) (hN : w.heap.size = N) : Calls Tryz.prog 140 #[] w fun e w' => e = .returned (.map (some N)) ∧ Below N w w' ∧ w'.ownsMap Tryz.prog 3 eB N 5 sZ := by
 subst hN
 refine calls_of_wp Tryz.func140 rfl ?_
 simp only [Tryz.ntmps140, FW, FN, FP, Nat.reduceAdd, Nat.reduceSub, Array.replicate_succ, Array.replicate_zero, List.push_toArray, List.append_toArray, Gf, List.cons_append]
 have hmm := @run_makeMap Tryz.prog
 have h0 : (w.alloc (.map #[] 0)).ownsMap Tryz.prog 3 eB w.heap.size 0 (DataW.map []) := World.ownsMap_made _ _ _ _
 have hB := (Below.refl w.heap.size w).alloc (F9 _) (.map #[] 0)
 have hk : ∀ k : Int, (Lit.int .i64 k).wf = true → keyOf Tryz.prog 3 (.int .i64 k) = some (.int .i64 k) := fun k hk => Maps.keyOf_int_mk Tryz.underlying3 hk
 go_wp2_with (refine yz _ rfl _ _ _ 229 rfl 3 _ (Maps.int_keyed Tryz.underlying3) Tryz.underlying229 eB w.heap.size _ _ rfl (by assumption) (by decide) _ _ _ rfl rfl (hk _ (by decide)) _ [] (N8 _) ?_; intro w1 hown1 hgrow1; have hB := hB.grown hgrow1 hB.size (fun j e => by cases e; exact F9 _))
 go_ret
 exact ⟨rfl, hB, hown1⟩
def s5 : List (Int × Value) := [(1, .func (.func 174) #[] #[]), (2, .func (.func 175) #[] #[]), (3, .func (.func 176) #[] #[]), (4, .func (.func 178) #[] #[]), (5, .func (.func 179) #[] #[])]
theorem Cp {k : Int} {v : Value} (h : jO s5 k = some v) : ∃ f : Nat, v = .func (.func f) #[] #[] ∧ sZ.atKey (.int .i64 k) (.agg []) = .lit (.int .i64 (f : Int)) ∧ (Lit.int .i64 k).wf = true := by
 unfold s5 at h
 simp only [jO] at h
 split at h
 ·rename_i e _
  subst e
  exact ⟨174, (am h).symm, rfl, rfl⟩
 split at h
 ·rename_i e _
  subst e
  exact ⟨175, (am h).symm, rfl, rfl⟩
 split at h
 ·rename_i e _
  subst e
  exact ⟨176, (am h).symm, rfl, rfl⟩
 split at h
 ·rename_i e _
  subst e
  exact ⟨178, (am h).symm, rfl, rfl⟩
 split at h
 ·rename_i e _
  subst e
  exact ⟨179, (am h).symm, rfl, rfl⟩
 cases h
theorem jg : CT 140 [] [] (.c (.t (.mp Tryz.prog 229 s5))) [] := by
 refine uv (n := 0) ⟨_, Tryz.func140, by kernel_rfl, rfl⟩ fun w ok vs' hok ha => ?_
 obtain ⟨l⟩ := vs'
 rcases l with _ | ⟨v0, l⟩
 ·refine callsIn_wide.2 (Calls.mono (yU w _ rfl) ?_)
  rintro e w' ⟨rfl, hB, hown⟩
  refine ⟨_, rfl, hB, ?_⟩
  obtain ⟨es, clock, hb, F, hs, hD⟩ := hown
  refine ⟨_, _, rfl, ⟨F9 _, gS hb⟩, hb, fun W hW k v hv => ?_⟩
  obtain ⟨f, rfl, e1, e2⟩ := Cp hv
  have hW' : W.ownsMap Tryz.prog 3 eB w.heap.size 5 sZ := ⟨es, clock, hW, F, hs, hD⟩
  obtain ⟨v, ps, r1, r2⟩ := hW'.lookup (Maps.int_keyed Tryz.underlying3) Tryz.underlying229 (z := .nilFunc) (Tryz.zeroValue95 _) BH (Maps.keyOf_int_mk Tryz.underlying3 e2)
  rw [e1] at r2
  rw [BI r2] at r1
  exact r1
 ·exact ha.elim
theorem BJ (p0 : aX) (p1 : aB) (g1 : 0 ≤ p0.Field) (g2 : p0.Field < (p1.Values.length : Int)) (he : ((p1.Values.getD p0.Field.toNat mt).toList == (mk #[]).toList) = true) : CT 102 [.agg [ag p0.Field, ag p0.Transform], .agg (bL p1)] [] (vs (mk #[])) [] := by
 refine an ae 0 Tryz.func102 rfl (fun _ _ _ => ?_)
 refine Fs ae [(2, pX 0 2), (3, pX 1 3)] [0, 1] [(0, .box 119 [ag p0.Field, ag p0.Transform]), (1, .box 53 (bL p1))] 3 [] (seq ?_)
 refine ay ae [(11, vb true)] 10 [hn, hn, hn, hn, hq g1 g2, hn, ht he] ?_
 refine cond (b := true) (by kernel_rfl) (fun _ => ?_) (fun e => by cases e)
 refine ah ae [(4, vs (mk #[]))] 11 (ret (Fo ?_))
 exact aW (.inr rfl) [] 0 (vs (mk #[]))
theorem Be (p0 : aX) (p1 : aB) (g1 : 0 ≤ p0.Field) (g2 : p0.Field < (p1.Values.length : Int)) (he : ((p1.Values.getD p0.Field.toNat mt).toList == (mk #[]).toList) = false) (hk : p0.Transform = 1) (r : ByteArray) (h : kh (p1.Values.getD p0.Field.toNat mt) = some r) : CT 102 [.agg [ag p0.Field, ag p0.Transform], .agg (bL p1)] [] (vs r) [] := by
 refine an ae 0 Tryz.func102 rfl (fun _ _ _ => ?_)
 refine Fs ae [(2, pX 0 2), (3, pX 1 3)] [0, 1] [(0, .box 119 [ag p0.Field, ag p0.Transform]), (1, .box 53 (bL p1))] 3 [] (seq ?_)
 refine ay ae [(11, vb false)] 10 [hn, hn, hn, hn, hq g1 g2, hn, hf he] ?_
 refine cond (b := false) (by kernel_rfl) (fun e => by cases e) (fun _ => skip (Fp ?_))
 refine Fv ae eC [] [(4, vs r)] [] 20 [hl [] [] 0 jg, hn, eU 1 hn hk, ho (p := (Tryz.prog = Tryz.prog ∧ 229 = 229) ∧ (Value.func (.func 174) #[] #[]).oneCell' = true) ⟨⟨rfl, rfl⟩, rfl⟩, hn, hn, hn, hn, hq g1 g2, hn, hl [] [] 0 (xx _ r h)] ?_
 refine ret ?_
 exact aW (.inr rfl) [] 0 (vs r)
theorem Bf (p0 : aX) (p1 : aB) (g1 : 0 ≤ p0.Field) (g2 : p0.Field < (p1.Values.length : Int)) (he : ((p1.Values.getD p0.Field.toNat mt).toList == (mk #[]).toList) = false) (hk : p0.Transform = 2) (r : ByteArray) (h : l9 (p1.Values.getD p0.Field.toNat mt) = some r) : CT 102 [.agg [ag p0.Field, ag p0.Transform], .agg (bL p1)] [] (vs r) [] := by
 refine an ae 0 Tryz.func102 rfl (fun _ _ _ => ?_)
 refine Fs ae [(2, pX 0 2), (3, pX 1 3)] [0, 1] [(0, .box 119 [ag p0.Field, ag p0.Transform]), (1, .box 53 (bL p1))] 3 [] (seq ?_)
 refine ay ae [(11, vb false)] 10 [hn, hn, hn, hn, hq g1 g2, hn, hf he] ?_
 refine cond (b := false) (by kernel_rfl) (fun e => by cases e) (fun _ => skip (Fp ?_))
 refine Fv ae eC [] [(4, vs r)] [] 20 [hl [] [] 0 jg, hn, eU 2 hn hk, ho (p := (Tryz.prog = Tryz.prog ∧ 229 = 229) ∧ (Value.func (.func 175) #[] #[]).oneCell' = true) ⟨⟨rfl, rfl⟩, rfl⟩, hn, hn, hn, hn, hq g1 g2, hn, hl [] [] 0 (yM _ r h)] ?_
 refine ret ?_
 exact aW (.inr rfl) [] 0 (vs r)
theorem Bg (p0 : aX) (p1 : aB) (g1 : 0 ≤ p0.Field) (g2 : p0.Field < (p1.Values.length : Int)) (he : ((p1.Values.getD p0.Field.toNat mt).toList == (mk #[]).toList) = false) (hk : p0.Transform = 3) (r : ByteArray) (h : ki (p1.Values.getD p0.Field.toNat mt) = some r) : CT 102 [.agg [ag p0.Field, ag p0.Transform], .agg (bL p1)] [] (vs r) [] := by
 refine an ae 0 Tryz.func102 rfl (fun _ _ _ => ?_)
 refine Fs ae [(2, pX 0 2), (3, pX 1 3)] [0, 1] [(0, .box 119 [ag p0.Field, ag p0.Transform]), (1, .box 53 (bL p1))] 3 [] (seq ?_)
 refine ay ae [(11, vb false)] 10 [hn, hn, hn, hn, hq g1 g2, hn, hf he] ?_
 refine cond (b := false) (by kernel_rfl) (fun e => by cases e) (fun _ => skip (Fp ?_))
 refine Fv ae eC [] [(4, vs r)] [] 20 [hl [] [] 0 jg, hn, eU 3 hn hk, ho (p := (Tryz.prog = Tryz.prog ∧ 229 = 229) ∧ (Value.func (.func 176) #[] #[]).oneCell' = true) ⟨⟨rfl, rfl⟩, rfl⟩, hn, hn, hn, hn, hq g1 g2, hn, hl [] [] 0 (xy _ r h)] ?_
 refine ret ?_
 exact aW (.inr rfl) [] 0 (vs r)
theorem Bh (p0 : aX) (p1 : aB) (g1 : 0 ≤ p0.Field) (g2 : p0.Field < (p1.Values.length : Int)) (he : ((p1.Values.getD p0.Field.toNat mt).toList == (mk #[]).toList) = false) (hk : p0.Transform = 4) (r : ByteArray) (h : km (p1.Values.getD p0.Field.toNat mt) = some r) : CT 102 [.agg [ag p0.Field, ag p0.Transform], .agg (bL p1)] [] (vs r) [] := by
 refine an ae 0 Tryz.func102 rfl (fun _ _ _ => ?_)
 refine Fs ae [(2, pX 0 2), (3, pX 1 3)] [0, 1] [(0, .box 119 [ag p0.Field, ag p0.Transform]), (1, .box 53 (bL p1))] 3 [] (seq ?_)
 refine ay ae [(11, vb false)] 10 [hn, hn, hn, hn, hq g1 g2, hn, hf he] ?_
 refine cond (b := false) (by kernel_rfl) (fun e => by cases e) (fun _ => skip (Fp ?_))
 refine Fv ae eC [] [(4, vs r)] [] 20 [hl [] [] 0 jg, hn, eU 4 hn hk, ho (p := (Tryz.prog = Tryz.prog ∧ 229 = 229) ∧ (Value.func (.func 178) #[] #[]).oneCell' = true) ⟨⟨rfl, rfl⟩, rfl⟩, hn, hn, hn, hn, hq g1 g2, hn, hl [] [] 0 (xz _ r h)] ?_
 refine ret ?_
 exact aW (.inr rfl) [] 0 (vs r)
theorem Bi (p0 : aX) (p1 : aB) (g1 : 0 ≤ p0.Field) (g2 : p0.Field < (p1.Values.length : Int)) (he : ((p1.Values.getD p0.Field.toNat mt).toList == (mk #[]).toList) = false) (hk : p0.Transform = 5) (r : ByteArray) (h : lD (p1.Values.getD p0.Field.toNat mt) = some r) : CT 102 [.agg [ag p0.Field, ag p0.Transform], .agg (bL p1)] [] (vs r) [] := by
 refine an ae 0 Tryz.func102 rfl (fun _ _ _ => ?_)
 refine Fs ae [(2, pX 0 2), (3, pX 1 3)] [0, 1] [(0, .box 119 [ag p0.Field, ag p0.Transform]), (1, .box 53 (bL p1))] 3 [] (seq ?_)
 refine ay ae [(11, vb false)] 10 [hn, hn, hn, hn, hq g1 g2, hn, hf he] ?_
 refine cond (b := false) (by kernel_rfl) (fun e => by cases e) (fun _ => skip (Fp ?_))
 refine Fv ae eC [] [(4, vs r)] [] 20 [hl [] [] 0 jg, hn, eU 5 hn hk, ho (p := (Tryz.prog = Tryz.prog ∧ 229 = 229) ∧ (Value.func (.func 179) #[] #[]).oneCell' = true) ⟨⟨rfl, rfl⟩, rfl⟩, hn, hn, hn, hn, hq g1 g2, hn, hl [] [] 0 (ym _ r h)] ?_
 refine ret ?_
 exact aW (.inr rfl) [] 0 (vs r)
noncomputable def qt (p0 : aX) (p1 : aB) : Option ByteArray := if 0 ≤ p0.Field ∧ p0.Field < (p1.Values.length : Int) then (if ((p1.Values.getD p0.Field.toNat mt).toList == (mk #[]).toList) then some (mk #[]) else (if p0.Transform = 1 then kh (p1.Values.getD p0.Field.toNat mt) else if p0.Transform = 2 then l9 (p1.Values.getD p0.Field.toNat mt) else if p0.Transform = 3 then ki (p1.Values.getD p0.Field.toNat mt) else if p0.Transform = 4 then km (p1.Values.getD p0.Field.toNat mt) else if p0.Transform = 5 then lD (p1.Values.getD p0.Field.toNat mt) else none)) else none
theorem yA (p0 : aX) (p1 : aB) (r : ByteArray) (h : qt p0 p1 = some r) : CT 102 [.agg [ag p0.Field, ag p0.Transform], .agg (bL p1)] [] (vs r) [] := by
 unfold qt at h
 obtain ⟨⟨g1, g2⟩, h⟩ := aN h
 rcases aD h with ⟨he, h⟩ | ⟨he, h⟩
 ·obtain rfl := am h
  exact BJ p0 p1 g1 g2 he
 by_cases k1 : p0.Transform = 1
 ·rw [if_pos k1] at h
  exact Be p0 p1 g1 g2 he k1 r h
 rw [if_neg k1] at h
 by_cases k2 : p0.Transform = 2
 ·rw [if_pos k2] at h
  exact Bf p0 p1 g1 g2 he k2 r h
 rw [if_neg k2] at h
 by_cases k3 : p0.Transform = 3
 ·rw [if_pos k3] at h
  exact Bg p0 p1 g1 g2 he k3 r h
 rw [if_neg k3] at h
 by_cases k4 : p0.Transform = 4
 ·rw [if_pos k4] at h
  exact Bh p0 p1 g1 g2 he k4 r h
 rw [if_neg k4] at h
 by_cases k5 : p0.Transform = 5
 ·rw [if_pos k5] at h
  exact Bi p0 p1 g1 g2 he k5 r h
 rw [if_neg k5] at h
 cases h
end
noncomputable def pg (p1 : bz) (p3 : aB) (x3 : List ByteArray) (x4 : Int) : Option (((List ByteArray) × Int) ⊕ (List ByteArray)) := if (decide (x4 < (p1.Components.length : Int))) then (if 0 ≤ x4 then (if x4 < (p1.Components.length : Int) then ((qt (p1.Components.getD x4.toNat cQ) p3).bind fun y9 => (if x3.length + ([y9] : aj).length ≤ 1099511627776 then (some (.inl ((x3 ++ ([y9] : aj)), i64.wrap (x4 + 1)))) else none)) else none) else none) else (some (.inr x3))
noncomputable def lR (p0 : hJ) (p1 : bz) (p2 : Int) (p3 : aB) : Option (Int × Bool) := (loop (fun v : (List ByteArray) × Int => pg p1 p3 v.1 v.2) (([] : aj), 0)).bind fun x12 => ((kg x12 (mk #[])).bind fun y13 => (if y13 then (some (0, false)) else ((l8 p2).bind fun y16 => (if (mk #[98, 108, 111, 99, 107]).size + y16.size ≤ bZ then ((jf p0 ((mk #[98, 108, 111, 99, 107]) ++ y16)).bind fun y19 => ((fI y19 x12).bind fun y21 => (some (y21, true)))) else none))))
theorem tS (p0 : hJ) (p1 : bz) (p2 : Int) (p3 : aB) (r : Int × Bool) (h : lR p0 p1 p2 p3 = some r) : CT 60 [.agg (bp p0), .agg [cl 2 bD p1.Components], af p2, .agg (bL p3)] [] (.tup [aV r.1, vb r.2]) [] := by
 refine an ae 0 Tryz.func60 rfl (fun _ _ _ => ?_)
 unfold lR at h
 refine Fs ae [(7, pX 2 3), (5, pX 1 1), (4, pX 0 2)] [0, 1, 2] [(2, .box 53 (bL p3)), (1, .box 117 [cl 2 bD p1.Components]), (0, .box 39 (bp p0))] 5 [] ?_
 refine ah ae [(10, .c (ax))] 6 (seq ?_)
 refine ah ae [(16, af 0), (15, af (p1.Components.length : Int)), (14, vl 2 bD p1.Components)] 10 (block ?_)
 obtain ⟨x12, l23, h⟩ := ak h
 refine Fy l23 (fun v => ⟨[(2, af p2), (4, pX 0 2), (7, pX 1 3), (10, rX 2 1 v.1.length), (14, vl 2 bD p1.Components), (15, af (p1.Components.length : Int)), (16, af v.2)], [(0, .box 39 (bp p0)), (1, .box 53 (bL p3)), (2, .row 9 false 1 v.1.length (Rs v.1))], 3⟩) (fun t : List ByteArray => (.exit 0, ⟨[(2, af p2), (4, pX 0 2), (10, rX 1 1 t.length)], [(0, .box 39 (bp p0)), (1, .row 9 false 1 t.length (Rs t))], 2⟩)) (Conv.trans (cg (t := 10) (ty := 9) (sz := 1) (n := ([] : aj).length) (f := Rs ([] : aj)) (by kernel_rfl) rfl) (ai [(0, 0), (1, 2), (2, 10)])) (fun _ => tv) ?_ ?_
 ·clear l23 h
  intro v o h
  obtain ⟨x3, x4⟩ := v
  replace h : pg p1 p3 x3 x4 = some o := h
  unfold pg at h
  refine ah ae [(17, vb (decide (x4 < (p1.Components.length : Int))))] 4 (seq ?_)
  refine Fw h (fun c6 h => ?_) (fun c6 h => ?_)
  ·refine skip (Fp ?_)
   refine seq (block ?_)
   obtain ⟨g7, g8, h⟩ := aG h
   refine Fs ae [(12, pX 6 2)] [6] [(6, .box 119 [ag ((p1.Components.getD x4.toNat cQ).Field), ag ((p1.Components.getD x4.toNat cQ).Transform)])] 8 [hq g7 g8] ?_
   obtain ⟨y9, e10, h⟩ := ak h
   obtain ⟨g11, h⟩ := aN h
   refine AW.rg ae [(10, .c (.ref 12 1 0 ((x3 ++ ([y9] : aj)).length)))] [2, 11, 12] [(12, .row 9 false 1 (x3 ++ ([y9] : aj)).length (Rs (x3 ++ ([y9] : aj))))] 14 [hn, hn, hn, hk (yA (p1.Components.getD x4.toNat cQ) p3 y9 e10), bh mt Es 1 (fun _ => rfl) ([y9] : aj), bY mt Es 1 16 x3 ([y9] : aj) g11 (by decide)] ?_
   refine Fj (Fp ?_)
   refine aS ae [(16, af (i64.wrap (x4 + 1)))] 16 ?_
   exact bu h (ai [(0, 0), (1, 1), (2, 12)])
  ·refine exit (Fb ?_)
   exact aU h rfl (ai [(0, 0), (1, 2)])
 ·show (_ : Exit → St → Prop) (.exit 0) _
  refine E6 (Fp (seq ?_))
  obtain ⟨y13, e14, h⟩ := ak h
  refine ay ae [(28, vb y13)] 3 [hn, hg [] [] true 0 (q := (0 + x12.length ≤ x12.length) ∧ (True) ∧ (True)) ⟨br, tv, tv⟩ (a0 := [vl 1 Rs x12, vs (mk #[])]) (s9 x12 (mk #[]) y13 e14) ⟨aR.refl _, aR.refl _, tv⟩ (fun _ => tv)] ?_
  refine Fw h (fun c15 h => ?_) (fun c15 h => ?_)
  ·refine ah ae [(9, vb false), (8, aV 0)] 5 (ret (Fo ?_))
   apply al h (.tup [aV 0, vb false])
  ·refine skip (Fp ?_)
   obtain ⟨y16, e17, h⟩ := ak h
   obtain ⟨g18, h⟩ := aN h
   obtain ⟨y19, e20, h⟩ := ak h
   obtain ⟨y21, e22, h⟩ := ak h
   refine Fv ae eC [] [(9, vb true), (8, aV y21)] [] 9 [hn, hn, hk (t7 p2 y16 e17), ho g18, hk (oL p0 ((mk #[98, 108, 111, 99, 107]) ++ y16) y19 e20), hn, hg [] [] true 0 (q := ((True) ∧ (True) ∧ (True)) ∧ (0 + x12.length ≤ x12.length) ∧ (True)) ⟨⟨tv, tv, tv⟩, br, tv⟩ (a0 := [.agg (bp y19), vl 1 Rs x12]) (iP y19 x12 y21 e22) ⟨aR.refl _, aR.refl _, tv⟩ (fun _ => tv)] ?_
   refine ret ?_
   apply al h (.tup [aV y21, vb true])
structure aH where
 Hash : Int
 IDs : List Int
def aE : aH := ⟨0, ([] : List Int)⟩
instance : Inhabited aH := ⟨aE⟩
def zE (x : aH) : List T := [.v (.int .u64 x.Hash), .tree x.IDs.length 1 (aF x.IDs)]
def bn (xs : List aH) : Nat → Nat → T := be aE zE xs
noncomputable def kY (p0 : Int) : Option Bool := some (p0 != p0)
theorem KZ (p0 : Int) (r : Bool) (h : kY p0 = some r) : CT 134 [aV p0] [] (vb r) [] := by
 refine an ae 0 Tryz.func134 rfl (fun _ _ _ => ?_)
 unfold kY at h
 refine ah ae [] 1 ?_
 refine ah ae [(2, vb (p0 != p0))] 5 (ret ?_)
 apply al h (vb (p0 != p0))
noncomputable def oS (p0 : Int) (p1 : Int) : Option Int := (kY p0).bind fun y1 => ((kY p1).bind fun y3 => (if y1 then (if y3 then (some 0) else (some (-1))) else (if y3 then (some 1) else (if (decide (p0 < p1)) then (some (-1)) else (if (decide (p0 > p1)) then (some 1) else (some 0))))))
theorem xJ (p0 : Int) (p1 : Int) (r : Int) (h : oS p0 p1 = some r) : CT 98 [aV p0, aV p1] [] (af r) [] := by
 refine an ae 0 Tryz.func98 rfl (fun _ _ _ => ?_)
 unfold oS at h
 refine ah ae [] 1 ?_
 obtain ⟨y1, e2, h⟩ := ak h
 refine ay ae [(5, vb y1)] 3 [hn, hk (KZ p0 y1 e2)] ?_
 obtain ⟨y3, e4, h⟩ := ak h
 refine ay ae [(6, vb y3)] 5 [hn, hk (KZ p1 y3 e4)] (seq ?_)
 refine ah ae [(11, vb y1)] 6 ?_
 refine Fw h (fun c5 h => ?_) (fun c5 h => ?_)
 ·refine seq ?_
  refine ah ae [(12, vb y3)] 7 ?_
  refine Fw h (fun c6 h => ?_) (fun c6 h => ?_)
  ·refine ah ae [(4, af 0)] 8 (ret (Fo (Fo ?_)))
   apply al h (af 0)
  ·refine skip (Fp ?_)
   refine ah ae [(4, af (-1))] 8 (ret (Fo ?_))
   apply al h (af (-1))
 ·refine skip (Fp (seq ?_))
  refine ah ae [(13, vb y3)] 7 ?_
  refine Fw h (fun c7 h => ?_) (fun c7 h => ?_)
  ·refine ah ae [(4, af 1)] 8 (ret (Fo ?_))
   apply al h (af 1)
  ·refine skip (Fp (seq ?_))
   refine ah ae [(16, vb (decide (p0 < p1)))] 10 ?_
   refine Fw h (fun c8 h => ?_) (fun c8 h => ?_)
   ·refine ah ae [(4, af (-1))] 11 (ret (Fo ?_))
    apply al h (af (-1))
   ·refine skip (Fp (seq ?_))
    refine ah ae [(19, vb (decide (p0 > p1)))] 13 ?_
    refine Fw h (fun c9 h => ?_) (fun c9 h => ?_)
    ·refine ah ae [(4, af 1)] 14 (ret (Fo ?_))
     apply al h (af 1)
    ·refine skip (Fp ?_)
     refine ah ae [(4, af 0)] 14 (ret ?_)
     apply al h (af 0)
noncomputable def kM (p0 : aH) (p1 : Int) : Option Int := (oS p0.Hash p1).bind fun y1 => (some y1)
theorem tk (p0 : aH) (p1 : Int) (r : Int) (h : kM p0 p1 = some r) : CT 97 [.agg [aw p0.Hash, cl 1 aF p0.IDs], aV p1] [] (af r) [] := by
 refine an ae 0 Tryz.func97 rfl (fun _ _ _ => ?_)
 unfold kM at h
 refine Fs ae [(2, pX 0 2)] [0] [(0, .box 176 [aw p0.Hash, cl 1 aF p0.IDs])] 2 [] ?_
 obtain ⟨y1, e2, h⟩ := ak h
 refine ay ae [(4, af y1)] 6 [hn, hn, hn, hk (xJ p0.Hash p1 y1 e2)] (ret ?_)
 apply al h (af y1)
noncomputable def nz (p0 : List aH) (p1 : Int) (x3 : Int) (x4 : Int) : Option ((Int × Int) ⊕ Int) := if (decide (x3 < x4)) then ((some (i64.wrap (bJ .u64 (u64.wrap (i64.wrap (x3 + x4))) 1))).bind fun z7 => (if 0 ≤ z7 then (if z7 < (p0.length : Int) then ((kM (p0.getD z7.toNat aE) p1).bind fun y11 => (if (decide (y11 < 0)) then (some (.inl (i64.wrap (z7 + 1), x4))) else (some (.inl (x3, z7))))) else none) else none)) else (some (.inr x3))
noncomputable def kb (x14 : Int) (x15 : Bool) : Option (Int × Bool) := some (x14, x15)
noncomputable def nC (p0 : List aH) (p1 : Int) : Option (Int × Bool) := (loop (fun v : Int × Int => nz p0 p1 v.1 v.2) (0, (p0.length : Int))).bind fun x14 => (if (decide (x14 < (p0.length : Int))) then (if 0 ≤ x14 then (if x14 < (p0.length : Int) then ((kM (p0.getD x14.toNat aE) p1).bind fun y19 => (kb x14 (y19 == 0))) else none) else none) else (kb x14 false))
theorem xl (p0 : List aH) (p1 : Int) (r : Int × Bool) (h : nC p0 p1 = some r) : CT 96 [vl 2 bn p0, aV p1, .c (.t (.v (.func (.func 97) #[] #[])))] [] (.tup [af r.1, vb r.2]) [] := by
 refine an ae 0 Tryz.func96 rfl (fun _ _ _ => ?_)
 unfold nC at h
 refine ah ae [] 2 ?_
 refine ah ae [(8, af (p0.length : Int))] 5 ?_
 refine ah ae [(10, af (p0.length : Int)), (9, af 0)] 8 (seq (block ?_))
 obtain ⟨x14, l21, h⟩ := ak h
 refine Fy l21 (fun v => ⟨[(0, vl 2 bn p0), (1, aV p1), (2, .c (.t (.v (.func (.func 97) #[] #[])))), (8, af (p0.length : Int)), (9, af v.1), (10, af v.2)], [], 0⟩) (fun t : Int => (.exit 0, ⟨[(0, vl 2 bn p0), (1, aV p1), (2, .c (.t (.v (.func (.func 97) #[] #[])))), (8, af (p0.length : Int)), (9, af t)], [], 0⟩)) (ai []) (fun _ => tv) ?_ ?_
 ·clear l21 h
  intro v o h
  obtain ⟨x3, x4⟩ := v
  replace h : nz p0 p1 x3 x4 = some o := h
  unfold nz at h
  refine seq ?_
  refine ah ae [(17, vb (decide (x3 < x4)))] 3 ?_
  refine Fw h (fun c6 h => ?_) (fun c6 h => ?_)
  ·refine skip (Fp (block ?_))
   obtain ⟨z7, n8, h⟩ := ak h
   replace n8 := am n8
   refine ay ae [(11, af z7)] 10 [hn, hn, hn, hn, ho (p := 0 ≤ (1 : Int)) (by decide)] ?_ (by subst n8; kernel_rfl)
   obtain ⟨g9, g10, h⟩ := aG h
   obtain ⟨y11, e12, h⟩ := ak h
   refine ay ae [(31, vb (decide (y11 < 0)))] 17 [hn, hn, hn, hq g9 g10, hn, hn, hk (tk (p0.getD z7.toNat aE) p1 y11 e12)] ?_
   refine Fw h (fun c13 h => ?_) (fun c13 h => ?_)
   ·refine aS ae [(9, af (i64.wrap (z7 + 1)))] 20 ?_
    refine Fj ?_
    exact bu h (ai [])
   ·refine aS ae [(10, af z7)] 19 ?_
    refine Fj ?_
    exact bu h (ai [])
  ·refine exit (Fb ?_)
   exact aU h rfl (ai [])
 ·show (_ : Exit → St → Prop) (.exit 0) _
  refine E6 (Fp (seq ?_))
  refine AW.join (ι := Bool) (fun v => ⟨[(6, af x14), (7, vb v)], [], 0⟩) (fun v : Bool => kb x14 v = some r) (fun x15 h => ?_) ?_
  ·unfold kb at h
   refine Fp (ret ?_)
   apply al h (.tup [af x14, vb x15])
  ·rcases aD h with ⟨c16, h⟩ | ⟨c16, h⟩
   ·obtain ⟨g17, g18, h⟩ := aG h
    obtain ⟨y19, e20, h⟩ := ak h
    refine au ae [(7, vb (y19 == 0)), (6, af x14)] 15 [hn, hn, hn, ht c16, hn, hn, hn, hn, hq g17 g18, hn, hn, hk (tk (p0.getD x14.toNat aE) p1 y19 e20)] ?_
    exact jl (y19 == 0) h
   ·refine au ae [(7, vb false), (6, af x14)] 16 [hn, hn, hn, hf c16] ?_
    exact jl false h
section
open Go.RowKit Go.Lib
theorem lS {P : Program} (w : World) (dT sT ty elem : TypeId) (k : Nat) (g o dLen dCap : Nat) (a : Addr) (sLen sCap : Nat) (cur : Array Value) (t : TypeId) (cs : List Value)
  (hu : P.underlying dT = some (.slice elem)) (hs : (P.info? elem).map (·.size) = some k)
  (hg : w.heap[g]? = some (.cells cur t (0, 0))) (hn : cs.length = Nat.min sLen dLen * k)
  (hsrc : ∀ j v, cs[j]? = some v → w.cell? (a.add j) = some v) (hfit : o + cs.length ≤ cur.size) (h1 : ∀ v ∈ cs, v.oneCell' = true) :
  (Builtin.copy_ #[dT, sT] ty #[.slice (some ⟨g, o, none⟩) dLen dCap, .slice (some a) sLen sCap]).run P w =
   .ok (goInt (Nat.min sLen dLen)) (w.setRow g (cur.toList.take o ++ cs ++ cur.toList.drop (o + cs.length)).toArray) := by
 have hl := run_loadCells_list (P := P) w a cs hsrc
 have hst := run_storeCells_at P g o t cs 0 cur w hg (by simpa using hfit) h1
 cases hq : P.info? elem with
 | none => simp [hq] at hs
 | some i =>
  have hi : i.size = k := by simpa [hq] using hs
  simp [Builtin.copy_, run_underlying hu, Builtin.lenOf, Builtin.firstCells, sizeOf, typeInfo, hq, hi, ← hn, hl, hst]
theorem uq {P : Program} {ops : Array Oper} {o : Oper} {a : Act} {w : World} {K : Act → World → Prop} {Q : Exit → Act → World → Prop} {E : Prop}
  (hg : o.guard = none) (d x : Operand) (dT sT : TypeId) (hop : o.op = Op.call { callee := Callee.builtin Builtin.copy, args := #[d, x], argTypes := #[dT, sT] })
  (v u : Value) (hd : a.eval d = v) (hx : a.eval x = u) {v' : Value} {w' : World} (hr : (Builtin.copy_ #[dT, sT] o.type #[v, u]).run P w = .ok v' w') (hK : K (a.put o.dst v') w') :
  if Region.wanted o (yielded ops a.tmps) = true then Oper.wp P o a w K Q else E := by
 have hw : Region.wanted o (yielded ops a.tmps) = true := by simp [Region.wanted, hg]
 rw [if_pos hw]
 unfold Oper.wp
 simp [execOp, hop, resolve, invoke, builtin, hd, hx, hr, Result.andThen]
 exact hK
theorem wG : ∃ i, Tryz.prog.info? 176 = some i ∧ i.zero = some (.agg #[.int .u64 0, .slice none 0 0]) ∧ i.size = 2 ∧ i.bytes = 32 := by
 have h : (Tryz.prog.info? 176).map (fun i => (i.zero, i.size, i.bytes)) = some (some (.agg #[.int .u64 0, .slice none 0 0]), 2, 32) := by kernel_rfl
 obtain ⟨i, hi, e⟩ := Option.map_eq_some_iff.1 h
 simp only [FV] at e
 exact ⟨i, hi, e.1, e.2.1, e.2.2⟩
def gd (w w' : World) (base : Nat) (v v' : Value) (n : Nat) (xs : List Value) : Prop := w'.ownsRow base 176 2 v' n xs ∧ w.grownBy w' v.ownBlock ∧ (v'.ownBlock = v.ownBlock ∨ ∃ g, v'.ownBlock = some g ∧ w.heap.size ≤ g)
theorem N9 (v : Value) (n base vb vc : Nat) (xs : List Value) (h : Value) (w : World) (hown : w.ownsRow base 176 2 v n xs) (hn : Hid (n ≤ 1000)) (hb : base ≤ w.heap.size)
  (hv0 : w.cell? ⟨vb, 0, none⟩ = some h) (hv1 : w.cell? ⟨vb, 1, none⟩ = some (.slice none 0 0)) (hh : h.oneCell' = true) :
  Calls Tryz.prog 99 #[v, .int .i64 (n : Int), .slice (some ⟨vb, 0, none⟩) 1 vc] w fun e w' => ∃ v', e = .returned v' ∧ gd w w' base v v' (n + 1) (xs ++ [h, .slice none 0 0]) := by
 obtain ⟨i, hi, hz, hs, hby⟩ := wG
 have hnew : ∀ j u, [h, Value.slice none 0 0][j]? = some u → w.cell? ((⟨vb, 0, none⟩ : Addr).add j) = some u := fun j u hj => by
  rw [Addr.add_lit]
  match j, hj with
  | 0, hj => obtain rfl := am hj; exact hv0
  | 1, hj => obtain rfl := am hj; exact hv1
  | j + 2, hj => cases hj
 have h1 : ∀ u ∈ [h, Value.slice none 0 0], u.oneCell' = true := fun u hu => by
  rcases F1.1 hu with rfl | hu
  ·exact hh
  ·rw [FQ.1 hu]; rfl
 have HO : Hid (w.ownsRow base 176 2 v n xs) := hown
 refine calls_of_wp Tryz.func99 rfl ?_
 simp only [Tryz.ntmps99, FW, FN, FP, Nat.reduceAdd, Nat.reduceSub, Array.replicate_succ, Array.replicate_zero, List.push_toArray, List.append_toArray, Gf, List.cons_append]
 rcases hown.2 with ⟨rfl, rfl⟩ | ⟨g, cap, cur, rfl, hbg, hg, hnc, hcm, hcs, htake⟩
 ·go_wp2_with (at_builtin; refine wpList_append_own_at _ rfl _ _ 121 rfl base 176 i _ 2 32 Tryz.underlying121 hi hz hs hby rfl (by decide) _ _ xs rfl HO.out ⟨vb, 0, none⟩ 1 vc _ rfl rfl hnew h1 (by decide) (by decide) hb ?_; intro v' w' o1 o2 o3 o4)
  go_ret
  exact ⟨_, rfl, o1, o2, o4.imp id fun e => ⟨_, e, F9 _⟩⟩
 ·clear hown hg hcs htake
  go_wp2_with (at_builtin; refine wpList_append_own_at _ rfl _ _ 121 rfl base 176 i _ 2 32 Tryz.underlying121 hi hz hs hby rfl (by decide) _ _ xs rfl HO.out ⟨vb, 0, none⟩ 1 vc _ rfl rfl hnew h1 (by have := hn.out; unfold maxLen; omega) (by have := hn.out; omega) hb ?_; intro v' w' o1 o2 o3 o4)
  all_goals
   go_ret
   exact ⟨_, rfl, o1, o2, o4.imp id fun e => ⟨_, e, F9 _⟩⟩
end
section
open Go.RowKit Go.Lib
theorem wq {w : World} {b : Nat} {cur : Array Value} {t : TypeId} (h : w.heap[b]? = some (.cells cur t (0, 0))) : w.shape? b = some (t, cur.size) := by simp [World.shape?, h]
theorem wH {w : World} {b o : Nat} {cur : Array Value} {t : TypeId} (h : w.heap[b]? = some (.cells cur t (0, 0))) : w.frozen? ⟨b, o, none⟩ = false := by simp [World.frozen?, h]
theorem eo {w : World} {b j : Nat} {cur : Array Value} {t : TypeId} (h : w.heap[b]? = some (.cells cur t (0, 0))) : w.cell? ⟨b, j, none⟩ = cur.toList[j]? := by simp [World.cell?, h]
theorem Bj (g n cap i base vb vc : Nat) (cur : Array Value) (xs : List Value) (h : Value) (w : World) (hbg : base ≤ g) (hg : w.heap[g]? = some (.cells cur 176 (0, 0))) (hroom : n + 1 ≤ cap) (hcm : cap ≤ maxLen) (hcs : cur.size = cap * 2) (htake : cur.toList.take (n * 2) = xs) (hi : i < n)
  (hx1 : ∀ u ∈ xs, u.oneCell' = true) (hn : Hid (n ≤ 1000)) (hvb : vb ≠ g) (hv : w.heap[vb]? = some (.cells #[h, .slice none 0 0] 176 (0, 0))) (hh : h.oneCell' = true) :
  Calls Tryz.prog 99 #[.slice (some ⟨g, 0, none⟩) n cap, .int .i64 (i : Int), .slice (some ⟨vb, 0, none⟩) 1 vc] w fun e w' => ∃ v', e = .returned v' ∧ gd w w' base (.slice (some ⟨g, 0, none⟩) n cap) v' (n + 1) (xs.take (i * 2) ++ [h, .slice none 0 0] ++ xs.drop (i * 2)) := by
 have hxl : xs.length = n * 2 := by
  rw [← htake, FR, Array.length_toList, hcs]
  omega
 have hz2 : ¬ ((i : Int) = (n : Int)) := by omega
 have hsz : (Tryz.prog.info? 176).map (·.size) = some 2 := by kernel_rfl
 have hov : ∀ lb cb, (callFunc 135 #[.slice (some ⟨vb, 0, none⟩) 1 vc, .slice (some ⟨g, (i + 1) * 2, none⟩) lb cb]).run Tryz.prog w = .ok (.value (.bool false)) w := fun lb cb => by
  rw [run_callFunc_extern Tryz.func135 (by kernel_rfl) (by kernel_rfl) (by kernel_rfl) (e := Extern.SlicesOverlaps.overlaps #[121, 121] #[4]) (by kernel_rfl),
   Lib.run_overlaps_apart w 121 4 176 Tryz.underlying121 2 Tryz.sizeOf176 ⟨vb, 0, none⟩ ⟨g, (i + 1) * 2, none⟩ 1 vc lb cb hvb 176 176 2 cur.size (wq hv) (wq hg) (by rw [hcs]; omega) (wH hv) (wH hv)]
  rfl
 have hw1 : i64.wrap ((i : Int) + 1) = (i : Int) + 1 := by have := hn.out; rw [IntKind.wrap_i64]; omega
 have hw2 : i64.wrap ((n : Int) + 1) = (n : Int) + 1 := by have := hn.out; rw [IntKind.wrap_i64]; omega
 have hin : i ≤ n := by omega
 have hb1 : (0 : Int) ≤ (i : Int) + 1 := by omega
 have htn : ((i : Int) + 1).toNat = i + 1 := by omega
 have htn2 : ((n : Int) + 1).toNat = n + 1 := by omega
 have hb2 : ¬ (cap = i + 1) := by omega
 have hb3 : (i : Int) ≤ (n : Int) := by omega
 have hb4 : ¬ (cap = i) := by omega
 have hb5 : ¬ ((cap : Int) < (n : Int) + 1) := by omega
 have hb6 : (n : Int) + 1 ≤ (cap : Int) := by omega
 have hb7 : (i : Int) + 1 ≤ (n : Int) + 1 := by omega
 have hb8 : (i : Int) ≤ (n : Int) + 1 := by omega
 have mixed : Tryz.prog.follows .mixedOrders = true := by kernel_rfl
 have HG : Hid (w.heap[g]? = some (.cells cur 176 (0, 0))) := hg
 have HV : Hid (w.heap[vb]? = some (.cells #[h, .slice none 0 0] 176 (0, 0))) := hv
 have HT : Hid (cur.toList.take (n * 2) = xs) := htake
 have HC : Hid (cur.size = cap * 2) := hcs
 have hdl : (xs.drop (i * 2)).length = (n - i) * 2 := by rw [FU, hxl]; omega
 have hmin : Nat.min (n + 1 - i) (n - i) = n - i := by show min (n + 1 - i) (n - i) = n - i; omega
 have hmin2 : Nat.min 1 (n + 1 - i) = 1 := by show min 1 (n + 1 - i) = 1; omega
 have hcell : ∀ j v, xs[j]? = some v → w.cell? ⟨g, j, none⟩ = some v := fun j v hj => by
  rw [eo hg]
  rw [← htake, List.getElem?_take] at hj
  split at hj
  ·exact hj
  ·cases hj
 obtain ⟨c1, hc1⟩ : ∃ c1 : Array Value, c1 = (cur.toList.take ((i + 1) * 2) ++ xs.drop (i * 2) ++ cur.toList.drop ((i + 1) * 2 + (xs.drop (i * 2)).length)).toArray := ⟨_, rfl⟩
 have hc1s : c1.size = cap * 2 := by
  rw [hc1]
  simp only [FW, FO, FR, FU, Array.length_toList, hcs, hxl]
  omega
 obtain ⟨c2, hc2⟩ : ∃ c2 : Array Value, c2 = (c1.toList.take (i * 2) ++ [h, .slice none 0 0] ++ c1.toList.drop (i * 2 + [h, Value.slice none 0 0].length)).toArray := ⟨_, rfl⟩
 have hc2s : c2.size = cap * 2 := by
  rw [hc2]
  simp only [FW, FO, FR, FU, Array.length_toList, hc1s, FN, FP]
  omega
 have hc2t : c2.toList.take ((n + 1) * 2) = xs.take (i * 2) ++ [h, .slice none 0 0] ++ xs.drop (i * 2) := by
  have e1 : c1.toList = cur.toList.take ((i + 1) * 2) ++ xs.drop (i * 2) ++ cur.toList.drop ((i + 1) * 2 + (xs.drop (i * 2)).length) := by rw [hc1]
  have e2 : c1.toList.take (i * 2) = xs.take (i * 2) := by
   rw [e1, F7, List.take_append_of_le_length (by rw [FR, Array.length_toList, hcs]; omega), List.take_take, ← htake, List.take_take]
   congr 1
   omega
  have e3 : c1.toList.drop (i * 2 + 2) = xs.drop (i * 2) ++ cur.toList.drop ((i + 1) * 2 + (xs.drop (i * 2)).length) := by
   rw [e1, F7, List.drop_append_of_le_length (by rw [FR, Array.length_toList, hcs]; omega), List.drop_eq_nil_of_le (by rw [FR]; omega), Gf]
  rw [hc2]
  show List.take _ (List.toArray _).toList = _
  rw [show ([h, Value.slice none 0 0] : List Value).length = 2 from rfl, e2, e3]
  simp only [F7]
  rw [← F7, ← F7, List.take_append_of_le_length (by simp only [FO, FR, hxl, hdl, FN, FP]; omega), Gk (by simp only [FO, FR, hxl, hdl, FN, FP]; omega)]
  simp
 obtain ⟨W1, hW1⟩ : ∃ W1, W1 = w.drew.setRow g c1 := ⟨_, rfl⟩
 have hg1 : W1.heap[g]? = some (.cells c1 176 (0, 0)) := by rw [hW1]; exact setRow_heap w.drew g cur c1 176 _ hg
 have hv1 : W1.heap[vb]? = some (.cells #[h, .slice none 0 0] 176 (0, 0)) := by rw [hW1, setRow_other w.drew g vb c1 hvb]; exact hv
 have hcp1 : ∀ ty dc sc, (Builtin.copy_ #[121, 121] ty #[.slice (some ⟨g, (i + 1) * 2, none⟩) (n - i) dc, .slice (some ⟨g, i * 2, none⟩) (n + 1 - i) sc]).run Tryz.prog w.drew = .ok (goInt ((n - i : Nat) : Int)) W1 := fun ty dc sc => by
  have := lS (P := Tryz.prog) w.drew 121 121 ty 176 2 g ((i + 1) * 2) (n - i) dc ⟨g, i * 2, none⟩ (n + 1 - i) sc cur 176 (xs.drop (i * 2)) Tryz.underlying121 hsz hg (by rw [hmin, hdl]) (fun j v hj => by
    rw [Addr.add_lit]
    rw [List.getElem?_drop] at hj
    exact hcell _ v hj) (by rw [hdl, hcs]; omega) (fun u hu => hx1 u (List.mem_of_mem_drop hu))
  rw [hmin, ← hc1, ← hW1] at this
  exact this
 have hcp2 : ∀ ty dc, (Builtin.copy_ #[121, 121] ty #[.slice (some ⟨g, i * 2, none⟩) (n + 1 - i) dc, .slice (some ⟨vb, 0, none⟩) 1 vc]).run Tryz.prog W1 = .ok (goInt 1) (W1.setRow g c2) := fun ty dc => by
  have := lS (P := Tryz.prog) W1 121 121 ty 176 2 g (i * 2) (n + 1 - i) dc ⟨vb, 0, none⟩ 1 vc c1 176 [h, .slice none 0 0] Tryz.underlying121 hsz hg1 (by rw [hmin2]; rfl) (fun j v hj => by
    rw [Addr.add_lit, Gg, eo hv1]
    exact hj) (by rw [hc1s]; simp only [FN, FP]; omega) (fun u hu => by
    rcases F1.1 hu with rfl | hu
    ·exact hh
    ·rw [FQ.1 hu]; rfl)
  rw [hmin2, ← hc2] at this
  exact this
 have hfin : gd w (W1.setRow g c2) base (.slice (some ⟨g, 0, none⟩) n cap) (.slice (some ⟨g, 0, none⟩) (n + 1) cap) (n + 1) (xs.take (i * 2) ++ [h, .slice none 0 0] ++ xs.drop (i * 2)) := by
  refine ⟨⟨?_, .inr ⟨g, cap, c2, rfl, hbg, setRow_heap W1 g c1 c2 176 _ hg1, hroom, hcm, hc2s, hc2t⟩⟩, ⟨?_, ?_, ?_, ?_, fun k hk hne => ?_⟩, .inl rfl⟩
  ·simp only [FO, FR, hxl, hdl, FN, FP]
   omega
  ·rw [hW1]; rfl
  ·rw [hW1]; rfl
  ·rw [hW1]; rfl
  ·rw [hW1]; simp
  ·have hk' : k ≠ g := fun e => hne (by rw [e]; rfl)
   rw [setRow_other _ g k c2 hk', hW1, setRow_other _ g k c1 hk']
   rfl
 have HF : Hid _ := hfin
 have H1 : Hid _ := hcp1
 have H2 : Hid _ := hcp2
 clear hg hv htake hcs hfin hcp1 hcp2 hg1 hv1 hW1 hc1 hc2 hc1s hc2s hc2t hmin hmin2 hdl hxl hcell hx1
 refine calls_of_wp Tryz.func99 rfl ?_
 simp only [Tryz.ntmps99, FW, FN, FP, Nat.reduceAdd, Nat.reduceSub, Array.replicate_succ, Array.replicate_zero, List.push_toArray, List.append_toArray, Gf, List.cons_append]
 go_wp2_with (simp only [hov])
 go_region_law_o (refine uq rfl _ _ 121 121 rfl (.slice (some ⟨g, (i + 1) * 2, none⟩) (n - i) (cap - (i + 1))) (.slice (some ⟨g, i * 2, none⟩) (n + 1 - i) (cap - i)) (by simp [Act.eval, Act.put]) (by simp [Act.eval, Act.put]) (H1.out 3 (cap - (i + 1)) (cap - i)) ?_)
 go_wp2
 rw [H2.out]
 go_wp2
 go_ret
 exact ⟨_, rfl, HF.out⟩
end
section
open Go.RowKit Go.Lib
theorem BK (g n cap i base vb vc : Nat) (cur : Array Value) (xs : List Value) (h : Value) (w : World) (hbg : base ≤ g) (hg : w.heap[g]? = some (.cells cur 176 (0, 0))) (hnc : n ≤ cap) (hroom : cap < n + 1) (hcs : cur.size = cap * 2) (htake : cur.toList.take (n * 2) = xs) (hi : i < n)
  (hx1 : ∀ u ∈ xs, u.oneCell' = true) (hn : Hid (n ≤ 1000)) (hv : w.heap[vb]? = some (.cells #[h, .slice none 0 0] 176 (0, 0))) (hh : h.oneCell' = true) :
  Calls Tryz.prog 99 #[.slice (some ⟨g, 0, none⟩) n cap, .int .i64 (i : Int), .slice (some ⟨vb, 0, none⟩) 1 vc] w fun e w' => ∃ v', e = .returned v' ∧ gd w w' base (.slice (some ⟨g, 0, none⟩) n cap) v' (n + 1) (xs.take (i * 2) ++ [h, .slice none 0 0] ++ xs.drop (i * 2)) := by
 obtain ⟨i0, hi0, hz0, hzs, hzb⟩ := wG
 have hxl : xs.length = n * 2 := by
  rw [← htake, FR, Array.length_toList, hcs]
  omega
 have hgw : g < w.heap.size := (Array.getElem?_eq_some_iff.1 hg).1
 have hvw : vb < w.heap.size := (Array.getElem?_eq_some_iff.1 hv).1
 have hz2 : ¬ ((i : Int) = (n : Int)) := by omega
 have hsz : (Tryz.prog.info? 176).map (·.size) = some 2 := by kernel_rfl
 have hw1 : i64.wrap ((i : Int) + 1) = (i : Int) + 1 := by have := hn.out; rw [IntKind.wrap_i64]; omega
 have hw2 : i64.wrap ((n : Int) + 1) = (n : Int) + 1 := by have := hn.out; rw [IntKind.wrap_i64]; omega
 have hw3 : i64.wrap ((n : Int) + 1 - (i : Int)) = (n : Int) + 1 - (i : Int) := by have := hn.out; rw [IntKind.wrap_i64]; omega
 have hin : i ≤ n := by omega
 have hic : i ≤ cap := by omega
 have hb1 : (0 : Int) ≤ (i : Int) + 1 := by omega
 have htn : ((i : Int) + 1).toNat = i + 1 := by omega
 have hb3 : (i : Int) ≤ (n : Int) := by omega
 have hb4 : ¬ (cap = i) := by omega
 have hb5 : (cap : Int) < (n : Int) + 1 := by omega
 have hb7 : (i : Int) + 1 ≤ (n : Int) + 1 := by omega
 have hb8 : (i : Int) ≤ (n : Int) + 1 := by omega
 have mixed : Tryz.prog.follows .mixedOrders = true := by kernel_rfl
 have hkk : (n : Int) + 1 - (i : Int) = ((n + 1 - i : Nat) : Int) := by omega
 have hik : i + (n + 1 - i) = n + 1 := by omega
 have hcell : ∀ j v, xs[j]? = some v → w.cell? ⟨g, j, none⟩ = some v := fun j v hj => by
  rw [eo hg]
  rw [← htake, List.getElem?_take] at hj
  split at hj
  ·exact hj
  ·cases hj
 have hdl : (xs.drop (i * 2)).length = (n - i) * 2 := by rw [FU, hxl]; omega
 have hold : (Builtin.firstCells i0.size i (.slice (some ⟨g, 0, none⟩) i cap)).run Tryz.prog w.drew = .ok (xs.take (i * 2)).toArray w.drew := by
  rw [hzs]
  exact run_firstCells_some w.drew 2 i ⟨g, 0, none⟩ i cap (xs.take (i * 2)) (by rw [FR]; omega) (fun j v hj => by
   rw [Addr.add_lit, Gg]
   rw [List.getElem?_take] at hj
   split at hj
   ·exact hcell j v hj
   ·cases hj)
 obtain ⟨G, hG⟩ : ∃ G, G = grownCap w (n + 1) cap 176 := ⟨_, rfl⟩
 have hGn : n + 1 ≤ G := by rw [hG]; exact grownCap_ge w _ _ _
 have hG63 : G ≤ maxLen := by rw [hG]; exact grownCap_le_maxLen w (n + 1) cap 176 (by have := hn.out; unfold maxLen; omega)
 obtain ⟨row, hrow⟩ : ∃ row : Array Value, row = (xs.take (i * 2)).toArray ++ Builtin.zeroCells (Value.agg #[.int .u64 0, .slice none 0 0]).cells (n + 1 - i) ++ Builtin.zeroCells (Value.agg #[.int .u64 0, .slice none 0 0]).cells (G - (n + 1)) := ⟨_, rfl⟩
 have hrs : row.size = G * 2 := by
  rw [hrow]
  simp only [Array.size_append, size_zeroCells, FW, FR, hxl]
  simp only [Value.cells, FW, FN, FP]
  omega
 have hrt : row.toList.take (i * 2) = xs.take (i * 2) := by
  rw [hrow, Array.toList_append, Array.toList_append, F7, List.take_append_of_le_length (by simp only [FR, hxl]; omega)]
  rw [Gk (by simp only [FR, hxl]; omega)]
 have hrz : ∀ ty, (Builtin.append_ #[121, 3] ty #[.slice (some ⟨g, 0, none⟩) i cap, .int .i64 ((n : Int) + 1 - (i : Int))]).run Tryz.prog w = .ok (.slice (some ⟨w.heap.size, 0, none⟩) (n + 1) G) (w.drew.alloc (.cells row 176)) := fun ty => by
  have h := Lib.run_append_grow_zeros (P := Tryz.prog) w 121 3 ty 176 i0 _ .i64 .i64 Tryz.underlying121 Tryz.underlying3 hi0 hz0 (some ⟨g, 0, none⟩) i cap (xs.take (i * 2)) hold (n + 1 - i) (by omega) (by omega) (by omega) (by have := hn.out; omega) (by have := hn.out; rw [hzb]; omega) (by
   have := hn.out
   rw [hzb, hik]
   exact growslice_fits hroom (by omega))
  rw [hik, ← hG, ← hrow] at h
  rw [hkk]
  exact h
 obtain ⟨N, hN⟩ : ∃ N, N = w.heap.size := ⟨_, rfl⟩
 rw [← hN] at hrz
 have hgN : g ≠ N := by omega
 have hvN : vb ≠ N := by omega
 obtain ⟨W1, hW1⟩ : ∃ W1, W1 = w.drew.alloc (.cells row 176) := ⟨_, rfl⟩
 rw [← hW1] at hrz
 have k1 : W1.heap[N]? = some (.cells row 176 (0, 0)) := by rw [hW1, hN]; exact heap_alloc_new w.drew _
 have k2 : ∀ b, b < N → W1.heap[b]? = w.heap[b]? := fun b hb => by rw [hW1]; exact (World.grownBy_alloc w.drew (.cells row 176) none).block b (by rw [hN] at hb; exact hb) (by simp)
 obtain ⟨c1, hc1⟩ : ∃ c1 : Array Value, c1 = (row.toList.take (i * 2) ++ [h, .slice none 0 0] ++ row.toList.drop (i * 2 + [h, Value.slice none 0 0].length)).toArray := ⟨_, rfl⟩
 have hc1s : c1.size = G * 2 := by
  rw [hc1]
  simp only [FW, FO, FR, FU, Array.length_toList, hrs, FN, FP]
  omega
 obtain ⟨W2, hW2⟩ : ∃ W2, W2 = W1.setRow N c1 := ⟨_, rfl⟩
 have m1 : W2.heap[N]? = some (.cells c1 176 (0, 0)) := by rw [hW2]; exact setRow_heap W1 N row c1 176 _ k1
 have m2 : ∀ b, b < N → W2.heap[b]? = w.heap[b]? := fun b hb => by rw [hW2, setRow_other W1 N b c1 (by omega)]; exact k2 b hb
 obtain ⟨c2, hc2⟩ : ∃ c2 : Array Value, c2 = (c1.toList.take ((i + 1) * 2) ++ xs.drop (i * 2) ++ c1.toList.drop ((i + 1) * 2 + (xs.drop (i * 2)).length)).toArray := ⟨_, rfl⟩
 have hc2s : c2.size = G * 2 := by
  rw [hc2]
  simp only [FW, FO, FR, FU, Array.length_toList, hc1s, hxl]
  omega
 have hc2t : c2.toList.take ((n + 1) * 2) = xs.take (i * 2) ++ [h, .slice none 0 0] ++ xs.drop (i * 2) := by
  have e1 : c1.toList.take ((i + 1) * 2) = xs.take (i * 2) ++ [h, .slice none 0 0] := by
   rw [hc1, hrt]
   show List.take _ (_ ++ _ ++ _) = _
   rw [List.take_append_of_le_length (by simp only [FO, FR, hxl, FN, FP]; omega), Gk (by simp only [FO, FR, hxl, FN, FP]; omega)]
  rw [hc2, e1]
  show List.take _ (_ ++ _ ++ _) = _
  rw [List.take_append_of_le_length (by simp only [FO, FR, hdl, hxl, FN, FP]; omega), Gk (by simp only [FO, FR, hdl, hxl, FN, FP]; omega)]
 have hcpA : ∀ (W : World), W.heap = W1.heap → ∀ ty dc, (Builtin.copy_ #[121, 121] ty #[.slice (some ⟨N, i * 2, none⟩) (n + 1 - i) dc, .slice (some ⟨vb, 0, none⟩) 1 vc]).run Tryz.prog W = .ok (goInt 1) (W.setRow N c1) := fun W hW ty dc => by
  have hmin2 : Nat.min 1 (n + 1 - i) = 1 := by show min 1 (n + 1 - i) = 1; omega
  have := lS (P := Tryz.prog) W 121 121 ty 176 2 N (i * 2) (n + 1 - i) dc ⟨vb, 0, none⟩ 1 vc row 176 [h, .slice none 0 0] Tryz.underlying121 hsz (by rw [hW]; exact k1) (by rw [hmin2]; rfl) (fun j v hj => by
    rw [Addr.add_lit, Gg, eo (w := W) (b := vb) (cur := #[h, .slice none 0 0]) (t := 176) (by rw [hW, k2 vb (by omega)]; exact hv)]
    exact hj) (by rw [hrs]; simp only [FN, FP]; omega) (fun u hu => by
    rcases F1.1 hu with rfl | hu
    ·exact hh
    ·rw [FQ.1 hu]; rfl)
  rw [hmin2, ← hc1] at this
  exact this
 have hcpB : ∀ (W : World), W.heap = W2.heap → ∀ ty dc sc, (Builtin.copy_ #[121, 121] ty #[.slice (some ⟨N, (i + 1) * 2, none⟩) (n - i) dc, .slice (some ⟨g, i * 2, none⟩) (n - i) sc]).run Tryz.prog W = .ok (goInt ((n - i : Nat) : Int)) (W.setRow N c2) := fun W hW ty dc sc => by
  have hmin : Nat.min (n - i) (n - i) = n - i := by show min (n - i) (n - i) = n - i; omega
  have := lS (P := Tryz.prog) W 121 121 ty 176 2 N ((i + 1) * 2) (n - i) dc ⟨g, i * 2, none⟩ (n - i) sc c1 176 (xs.drop (i * 2)) Tryz.underlying121 hsz (by rw [hW]; exact m1) (by rw [hmin, hdl]) (fun j v hj => by
    rw [Addr.add_lit, eo (w := W) (b := g) (cur := cur) (t := 176) (by rw [hW, m2 g (by omega)]; exact hg), ← eo hg]
    rw [List.getElem?_drop] at hj
    exact hcell _ v hj) (by rw [hdl, hc1s]; omega) (fun u hu => hx1 u (List.mem_of_mem_drop hu))
  rw [hmin, ← hc2] at this
  exact this
 have hfin : ∀ W : World, W.heap = (W2.setRow N c2).heap → W.os = w.os → W.tape = w.tape → W.output = w.output → gd w W base (.slice (some ⟨g, 0, none⟩) n cap) (.slice (some ⟨N, 0, none⟩) (n + 1) G) (n + 1) (xs.take (i * 2) ++ [h, .slice none 0 0] ++ xs.drop (i * 2)) := fun W e1 e2 e3 e4 => by
  refine ⟨⟨?_, .inr ⟨N, G, c2, rfl, by omega, by rw [e1]; exact setRow_heap W2 N c1 c2 176 _ m1, hGn, hG63, hc2s, hc2t⟩⟩, ⟨e2, e3, e4, ?_, fun k hk hne => ?_⟩, .inr ⟨N, rfl, by omega⟩⟩
  ·simp only [FO, FR, hxl, hdl, FN, FP]
   omega
  ·rw [e1]
   have := (Array.getElem?_eq_some_iff.1 (setRow_heap W2 N c1 c2 176 _ m1)).1
   omega
  ·rw [e1, setRow_other _ N k c2 (by omega)]
   exact m2 k (by omega)
 have hW2o : W2.os = w.os ∧ W2.tape = w.tape ∧ W2.output = w.output := by rw [hW2, hW1]; exact ⟨rfl, rfl, rfl⟩
 have HF : Hid _ := hfin
 have HA : Hid _ := hcpA
 have HB : Hid _ := hcpB
 have HZ : Hid _ := hrz
 have HW : Hid _ := hW2
 have HO : Hid _ := hW2o
 have b1 : ¬ (G = i) := by omega
 have b2 : ¬ (G = i + 1) := by omega
 have b3 : (i : Int) ≤ (G : Int) := by omega
 clear hg hv htake hcs hfin hcpA hcpB hrz hkk hik hcell hdl hold hG hrow hrs hrt hN hW1 k1 k2 hc1 hc1s hW2 m1 m2 hc2 hc2s hc2t hW2o hx1 hxl
 refine calls_of_wp Tryz.func99 rfl ?_
 simp only [Tryz.ntmps99, FW, FN, FP, Nat.reduceAdd, Nat.reduceSub, Array.replicate_succ, Array.replicate_zero, List.push_toArray, List.append_toArray, Gf, List.cons_append]
 go_wp2_with (at_builtin; refine Lib.wpList_append_run _ rfl _ _ _ _ rfl (.slice (some ⟨g, 0, none⟩) i cap) (.int .i64 ((n : Int) + 1 - (i : Int))) rfl rfl _ _ (HZ.out 121) ?_)
 rw [HA.out W1 rfl, ← HW.out]
 go_wp2
 go_region_law_o (refine uq rfl _ _ 121 121 rfl (.slice (some ⟨N, (i + 1) * 2, none⟩) (n - i) (G - (i + 1))) (.slice (some ⟨g, i * 2, none⟩) (n - i) (cap - i)) (by simp [Act.eval, Act.put]) (by simp [Act.eval, Act.put]) (HB.out W2.drew rfl 3 (G - (i + 1)) (cap - i)) ?_)
 go_wp2
 go_ret
 exact ⟨_, rfl, HF.out _ rfl HO.out.1 HO.out.2.1 HO.out.2.2⟩
end
section
open Go.RowKit Go.Lib
theorem Ca (v : Value) (n i base vb : Nat) (xs : List Value) (h : Value) (w : World) (hown : w.ownsRow base 176 2 v n xs) (hi : i ≤ n) (hx1 : ∀ u ∈ xs, u.oneCell' = true) (hn : n ≤ 1000) (hb : base ≤ w.heap.size) (hvb : v.ownBlock ≠ some vb) (hv : w.heap[vb]? = some (.cells #[h, .slice none 0 0] 176 (0, 0))) (hh : h.oneCell' = true) :
  Calls Tryz.prog 99 #[v, .int .i64 (i : Int), .slice (some ⟨vb, 0, none⟩) 1 1] w fun e w' => ∃ v', e = .returned v' ∧ gd w w' base v v' (n + 1) (xs.take (i * 2) ++ [h, .slice none 0 0] ++ xs.drop (i * 2)) := by
 by_cases e : i = n
 ·subst e
  have hl := hown.1
  have := N9 v i base vb 1 xs h w hown hn hb (by rw [eo hv]; rfl) (by rw [eo hv]; rfl) hh
  rw [Gk (by omega), List.drop_of_length_le (by omega), PE]
  exact this
 ·rcases hown.2 with ⟨_, rfl⟩ | ⟨g, cap, cur, rfl, hbg, hg, hnc, hcm, hcs, htake⟩
  ·omega
  ·by_cases hr : n + 1 ≤ cap
   ·exact Bj g n cap i base vb 1 cur xs h w hbg hg hr hcm hcs htake (by omega) hx1 hn (fun e => hvb (by rw [e]; rfl)) hv hh
   ·exact BK g n cap i base vb 1 cur xs h w hbg hg hnc (by omega) hcs htake (by omega) hx1 hn hv hh
end
section
open Go.RowKit
def flatB : List aH → List Value → List Value
 | b :: L, h :: hs => .int .u64 b.Hash :: h :: flatB L hs
 | _, _ => []
theorem vN : ∀ {L : List aH} {hs : List Value}, hs.length = L.length → (flatB L hs).length = L.length * 2
 | [], [], _ => rfl
 | b :: L, h :: hs, e => by
  simp only [FN, Nat.add_right_cancel_iff] at e
  simp only [flatB, FN, vN e]
  omega
 | [], _ :: _, e => by simp at e
 | _ :: _, [], e => by simp at e
theorem mF : ∀ {L : List aH} {hs : List Value} {K : List aH} {ks : List Value}, hs.length = L.length → flatB (L ++ K) (hs ++ ks) = flatB L hs ++ flatB K ks
 | [], [], _, _, _ => rfl
 | b :: L, h :: hs, K, ks, e => by
  simp only [FN, Nat.add_right_cancel_iff] at e
  simp only [flatB, List.cons_append, mF e]
 | [], _ :: _, _, _, e => by simp at e
 | _ :: _, [], _, _, e => by simp at e
theorem AA {L : List aH} {hs : List Value} (e : hs.length = L.length) {i : Nat} (hi : i ≤ L.length) : flatB (L.take i) (hs.take i) = (flatB L hs).take (i * 2) ∧ flatB (L.drop i) (hs.drop i) = (flatB L hs).drop (i * 2) := by
 have e1 : (hs.take i).length = (L.take i).length := by rw [FR, FR, e]
 have h := mF (L := L.take i) (hs := hs.take i) (K := L.drop i) (ks := hs.drop i) e1
 rw [Ge, Ge] at h
 have hl : (flatB (L.take i) (hs.take i)).length = i * 2 := by rw [vN e1, FR]; omega
 rw [h]
 exact ⟨(List.take_left' hl).symm, (List.drop_left' hl).symm⟩
theorem mG : ∀ {L : List aH} {hs : List Value} {j : Nat} {b : aH} {h : Value}, L[j]? = some b → hs[j]? = some h → (flatB L hs)[j * 2]? = some (.int .u64 b.Hash) ∧ (flatB L hs)[j * 2 + 1]? = some h
 | b :: L, h :: hs, 0, _, _, e1, e2 => by simp at e1 e2; subst e1 e2; exact ⟨rfl, rfl⟩
 | b :: L, h :: hs, j + 1, _, _, e1, e2 => by
  have := mG (L := L) (hs := hs) (j := j) (by simpa using e1) (by simpa using e2)
  rw [show (j + 1) * 2 = j * 2 + 1 + 1 by omega]
  simpa [flatB] using this
 | [], _, _, _, _, e, _ => by simp at e
 | _ :: _, [], _, _, _, _, e => by simp at e
theorem vO : ∀ {L : List aH} {hs : List Value} {j : Nat} {b : aH} {h : Value} (ids : List Int) (h' : Value), L[j]? = some b → hs[j]? = some h → flatB (L.set j ⟨b.Hash, ids⟩) (hs.set j h') = (flatB L hs).set (j * 2 + 1) h'
 | b :: L, h :: hs, 0, _, _, _, _, e1, e2 => by simp at e1 e2; subst e1 e2; rfl
 | b :: L, h :: hs, j + 1, _, _, ids, h', e1, e2 => by
  have := vO (L := L) (hs := hs) (j := j) ids h' (by simpa using e1) (by simpa using e2)
  rw [show (j + 1) * 2 + 1 = (j * 2 + 1) + 1 + 1 by omega]
  simp only [List.set_cons_succ, flatB, this]
 | [], _, _, _, _, _, _, e, _ => by simp at e
 | _ :: _, [], _, _, _, _, _, _, e => by simp at e
structure cF (w : World) (n0 : Nat) (v : Value) (L : List aH) (hs : List Value) : Prop where
 len : hs.length = L.length
 row : w.ownsRow n0 176 2 v L.length (flatB L hs)
 ids : ∀ (j : Nat) b h, L[j]? = some b → hs[j]? = some h → w.ownsRow n0 3 1 h b.IDs.length (b.IDs.map (Value.int .i64))
 apv : ∀ (j : Nat) h, hs[j]? = some h → h.ownBlock = none ∨ h.ownBlock ≠ v.ownBlock
 aph : ∀ (i j : Nat) x y, i ≠ j → hs[i]? = some x → hs[j]? = some y → x.ownBlock = none ∨ x.ownBlock ≠ y.ownBlock
def badB (v : Value) (hs : List Value) (x : Nat) : Prop := v.ownBlock = some x ∨ ∃ h ∈ hs, h.ownBlock = some x
theorem cF.nil (w : World) (n0 : Nat) : cF w n0 (.slice none 0 0) [] [] := ⟨rfl, World.ownsRow_nil _ _ _ _, fun j b h e => by simp at e, fun j h e => by simp at e, fun i j x y _ e => by simp at e⟩
theorem cF.hget {w : World} {n0 : Nat} {v : Value} {L : List aH} {hs : List Value} (H : cF w n0 v L hs) {h : Value} (hm : h ∈ hs) : ∃ (j : Nat) (b : aH), L[j]? = some b ∧ hs[j]? = some h := by
 obtain ⟨j, hj, rfl⟩ := List.getElem_of_mem hm
 have := H.len
 exact ⟨j, _, FJ (by omega), FJ hj⟩
theorem cF.lt {w : World} {n0 : Nat} {v : Value} {L : List aH} {hs : List Value} (H : cF w n0 v L hs) : ∀ x, badB v hs x → n0 ≤ x ∧ x < w.heap.size := fun x hx => by
 rcases hx with h | ⟨h, hm, he⟩
 ·exact H.row.lt x h
 ·obtain ⟨j, b, h1, h2⟩ := H.hget hm
  exact (H.ids j b h h1 h2).lt x he
theorem cF.keep {w w' : World} {n0 : Nat} {v : Value} {L : List aH} {hs : List Value} (H : cF w n0 v L hs) (hB : Below w.heap.size w w') : cF w' n0 v L hs := by
 have g : w.grownBy w' none := ⟨hB.os, hB.tape, hB.output, hB.size, fun k hk _ => hB.block k hk⟩
 exact ⟨H.len, H.row.kept g (by cases v.ownBlock <;> simp), fun j b h h1 h2 => (H.ids j b h h1 h2).kept g (by cases h.ownBlock <;> simp), H.apv, H.aph⟩
theorem sf {α : Type} (l : List α) (x : α) {i : Nat} (hi : i ≤ l.length) (k : Nat) : (l.take i ++ [x] ++ l.drop i)[k]? = if k < i then l[k]? else if k = i then some x else l[k - 1]? := by
 have hl : (l.take i).length = i := by rw [FR]; omega
 rw [F7]
 by_cases h1 : k < i
 ·rw [if_pos h1, F3 (by omega), List.getElem?_take, if_pos h1]
 ·rw [if_neg h1, F4 (by omega), hl]
  by_cases h2 : k = i
  ·subst h2; simp
  ·rw [if_neg h2, List.singleton_append, show k - i = (k - i - 1) + 1 by omega, List.getElem?_cons_succ, List.getElem?_drop]
   congr 1
   omega
def dH (L : List aH) (i : Nat) (h : Int) : List aH := L.take i ++ [⟨h, []⟩] ++ L.drop i
def ge (hs : List Value) (i : Nat) : List Value := hs.take i ++ [.slice none 0 0] ++ hs.drop i
theorem jF {hs : List Value} {i : Nat} (hi : i ≤ hs.length) {k : Nat} {x : Value} (h : (ge hs i)[k]? = some x) : (k = i ∧ x = .slice none 0 0) ∨ (k ≠ i ∧ hs[if k < i then k else k - 1]? = some x) := by
 unfold ge at h
 rw [sf _ _ hi] at h
 split at h
 ·rename_i h1; exact .inr ⟨by omega, by rw [if_pos h1]; exact h⟩
 ·rename_i h1
  split at h
  ·rename_i h2; exact .inl ⟨h2, (am h).symm⟩
  ·rename_i h2; exact .inr ⟨h2, by rw [if_neg h1]; exact h⟩
theorem cF.ins {w w' : World} {n0 : Nat} {v v' : Value} {L : List aH} {hs : List Value} {i : Nat} {h : Int} (H : cF w n0 v L hs) (hi : i ≤ L.length) (hI : gd w w' n0 v v' (L.length + 1) ((flatB L hs).take (i * 2) ++ [.int .u64 h, .slice none 0 0] ++ (flatB L hs).drop (i * 2))) :
  cF w' n0 v' (dH L i h) (ge hs i) ∧ ∀ x, badB v' (ge hs i) x → badB v hs x ∨ w.heap.size ≤ x := by
 obtain ⟨h1, g, hloc⟩ := hI
 have hl := H.len
 have ht := AA H.len hi
 have hlt : (hs.take i).length = (L.take i).length := by rw [FR, FR, hl]
 have hav : ∀ (j : Nat) y, hs[j]? = some y → y.ownBlock = none ∨ y.ownBlock ≠ v'.ownBlock := fun j y hy => by
  rcases hloc with e | ⟨b, e, hb⟩
  ·rw [e]; exact H.apv j y hy
  ·cases ho : y.ownBlock with
   | none => exact .inl rfl
   | some z =>
    refine .inr fun e' => ?_
    rw [e] at e'
    injection e' with e'
    have := H.lt z (.inr ⟨y, F5 hy, ho⟩)
    omega
 refine ⟨⟨?_, ?_, fun j b y hb hy => ?_, fun j y hy => ?_, fun p q x y hpq hx hy => ?_⟩, fun x hx => ?_⟩
 ·simp only [ge, dH, FO, FR, FU, FN, FP, hl]
 ·have e1 : flatB (dH L i h) (ge hs i) = (flatB L hs).take (i * 2) ++ [.int .u64 h, .slice none 0 0] ++ (flatB L hs).drop (i * 2) := by
   unfold dH ge
   rw [mF (by simp only [FO, hlt, FN, FP]), mF hlt, ht.1, ht.2]
   rfl
  have e2 : (dH L i h).length = L.length + 1 := by
   simp only [dH, FO, FR, FU, FN, FP]
   omega
  rw [e1, e2]
  exact h1
 ·rcases jF (by omega) hy with ⟨rfl, rfl⟩ | ⟨hj, hy⟩
  ·unfold dH at hb
   rw [sf _ _ hi, if_neg (by omega), if_pos rfl] at hb
   obtain rfl := am hb
   exact World.ownsRow_nil _ _ _ _
  ·unfold dH at hb
   rw [sf _ _ hi] at hb
   have hb' : L[if j < i then j else j - 1]? = some b := by
    split at hb
    ·rename_i q; rw [if_pos q]; exact hb
    ·rename_i q; rw [if_neg q]; simpa [hj] using hb
   exact (H.ids _ b y hb' hy).kept g (H.apv _ y hy)
 ·rcases jF (by omega) hy with ⟨_, rfl⟩ | ⟨_, hy⟩
  ·exact .inl rfl
  ·exact hav _ y hy
 ·rcases jF (by omega) hx with ⟨_, rfl⟩ | ⟨hp, hx⟩
  ·exact .inl rfl
  ·rcases jF (by omega) hy with ⟨_, rfl⟩ | ⟨hq, hy⟩
   ·cases x.ownBlock <;> simp [Value.ownBlock]
   ·refine H.aph _ _ x y ?_ hx hy
    split <;> split <;> omega
 ·rcases hx with e | ⟨y, hm, e⟩
  ·rcases hloc with e' | ⟨b, e', hb⟩
   ·exact .inl (.inl (e'.symm.trans e))
   ·rw [e'] at e
    injection e with e
    exact .inr (by omega)
  ·obtain ⟨k, hk, rfl⟩ := List.getElem_of_mem hm
   rcases jF (k := k) (by omega) (FJ hk) with ⟨_, e'⟩ | ⟨_, hy⟩
   ·rw [e'] at e; cases e
   ·exact .inl (.inr ⟨_, F5 hy, e⟩)
end
section
open Go.RowKit
theorem vP : ∀ {L : List aH} {hs : List Value}, (∀ h ∈ hs, h.oneCell' = true) → ∀ u ∈ flatB L hs, u.oneCell' = true
 | [], _, _, u, hu => by cases hu
 | _ :: _, [], _, u, hu => by cases hu
 | b :: L, h :: hs, hh, u, hu => by
  simp only [flatB, F1] at hu
  rcases hu with rfl | rfl | hu
  ·rfl
  ·exact hh u FZ
  ·exact vP (fun x hx => hh x (F0 _ hx)) u hu
theorem sh {w : World} {base e size n : Nat} {v : Value} {xs : List Value} (h : w.ownsRow base e size v n xs) : v.oneCell' = true := by
 rcases h.2 with ⟨rfl, _⟩ | ⟨g, cap, cur, rfl, _⟩ <;> rfl
theorem cF.one {w : World} {n0 : Nat} {v : Value} {L : List aH} {hs : List Value} (H : cF w n0 v L hs) : ∀ h ∈ hs, h.oneCell' = true := fun h hm => by
 obtain ⟨j, b, h1, h2⟩ := H.hget hm
 exact sh (H.ids j b h h1 h2)
theorem cF.tree {w : World} {n0 : Nat} {v : Value} {L : List aH} {hs : List Value} (H : cF w n0 v L hs) {ok : Nat → Prop} {ρ : Ren} (hok : ∀ x, badB v hs x → ok x) : RV w ok ρ (vl 2 bn L) v := by
 rcases H.row.2 with ⟨rfl, h0⟩ | ⟨g, cap, cur, hv, hbg, hg, hnc, hcm, hcs, htake⟩
 ·exact ⟨none, 0, by rw [h0], by omega, fun i hi => by omega⟩
 ·refine ⟨some ⟨g, 0, none⟩, cap, hv, hnc, fun i hi j hj => ?_⟩
  have hl := H.len
  have e1 : L[i]? = some (L.getD i aE) := by rw [FI, FJ hi]; rfl
  have e2 : hs[i]? = some (hs[i]'(by omega)) := FJ (by omega)
  obtain ⟨f1, f2⟩ := mG e1 e2
  have hc : ∀ k u, (flatB L hs)[k]? = some u → w.cell? ⟨g, k, none⟩ = some u := fun k u hu => by
   rw [eo hg]
   rw [← htake, List.getElem?_take] at hu
   split at hu
   ·exact hu
   ·cases hu
  have hgo : ok g := hok g (.inl (by rw [hv]; rfl))
  match j, hj with
  | 0, _ =>
   refine ⟨g, 0, _, rfl, hgo, ?_, ⟨rfl, rfl⟩⟩
   rw [show 0 + i * 2 + 0 = i * 2 by omega]
   exact hc _ _ f1
  | 1, _ =>
   refine ⟨g, 0, hs[i]'(by omega), rfl, hgo, ?_, ?_⟩
   ·rw [show 0 + i * 2 + 1 = i * 2 + 1 by omega]
    exact hc _ _ f2
   ·have hi2 := H.ids i _ _ e1 e2
    have ho : ∀ x, (hs[i]'(by omega)).ownBlock = some x → ok x := fun x hx => hok x (.inr ⟨_, F5 e2, hx⟩)
    show ∃ q c, _ = Value.slice q _ c ∧ _
    rcases hi2.2 with ⟨e, h0⟩ | ⟨g', cap', cur', hv', hbg', hg', hnc', hcm', hcs', htake'⟩
    ·exact ⟨none, 0, by rw [e, h0], by omega, fun k hk => by omega⟩
    ·refine ⟨some ⟨g', 0, none⟩, cap', hv', hnc', fun k hk m hm => ?_⟩
     obtain rfl : m = 0 := by omega
     refine ⟨g', 0, .int .i64 ((L.getD i aE).IDs.getD k 0), rfl, ho g' (by rw [hv']; rfl), ?_, ⟨rfl, rfl⟩⟩
     rw [show 0 + k * 1 + 0 = k by omega, eo hg']
     have := congrArg (fun l : List Value => l[k]?) htake'
     generalize (L.getD i aE).IDs = ids at hk this ⊢
     simp only [F6, List.getElem?_take] at this
     rw [if_pos (by omega)] at this
     rw [this, FI, FJ hk]
     rfl
theorem cF.app {w w1 w2 : World} {n0 j : Nat} {v h h' : Value} {L : List aH} {hs : List Value} {b : aH} {id : Int} (H : cF w n0 v L hs) (hB : Below w.heap.size w w1) (hb : L[j]? = some b) (hh : hs[j]? = some h)
  (ho : w2.ownsRow n0 3 1 h' (b.IDs.length + 1) (b.IDs.map (Value.int .i64) ++ [.int .i64 id])) (g : w1.grownBy w2 h.ownBlock) (hloc : h'.ownBlock = h.ownBlock ∨ h'.ownBlock = some w1.heap.size) :
  ∃ B cap, v = .slice (some ⟨B, 0, none⟩) L.length cap ∧ (w2.cell? ⟨B, j * 2 + 1, none⟩).isSome = true ∧ w2.frozen? ⟨B, j * 2 + 1, none⟩ = false ∧ w1.heap.size ≤ w2.heap.size ∧ cF (w2.setCell ⟨B, j * 2 + 1, none⟩ h') n0 v (L.set j ⟨b.Hash, b.IDs ++ [id]⟩) (hs.set j h') ∧
   w2.grownBy (w2.setCell ⟨B, j * 2 + 1, none⟩ h') (some B) ∧ (∀ x, badB v (hs.set j h') x → badB v hs x ∨ w1.heap.size ≤ x) := by
 have hl := H.len
 have hj : j < L.length := (List.getElem?_eq_some_iff.1 hb).1
 have hjs : j < hs.length := by omega
 have H1 := H.keep hB
 have hne : v.ownBlock = none ∨ v.ownBlock ≠ h.ownBlock := by
  rcases H.apv j h hh with e | e
  ·rw [e]; cases v.ownBlock <;> simp
  ·exact .inr (Ne.symm e)
 have r2 := H1.row.kept g hne
 rcases r2.2 with ⟨_, h0⟩ | ⟨B, cap, cur, rfl, hbg, hg, hnc, hcm, hcs, htake⟩
 ·omega
 ·obtain ⟨s1, s2⟩ := r2.stored (j * 2 + 1) h'
  obtain ⟨f1, f2⟩ := mG hb hh
  have hlow : ∀ x, badB (.slice (some ⟨B, 0, none⟩) L.length cap) hs x → x < w1.heap.size := fun x hx => (H1.lt x hx).2
  have hBw : B < w1.heap.size := hlow B (.inl rfl)
  have hnB : h'.ownBlock = none ∨ h'.ownBlock ≠ some B := by
   rcases hloc with e | e
   ·rw [e]; exact H.apv j h hh
   ·rw [e]; right; intro e'; injection e' with e'; omega
  have hother : ∀ (k : Nat) y, k ≠ j → hs[k]? = some y → y.ownBlock = none ∨ y.ownBlock ≠ h'.ownBlock := fun k y hk hy => by
   rcases hloc with e | e
   ·rw [e]; exact H.aph k j y h hk hy hh
   ·cases hyo : y.ownBlock with
    | none => exact .inl rfl
    | some z =>
     right
     rw [e]
     intro e'
     injection e' with e'
     have := hlow z (.inr ⟨y, F5 hy, hyo⟩)
     omega
  refine ⟨B, cap, rfl, ?_, r2.frozenAt _, g.size, ⟨?_, ?_, fun k b' y hb' hy => ?_, fun k y hy => ?_, fun p q x y hpq hx hy => ?_⟩, s2, fun x hx => ?_⟩
  ·rw [r2.cellAt (j * 2 + 1) (by omega), f2]; rfl
  ·rw [Gd, Gd, hl]
  ·rw [Gd, vO (b.IDs ++ [id]) h' hb hh]
   exact s1
  ·rw [Gj] at hb' hy
   by_cases e : j = k
   ·subst e
    rw [if_pos rfl, if_pos hj] at hb'
    rw [if_pos rfl, if_pos hjs] at hy
    obtain rfl := am hb'
    obtain rfl := am hy
    have := ho.kept s2 hnB
    simpa using this
   ·rw [if_neg e] at hb' hy
    have h3 := (H1.ids k b' y hb' hy).kept g (H.aph k j y h (Ne.symm e) hy hh)
    exact h3.kept s2 (H.apv k y hy)
  ·rw [Gj] at hy
   by_cases e : j = k
   ·rw [if_pos e, if_pos hjs] at hy
    obtain rfl := am hy
    exact hnB
   ·rw [if_neg e] at hy
    exact H.apv k y hy
  ·rw [Gj] at hx hy
   by_cases e1 : j = p
   ·rw [if_pos e1, if_pos hjs] at hx
    obtain rfl := am hx
    rw [if_neg (by omega)] at hy
    rcases hother q y (by omega) hy with e | e
    ·rw [e]; cases h'.ownBlock <;> simp
    ·exact .inr (Ne.symm e)
   ·rw [if_neg e1] at hx
    by_cases e2 : j = q
    ·rw [if_pos e2, if_pos hjs] at hy
     obtain rfl := am hy
     exact hother p x (by omega) hx
    ·rw [if_neg e2] at hy
     exact H.aph p q x y hpq hx hy
  ·rcases hx with e | ⟨y, hm, e⟩
   ·exact .inl (.inl e)
   ·obtain ⟨k, hk, rfl⟩ := List.getElem_of_mem hm
    have hy := FJ hk
    rw [Gj] at hy
    by_cases e1 : j = k
    ·rw [if_pos e1, if_pos hjs] at hy
     have := am hy
     rw [← this] at e
     rcases hloc with e' | e'
     ·rw [e'] at e
      exact .inl (.inr ⟨h, F5 hh, e⟩)
     ·rw [e'] at e
      injection e with e
      exact .inr (by omega)
    ·rw [if_neg e1] at hy
     exact .inl (.inr ⟨_, F5 hy, e⟩)
end
section
open Go.RowKit
theorem Cq {B n cap k : Nat} (hk : k < n) (W : World) : (Instr.indexAt 121 (.slice (some ⟨B, 0, none⟩) n cap) (.int .i64 (k : Int))).run Tryz.prog W = .ok (.pointer (some ⟨B, k * 2, none⟩)) W := by
 have h0 : (0 : Int) ≤ (k : Int) := by omega
 have h1 : (k : Int) < (n : Int) := by omega
 have hsz : ∀ w, (Go.sizeOf 176).run Tryz.prog w = .ok 2 w := Tryz.sizeOf176
 simp [Instr.indexAt, asIntOf, run_underlying Tryz.underlying121, h0, h1, hsz, Addr.add_lit, Nat.not_le.2 hk]
theorem xb {B o : Nat} (W : World) : (Instr.fieldAt 176 (.pointer (some ⟨B, o, none⟩)) 1).run Tryz.prog W = .ok (.pointer (some ⟨B, o + 1, none⟩)) W := by kernel_rfl
theorem CE {B o : Nat} (W : World) : (Instr.fieldAt 53 (.pointer (some ⟨B, o, none⟩)) 0).run Tryz.prog W = .ok (.pointer (some ⟨B, o, none⟩)) W := by kernel_rfl
theorem xh {B o : Nat} {v : Value} {W : World} (h : W.cell? ⟨B, o, none⟩ = some v) : (Instr.loadAt 22 (.pointer (some ⟨B, o, none⟩))).run Tryz.prog W = .ok v W := by
 simp [Instr.loadAt, Instr.sureAddr, loadVar, isAgg, run_underlying Tryz.underlying22, h]
theorem CJ {B o : Nat} {v : Value} {W : World} (h : W.cell? ⟨B, o, none⟩ = some v) : (Instr.loadAt 3 (.pointer (some ⟨B, o, none⟩))).run Tryz.prog W = .ok v W := by
 simp [Instr.loadAt, Instr.sureAddr, loadVar, isAgg, run_underlying Tryz.underlying3, h]
theorem CF {B o : Nat} {v : Value} {W : World} (h : (W.cell? ⟨B, o, none⟩).isSome = true) (hf : W.frozen? ⟨B, o, none⟩ = false) (hv : v.oneCell' = true) : (Instr.storeAt 22 (.pointer (some ⟨B, o, none⟩)) v).run Tryz.prog W = .ok () (W.setCell ⟨B, o, none⟩ v) := by
 obtain ⟨u, hu⟩ := Option.isSome_iff_exists.1 h
 have hc : v.cells = #[v] := by cases v <;> first | rfl | (simp [Value.oneCell'] at hv)
 simp [Instr.storeAt, Instr.sureAddr, storeVar, isAgg, run_underlying Tryz.underlying22, hc, storeCells, run_store, hu, hf, hv, Addr.add_lit]
end
section
open Go.RowKit
def xi (L : List aH) (j : Nat) (id : Int) : Option (List aH) := match L[j]? with
 | some b => some (L.set j ⟨b.Hash, b.IDs ++ [id]⟩)
 | none => none
noncomputable def m9 (p0 : hJ) (p1 : bz) (p2 : Int) (out : List aH) (r : aB) : Option (List aH) :=
 aM (lR p0 p1 p2 r) fun h ok => if ok then (aM (nC out h) fun at_ there => if 0 ≤ at_ ∧ at_ ≤ (out.length : Int) then xi (if there then out else dH out at_.toNat h) at_.toNat r.ID else none) else some out
structure Ab (n0 : Nat) (w0 : World) (tm : List (Nat × AV)) (v : Value) (L : List aH) (hs : List Value) (a : Act) (w : World) : Prop where
 at_ : At Tryz.prog 61 (badB v hs) tm a w
 own : cF w n0 v L hs
 bel : Below n0 w0 w
 sz : n0 ≤ w.heap.size
theorem Ab.lt {n0 : Nat} {w0 : World} {tm : List (Nat × AV)} {v : Value} {L : List aH} {hs : List Value} {a : Act} {w : World} (H : Ab n0 w0 tm v L hs a w) : ∀ x, badB v hs x → x < w.heap.size := fun x hx => (H.own.lt x hx).2
theorem Ab.next {n0 : Nat} {w0 : World} {tm tm' : List (Nat × AV)} {v : Value} {L : List aH} {hs : List Value} {a a' : Act} {w w' : World} (H : Ab n0 w0 tm v L hs a w) (h1 : At Tryz.prog 61 (badB v hs) tm' a' w') (h2 : Below w.heap.size w w') : Ab n0 w0 tm' v L hs a' w' :=
 ⟨h1, H.own.keep h2, H.bel.trans (h2.mono H.sz), Ga H.sz h2.size⟩
theorem Ab.run {n0 : Nat} {w0 : World} {tm tm' : List (Nat × AV)} {v : Value} {L : List aH} {hs : List Value} {a : Act} {w : World} (H : Ab n0 w0 tm v L hs a w) {code : Code} {x : Exit} {Q : Exit → Act → World → Prop} (h : AW (b6 Tryz.prog (badB v hs) w 61) ⟨tm, [], 1⟩ code fun e S' => e = x ∧ Conv (b6 Tryz.prog (badB v hs) w 61) S' ⟨tm', [], 1⟩) (hf : tm'.all (fun p => dp p.2) = true) (kont : ∀ a' w', Ab n0 w0 tm' v L hs a' w' → Q x a' w') : code.wp Tryz.prog Q a w :=
 H.at_.run H.lt h hf fun a' w' h1 h2 => kont a' w' (H.next h1 h2)
theorem Ab.run_box {n0 : Nat} {w0 : World} {tm tm' : List (Nat × AV)} {v : Value} {L : List aH} {hs : List Value} {a : Act} {w : World} (H : Ab n0 w0 tm v L hs a w) {code : Code} {x : Exit} {t ty : Nat} {cs : List T} {Q : Exit → Act → World → Prop} (h : AW (b6 Tryz.prog (badB v hs) w 61) ⟨tm, [], 1⟩ code fun e S' => e = x ∧ Conv (b6 Tryz.prog (badB v hs) w 61) S' ⟨(t, .c (.ptr 0 cs.length 0 0)) :: tm', [(0, .box ty (cs.map C.t))], 1⟩) (hf : tm'.all (fun p => dp p.2) = true) (kont : ∀ a' w', Ab n0 w0 ((t, .c (.t (.eptr cs.length (fun j => cs.getD j (.v undef)) 0))) :: tm') v L hs a' w' → Q x a' w') : code.wp Tryz.prog Q a w :=
 H.at_.run_box H.lt h hf fun a' w' h1 h2 => kont a' w' (H.next h1 h2)
theorem Ab.sub {n0 : Nat} {w0 : World} {tm tm' : List (Nat × AV)} {v : Value} {L : List aH} {hs : List Value} {a : Act} {w : World} (H : Ab n0 w0 tm v L hs a w) (h : (tm'.map fun p => Vm.look tm p.1) = tm'.map fun p => some p.2) : Ab n0 w0 tm' v L hs a w := ⟨H.at_.sub h, H.own, H.bel, H.sz⟩
@[reducible] def ep (cs : List T) : AV := .c (.t (.eptr cs.length (fun j => cs.getD j (.v undef)) 0))
@[reducible] def ov (v : Value) : AV := .c (.t (.v v))
def Ix (i : Nat) (L : List aH) : Prop := L.length ≤ i ∧ ∀ b ∈ L, b.IDs.length ≤ i
theorem Ix.more {i : Nat} {L : List aH} (h : Ix i L) : Ix (i + 1) L := ⟨Nat.le_succ_of_le h.1, fun b hb => Nat.le_succ_of_le (h.2 b hb)⟩
theorem zW {α β : Type} {f : β → α → Option β} {l : List α} {b r : β} (hr : l.foldlM f b = some r) {i : Nat} (hi : i < l.length) {L : β} (hL : (l.take i).foldlM f b = some L) (d : α) : ∃ L', f L (l.getD i d) = some L' ∧ (l.take (i + 1)).foldlM f b = some L' := by
 have e : l = l.take i ++ l.getD i d :: l.drop (i + 1) := by
  rw [FI, FJ hi]
  simp
 have h1 := hr
 rw [e, List.foldlM_append, hL] at h1
 simp only [Option.bind_eq_bind, Option.bind_some, List.foldlM_cons] at h1
 obtain ⟨L', h2, _⟩ := Option.bind_eq_some_iff.1 h1
 refine ⟨L', h2, ?_⟩
 have e2 : l.take (i + 1) = l.take i ++ [l.getD i d] := by
  rw [Gp, FI, FJ hi]
  rfl
 rw [e2, List.foldlM_append, hL]
 rw [FI] at h2
 simp [h2]
theorem vQ {α β γ : Type} {x : Option (α × β)} {f : α → β → Option γ} {r : γ} (h : aM x f = some r) : ∃ p : α × β, x = some p ∧ f p.1 p.2 = some r := by
 cases x with
 | none => cases h
 | some p => exact ⟨p, rfl, h⟩
theorem Ix.nil : Ix 0 [] := ⟨F9 _, fun b hb => by cases hb⟩
theorem BL (p0 : hJ) (p1 : bz) (p2 : Int) (p3 : List aB) (r : List aH) (hlen : p3.length ≤ 100) (hr : p3.foldlM (m9 p0 p1 p2) [] = some r) (w : World) (ok : Nat → Prop) (x0 x1 x2 x3 : Value) (hok : ∀ b, ok b → b < w.heap.size)
  (h0 : RV w ok (fun _ => none) (.agg (bp p0)) x0) (h1 : RV w ok (fun _ => none) (.agg [cl 2 bD p1.Components]) x1) (h2 : RV w ok (fun _ => none) (af p2) x2) (h3 : RV w ok (fun _ => none) (vl 3 bB p3) x3) :
  Calls Tryz.prog 53 #[x0, x1, x2, x3] w fun e w' => ∃ v hs, e = .returned v ∧ Below w.heap.size w w' ∧ cF w' w.heap.size v r hs := by
 refine calls_of_wp Tryz.func53 rfl ?_
 have H0 : A0 Tryz.prog 61 w.heap.size w [(0, .agg (bp p0)), (1, .agg [cl 2 bD p1.Components]), (2, af p2), (3, vl 3 bB p3)] { tmps := #[x0, x1, x2, x3] ++ Array.replicate (Tryz.f53.ntmps - 4) undef, defers := [] } w := FF hok rfl fun t av ht => by
  match t, ht with
  | 0, ht => obtain rfl := am ht; exact ⟨by simp, h0⟩
  | 1, ht => obtain rfl := am ht; exact ⟨by simp, h1⟩
  | 2, ht => obtain rfl := am ht; exact ⟨by simp, h2⟩
  | 3, ht => obtain rfl := am ht; exact ⟨by simp, h3⟩
  | t + 4, ht => cases ht
 refine wp_seq (H0.at_.cut_box (fun x e => e.elim) ae 1 2 (t := 4) (ty := 39) (cs := [.v (.int .u64 p0.A), .v (.int .u64 p0.B)]) (tm' := [(1, .agg [cl 2 bD p1.Components]), (2, af p2), (3, vl 3 bB p3)]) [(0, 1)] [] (by kernel_rfl) rfl rfl fun a1 w1 A1 B1 => ?_)
 refine A1.rest_box (fun x e => e.elim) ae 1 2 (t := 5) (ty := 117) (cs := [.tree p1.Components.length 2 (bD p1.Components)]) (tm' := [(4, ep [.v (.int .u64 p0.A), .v (.int .u64 p0.B)]), (2, af p2), (3, vl 3 bB p3)]) [(0, 1)] [] (by kernel_rfl) rfl rfl fun a2 w2 A2 B2 => ?_
 have hng : w2.grownBy w2 none := ⟨rfl, rfl, rfl, F9 _, fun _ _ _ => rfl⟩
 have hb12 : Below w.heap.size w w2 := (H0.bel.trans (B1.mono H0.sz)).trans (B2.mono (Ga H0.sz B1.size))
 have H2 : Ab w.heap.size w _ (.slice none 0 0) [] [] a2 w2 := ⟨A2.moved hng (fun x e => by cases e) (fun x hx => hx.elim (fun h => by cases h) fun ⟨_, hm, _⟩ => by cases hm), cF.nil _ _, hb12, Ga H0.sz (Ga B1.size B2.size)⟩
 show Code.wp _ _ _ _ _
 refine wp_seq (H2.run (tm' := [(5, ep [.tree p1.Components.length 2 (bD p1.Components)]), (4, ep [.v (.int .u64 p0.A), .v (.int .u64 p0.B)]), (2, af p2), (3, vl 3 bB p3), (9, ov (.slice none 0 0))]) (aS ae [(9, ov (.slice none 0 0))] 2 ⟨rfl, ai []⟩) rfl fun a3 w3 H3 => ?_)
 refine wp_seq (wp_seq (H3.run (tm' := [(5, ep [.tree p1.Components.length 2 (bD p1.Components)]), (4, ep [.v (.int .u64 p0.A), .v (.int .u64 p0.B)]), (2, af p2), (9, ov (.slice none 0 0)), (16, vl 3 bB p3), (17, af (p3.length : Int)), (18, af (0))]) (aS ae [(16, vl 3 bB p3), (17, af (p3.length : Int)), (18, af 0)] 4 ⟨rfl, ai []⟩) rfl fun a4 w4 H4 => ?_))
 clear H0 A1 A2 H2 H3 B1 B2 hb12 hng h0 h1 h2 h3
 refine wp_block (mR p3.length (fun i a w' => ∃ v L hs, (p3.take i).foldlM (m9 p0 p1 p2) [] = some L ∧ Ix i L ∧ Ab w.heap.size w [(5, ep [.tree p1.Components.length 2 (bD p1.Components)]), (4, ep [.v (.int .u64 p0.A), .v (.int .u64 p0.B)]), (2, af p2), (9, ov v), (16, vl 3 bB p3), (17, af (p3.length : Int)), (18, af ((i : Int)))] v L hs a w') ⟨_, _, _, rfl, Ix.nil, H4⟩ (fun i hi a w' ⟨v, L, hs, hL, hz, H⟩ => ?_) fun a w' ⟨v, L, hs, hL, hz, H⟩ => ?_)
 rotate_left
 ·have hd : decide ((p3.length : Int) < (p3.length : Int)) = false := by simp
  refine wp_seq (H.run (tm' := [(9, ov v), (19, vb false)]) (au ae [(19, vb false)] 2 [hf hd] ⟨rfl, ai []⟩) rfl fun a1 w1 H1 => ?_)
  refine wp_seq (wp_cond_false (H1.at_.val (t := 19) rfl) (wp_exit ⟨(by intro e; cases e), ?_⟩))
  show Code.wp _ _ _ _ _
  refine wp_seq (H1.run (tm' := [(8, ov v)]) (aS ae [(8, ov v)] 3 ⟨rfl, ai []⟩) rfl fun a2 w2 H2 => wp_ret ?_)
  obtain ⟨u, e1, e2⟩ := jE (fn := Tryz.f53) (out := ov v) (ps := [True]) ae (H2.at_.rep 1) (by kernel_rfl) ⟨tv, tv⟩
  obtain ⟨rfl, _⟩ := e2
  rw [PF, hr] at hL
  obtain rfl := am hL
  exact ⟨H2.at_.defers, _, e1, _, _, rfl, H2.bel, H2.own⟩
 obtain ⟨L', hs1, hs2⟩ := zW hr hi hL bg
 have hd : decide ((i : Int) < (p3.length : Int)) = true := by simp; omega
 have g1 : (0 : Int) ≤ (i : Int) := by omega
 have g2 : (i : Int) < (p3.length : Int) := by omega
 rw [show p3.getD i bg = (p3.getD ((i : Int).toNat) bg) by rw [FM]] at hs1
 have hw1 : i64.wrap ((i : Int) + 1) = ((i + 1 : Nat) : Int) := by rw [sD (by omega) (by omega)]; rfl
 unfold m9 at hs1
 obtain ⟨⟨hh, hk⟩, hhash, hs1⟩ := vQ hs1
 refine wp_seq (H.run (tm' := (19, vb true) :: [(5, ep [.tree p1.Components.length 2 (bD p1.Components)]), (4, ep [.v (.int .u64 p0.A), .v (.int .u64 p0.B)]), (2, af p2), (9, ov v), (16, vl 3 bB p3), (17, af (p3.length : Int)), (18, af ((i : Int)))]) (au ae [(19, vb true)] 2 [ht hd] ⟨rfl, ai []⟩) rfl fun a1 w1 H1 => ?_)
 refine wp_seq (wp_cond_true (H1.at_.val (t := 19) rfl) (wp_skip ?_))
 refine wp_seq (wp_block ?_)
 refine wp_seq (H1.run_box (t := 11) (ty := 53) (cs := [.v (.int .i64 (p3.getD ((i : Int).toNat) bg).ID), .v (.int .i64 (p3.getD ((i : Int).toNat) bg).Version), .tree (p3.getD ((i : Int).toNat) bg).Values.length 1 (Rs (p3.getD ((i : Int).toNat) bg).Values)]) (tm' := [(5, ep [.tree p1.Components.length 2 (bD p1.Components)]), (4, ep [.v (.int .u64 p0.A), .v (.int .u64 p0.B)]), (2, af p2), (9, ov v), (16, vl 3 bB p3), (17, af (p3.length : Int)), (18, af ((i : Int)))]) (AW.rg ae [(11, pX 3 3)] [3] [(3, .box 53 [ag (p3.getD ((i : Int).toNat) bg).ID, ag (p3.getD ((i : Int).toNat) bg).Version, cl 1 Rs (p3.getD ((i : Int).toNat) bg).Values])] 5 [hq g1 g2] ⟨rfl, ai [(0, 3)]⟩) rfl fun a2 w2 H2 => ?_)
 refine wp_seq (H2.run (tm' := (13, vb hk) :: (12, aV hh) :: (11, ep [.v (.int .i64 (p3.getD ((i : Int).toNat) bg).ID), .v (.int .i64 (p3.getD ((i : Int).toNat) bg).Version), .tree (p3.getD ((i : Int).toNat) bg).Values.length 1 (Rs (p3.getD ((i : Int).toNat) bg).Values)]) :: [(5, ep [.tree p1.Components.length 2 (bD p1.Components)]), (4, ep [.v (.int .u64 p0.A), .v (.int .u64 p0.B)]), (2, af p2), (9, ov v), (16, vl 3 bB p3), (17, af (p3.length : Int)), (18, af ((i : Int)))]) (au ae [(13, vb hk), (12, aV hh)] 10 [hn, hn, hn, hn, Vm.hk (tS p0 p1 p2 (p3.getD ((i : Int).toNat) bg) (hh, hk) hhash)] ⟨rfl, ai []⟩) rfl fun a3 w3 H3 => ?_)
 refine wp_seq (wp_seq (H3.run (tm' := (31, vb (!hk)) :: (12, aV hh) :: (11, ep [.v (.int .i64 (p3.getD ((i : Int).toNat) bg).ID), .v (.int .i64 (p3.getD ((i : Int).toNat) bg).Version), .tree (p3.getD ((i : Int).toNat) bg).Values.length 1 (Rs (p3.getD ((i : Int).toNat) bg).Values)]) :: [(5, ep [.tree p1.Components.length 2 (bD p1.Components)]), (4, ep [.v (.int .u64 p0.A), .v (.int .u64 p0.B)]), (2, af p2), (9, ov v), (16, vl 3 bB p3), (17, af (p3.length : Int)), (18, af ((i : Int)))]) (aS ae [(31, vb (!hk))] 3 ⟨rfl, ai []⟩) rfl fun a4 w4 H4 => ?_))
 clear H H1 H2 H3
 cases hk with
 | false =>
  rw [if_neg (by simp)] at hs1
  obtain rfl := am hs1
  refine wp_cond_true (H4.at_.val (t := 31) rfl) (wp_exit ?_)
  show Code.wp _ _ _ _ _
  refine H4.run (tm' := [(5, ep [.tree p1.Components.length 2 (bD p1.Components)]), (4, ep [.v (.int .u64 p0.A), .v (.int .u64 p0.B)]), (2, af p2), (9, ov v), (16, vl 3 bB p3), (17, af (p3.length : Int)), (18, af (i64.wrap ((i : Int) + 1)))]) (aS ae [(18, af (i64.wrap ((i : Int) + 1)))] 3 ⟨rfl, ai []⟩) rfl fun a5 w5 H5 => ⟨rfl, v, L, hs, hs2, hz.more, ?_⟩
  rw [hw1] at H5
  exact H5
 | true =>
  rw [if_pos rfl] at hs1
  obtain ⟨⟨at_, there⟩, hbs, hs1⟩ := vQ hs1
  obtain ⟨⟨q1, q2⟩, hs1⟩ := aN hs1
  refine wp_cond_false (H4.at_.val (t := 31) rfl) (wp_skip ?_)
  show Code.wp _ _ _ _ _
  refine wp_seq (H4.at_.cut H4.lt ae 2 6 (tm' := (34, aV hh) :: (33, ov v) :: (12, aV hh) :: (11, ep [.v (.int .i64 (p3.getD ((i : Int).toNat) bg).ID), .v (.int .i64 (p3.getD ((i : Int).toNat) bg).Version), .tree (p3.getD ((i : Int).toNat) bg).Values.length 1 (Rs (p3.getD ((i : Int).toNat) bg).Values)]) :: [(5, ep [.tree p1.Components.length 2 (bD p1.Components)]), (4, ep [.v (.int .u64 p0.A), .v (.int .u64 p0.B)]), (2, af p2), (9, ov v), (16, vl 3 bB p3), (17, af (p3.length : Int)), (18, af ((i : Int)))]) [] (by kernel_rfl) rfl fun a5 w5 A5 B5 => ?_)
  have H5 := H4.next A5 B5
  clear H4 A5 B5
  rw [show List.range' 2 6 = 2 :: List.range' 3 5 from rfl, wpOps_cons]
  have v33 : a5.eval (.tmp 33) = v := H5.at_.val (t := 33) rfl
  have v34 : a5.eval (.tmp 34) = .int .u64 hh := H5.at_.val (t := 34) rfl
  have hcon := xl L hh (at_, there) hbs
  refine jz (H5.at_.rep 1) (d := 35) rfl rfl rfl rfl rfl hcon.1 (vs := #[v, .int .u64 hh, .func (.func 97) #[] #[]]) (by simp [v33, v34]; rfl) (Calls.mono (callsIn_wide.1 (hcon.callsIn (n := 0) (fun x => x < w5.heap.size) (fun b hb => hb) _ ⟨H5.own.tree H5.lt, ⟨rfl, rfl⟩, ⟨rfl, rfl⟩, tv⟩)) ?_)
  rintro e w6 ⟨y, rfl, B6, _, _, ys, rfl, hy⟩
  obtain ⟨ys⟩ := ys
  rcases ys with _ | ⟨y0, _ | ⟨y1, _ | ⟨y2, ys⟩⟩⟩
  ·exact hy.elim
  ·exact hy.2.elim
  rotate_left
  ·exact hy.2.2.elim
  obtain ⟨⟨rfl, _⟩, ⟨rfl, _⟩, _⟩ := hy
  refine ⟨_, rfl, ?_⟩
  have H6 := H5.next (H5.at_.below B6) B6
  refine (H6.at_.putv 35 (by decide) (v := .tuple #[.int .i64 at_, .bool there]) (av := .tup [af at_, vb there]) ⟨_, rfl, ⟨rfl, rfl⟩, ⟨rfl, rfl⟩, tv⟩).rest H6.lt ae 3 5 (tm' := (15, vb there) :: (14, af at_) :: (12, aV hh) :: (11, ep [.v (.int .i64 (p3.getD ((i : Int).toNat) bg).ID), .v (.int .i64 (p3.getD ((i : Int).toNat) bg).Version), .tree (p3.getD ((i : Int).toNat) bg).Values.length 1 (Rs (p3.getD ((i : Int).toNat) bg).Values)]) :: [(5, ep [.tree p1.Components.length 2 (bD p1.Components)]), (4, ep [.v (.int .u64 p0.A), .v (.int .u64 p0.B)]), (2, af p2), (9, ov v), (16, vl 3 bB p3), (17, af (p3.length : Int)), (18, af ((i : Int)))]) [] (by kernel_rfl) rfl fun a7 w7 A7 B7 => ?_
  have H7 := H6.next A7 B7
  clear H5 B6 H6 A7 B7
  show Code.wp _ _ _ _ _
  refine wp_seq (wp_mono (Q := fun e a' w' => e = .normal ∧ ∃ v' hs', Ab w.heap.size w ((14, af at_) :: (11, ep [.v (.int .i64 (p3.getD ((i : Int).toNat) bg).ID), .v (.int .i64 (p3.getD ((i : Int).toNat) bg).Version), .tree (p3.getD ((i : Int).toNat) bg).Values.length 1 (Rs (p3.getD ((i : Int).toNat) bg).Values)]) :: [(5, ep [.tree p1.Components.length 2 (bD p1.Components)]), (4, ep [.v (.int .u64 p0.A), .v (.int .u64 p0.B)]), (2, af p2), (9, ov v'), (16, vl 3 bB p3), (17, af (p3.length : Int)), (18, af ((i : Int)))]) v' (if there = true then L else dH L at_.toNat hh) hs' a' w') ?_ ?_)
  ·refine wp_seq (H7.run (tm' := (39, vb (!there)) :: (14, af at_) :: (12, aV hh) :: (11, ep [.v (.int .i64 (p3.getD ((i : Int).toNat) bg).ID), .v (.int .i64 (p3.getD ((i : Int).toNat) bg).Version), .tree (p3.getD ((i : Int).toNat) bg).Values.length 1 (Rs (p3.getD ((i : Int).toNat) bg).Values)]) :: [(5, ep [.tree p1.Components.length 2 (bD p1.Components)]), (4, ep [.v (.int .u64 p0.A), .v (.int .u64 p0.B)]), (2, af p2), (9, ov v), (16, vl 3 bB p3), (17, af (p3.length : Int)), (18, af ((i : Int)))]) (aS ae [(39, vb (!there))] 3 ⟨rfl, ai []⟩) rfl fun a8 w8 H8 => ?_)
   clear H7
   cases there with
   | true => exact wp_cond_false (H8.at_.val (t := 39) rfl) (wp_skip ⟨rfl, v, hs, H8.sub (by kernel_rfl)⟩)
   | false =>
    refine wp_cond_true (H8.at_.val (t := 39) rfl) ?_
    refine H8.at_.cut H8.lt ae 3 4 (tm' := (42, aV hh) :: (41, af at_) :: (40, ov v) :: (14, af at_) :: (12, aV hh) :: (11, ep [.v (.int .i64 (p3.getD ((i : Int).toNat) bg).ID), .v (.int .i64 (p3.getD ((i : Int).toNat) bg).Version), .tree (p3.getD ((i : Int).toNat) bg).Values.length 1 (Rs (p3.getD ((i : Int).toNat) bg).Values)]) :: [(5, ep [.tree p1.Components.length 2 (bD p1.Components)]), (4, ep [.v (.int .u64 p0.A), .v (.int .u64 p0.B)]), (2, af p2), (9, ov v), (16, vl 3 bB p3), (17, af (p3.length : Int)), (18, af ((i : Int)))]) [] (by kernel_rfl) rfl fun a9 w9 A9 B9 => ?_
    have H9 := H8.next A9 B9
    clear H8 A9 B9
    rw [show List.range' 3 4 = [3, 4, 5, 6] from rfl, wpOps_cons]
    have v42 : a9.eval (.tmp 42) = .int .u64 hh := H9.at_.val (t := 42) rfl
    have r1 : (Instr.build 176 #[(0, .int .u64 hh)]).run Tryz.prog w9 = .ok (.agg #[.int .u64 hh, .slice none 0 0]) w9 := by kernel_rfl
    refine mS (o := _) rfl rfl (v := .agg #[.int .u64 hh, .slice none 0 0]) (w' := w9) (by simp [execOp, v42, r1]) ?_
    have Ha := H9.at_.putv 43 (by decide) (v := .agg #[.int .u64 hh, .slice none 0 0]) (av := .agg [aw hh, ax]) ⟨_, rfl, ⟨rfl, rfl⟩, ⟨rfl, rfl⟩, tv⟩
    show wpOps _ _ _ [4, 5, 6] (a9.put (some 43) (.agg #[.int .u64 hh, .slice none 0 0])) w9
    generalize a9.put (some 43) (.agg #[.int .u64 hh, .slice none 0 0]) = b9 at Ha ⊢
    rw [wpOps_cons]
    have v43 : b9.eval (.tmp 43) = .agg #[.int .u64 hh, .slice none 0 0] := (by
     obtain ⟨ys, e, h⟩ := Ha.tmp 43 _ rfl
     obtain ⟨ys⟩ := ys
     rcases ys with _ | ⟨y0, _ | ⟨y1, _ | ⟨y2, ys⟩⟩⟩
     ·exact h.elim
     ·exact h.2.elim
     ·obtain ⟨⟨rfl, _⟩, ⟨rfl, _⟩, _⟩ := h
      exact e
     ·exact h.2.2.elim)
    have r2 : (Instr.buildSlice 121 1 #[(0, .agg #[.int .u64 hh, .slice none 0 0])]).run Tryz.prog w9 = .ok (.slice (some ⟨w9.heap.size, 0, none⟩) 1 1) (w9.alloc (.cells #[.int .u64 hh, .slice none 0 0] 176)) := by kernel_rfl
    refine mS (o := _) rfl rfl (v := .slice (some ⟨w9.heap.size, 0, none⟩) 1 1) (w' := w9.alloc (.cells #[.int .u64 hh, .slice none 0 0] 176)) (by simp [execOp, v43, r2]) ?_
    have hBa : Below w9.heap.size w9 (w9.alloc (.cells #[.int .u64 hh, .slice none 0 0] 176)) := (Below.refl _ _).alloc (F9 _) _
    have Hc := (Ha.below hBa).putv 44 (by decide) (v := .slice (some ⟨w9.heap.size, 0, none⟩) 1 1) (av := ov (.slice (some ⟨w9.heap.size, 0, none⟩) 1 1)) ⟨rfl, rfl⟩
    have Ho := H9.own.keep hBa
    have hnew : (w9.alloc (.cells #[.int .u64 hh, .slice none 0 0] 176)).heap[w9.heap.size]? = some (.cells #[.int .u64 hh, .slice none 0 0] 176 (0, 0)) := heap_alloc_new w9 _
    have hbel := H9.bel.trans (hBa.mono H9.sz)
    have hsz : w.heap.size ≤ (w9.alloc (.cells #[.int .u64 hh, .slice none 0 0] 176)).heap.size := Ga H9.sz hBa.size
    have hvb : v.ownBlock ≠ some w9.heap.size := fun e => by have := (H9.own.lt _ (.inl e)).2; omega
    show wpOps _ _ _ [5, 6] (b9.put (some 44) (.slice (some ⟨w9.heap.size, 0, none⟩) 1 1)) (w9.alloc (.cells #[.int .u64 hh, .slice none 0 0] 176))
    generalize w9.alloc (.cells #[.int .u64 hh, .slice none 0 0] 176) = wa at hBa Hc Ho hnew hbel hsz ⊢
    generalize w9.heap.size = vb at Hc hnew hvb hBa ⊢
    generalize b9.put (some 44) (.slice (some ⟨vb, 0, none⟩) 1 1) = ba at Hc ⊢
    clear Ha v43 r1 r2 H9 v42
    rw [wpOps_cons]
    have v40 : ba.eval (.tmp 40) = v := Hc.val (t := 40) rfl
    have v41 : ba.eval (.tmp 41) = .int .i64 at_ := Hc.val (t := 41) rfl
    have v44 : ba.eval (.tmp 44) = .slice (some ⟨vb, 0, none⟩) 1 1 := Hc.val (t := 44) rfl
    have hat : ((at_.toNat : Nat) : Int) = at_ := by omega
    have hins := Ca v L.length at_.toNat w.heap.size vb (flatB L hs) (.int .u64 hh) wa Ho.row (by omega) (vP Ho.one) (by have := hz.1; omega) hsz hvb hnew rfl
    rw [hat] at hins
    refine jz (Hc.rep 1) (d := 45) (f := 99) rfl rfl rfl rfl rfl ⟨_, Tryz.func99, by kernel_rfl, rfl⟩ (vs := #[v, .int .i64 at_, .slice (some ⟨vb, 0, none⟩) 1 1]) (by simp [v40, v41, v44]) (Calls.mono hins ?_)
    rintro e wc ⟨v', rfl, hI⟩
    refine ⟨_, rfl, ?_⟩
    obtain ⟨O1, O2⟩ := Ho.ins (i := at_.toNat) (by omega) hI
    have Hd := (Hc.moved hI.2.1 (fun x hx => .inl hx) O2).putv 45 (by decide) (v := v') (av := ov v') ⟨rfl, sh O1.row⟩
    have hbc : Below w.heap.size w wc := hbel.grown hI.2.1 hsz (fun g e => (Ho.lt g (.inl e)).1)
    refine Hd.rest (fun x hx => (O1.lt x hx).2) ae 6 1 (tm' := (14, af at_) :: (11, ep [.v (.int .i64 (p3.getD ((i : Int).toNat) bg).ID), .v (.int .i64 (p3.getD ((i : Int).toNat) bg).Version), .tree (p3.getD ((i : Int).toNat) bg).Values.length 1 (Rs (p3.getD ((i : Int).toNat) bg).Values)]) :: [(5, ep [.tree p1.Components.length 2 (bD p1.Components)]), (4, ep [.v (.int .u64 p0.A), .v (.int .u64 p0.B)]), (2, af p2), (9, ov v'), (16, vl 3 bB p3), (17, af (p3.length : Int)), (18, af ((i : Int)))]) [] (by kernel_rfl) rfl fun a10 w10 A10 B10 => ⟨rfl, v', _, A10, O1.keep B10, hbc.trans (B10.mono (Ga hsz hI.2.1.size)), Ga (Ga hsz hI.2.1.size) B10.size⟩
  rintro e a10 w10 ⟨rfl, v1, hs1', H⟩
  clear H7
  have hz1 : (if there = true then L else dH L at_.toNat hh).length ≤ i + 1 ∧ ∀ b ∈ (if there = true then L else dH L at_.toNat hh), b.IDs.length ≤ i := by
   split
   ·exact ⟨Nat.le_succ_of_le hz.1, hz.2⟩
   ·unfold dH
    refine ⟨?_, fun b hb => ?_⟩
    ·simp only [FO, FR, FU, FN, FP]
     have := hz.1
     omega
    ·rcases F2.1 hb with hb | hb
     ·rcases F2.1 hb with hb | hb
      ·exact hz.2 b (List.mem_of_mem_take hb)
      ·rw [FQ.1 hb]; exact Nat.zero_le _
     ·exact hz.2 b (List.mem_of_mem_drop hb)
  generalize (if there = true then L else dH L at_.toNat hh) = L1 at H hs1 hz1
  unfold xi at hs1
  split at hs1
  rotate_left
  ·cases hs1
  rename_i b hb
  obtain rfl := am hs1
  have hk : at_.toNat < L1.length := (List.getElem?_eq_some_iff.1 hb).1
  have hat : at_ = ((at_.toNat : Nat) : Int) := by omega
  have hlen1 := H.own.len
  obtain ⟨h, hh1⟩ : ∃ h, hs1'[at_.toNat]? = some h := ⟨_, FJ (by omega)⟩
  have v9 : a10.eval (.tmp 9) = v1 := H.at_.val (t := 9) rfl
  have v14 : a10.eval (.tmp 14) = .int .i64 at_ := H.at_.val (t := 14) rfl
  obtain ⟨bx, o, v11, ⟨hbx, hbx2⟩, hcx⟩ := H.at_.tmp 11 _ rfl
  obtain ⟨x, hx1, rfl, _⟩ := hcx 0 (by simp)
  have v11' : a10.eval (.tmp 11) = .pointer (some ⟨bx, o, none⟩) := v11
  show Code.wp _ _ _ _ _
  generalize (p3.getD ((i : Int).toNat) bg).ID = ID at hx1 hs2 ⊢
  have hx1 : w10.cell? ⟨bx, o, none⟩ = some (.int .i64 ID) := hx1
  obtain ⟨ti, hi3, hz3, hs3, hb3⟩ : ∃ t, Tryz.prog.info? 3 = some t ∧ t.zero = some (.int .i64 0) ∧ t.size = 1 ∧ t.bytes = 8 := by
   have h : (Tryz.prog.info? 3).map (fun i => (i.zero, i.size, i.bytes)) = some (some (.int .i64 0), 1, 8) := by kernel_rfl
   obtain ⟨i, hi, e⟩ := Option.map_eq_some_iff.1 h
   simp only [FV] at e
   exact ⟨i, hi, e.1, e.2.1, e.2.2⟩
  obtain ⟨W0, hW0⟩ : ∃ W0, W0 = { w10 with drawn := w10.drawn + 1 } := ⟨_, rfl⟩
  have hB0 : Below w10.heap.size w10 W0 := by rw [hW0]; exact ⟨rfl, rfl, rfl, F9 _, fun _ _ => rfl⟩
  have hs0 : W0.heap.size = w10.heap.size := by rw [hW0]
  obtain ⟨N, hN⟩ : ∃ N, N = W0.heap.size := ⟨_, rfl⟩
  obtain ⟨W1, hW1⟩ : ∃ W1, W1 = W0.alloc (.cells #[.int .i64 ID] 3) := ⟨_, rfl⟩
  have hB1 : Below w10.heap.size w10 W1 := by rw [hW1]; exact hB0.alloc (by omega) _
  have hs1 : W1.heap.size = w10.heap.size + 1 := by rw [hW1]; simp [hs0]
  have hO1 := H.own.keep hB1
  have hnew : ∀ j u, [Value.int .i64 ID][j]? = some u → W1.cell? ((⟨N, 0, none⟩ : Addr).add j) = some u := by rw [hW1, hN]; exact cell_one_new W0 _ 3
  have hbl := hz1.2 b (F5 hb)
  obtain ⟨h', W2, hrun, o1, gr, _, hloc⟩ := run_append_own_at (P := Tryz.prog) W1 w.heap.size 22 22 3 ti _ 1 8 Tryz.underlying22 hi3 hz3 hs3 hb3 rfl (by decide) h b.IDs.length (b.IDs.map (Value.int .i64)) (hO1.ids _ b h hb hh1) ⟨N, 0, none⟩ 1 1 [.int .i64 ID] rfl hnew (fun u hu => by rw [FQ.1 hu]; rfl) (by unfold maxLen; omega) (by omega) (Ga H.sz hB1.size)
  obtain ⟨B, cap, rfl, hset, hfro, hs12, O3, gr3, hbad⟩ := H.own.app hB1 hb hh1 o1 gr hloc
  have hO0 := H.own.keep hB0
  obtain ⟨_, fh⟩ := mG hb hh1
  have ld0 : W0.cell? ⟨B, at_.toNat * 2 + 1, none⟩ = some h := by rw [hO0.row.cellAt _ (by omega)]; exact fh
  have ld1 : W1.cell? ⟨B, at_.toNat * 2 + 1, none⟩ = some h := by rw [hO1.row.cellAt _ (by omega)]; exact fh
  have lx0 : W0.cell? ⟨bx, o, none⟩ = some (.int .i64 ID) := (hB0.cell (p := ⟨bx, o, none⟩) hbx).trans hx1
  have hh'1 : h'.oneCell' = true := sh o1
  have r4 : ∀ W, (Instr.indexAt 121 (.slice (some ⟨B, 0, none⟩) L1.length cap) (.int .i64 at_)).run Tryz.prog W = .ok (.pointer (some ⟨B, at_.toNat * 2, none⟩)) W := fun W => by
   have := Cq (B := B) (cap := cap) hk W
   rwa [← hat] at this
  have r9 : (Instr.buildSlice 22 1 #[(0, .int .i64 ID)]).run Tryz.prog W0 = .ok (.slice (some ⟨N, 0, none⟩) 1 1) W1 := by rw [hN, hW1]; kernel_rfl
  refine Ar (by kernel_rfl) (nt := 61) (fun i => match i with
   | 0 => .slice (some ⟨B, 0, none⟩) L1.length cap
   | 1 => .int .i64 at_
   | 2 => .slice (some ⟨B, 0, none⟩) L1.length cap
   | 3 => .int .i64 at_
   | 4 => .pointer (some ⟨B, at_.toNat * 2, none⟩)
   | 5 => .pointer (some ⟨B, at_.toNat * 2 + 1, none⟩)
   | 6 => h
   | 7 => .pointer (some ⟨bx, o, none⟩)
   | 8 => .int .i64 ID
   | 9 => .slice (some ⟨N, 0, none⟩) 1 1
   | 10 => h'
   | 11 => .pointer (some ⟨B, at_.toNat * 2, none⟩)
   | 12 => .pointer (some ⟨B, at_.toNat * 2 + 1, none⟩)
   | _ => undef) (fun d => if d 13 = true then W2.setCell ⟨B, at_.toNat * 2 + 1, none⟩ h' else if d 10 = true then W2 else if d 9 = true then W1 else W0) H.at_.size H.at_.defers (by rw [hW0]; rfl) (by kernel_rfl) (by kernel_rfl) (by kernel_rfl) (Cf (by kernel_rfl)) (fun d i o a ho hdi hdep D => ?_) fun d a hall D => ?_
  ·match i, ho with
   | 0, ho =>
    obtain rfl := am ho
    left
    simp [execOp, D.ev0 9 (by kernel_rfl), v9, cA]
   | 1, ho =>
    obtain rfl := am ho
    left
    simp [execOp, D.ev0 14 (by kernel_rfl), v14, cA]
   | 2, ho =>
    obtain rfl := am ho
    left
    simp [execOp, D.ev0 9 (by kernel_rfl), v9, cA]
   | 3, ho =>
    obtain rfl := am ho
    left
    simp [execOp, D.ev0 14 (by kernel_rfl), v14, cA]
   | 4, ho =>
    obtain rfl := am ho
    left
    have e48 : a.eval (.tmp 48) = _ := D.ev 2 rfl (hdep ⟨2, .data⟩ (by simp) rfl) rfl
    have e49 : a.eval (.tmp 49) = _ := D.ev 3 rfl (hdep ⟨3, .data⟩ (by simp) rfl) rfl
    simp [execOp, e48, e49, cA, r4]
   | 5, ho =>
    obtain rfl := am ho
    left
    have e50 : a.eval (.tmp 50) = _ := D.ev 4 rfl (hdep ⟨4, .data⟩ (by simp) rfl) rfl
    simp [execOp, e50, cA, xb]
   | 6, ho =>
    obtain rfl := am ho
    left
    have e51 : a.eval (.tmp 51) = _ := D.ev 5 rfl (hdep ⟨5, .data⟩ (by simp) rfl) rfl
    have n10 : d 10 = false := D.no hdi (j := 10) rfl (e := ⟨6, .data⟩) (by simp) rfl rfl
    have n13 : d 13 = false := D.no n10 (j := 13) rfl (e := ⟨10, .data⟩) (by simp) rfl rfl
    cases h9 : d 9 <;> simp [execOp, e51, cA, n10, n13, h9, xh ld0, xh ld1]
   | 7, ho =>
    obtain rfl := am ho
    left
    simp [execOp, D.ev0 11 (by kernel_rfl), v11', cA, CE]
   | 8, ho =>
    obtain rfl := am ho
    left
    have e53 : a.eval (.tmp 53) = _ := D.ev 7 rfl (hdep ⟨7, .data⟩ (by simp) rfl) rfl
    have n9 : d 9 = false := D.no hdi (j := 9) rfl (e := ⟨8, .data⟩) (by simp) rfl rfl
    have n10 : d 10 = false := D.no n9 (j := 10) rfl (e := ⟨9, .data⟩) (by simp) rfl rfl
    have n13 : d 13 = false := D.no n10 (j := 13) rfl (e := ⟨10, .data⟩) (by simp) rfl rfl
    simp [execOp, e53, cA, n9, n10, n13, CJ lx0]
   | 9, ho =>
    obtain rfl := am ho
    left
    have e54 : a.eval (.tmp 54) = _ := D.ev 8 rfl (hdep ⟨8, .data⟩ (by simp) rfl) rfl
    have n10 : d 10 = false := D.no hdi (j := 10) rfl (e := ⟨9, .data⟩) (by simp) rfl rfl
    have n13 : d 13 = false := D.no n10 (j := 13) rfl (e := ⟨10, .data⟩) (by simp) rfl rfl
    simp [execOp, e54, cA, hdi, n10, n13, r9]
   | 10, ho =>
    obtain rfl := am ho
    left
    have e52 : a.eval (.tmp 52) = _ := D.ev 6 rfl (hdep ⟨6, .data⟩ (by simp) rfl) rfl
    have e55 : a.eval (.tmp 55) = _ := D.ev 9 rfl (hdep ⟨9, .data⟩ (by simp) rfl) rfl
    have y9 : d 9 = true := hdep ⟨9, .data⟩ (by simp) rfl
    have n13 : d 13 = false := D.no hdi (j := 13) rfl (e := ⟨10, .data⟩) (by simp) rfl rfl
    simp [execOp, resolve, invoke, builtin, e52, e55, cA, hdi, y9, n13, hrun]
   | 11, ho =>
    obtain rfl := am ho
    left
    have e46 : a.eval (.tmp 46) = _ := D.ev 0 rfl (hdep ⟨0, .data⟩ (by simp) rfl) rfl
    have e47 : a.eval (.tmp 47) = _ := D.ev 1 rfl (hdep ⟨1, .data⟩ (by simp) rfl) rfl
    simp [execOp, e46, e47, cA, r4]
   | 12, ho =>
    obtain rfl := am ho
    left
    have e57 : a.eval (.tmp 57) = _ := D.ev 11 rfl (hdep ⟨11, .data⟩ (by simp) rfl) rfl
    simp [execOp, e57, cA, xb]
   | 13, ho =>
    obtain rfl := am ho
    right
    have e56 : a.eval (.tmp 56) = _ := D.ev 10 rfl (hdep ⟨10, .data⟩ (by simp) rfl) rfl
    have e58 : a.eval (.tmp 58) = _ := D.ev 12 rfl (hdep ⟨12, .data⟩ (by simp) rfl) rfl
    have y10 : d 10 = true := hdep ⟨10, .data⟩ (by simp) rfl
    refine ⟨rfl, ?_⟩
    simp [execOp, e56, e58, cA, hdi, y10, CF hset hfro hh'1]
   | i + 14, ho => cases ho
  ·show Code.wp _ _ _ _ _
   rw [if_pos (hall 13 (by decide))]
   have hsb : w.heap.size ≤ W1.heap.size := Ga H.sz hB1.size
   have A1 := H.at_.below hB1
   have A2 := A1.moved (bad' := fun x => badB (.slice (some ⟨B, 0, none⟩) L1.length cap) hs1' x ∨ badB (.slice (some ⟨B, 0, none⟩) L1.length cap) (hs1'.set at_.toNat h') x) gr (fun x e => .inr ⟨h, F5 hh1, e⟩) (fun x hx => hx.elim .inl (hbad x))
   have A3 := A2.moved (bad' := badB (.slice (some ⟨B, 0, none⟩) L1.length cap) (hs1'.set at_.toNat h')) gr3 (fun x e => .inl (.inl e)) (fun x hx => .inl (.inr hx))
   have hb3 : Below w.heap.size w (W2.setCell ⟨B, at_.toNat * 2 + 1, none⟩ h') := ((H.bel.trans (hB1.mono H.sz)).grown gr hsb (fun g e => (H.own.lt g (.inr ⟨h, F5 hh1, e⟩)).1)).grown gr3 (by omega) (fun g e => (H.own.lt g (.inl e)).1)
   have Hf : Ab w.heap.size w _ (.slice (some ⟨B, 0, none⟩) L1.length cap) (L1.set at_.toNat ⟨b.Hash, b.IDs ++ [ID]⟩) (hs1'.set at_.toNat h') a _ := ⟨A3.det D (by kernel_rfl), O3, hb3, Ga (Ga hsb hs12) gr3.size⟩
   refine Hf.run (tm' := [(5, ep [.tree p1.Components.length 2 (bD p1.Components)]), (4, ep [.v (.int .u64 p0.A), .v (.int .u64 p0.B)]), (2, af p2), (9, ov (.slice (some ⟨B, 0, none⟩) L1.length cap)), (16, vl 3 bB p3), (17, af (p3.length : Int)), (18, af (i64.wrap ((i : Int) + 1)))]) (aS ae [(18, af (i64.wrap ((i : Int) + 1)))] 3 ⟨rfl, ai []⟩) rfl fun a5 w5 H5 => ⟨rfl, (.slice (some ⟨B, 0, none⟩) L1.length cap), _, hs1'.set at_.toNat h', hs2, ⟨?_, fun b' hb' => ?_⟩, ?_⟩
   ·rw [Gd]; exact hz1.1
   ·rcases List.mem_or_eq_of_mem_set hb' with hb' | rfl
    ·exact Nat.le_succ_of_le (hz1.2 b' hb')
    ·simp only [FO, FN, FP]
     omega
   ·rw [hw1] at H5
    exact H5
end
section
open Go.RowKit
noncomputable def pK (p0 : hJ) (p1 : bz) (p2 : Int) (p3 : List aB) : Option (List aH) := if p3.length ≤ 100 then p3.foldlM (m9 p0 p1 p2) [] else none
theorem ye (p0 : hJ) (p1 : bz) (p2 : Int) (p3 : List aB) (r : List aH) (h : pK p0 p1 p2 p3 = some r) : CT 53 [.agg (bp p0), .agg [cl 2 bD p1.Components], af p2, vl 3 bB p3] [] (vl 2 bn r) [] := by
 unfold pK at h
 obtain ⟨h1, h2⟩ := aN h
 refine uv (n := 0) ⟨_, Tryz.func53, by kernel_rfl, rfl⟩ fun w ok vs' hok ha => ?_
 obtain ⟨l⟩ := vs'
 rcases l with _ | ⟨v0, _ | ⟨v1, _ | ⟨v2, _ | ⟨v3, _ | ⟨v4, l⟩⟩⟩⟩⟩
 ·exact ha.elim
 ·exact ha.2.elim
 ·exact ha.2.2.elim
 ·exact ha.2.2.2.elim
 ·refine callsIn_wide.2 (Calls.mono (BL p0 p1 p2 p3 r h1 h2 w ok v0 v1 v2 v3 hok ha.1 ha.2.1 ha.2.2.1 ha.2.2.2.1) ?_)
  rintro e w' ⟨v, hs, rfl, hB, hO⟩
  exact ⟨_, rfl, hB, hO.tree fun x hx => hO.lt x hx⟩
 ·exact ha.2.2.2.2.elim
end
def qu (x : List aH) : List T := [.tree x.length 2 (bn x)]
def dF (xs : List (List aH)) : Nat → Nat → T := be ([] : List aH) qu xs
noncomputable def pL (p1 : hJ) (p2 : List bz) (p3 : List aB) (x9 : List (List aH)) (x10 : Int) : Option (((List (List aH)) × Int) ⊕ (List (List aH))) := if (decide (x10 < (p2.length : Int))) then (if 0 ≤ x10 then (if x10 < (p2.length : Int) then ((pK p1 (p2.getD x10.toNat dQ) x10 p3).bind fun y15 => (if x9.length + ([y15] : List (List aH)).length ≤ 1099511627776 then (some (.inl ((x9 ++ ([y15] : List (List aH))), i64.wrap (x10 + 1)))) else none)) else none) else none) else (some (.inr x9))
noncomputable def uO (p0 : aK) (p1 : hJ) (p2 : List bz) (p3 : List aB) : Option ((List (List aH)) × Int) := (lB p0 p2).bind fun y1 => (if (y1 != 0) then (some (([] : List (List aH)), y1)) else ((Ji p0 p3).bind fun y4 => (if (y4 != 0) then (some (([] : List (List aH)), y4)) else ((loop (fun v : (List (List aH)) × Int => pL p1 p2 p3 v.1 v.2) (([] : List (List aH)), 0)).bind fun x18 => (some (x18, 0))))))
theorem CY (p0 : aK) (p1 : hJ) (p2 : List bz) (p3 : List aB) (r : (List (List aH)) × Int) (h : uO p0 p1 p2 p3 = some r) : CT 20 [.agg (aJ p0), .agg (bp p1), vl 1 cR p2, vl 3 bB p3] [] (.tup [.c (.ref 0 1 0 r.1.length), af r.2]) [(0, .row 121 false 1 r.1.length (dF r.1))] := by
 refine an ae 0 Tryz.func20 rfl (fun _ _ _ => ?_)
 unfold uO at h
 refine Fs ae [(5, pX 1 2), (4, pX 0 4)] [0, 1] [(1, .box 39 (bp p1)), (0, .box 33 (aJ p0))] 4 [] (seq ?_)
 obtain ⟨y1, e2, h⟩ := ak h
 refine ay ae [(10, af y1)] 7 [hn, hn, hk (tI p0 p2 y1 e2)] ?_
 refine ah ae [(19, vb (y1 != 0))] 9 ?_
 refine Fw h (fun c3 h => ?_) (fun c3 h => ?_)
 ·refine ah ae [(9, af y1), (8, .c (ax))] 12 (ret (Fo ?_))
  obtain rfl := am h
  exact cB (.inr rfl) [(0, 12)] 1 (.tup [.c (.ref 12 1 0 (([] : List (List aH)).length)), af y1]) (cg (t := 8) (ty := 121) (sz := 1) (n := ([] : List (List aH)).length) (f := dF ([] : List (List aH))) (by kernel_rfl) rfl)
 ·refine skip (Fp (seq ?_))
  obtain ⟨y4, e5, h⟩ := ak h
  refine ay ae [(11, af y4)] 12 [hn, hn, hk (zi p0 p3 y4 e5)] ?_
  refine ah ae [(25, vb (y4 != 0))] 14 ?_
  refine Fw h (fun c6 h => ?_) (fun c6 h => ?_)
  ·refine ah ae [(9, af y4), (8, .c (ax))] 17 (ret (Fo ?_))
   obtain rfl := am h
   exact cB (.inr rfl) [(0, 17)] 1 (.tup [.c (.ref 17 1 0 (([] : List (List aH)).length)), af y4]) (cg (t := 8) (ty := 121) (sz := 1) (n := ([] : List (List aH)).length) (f := dF ([] : List (List aH))) (by kernel_rfl) rfl)
  ·refine skip (Fp ?_)
   refine ah ae [(12, .c (ax))] 15 (seq ?_)
   refine ah ae [(29, af 0), (28, af (p2.length : Int)), (27, vl 1 cR p2)] 18 (block ?_)
   obtain ⟨x18, l19, h⟩ := ak h
   refine Fy l19 (fun v => ⟨[(3, vl 3 bB p3), (5, pX 0 2), (12, rX 1 1 v.1.length), (27, vl 1 cR p2), (28, af (p2.length : Int)), (29, af v.2)], [(0, .box 39 (bp p1)), (1, .row 121 false 1 v.1.length (dF v.1))], 2⟩) (fun t : List (List aH) => (.exit 0, ⟨[(12, rX 0 1 t.length)], [(0, .row 121 false 1 t.length (dF t))], 1⟩)) (Conv.trans (cg (t := 12) (ty := 121) (sz := 1) (n := ([] : List (List aH)).length) (f := dF ([] : List (List aH))) (by kernel_rfl) rfl) (ai [(0, 1), (1, 18)])) (fun _ => tv) ?_ ?_
   ·clear l19 h
    intro v o h
    obtain ⟨x9, x10⟩ := v
    replace h : pL p1 p2 p3 x9 x10 = some o := h
    unfold pL at h
    refine ah ae [(30, vb (decide (x10 < (p2.length : Int))))] 3 (seq ?_)
    refine Fw h (fun c12 h => ?_) (fun c12 h => ?_)
    ·refine skip (Fp ?_)
     refine seq (block ?_)
     obtain ⟨g13, g14, h⟩ := aG h
     refine Fs ae [(13, af x10), (14, pX 6 1)] [6] [(6, .box 117 [cl 2 bD ((p2.getD x10.toNat dQ).Components)])] 9 [hn, hq g13 g14] ?_
     obtain ⟨y15, e16, h⟩ := ak h
     obtain ⟨g17, h⟩ := aN h
     refine AW.rg ae [(12, .c (.ref 15 1 0 ((x9 ++ ([y15] : List (List aH))).length)))] [1, 14, 15] [(15, .row 121 false 1 (x9 ++ ([y15] : List (List aH))).length (dF (x9 ++ ([y15] : List (List aH)))))] 17 [hn, hn, hn, hn, hn, hk (ye p1 (p2.getD x10.toNat dQ) x10 p3 y15 e16), bh ([] : List aH) qu 1 (fun _ => rfl) ([y15] : List (List aH)), bY ([] : List aH) qu 1 24 x9 ([y15] : List (List aH)) g17 (by decide)] ?_
     refine Fj (Fp ?_)
     refine aS ae [(29, af (i64.wrap (x10 + 1)))] 19 ?_
     exact bu h (ai [(0, 0), (1, 15)])
    ·refine exit (Fb ?_)
     exact aU h rfl (ai [(0, 1)])
   ·show (_ : Exit → St → Prop) (.exit 0) _
    refine E6 (Fp ?_)
    refine ah ae [(9, af 0), (8, rX 0 1 x18.length)] 4 (ret ?_)
    obtain rfl := am h
    exact aW (.inr rfl) [(0, 0)] 1 (.tup [.c (.ref 0 1 0 x18.length), af 0])
noncomputable def oE (p0 : Int) (p1 : Int) (x8 : List Int) (x9 : Int) : Option (((List Int) × Int) ⊕ (List Int)) := if (decide (x9 < p1)) then ((iQ).bind fun y12 => (if 0 ≤ x9 then (if x9 < ((6 : Nat) : Int) then (if (y12.getD x9.toNat 0) ≠ 0 then (if x8.length + ([((i64.wrap (p0.tdiv (y12.getD x9.toNat 0))).tmod 3)] : List Int).length ≤ 1099511627776 then (some (.inl ((x8 ++ ([((i64.wrap (p0.tdiv (y12.getD x9.toNat 0))).tmod 3)] : List Int)), i64.wrap (x9 + 1)))) else none) else none) else none) else none)) else (some (.inr x8))
noncomputable def kD (p0 : Int) (p1 : Int) (x4 : Bool) : Option ((List Int) × Int) := if x4 then (some (([] : List Int), 2)) else ((loop (fun v : (List Int) × Int => oE p0 p1 v.1 v.2) (([] : List Int), 0)).bind fun x18 => (some (x18, 0)))
noncomputable def tT (p0 : Int) (p1 : Int) : Option ((List Int) × Int) := (HL p1).bind fun y1 => (if (!y1) then (some (([] : List Int), 8)) else (if (decide (p0 < 0)) then (kD p0 p1 true) else ((iQ).bind fun y21 => (if 0 ≤ p1 then (if p1 < ((6 : Nat) : Int) then (kD p0 p1 (decide (p0 ≥ (y21.getD p1.toNat 0)))) else none) else none))))
theorem CP (p0 : Int) (p1 : Int) (r : (List Int) × Int) (h : tT p0 p1 = some r) : CT 24 [af p0, af p1] [] (.tup [.c (.ref 0 1 0 r.1.length), af r.2]) [(0, .row 3 false 1 r.1.length (aF r.1))] := by
 refine an ae 0 Tryz.func24 rfl (fun _ _ _ => ?_)
 unfold tT at h
 refine ah ae [] 2 (seq ?_)
 obtain ⟨y1, e2, h⟩ := ak h
 refine ay ae [(10, vb (!y1))] 4 [hn, hk (ko p1 y1 e2)] ?_
 refine Fw h (fun c3 h => ?_) (fun c3 h => ?_)
 ·refine ah ae [(5, af 8), (4, .c (ax))] 6 (ret (Fo ?_))
  obtain rfl := am h
  exact cB (.inr rfl) [(0, 6)] 1 (.tup [.c (.ref 6 1 0 (([] : List Int).length)), af 8]) (cg (t := 4) (ty := 3) (sz := 1) (n := ([] : List Int).length) (f := aF ([] : List Int)) (by kernel_rfl) rfl)
 ·refine skip (Fp ?_)
  refine seq (seq ?_)
  refine AW.join (ι := Bool) (fun v => ⟨[(0, af p0), (1, af p1), (19, vb v)], [], 0⟩) (fun v : Bool => kD p0 p1 v = some r) (fun x4 h => ?_) ?_
  ·unfold kD at h
   refine Fp ?_
   refine Fw h (fun c5 h => ?_) (fun c5 h => ?_)
   ·refine ah ae [(5, af 2), (4, .c (ax))] 2 (ret (Fo ?_))
    obtain rfl := am h
    exact cB (.inr rfl) [(0, 2)] 1 (.tup [.c (.ref 2 1 0 (([] : List Int).length)), af 2]) (cg (t := 4) (ty := 3) (sz := 1) (n := ([] : List Int).length) (f := aF ([] : List Int)) (by kernel_rfl) rfl)
   ·refine skip (Fp ?_)
    refine ah ae [(6, .c (ax))] 1 (seq ?_)
    refine ah ae [(21, af 0), (20, af p1)] 3 (block ?_)
    obtain ⟨x18, l19, h⟩ := ak h
    refine Fy l19 (fun v => ⟨[(0, af p0), (6, rX 0 1 v.1.length), (20, af p1), (21, af v.2)], [(0, .row 3 false 1 v.1.length (aF v.1))], 1⟩) (fun t : List Int => (.exit 0, ⟨[(6, rX 0 1 t.length)], [(0, .row 3 false 1 t.length (aF t))], 1⟩)) (Conv.trans (cg (t := 6) (ty := 3) (sz := 1) (n := ([] : List Int).length) (f := aF ([] : List Int)) (by kernel_rfl) rfl) (ai [(0, 3)])) (fun _ => tv) ?_ ?_
    ·clear l19 h
     intro v o h
     obtain ⟨x8, x9⟩ := v
     replace h : oE p0 p1 x8 x9 = some o := h
     unfold oE at h
     refine ah ae [(22, vb (decide (x9 < p1)))] 2 (seq ?_)
     refine Fw h (fun c11 h => ?_) (fun c11 h => ?_)
     ·refine skip (Fp ?_)
      refine seq (block ?_)
      refine ah ae [(7, af x9)] 4 ?_
      obtain ⟨y12, e13, h⟩ := ak h
      obtain ⟨g14, g15, h⟩ := aG h
      obtain ⟨g16, g17, h⟩ := aG h
      refine AW.rg ae [(6, .c (.ref 11 1 0 ((x8 ++ ([((i64.wrap (p0.tdiv (y12.getD x9.toNat 0))).tmod 3)] : List Int)).length)))] [0, 10, 11] [(11, .row 3 false 1 (x8 ++ ([((i64.wrap (p0.tdiv (y12.getD x9.toNat 0))).tmod 3)] : List Int)).length (aF (x8 ++ ([((i64.wrap (p0.tdiv (y12.getD x9.toNat 0))).tmod 3)] : List Int))))] 13 [hn, hn, hk (oo y12 e13), hn, hr 6 (aF y12) (p := ((0 ≤ x9) ∧ (x9 < ((6 : Nat) : Int))) ∧ (6 = 6 ∧ ∀ i, i < 6 → ∀ j, j < 1 → cq [.v (.int .i64 (y12.getD 0 0)), .v (.int .i64 (y12.getD 1 0)), .v (.int .i64 (y12.getD 2 0)), .v (.int .i64 (y12.getD 3 0)), .v (.int .i64 (y12.getD 4 0)), .v (.int .i64 (y12.getD 5 0))] 1 i j = aF y12 i j)) (⟨⟨g14, g15⟩, ⟨rfl, fun i hi j hj => match i, hi, j, hj with | 0, _, 0, _ => rfl | 1, _, 0, _ => rfl | 2, _, 0, _ => rfl | 3, _, 0, _ => rfl | 4, _, 0, _ => rfl | 5, _, 0, _ => rfl | _ + 6, h, _, _ => absurd h (by omega) | _, _, _ + 1, h => absurd h (by omega)⟩⟩), ho g16, ho (p := (3 : Int) ≠ 0) (by decide), bh 0 db 1 (fun _ => rfl) ([((i64.wrap (p0.tdiv (y12.getD x9.toNat 0))).tmod 3)] : List Int), bY 0 db 1 8 x8 ([((i64.wrap (p0.tdiv (y12.getD x9.toNat 0))).tmod 3)] : List Int) g17 (by decide)] ?_
      refine Fj (Fp ?_)
      refine aS ae [(21, af (i64.wrap (x9 + 1)))] 15 ?_
      exact bu h (ai [(0, 11)])
     ·refine exit (Fb ?_)
      exact aU h rfl (ai [(0, 0)])
    ·show (_ : Exit → St → Prop) (.exit 0) _
     refine E6 (Fp ?_)
     refine ah ae [(5, af 0), (4, rX 0 1 x18.length)] 4 (ret ?_)
     obtain rfl := am h
     exact aW (.inr rfl) [(0, 0)] 1 (.tup [.c (.ref 0 1 0 x18.length), af 0])
  ·rcases aD h with ⟨c20, h⟩ | ⟨c20, h⟩
   ·refine au ae [(19, vb true)] 13 [hn, ht c20] ?_
    exact jl true h
   ·obtain ⟨y21, e22, h⟩ := ak h
    obtain ⟨g23, g24, h⟩ := aG h
    refine au ae [(19, vb (decide (p0 ≥ (y21.getD p1.toNat 0))))] 12 [hn, hf c20, hn, hn, hk (oo y21 e22), hn, hr 6 (aF y21) (p := ((0 ≤ p1) ∧ (p1 < ((6 : Nat) : Int))) ∧ (6 = 6 ∧ ∀ i, i < 6 → ∀ j, j < 1 → cq [.v (.int .i64 (y21.getD 0 0)), .v (.int .i64 (y21.getD 1 0)), .v (.int .i64 (y21.getD 2 0)), .v (.int .i64 (y21.getD 3 0)), .v (.int .i64 (y21.getD 4 0)), .v (.int .i64 (y21.getD 5 0))] 1 i j = aF y21 i j)) (⟨⟨g23, g24⟩, ⟨rfl, fun i hi j hj => match i, hi, j, hj with | 0, _, 0, _ => rfl | 1, _, 0, _ => rfl | 2, _, 0, _ => rfl | 3, _, 0, _ => rfl | 4, _, 0, _ => rfl | 5, _, 0, _ => rfl | _ + 6, h, _, _ => absurd h (by omega) | _, _, _ + 1, h => absurd h (by omega)⟩⟩)] ?_
    exact jl (decide (p0 ≥ (y21.getD p1.toNat 0))) h (ai [])
noncomputable def kV (x4 : Bool) : Option Int := if x4 then (some 2) else (some 0)
noncomputable def p9 (p0 : aK) (p1 : List bz) (p2 : Int) : Option Int := (lB p0 p1).bind fun y1 => (if (y1 != 0) then (some y1) else (if (decide (p2 < 0)) then (kV true) else (kV (decide (p2 ≥ (p1.length : Int))))))
theorem yn (p0 : aK) (p1 : List bz) (p2 : Int) (r : Int) (h : p9 p0 p1 p2 = some r) : CT 59 [.agg (aJ p0), vl 1 cR p1, af p2] [] (af r) [] := by
 refine an ae 0 Tryz.func59 rfl (fun _ _ _ => ?_)
 unfold p9 at h
 refine Fs ae [(3, pX 0 4)] [0] [(0, .box 33 (aJ p0))] 2 [] (seq ?_)
 obtain ⟨y1, e2, h⟩ := ak h
 refine ay ae [(7, af y1)] 5 [hn, hn, hk (tI p0 p1 y1 e2)] ?_
 refine ah ae [(12, vb (y1 != 0))] 7 ?_
 refine Fw h (fun c3 h => ?_) (fun c3 h => ?_)
 ·refine ah ae [(6, af y1)] 9 (ret (Fo ?_))
  apply al h (af y1)
 ·refine skip (Fp ?_)
  refine seq (seq ?_)
  refine AW.join (ι := Bool) (fun v => ⟨[(21, vb v)], [], 0⟩) (fun v : Bool => kV v = some r) (fun x4 h => ?_) ?_
  ·unfold kV at h
   refine Fp ?_
   refine Fw h (fun c5 h => ?_) (fun c5 h => ?_)
   ·refine ah ae [(6, af 2)] 1 (ret (Fo ?_))
    apply al h (af 2)
   ·refine skip (Fp ?_)
    refine ah ae [(6, af 0)] 1 (ret ?_)
    apply al h (af 0)
  ·rcases aD h with ⟨c6, h⟩ | ⟨c6, h⟩
   ·refine au ae [(21, vb true)] 15 [hn, ht c6] ?_
    exact jl true h
   ·refine au ae [(21, vb (decide (p2 ≥ (p1.length : Int))))] 15 [hn, hf c6] ?_
    exact jl (decide (p2 ≥ (p1.length : Int))) h (ai [])
noncomputable def uD (p0 : aK) (p1 : hJ) (p2 : List bz) (p3 : Int) (p4 : aB) : Option (Int × Bool × Int) := (p9 p0 p2 p3).bind fun y1 => (if (y1 != 0) then (some (0, false, y1)) else ((PT p0 p4).bind fun y4 => (if (y4 != 0) then (some (0, false, y4)) else (if 0 ≤ p3 then (if p3 < (p2.length : Int) then (aM (lR p1 (p2.getD p3.toNat dQ) p3 p4) fun y9 y10 => (some (y9, y10, 0))) else none) else none))))
theorem CU (p0 : aK) (p1 : hJ) (p2 : List bz) (p3 : Int) (p4 : aB) (r : Int × Bool × Int) (h : uD p0 p1 p2 p3 p4 = some r) : CT 25 [.agg (aJ p0), .agg (bp p1), vl 1 cR p2, af p3, .agg (bL p4)] [] (.tup [aV r.1, vb r.2.1, af r.2.2]) [] := by
 refine an ae 0 Tryz.func25 rfl (fun _ _ _ => ?_)
 unfold uD at h
 refine Fs ae [(9, pX 2 3), (6, pX 1 2), (5, pX 0 4)] [0, 1, 2] [(2, .box 53 (bL p4)), (1, .box 39 (bp p1)), (0, .box 33 (aJ p0))] 6 [] (seq ?_)
 obtain ⟨y1, e2, h⟩ := ak h
 refine ay ae [(13, af y1)] 10 [hn, hn, hn, hk (yn p0 p2 p3 y1 e2)] ?_
 refine ah ae [(22, vb (y1 != 0))] 12 ?_
 refine Fw h (fun c3 h => ?_) (fun c3 h => ?_)
 ·refine ah ae [(12, af y1), (11, vb false), (10, aV 0)] 16 (ret (Fo ?_))
  apply al h (.tup [aV 0, vb false, af y1])
 ·refine skip (Fp (seq ?_))
  obtain ⟨y4, e5, h⟩ := ak h
  refine ay ae [(14, af y4)] 15 [hn, hn, hk (tZ p0 p4 y4 e5)] ?_
  refine ah ae [(28, vb (y4 != 0))] 17 ?_
  refine Fw h (fun c6 h => ?_) (fun c6 h => ?_)
  ·refine ah ae [(12, af y4), (11, vb false), (10, aV 0)] 21 (ret (Fo ?_))
   apply al h (.tup [aV 0, vb false, af y4])
  ·refine skip (Fp ?_)
   obtain ⟨g7, g8, h⟩ := aG h
   obtain ⟨y9, y10, e11, h⟩ := aO h
   refine Fv ae eC [] [(16, vb y10), (15, aV y9)] [] 29 [hn, hn, hn, hq g7 g8, hn, hn, hn, hk (tS p1 (p2.getD p3.toNat dQ) p3 p4 (y9, y10) e11)] ?_
   refine ah ae [(12, af 0), (11, vb y10), (10, aV y9)] 34 (ret ?_)
   apply al h (.tup [aV y9, vb y10, af 0])
section
open Go.RowKit Go.Maps
def cm (l : List aH) : Nat := (l.map fun b => b.IDs.length).sum
theorem rB {l : List aH} {i : Nat} (h : i < l.length) : cm (l.take (i + 1)) = cm (l.take i) + (l.getD i aE).IDs.length := by
 unfold cm
 rw [Gp, FI, FJ h, PI, List.sum_append]
 simp
theorem wI (l : List aH) (i : Nat) : cm (l.take i) ≤ cm l := by
 have : cm l = cm (l.take i) + cm (l.drop i) := by
  conv => lhs; rw [← Ge i l]
  unfold cm
  rw [PI, List.sum_append]
 omega
def allI (l : List aH) : List Int := l.flatMap fun b => b.IDs
structure xc (l : List aH) : Prop where
 tot : cm l ≤ 64
 ne : ∀ i, i < l.length → (l.getD i aE).IDs ≠ []
 asc : ∀ i, i + 1 < l.length → (l.getD i aE).Hash < (l.getD (i + 1) aE).Hash
 rng : ∀ x ∈ allI l, 1 ≤ x ∧ x ≤ 1048576
 ida : ∀ i, i < l.length → ∀ j, j + 1 < (l.getD i aE).IDs.length → (l.getD i aE).IDs.getD j 0 < (l.getD i aE).IDs.getD (j + 1) 0
 nod : (allI l).Nodup
def bR : Value → Option (DataW Unit × List MemPlace)
 | .bool x => some (.lit (.int .i64 (if x then 1 else 0)), [])
 | _ => none
theorem Cg {v : Value} {ps : List MemPlace} (h : bR v = some (.lit (.int .i64 0), ps)) : v = .bool false := by
 cases v with
 | bool x => cases x with
  | true => simp [bR] at h
  | false => rfl
 | _ => simp [bR] at h
def eV (D : DataW Unit) (l : List Int) : Prop := ∀ x : Int, D.atKey (.int .i64 x) (.lit (.int .i64 0)) = .lit (.int .i64 (if x ∈ l then 1 else 0))
theorem eV.nil : eV (DataW.map []) [] := fun x => rfl
theorem eV.put {D : DataW Unit} {l : List Int} (h : eV D l) (hm : Maps.IsMap D) (y : Int) : eV (D.put (.int .i64 y) (.lit (.int .i64 1))) (l ++ [y]) := fun x => by
 by_cases e : x = y
 ·subst e
  have hk : WideAt.IsKeyLit (.int .i64 x) := True.intro
  rw [Maps.atKey_put_same hm hk _ _, if_pos (by simp)]
 ·rw [Maps.atKey_put_other (fun h => e (by cases h; rfl)), h x]
  congr 2
  simp [e]
theorem BM {l : List Int} {k : Nat} (h : k < l.length) : l.getD k 0 ∈ l := by
 rw [FI, FJ h]
 exact Gh _
theorem Cr {l : List Int} {k : Nat} (h : k < l.length) : l.take (k + 1) = l.take k ++ [l.getD k 0] := by
 rw [Gp, FI, FJ h]
 rfl
theorem Bl {l : List Int} {k : Nat} (h : k < l.length) : l.getD k 0 ∈ l.drop k := by
 rw [FI, FJ h, List.drop_eq_getElem_cons h]
 exact FZ
theorem ip {n : Int} (h0 : -9223372036854775808 ≤ n) (h1 : n < 9223372036854775808) : i64.wrap n = n := sD h0 h1
theorem BN (p0 : List aH) (hg : xc p0) (w : World) (ok : Nat → Prop) (x0 : Value) (hok : ∀ b, ok b → b < w.heap.size) (hx : RV w ok (fun _ => none) (vl 2 bn p0) x0) : Calls Tryz.prog 108 #[x0] w fun e w' => e = .returned (.int .i64 0) ∧ Below w.heap.size w w' := by
 refine calls_of_wp Tryz.func108 rfl ?_
 have hlen : p0.length ≤ 64 := by
  have : ∀ l : List aH, (∀ x ∈ l, x.IDs ≠ []) → l.length ≤ cm l := fun l => by
   induction l with
   | nil => intro _; exact F9 _
   | cons x l ih =>
    intro h
    have h1 := ih fun y hy => h y (F0 _ hy)
    have h2 : x.IDs.length ≠ 0 := fun e => h x FZ (List.length_eq_zero_iff.1 e)
    unfold cm at h1 ⊢
    simp only [Gr, PK, FN]
    omega
  refine Ga (this p0 fun x hx => ?_) hg.tot
  obtain ⟨i, hi, rfl⟩ := List.getElem_of_mem hx
  have := hg.ne i hi
  rwa [FI, FJ hi] at this
 have htot := hg.tot
 have H0 : A0 Tryz.prog 89 w.heap.size w [(0, vl 2 bn p0)] { tmps := #[x0] ++ Array.replicate (Tryz.f108.ntmps - 1) undef, defers := [] } w := FF hok rfl fun t av ht => by
  match t, ht with
  | 0, ht => obtain rfl := am ht; exact ⟨Nat.zero_lt_one, hx⟩
  | t + 1, ht => cases ht
 refine wp_seq (H0.run (tm' := [(0, vl 2 bn p0)]) (aS ae [] 2 ⟨rfl, ai []⟩) rfl fun a1 w1 H1 => ?_)
 refine wp_seq (H1.run (tm' := [(0, vl 2 bn p0), (3, af 0)]) (aS ae [(3, af 0)] 2 ⟨rfl, ai []⟩) rfl fun a2 w2 H2 => ?_)
 refine wp_seq (wp_seq (H2.run (tm' := [(0, vl 2 bn p0), (3, af 0), (11, vl 2 bn p0), (12, af (p0.length : Int)), (13, af 0)]) (aS ae [(11, vl 2 bn p0), (12, af (p0.length : Int)), (13, af 0)] 4 ⟨rfl, ai []⟩) rfl fun a3 w3 H3 => ?_))
 refine wp_block (mR p0.length (fun i a w' => A0 Tryz.prog 89 w.heap.size w [(0, vl 2 bn p0), (3, af (cm (p0.take i) : Int)), (11, vl 2 bn p0), (12, af (p0.length : Int)), (13, af (i : Int))] a w') H3 (fun i hi a w' H => ?_) fun a w' H => ?_)
 ·have hd : decide ((i : Int) < (p0.length : Int)) = true := by simp; omega
  have g1 : (0 : Int) ≤ (i : Int) := by omega
  have g2 : (i : Int) < (p0.length : Int) := by omega
  refine wp_seq (H.run (tm' := (14, vb true) :: [(0, vl 2 bn p0), (3, af (cm (p0.take i) : Int)), (11, vl 2 bn p0), (12, af (p0.length : Int)), (13, af (i : Int))]) (au ae [(14, vb true)] 2 [ht hd] ⟨rfl, ai []⟩) rfl fun a1 w1 H1 => ?_)
  refine wp_seq (wp_cond_true (H1.at_.val (t := 14) rfl) (wp_skip ?_))
  have ht := rB hi
  have hl := wI p0 (i + 1)
  have hw : i64.wrap (((cm (p0.take i) : Nat) : Int) + (((p0.getD ((i : Int).toNat) aE).IDs.length : Nat) : Int)) = ((cm (p0.take (i + 1)) : Nat) : Int) := by
   rw [FM, ht]
   rw [ip (by omega) (by omega)]
   omega
  refine wp_seq (H1.run (tm' := [(0, vl 2 bn p0), (3, af (i64.wrap (((cm (p0.take i) : Nat) : Int) + (((p0.getD ((i : Int).toNat) aE).IDs.length : Nat) : Int)))), (11, vl 2 bn p0), (12, af (p0.length : Int)), (13, af (i : Int))]) (block (Fs ae [(5, pX 3 2)] [3] [(3, .box 176 [aw (p0.getD ((i : Int).toNat) aE).Hash, cl 1 aF (p0.getD ((i : Int).toNat) aE).IDs])] 5 [hq g1 g2] (aS ae [(3, af (i64.wrap (((cm (p0.take i) : Nat) : Int) + (((p0.getD ((i : Int).toNat) aE).IDs.length : Nat) : Int))))] 11 (Fj ⟨rfl, ai []⟩)))) rfl fun a2 w2 H2 => ?_)
  rw [hw] at H2
  refine H2.run (tm' := [(0, vl 2 bn p0), (3, af ((cm (p0.take (i + 1)) : Nat) : Int)), (11, vl 2 bn p0), (12, af (p0.length : Int)), (13, af (i64.wrap ((i : Int) + 1)))]) (aS ae [(13, af (i64.wrap ((i : Int) + 1)))] 3 ⟨rfl, ai []⟩) rfl fun a3 w3 H3 => ⟨rfl, ?_⟩
  rw [ip (by omega) (by omega)] at H3
  exact H3
 have hd : decide ((p0.length : Int) < (p0.length : Int)) = false := by simp
 refine wp_seq (H.run (tm' := [(0, vl 2 bn p0), (3, af (cm (p0.take p0.length) : Int)), (14, vb false)]) (au ae [(14, vb false)] 2 [hf hd] ⟨rfl, ai []⟩) rfl fun a1 w1 H1 => ?_)
 refine wp_seq (wp_cond_false (H1.at_.val (t := 14) rfl) (wp_exit ⟨(by intro e; cases e), ?_⟩))
 show Code.wp _ _ _ _ _
 rw [PF] at H1
 have g3 : decide (((cm p0 : Nat) : Int) > 64) = false := by simp; omega
 refine wp_seq (wp_seq (H1.run (tm' := [(0, vl 2 bn p0), (24, vb false)]) (au ae [(24, vb false)] 3 [hn, hf g3] ⟨rfl, ai []⟩) rfl fun a2 w2 H2 => wp_cond_false (H2.at_.val (t := 24) rfl) (wp_skip ?_)))
 refine wp_seq (wp_region ?_)
 show wpOps _ _ _ [0, 1] _ _
 rw [wpOps_cons]
 refine mS (o := _) rfl rfl (v := .map (some w2.heap.size)) (w' := w2.alloc (.map #[] 0)) (by simp [execOp, run_makeMap]) ?_
 refine (H2.map 3 bR 25 (by decide)).rest (tm' := [(0, vl 2 bn p0), (6, .c (.t (.v (.map (some w2.heap.size)))))]) ae 1 1 [] (by kernel_rfl) rfl fun a4 w4 H4 => ?_
 generalize w2.heap.size = b at H4
 clear H0 H1 H2 H3 hx
 refine wp_seq (wp_seq (H4.run (tm' := [(0, vl 2 bn p0), (6, .c (.t (.v (.map (some b))))), (26, vl 2 bn p0), (27, af (p0.length : Int)), (28, af 0)]) (aS ae [(26, vl 2 bn p0), (27, af (p0.length : Int)), (28, af 0)] 4 ⟨rfl, ai []⟩) rfl fun a5 w5 H5 => ?_))
 refine wp_block (mR p0.length (fun i a w' => ∃ D, eV D (allI (p0.take i)) ∧ Ax Tryz.prog 89 3 bR b w.heap.size w [(0, vl 2 bn p0), (6, .c (.t (.v (.map (some b))))), (26, vl 2 bn p0), (27, af (p0.length : Int)), (28, af (i : Int))] (cm (p0.take i)) D a w') ⟨_, eV.nil, H5⟩ (fun i hi a w' ⟨D, hU, H⟩ => ?_) fun a w' ⟨D, hU, H⟩ => ?_)
 rotate_left
 ·have hd : decide ((p0.length : Int) < (p0.length : Int)) = false := by simp
  refine wp_seq (H.run (tm' := [(29, vb false)]) (au ae [(29, vb false)] 2 [hf hd] ⟨rfl, ai []⟩) rfl fun a1 w1 H1 => ?_)
  refine wp_seq (wp_cond_false (H1.at_.val (t := 29) rfl) (wp_exit ⟨(by intro e; cases e), ?_⟩))
  show Code.wp _ _ _ _ _
  refine wp_seq (H1.run (tm' := [(2, af 0)]) (aS ae [(2, af 0)] 2 ⟨rfl, ai []⟩) rfl fun a2 w2 H2 => wp_ret ?_)
  obtain ⟨u, e1, e2⟩ := jE (fn := Tryz.f108) (out := af 0) (ps := [True]) ae (H2.at_.rep 1) (by kernel_rfl) ⟨tv, tv⟩
  obtain ⟨rfl, _⟩ := e2
  exact ⟨H2.at_.defers, _, e1, rfl, H2.bel⟩
 have hd : decide ((i : Int) < (p0.length : Int)) = true := by simp; omega
 have g1 : (0 : Int) ≤ (i : Int) := by omega
 have g2 : (i : Int) < (p0.length : Int) := by omega
 have hit : ((i : Int)).toNat = i := FM i
 have hne := hg.ne i hi
 rw [← hit] at hne
 have htt := rB hi
 rw [← hit] at htt
 have htl := wI p0 (i + 1)
 have htb : cm (p0.take i) + (p0.getD ((i : Int).toNat) aE).IDs.length ≤ 64 := by
  have := rB hi
  rw [hit]
  omega
 refine wp_seq (H.run (tm' := (29, vb true) :: [(0, vl 2 bn p0), (6, .c (.t (.v (.map (some b))))), (26, vl 2 bn p0), (27, af (p0.length : Int)), (28, af (i : Int))]) (au ae [(29, vb true)] 2 [ht hd] ⟨rfl, ai []⟩) rfl fun a1 w1 H1 => ?_)
 refine wp_seq (wp_cond_true (H1.at_.val (t := 29) rfl) (wp_skip ?_))
 refine wp_seq (wp_block ?_)
 refine wp_seq (H1.run_box (t := 8) (ty := 176) (cs := [.v (.int .u64 (p0.getD ((i : Int).toNat) aE).Hash), .tree (p0.getD ((i : Int).toNat) aE).IDs.length 1 (aF (p0.getD ((i : Int).toNat) aE).IDs)]) (tm' := [(0, vl 2 bn p0), (6, .c (.t (.v (.map (some b))))), (7, af (i : Int)), (26, vl 2 bn p0), (27, af (p0.length : Int)), (28, af (i : Int))]) (AW.rg ae [(7, af (i : Int)), (8, pX 4 2)] [4] [(4, .box 176 [aw (p0.getD ((i : Int).toNat) aE).Hash, cl 1 aF (p0.getD ((i : Int).toNat) aE).IDs])] 7 [hn, hq g1 g2] ⟨rfl, ai [(0, 4)]⟩) rfl fun a2 w2 H2 => ?_)
 have e0 : (((p0.getD ((i : Int).toNat) aE).IDs.length : Int) == 0) = false := by
  rw [beq_eq_false_iff_ne]
  intro e
  exact hne (List.length_eq_zero_iff.1 (by omega))
 refine wp_seq (wp_seq (wp_mono (Q := fun e a' w' => e = .normal ∧ Ax Tryz.prog 89 3 bR b w.heap.size w [(8, .c (.t (.eptr 2 (fun j => List.getD [.v (.int .u64 (p0.getD ((i : Int).toNat) aE).Hash), .tree (p0.getD ((i : Int).toNat) aE).IDs.length 1 (aF (p0.getD ((i : Int).toNat) aE).IDs)] j (.v undef)) 0))), (0, vl 2 bn p0), (6, .c (.t (.v (.map (some b))))), (7, af (i : Int)), (26, vl 2 bn p0), (27, af (p0.length : Int)), (28, af (i : Int)), (51, vb false)] (cm (p0.take i)) D a' w') ?_ ?_))
 ·by_cases hi0 : i = 0
  ·have e1 : decide ((i : Int) > 0) = false := by simp; omega
   exact H2.run (tm' := [(8, .c (.t (.eptr 2 (fun j => List.getD [.v (.int .u64 (p0.getD ((i : Int).toNat) aE).Hash), .tree (p0.getD ((i : Int).toNat) aE).IDs.length 1 (aF (p0.getD ((i : Int).toNat) aE).IDs)] j (.v undef)) 0))), (0, vl 2 bn p0), (6, .c (.t (.v (.map (some b))))), (7, af (i : Int)), (26, vl 2 bn p0), (27, af (p0.length : Int)), (28, af (i : Int)), (51, vb false)]) (Fu ae eC [] [(51, vb false)] [] 20 [hn, hn, hn, hf e0, hn, hn, hf e1] ⟨rfl, ai []⟩) rfl fun a' w' h => ⟨rfl, h⟩
  ·have e1 : decide ((i : Int) > 0) = true := by simp; omega
   have hw : i64.wrap ((i : Int) - 1) = ((i - 1 : Nat) : Int) := by rw [ip (by omega) (by omega)]; omega
   have e2 : (0 : Int) ≤ i64.wrap ((i : Int) - 1) := by omega
   have e3 : i64.wrap ((i : Int) - 1) < (p0.length : Int) := by omega
   have e4 : decide ((p0.getD (i64.wrap ((i : Int) - 1)).toNat aE).Hash ≥ (p0.getD ((i : Int).toNat) aE).Hash) = false := by
    have := hg.asc (i - 1) (by omega)
    rw [show i - 1 + 1 = i by omega] at this
    rw [hw, FM, hit]
    simp
    exact this
   exact H2.run (tm' := [(8, .c (.t (.eptr 2 (fun j => List.getD [.v (.int .u64 (p0.getD ((i : Int).toNat) aE).Hash), .tree (p0.getD ((i : Int).toNat) aE).IDs.length 1 (aF (p0.getD ((i : Int).toNat) aE).IDs)] j (.v undef)) 0))), (0, vl 2 bn p0), (6, .c (.t (.v (.map (some b))))), (7, af (i : Int)), (26, vl 2 bn p0), (27, af (p0.length : Int)), (28, af (i : Int)), (51, vb false)]) (Fu ae eC [] [(51, vb false)] [] 20 [hn, hn, hn, hf e0, hn, hn, ht e1, hn, hn, hn, hn, hq e2 e3, hn, hn, hn, hn, hf e4] ⟨rfl, ai []⟩) rfl fun a' w' h => ⟨rfl, h⟩
 rintro e a3 w3 ⟨rfl, H3⟩
 refine wp_cond_false (H3.at_.val (t := 51) rfl) (wp_skip ?_)
 refine wp_seq (H3.run (tm' := [(8, .c (.t (.eptr 2 (fun j => List.getD [.v (.int .u64 (p0.getD ((i : Int).toNat) aE).Hash), .tree (p0.getD ((i : Int).toNat) aE).IDs.length 1 (aF (p0.getD ((i : Int).toNat) aE).IDs)] j (.v undef)) 0))), (0, vl 2 bn p0), (6, .c (.t (.v (.map (some b))))), (7, af (i : Int)), (26, vl 2 bn p0), (27, af (p0.length : Int)), (28, af (i : Int)), (53, vl 1 aF (p0.getD ((i : Int).toNat) aE).IDs), (54, af ((p0.getD ((i : Int).toNat) aE).IDs.length : Int)), (55, af 0)]) (aS ae [(53, vl 1 aF (p0.getD ((i : Int).toNat) aE).IDs), (54, af ((p0.getD ((i : Int).toNat) aE).IDs.length : Int)), (55, af 0)] 5 ⟨rfl, ai []⟩) rfl fun a4 w4 H4 => ?_)
 refine wp_block (mR (p0.getD ((i : Int).toNat) aE).IDs.length (fun j a w' => ∃ D, eV D (allI (p0.take i) ++ (p0.getD ((i : Int).toNat) aE).IDs.take j) ∧ Ax Tryz.prog 89 3 bR b w.heap.size w [(8, .c (.t (.eptr 2 (fun j => List.getD [.v (.int .u64 (p0.getD ((i : Int).toNat) aE).Hash), .tree (p0.getD ((i : Int).toNat) aE).IDs.length 1 (aF (p0.getD ((i : Int).toNat) aE).IDs)] j (.v undef)) 0))), (0, vl 2 bn p0), (6, .c (.t (.v (.map (some b))))), (7, af (i : Int)), (26, vl 2 bn p0), (27, af (p0.length : Int)), (28, af (i : Int)), (53, vl 1 aF (p0.getD ((i : Int).toNat) aE).IDs), (54, af ((p0.getD ((i : Int).toNat) aE).IDs.length : Int)), (55, af (j : Int))] (cm (p0.take i) + j) D a w') ⟨D, by simpa using hU, H4⟩ (fun j hj a w' ⟨D, hU, H⟩ => ?_) fun a w' ⟨D, hU, H⟩ => ?_)
 rotate_left
 ·have hd : decide ((((p0.getD ((i : Int).toNat) aE).IDs.length : Nat) : Int) < ((p0.getD ((i : Int).toNat) aE).IDs.length : Int)) = false := by simp
  refine wp_seq (H.run (tm' := [(0, vl 2 bn p0), (6, .c (.t (.v (.map (some b))))), (26, vl 2 bn p0), (27, af (p0.length : Int)), (28, af (i : Int))] ++ [(56, vb false)]) (au ae [(56, vb false)] 2 [hf hd] ⟨rfl, ai []⟩) rfl fun a1 w1 H1 => ?_)
  refine wp_seq (wp_cond_false (H1.at_.val (t := 56) rfl) (wp_exit ⟨(by intro e; cases e), ?_⟩))
  show Code.wp _ _ _ _ _
  refine H1.run (tm' := [(0, vl 2 bn p0), (6, .c (.t (.v (.map (some b))))), (26, vl 2 bn p0), (27, af (p0.length : Int)), (28, af (i64.wrap ((i : Int) + 1)))]) (aS ae [(28, af (i64.wrap ((i : Int) + 1)))] 3 ⟨rfl, ai []⟩) rfl fun a3 w3 H3 => ⟨rfl, D, ?_, ?_⟩
  ·rw [PF] at hU
   have : allI (p0.take (i + 1)) = allI (p0.take i) ++ (p0.getD ((i : Int).toNat) aE).IDs := by
    unfold allI
    rw [Gp, PH, hit, FI, FJ hi]
    simp
   rw [this]
   exact hU
  ·rw [ip (by omega) (by omega)] at H3
   rw [show cm (p0.take (i + 1)) = cm (p0.take i) + (p0.getD ((i : Int).toNat) aE).IDs.length from htt]
   exact H3
 have hd : decide ((j : Int) < ((p0.getD ((i : Int).toNat) aE).IDs.length : Int)) = true := Pw (by omega)
 have q1 : (0 : Int) ≤ (j : Int) := by omega
 have q2 : (j : Int) < ((p0.getD ((i : Int).toNat) aE).IDs.length : Int) := by omega
 have hjt : ((j : Int)).toNat = j := FM j
 have hmem : ((p0.getD ((i : Int).toNat) aE).IDs.getD ((j : Int).toNat) 0) ∈ (p0.getD ((i : Int).toNat) aE).IDs := by
  rw [hjt]
  exact BM hj
 have hall : ∀ x ∈ (p0.getD ((i : Int).toNat) aE).IDs, x ∈ allI p0 := fun x hx => by
  unfold allI
  rw [PC]
  refine ⟨(p0.getD ((i : Int).toNat) aE), ?_, hx⟩
  rw [hit, FI, FJ hi]
  exact Gh _
 have hr := hg.rng _ (hall _ hmem)
 have hnew : ¬ ((p0.getD ((i : Int).toNat) aE).IDs.getD ((j : Int).toNat) 0) ∈ allI (p0.take i) ++ (p0.getD ((i : Int).toNat) aE).IDs.take j := by
  have hn := hg.nod
  have e : allI p0 = (allI (p0.take i) ++ (p0.getD ((i : Int).toNat) aE).IDs.take j) ++ ((p0.getD ((i : Int).toNat) aE).IDs.drop j ++ allI (p0.drop (i + 1))) := by
   have : p0 = p0.take i ++ (p0.getD ((i : Int).toNat) aE) :: p0.drop (i + 1) := by
    rw [hit, FI, FJ hi]
    simp
   conv => lhs; rw [this]
   unfold allI
   rw [PH, List.flatMap_cons, F7, ← F7 (List.take j _), Ge]
  rw [e, List.nodup_append] at hn
  intro h
  refine hn.2.2 _ h _ ?_ rfl
  rw [F2]
  left
  rw [hjt]
  exact Bl hj
 refine wp_seq (H.run (tm' := [(8, .c (.t (.eptr 2 (fun j => List.getD [.v (.int .u64 (p0.getD ((i : Int).toNat) aE).Hash), .tree (p0.getD ((i : Int).toNat) aE).IDs.length 1 (aF (p0.getD ((i : Int).toNat) aE).IDs)] j (.v undef)) 0))), (0, vl 2 bn p0), (6, .c (.t (.v (.map (some b))))), (7, af (i : Int)), (26, vl 2 bn p0), (27, af (p0.length : Int)), (28, af (i : Int)), (53, vl 1 aF (p0.getD ((i : Int).toNat) aE).IDs), (54, af ((p0.getD ((i : Int).toNat) aE).IDs.length : Int)), (55, af (j : Int))] ++ [(56, vb true)]) (au ae [(56, vb true)] 2 [ht hd] ⟨rfl, ai []⟩) rfl fun a1 w1 H1 => ?_)
 refine wp_seq (wp_cond_true (H1.at_.val (t := 56) rfl) (wp_skip ?_))
 refine wp_seq (wp_block ?_)
 refine wp_seq (H1.run (tm' := [(8, .c (.t (.eptr 2 (fun j => List.getD [.v (.int .u64 (p0.getD ((i : Int).toNat) aE).Hash), .tree (p0.getD ((i : Int).toNat) aE).IDs.length 1 (aF (p0.getD ((i : Int).toNat) aE).IDs)] j (.v undef)) 0))), (0, vl 2 bn p0), (6, .c (.t (.v (.map (some b))))), (7, af (i : Int)), (26, vl 2 bn p0), (27, af (p0.length : Int)), (28, af (i : Int)), (53, vl 1 aF (p0.getD ((i : Int).toNat) aE).IDs), (54, af ((p0.getD ((i : Int).toNat) aE).IDs.length : Int)), (55, af (j : Int))] ++ [(9, af (j : Int)), (10, af ((p0.getD ((i : Int).toNat) aE).IDs.getD ((j : Int).toNat) 0))]) (au ae [(9, af (j : Int)), (10, af ((p0.getD ((i : Int).toNat) aE).IDs.getD ((j : Int).toNat) 0))] 6 [hn, hq q1 q2] ⟨rfl, ai []⟩) rfl fun a2 w2 H2 => ?_)
 have u1 : decide (((p0.getD ((i : Int).toNat) aE).IDs.getD ((j : Int).toNat) 0) < 1) = false := Pv (by omega)
 have u2 : decide (((p0.getD ((i : Int).toNat) aE).IDs.getD ((j : Int).toNat) 0) > 1048576) = false := Pv (by omega)
 have hwf : (Lit.int .i64 ((p0.getD ((i : Int).toNat) aE).IDs.getD ((j : Int).toNat) 0)).wf = true := by
  rw [← show wrap64 ((p0.getD ((i : Int).toNat) aE).IDs.getD ((j : Int).toNat) 0) = ((p0.getD ((i : Int).toNat) aE).IDs.getD ((j : Int).toNat) 0) by unfold wrap64; omega]
  exact wrap64_wf _
 generalize hid : ((p0.getD ((i : Int).toNat) aE).IDs.getD ((j : Int).toNat) 0) = x at H2 hr hnew u1 u2 hwf
 refine wp_seq (wp_seq ?_)
 refine H2.cut ae 9 16 (tm' := [(8, .c (.t (.eptr 2 (fun j => List.getD [.v (.int .u64 (p0.getD ((i : Int).toNat) aE).Hash), .tree (p0.getD ((i : Int).toNat) aE).IDs.length 1 (aF (p0.getD ((i : Int).toNat) aE).IDs)] j (.v undef)) 0))), (0, vl 2 bn p0), (6, .c (.t (.v (.map (some b))))), (7, af (i : Int)), (26, vl 2 bn p0), (27, af (p0.length : Int)), (28, af (i : Int)), (53, vl 1 aF (p0.getD ((i : Int).toNat) aE).IDs), (54, af ((p0.getD ((i : Int).toNat) aE).IDs.length : Int)), (55, af (j : Int))] ++ [(9, af (j : Int)), (10, af x), (66, vb false), (67, .c (.t (.v (.map (some b))))), (68, af x)]) [hn, hf u1, hn, hn, hf u2] (by kernel_rfl) rfl fun a3 w3 H3 => ?_
 rw [show List.range' 9 16 = 9 :: List.range' 10 15 from rfl, wpOps_cons]
 have hlk : (Instr.lookup 234 (.map (some b)) (.int .i64 x) false).run Tryz.prog w3 = .ok (.bool false) w3 := by
  obtain ⟨v, ps, r1, r2⟩ := H3.own.lookup (Maps.int_keyed Tryz.underlying3) Tryz.underlying234 (z := .bool false) (Tryz.zeroValue4 _) (zd := .lit (.int .i64 0)) (zp := []) rfl (Maps.keyOf_int_mk Tryz.underlying3 hwf)
  rw [hU x, if_neg hnew] at r2
  rw [Cg r2] at r1
  exact r1
 have v66 := H3.at_.get (t := 66) rfl (by decide)
 have v67 : a3.eval (.tmp 67) = .map (some b) := H3.at_.val (t := 67) rfl
 have v68 : a3.eval (.tmp 68) = .int .i64 x := H3.at_.val (t := 68) rfl
 refine AU (o := _) rfl (v := .bool false) (w' := w3) (by simp [Region.wanted, yielded, v66]) (by simp [execOp, v67, v68, hlk]) ?_
 have H4 := H3.put 69 (by decide) (v := .bool false) rfl
 show wpOps _ _ _ (List.range' 10 15) _ _
 refine H4.restE ae 10 15 ([(8, .c (.t (.eptr 2 (fun j => List.getD [.v (.int .u64 (p0.getD ((i : Int).toNat) aE).Hash), .tree (p0.getD ((i : Int).toNat) aE).IDs.length 1 (aF (p0.getD ((i : Int).toNat) aE).IDs)] j (.v undef)) 0))), (0, vl 2 bn p0), (6, .c (.t (.v (.map (some b))))), (7, af (i : Int)), (26, vl 2 bn p0), (27, af (p0.length : Int)), (28, af (i : Int)), (53, vl 1 aF (p0.getD ((i : Int).toNat) aE).IDs), (54, af ((p0.getD ((i : Int).toNat) aE).IDs.length : Int)), (55, af (j : Int))] ++ [(9, af (j : Int)), (10, af x), (84, vb false)]) ?_ rfl fun a5 w5 H5 => ?_
 ·by_cases hj0 : j = 0
  ·have e1 : decide ((j : Int) > 0) = false := Pv (by omega)
   exact ⟨[hn, hn, hn, hf e1], by kernel_rfl⟩
  ·have e1 : decide ((j : Int) > 0) = true := Pw (by omega)
   have hw : i64.wrap ((j : Int) - 1) = ((j - 1 : Nat) : Int) := by rw [ip (by omega) (by omega)]; omega
   have e2 : (0 : Int) ≤ i64.wrap ((j : Int) - 1) := by omega
   have e3 : i64.wrap ((j : Int) - 1) < ((p0.getD ((i : Int).toNat) aE).IDs.length : Int) := by omega
   have e4 : decide ((p0.getD ((i : Int).toNat) aE).IDs.getD (i64.wrap ((j : Int) - 1)).toNat 0 ≥ x) = false := by
    have := hg.ida i hi (j - 1) (by rw [← hit]; omega)
    rw [show j - 1 + 1 = j by omega, ← hit, ← hjt, hid] at this
    rw [hw, show ((j - 1 : Nat) : Int).toNat = j - 1 from FM _]
    rw [hjt] at this
    exact Pv (by omega)
   exact ⟨[hn, hn, hn, ht e1, hn, hn, hn, hn, hn, hq e2 e3, hn, hn, hf e4], by kernel_rfl⟩
 refine wp_cond_false (H5.at_.val (t := 84) rfl) (wp_skip ?_)
 refine H5.cut ae 2 1 (tm' := [(8, .c (.t (.eptr 2 (fun j => List.getD [.v (.int .u64 (p0.getD ((i : Int).toNat) aE).Hash), .tree (p0.getD ((i : Int).toNat) aE).IDs.length 1 (aF (p0.getD ((i : Int).toNat) aE).IDs)] j (.v undef)) 0))), (0, vl 2 bn p0), (6, .c (.t (.v (.map (some b))))), (7, af (i : Int)), (26, vl 2 bn p0), (27, af (p0.length : Int)), (28, af (i : Int)), (53, vl 1 aF (p0.getD ((i : Int).toNat) aE).IDs), (54, af ((p0.getD ((i : Int).toNat) aE).IDs.length : Int)), (55, af (j : Int))] ++ [(85, .c (.t (.v (.map (some b))))), (86, af x)]) [] (by kernel_rfl) rfl fun a6 w6 H6 => ?_
 have v85 : a6.eval (.tmp 85) = .map (some b) := H6.at_.val (t := 85) rfl
 have v86 : a6.eval (.tmp 86) = .int .i64 x := H6.at_.val (t := 86) rfl
 obtain ⟨w7, hrun, hown, hgr⟩ := H6.own.update (Maps.int_keyed Tryz.underlying3) Tryz.underlying234 (by unfold maxLen; omega) (Maps.keyOf_int_mk Tryz.underlying3 hwf) (val := .bool true) (d := .lit (.int .i64 1)) (ps := []) rfl
 rw [show List.range' 2 1 = [2] from rfl, wpOps_cons]
 refine vJ (o := _) rfl rfl (w' := w7) (by simp [execOp, v85, v86, show a6.eval (.const (.bool true)) = .bool true from rfl, hrun, Result.andThen]) ?_
 have H7 := H6.upd hown hgr (d := none) rfl undef
 show Code.wp _ _ _ _ _
 refine H7.run (tm' := [(8, .c (.t (.eptr 2 (fun j => List.getD [.v (.int .u64 (p0.getD ((i : Int).toNat) aE).Hash), .tree (p0.getD ((i : Int).toNat) aE).IDs.length 1 (aF (p0.getD ((i : Int).toNat) aE).IDs)] j (.v undef)) 0))), (0, vl 2 bn p0), (6, .c (.t (.v (.map (some b))))), (7, af (i : Int)), (26, vl 2 bn p0), (27, af (p0.length : Int)), (28, af (i : Int)), (53, vl 1 aF (p0.getD ((i : Int).toNat) aE).IDs), (54, af ((p0.getD ((i : Int).toNat) aE).IDs.length : Int)), (55, af (i64.wrap ((j : Int) + 1)))]) (aS ae [(55, af (i64.wrap ((j : Int) + 1)))] 3 ⟨rfl, ai []⟩) rfl fun a8 w8 H8 => ⟨rfl, D.put (.int .i64 x) (.lit (.int .i64 1)), ?_, ?_⟩
 ·have := eV.put hU H.own.isMap x
  rw [F7] at this
  have e : (p0.getD ((i : Int).toNat) aE).IDs.take (j + 1) = (p0.getD ((i : Int).toNat) aE).IDs.take j ++ [x] := by
   rw [← hid, hjt]
   exact Cr hj
  rw [e]
  exact this
 ·rw [ip (by omega) (by omega)] at H8
  exact H8
open Classical in
noncomputable def me (p0 : List aH) : Option Int := if xc p0 then some 0 else none
theorem ue (p0 : List aH) (r : Int) (h : me p0 = some r) : CT 108 [vl 2 bn p0] [] (af r) [] := by
 unfold me at h
 split at h
 ·rename_i hg
  obtain rfl := am h
  refine lV (n := 0) ⟨_, Tryz.func108, by kernel_rfl, rfl⟩ fun w ok vs' hok ha => ?_
  obtain ⟨l⟩ := vs'
  rcases l with _ | ⟨v0, _ | ⟨v1, l⟩⟩
  ·exact ha.elim
  ·refine callsIn_wide.2 (Calls.mono (BN p0 hg w ok v0 hok ha.1) ?_)
   rintro e w' ⟨rfl, hB⟩
   exact ⟨_, rfl, hB, fun _ _ => ⟨rfl, rfl⟩⟩
  ·exact ha.2.elim
 ·cases h
end
noncomputable def tD (p0 : List Int) (x2 : Int) : Option (Int ⊕ (Unit ⊕ Int)) := if (decide (x2 < (p0.length : Int))) then (if 0 ≤ x2 then (if x2 < (p0.length : Int) then (if ((p0.getD x2.toNat 0) != 0) then (some (.inr (.inr (p0.getD x2.toNat 0)))) else (some (.inl (i64.wrap (x2 + 1))))) else none) else none) else (some (.inr (.inl ())))
noncomputable def oJ : Option Int := some 0
noncomputable def tE (x8 : Int) : Option Int := some x8
noncomputable def pi (p0 : List Int) : Option Int := ca (loop (fun v : Int => tD p0 v) 0) (fun t => oJ) (fun t => tE t)
theorem xV (p0 : List Int) (r : Int) (h : pi p0 = some r) : CT 107 [vl 1 aF p0] [] (af r) [] := by
 refine an ae 0 Tryz.func107 rfl (fun _ _ _ => ?_)
 unfold pi at h
 refine ah ae [] 1 ?_
 refine ah ae [(3, af 0)] 2 (seq ?_)
 refine ah ae [(8, af 0), (7, af (p0.length : Int)), (6, vl 1 aF p0)] 5 (block ?_)
 refine FA h (fun v => ⟨[(3, af 0), (6, vl 1 aF p0), (7, af (p0.length : Int)), (8, af v)], [], 0⟩) (fun t => (.exit 0, ⟨[(3, af 0)], [], 0⟩)) (fun t => (.ret, ⟨[(2, af t)], [], 0⟩)) (ai []) (fun _ => tv) (fun _ => tv) ?_ (fun t h => ?_) (fun x8 h => ?_)
 ·clear h
  intro x2 o h
  unfold tD at h
  refine ah ae [(9, vb (decide (x2 < (p0.length : Int))))] 1 (seq ?_)
  refine Fw h (fun c4 h => ?_) (fun c4 h => ?_)
  ·refine skip (Fp ?_)
   refine seq (block ?_)
   obtain ⟨g5, g6, h⟩ := aG h
   refine ay ae [(5, af (p0.getD x2.toNat 0))] 4 [hq g5 g6] ?_
   refine ah ae [(14, vb ((p0.getD x2.toNat 0) != 0))] 7 ?_
   refine Fw h (fun c7 h => ?_) (fun c7 h => ?_)
   ·refine ah ae [(2, af (p0.getD x2.toNat 0))] 9 (ret (Fi (Fo ?_)))
    exact aU h rfl (ai [])
   ·refine skip (Fj (Fp ?_))
    refine aS ae [(8, af (i64.wrap (x2 + 1)))] 9 ?_
    exact bu h (ai [])
  ·refine exit (Fb ?_)
   exact aU h rfl (ai [])
 ·replace h : oJ = some r := h
  unfold oJ at h
  show (_ : Exit → St → Prop) (.exit 0) _
  refine E6 (Fp ?_)
  refine ah ae [(2, af 0)] 2 (ret ?_)
  apply al h (af 0)
 ·unfold tE at h
  show (_ : Exit → St → Prop) (.ret) _
  refine Fi (Fo ?_)
  apply al h (af x8)
noncomputable def ut (p0 : List (List aH)) (p1 : List (List aH)) (x4 : Int) : Option (Int ⊕ (Unit ⊕ Int)) := if (decide (x4 < (p0.length : Int))) then (if 0 ≤ x4 then (if x4 < (p0.length : Int) then ((me (p0.getD x4.toNat ([] : List aH))).bind fun y9 => (if x4 < (p1.length : Int) then ((me (p1.getD x4.toNat ([] : List aH))).bind fun y12 => ((pi ([y9, y12] : List Int)).bind fun y14 => (if (y14 != 0) then (some (.inr (.inr y14))) else (some (.inl (i64.wrap (x4 + 1))))))) else none)) else none) else none) else (some (.inr (.inl ())))
noncomputable def lE (x17 : Bool) : Option Int := if x17 then (some 2) else (some 0)
noncomputable def qa (p0 : List (List aH)) (p2 : Int) : Option Int := if (decide (p2 < 0)) then (lE true) else (if 0 ≤ (p0.length : Int) then (lE (decide (p2 ≥ (dl .i64 1 (p0.length : Int))))) else none)
noncomputable def uu (x21 : Int) : Option Int := some x21
noncomputable def lF (p0 : List (List aH)) (p1 : List (List aH)) (p2 : Int) (x1 : Bool) : Option Int := if x1 then (some 8) else (ca (loop (fun v : Int => ut p0 p1 v) 0) (fun t => qa p0 p2) (fun t => uu t))
noncomputable def IJ (p0 : List (List aH)) (p1 : List (List aH)) (p2 : Int) : Option Int := if ((p0.length : Int) != (p1.length : Int)) then (lF p0 p1 p2 true) else (lF p0 p1 p2 (decide ((p0.length : Int) > 8)))
theorem C1 (p0 : List (List aH)) (p1 : List (List aH)) (p2 : Int) (r : Int) (h : IJ p0 p1 p2 = some r) : CT 61 [vl 1 dF p0, vl 1 dF p1, af p2] [] (af r) [] := by
 refine an ae 0 Tryz.func61 rfl (fun _ _ _ => ?_)
 unfold IJ at h
 refine ah ae [] 1 (seq (seq ?_))
 refine AW.join (ι := Bool) (fun v => ⟨[(0, vl 1 dF p0), (1, vl 1 dF p1), (2, af p2), (18, vb v)], [], 0⟩) (fun v : Bool => lF p0 p1 p2 v = some r) (fun x1 h => ?_) ?_
 ·unfold lF at h
  refine Fp ?_
  refine Fw h (fun c2 h => ?_) (fun c2 h => ?_)
  ·refine ah ae [(6, af 8)] 1 (ret (Fo ?_))
   apply al h (af 8)
  ·refine skip (Fp (seq ?_))
   refine ah ae [(21, af 0), (20, af (p0.length : Int))] 3 (block ?_)
   refine FA h (fun v => ⟨[(0, vl 1 dF p0), (1, vl 1 dF p1), (2, af p2), (20, af (p0.length : Int)), (21, af v)], [], 0⟩) (fun t => (.exit 0, ⟨[(0, vl 1 dF p0), (2, af p2)], [], 0⟩)) (fun t => (.ret, ⟨[(6, af t)], [], 0⟩)) (ai []) (fun _ => tv) (fun _ => tv) ?_ (fun t h => ?_) (fun x21 h => ?_)
   ·clear h
    intro x4 o h
    unfold ut at h
    refine ah ae [(22, vb (decide (x4 < (p0.length : Int))))] 1 (seq ?_)
    refine Fw h (fun c6 h => ?_) (fun c6 h => ?_)
    ·refine skip (Fp ?_)
     refine seq (block ?_)
     refine ah ae [(7, af x4)] 3 ?_
     obtain ⟨g7, g8, h⟩ := aG h
     obtain ⟨y9, e10, h⟩ := ak h
     obtain ⟨g11, h⟩ := aN h
     obtain ⟨y12, e13, h⟩ := ak h
     obtain ⟨y14, e15, h⟩ := ak h
     refine Fv ae eC [[], [], [], [], [], [], [], [], [], [], [11]] [(8, af y14)] [] 13 [hn, hn, hq g7 g8, hn, hk (ue (p0.getD x4.toNat ([] : List aH)) y9 e10), hn, hn, hq g7 g11, hn, hk (ue (p1.getD x4.toNat ([] : List aH)) y12 e13), bh 0 db 1 (fun _ => rfl) ([y9, y12] : List Int), hg [] [] true 0 (q := (0 + ([y9, y12] : List Int).length ≤ ([y9, y12] : List Int).length) ∧ (True)) ⟨br, tv⟩ (a0 := [vl 1 aF ([y9, y12] : List Int)]) (xV ([y9, y12] : List Int) y14 e15) ⟨aR.refl _, tv⟩ (fun _ => tv)] ?_
     refine ah ae [(37, vb (y14 != 0))] 15 ?_
     refine Fw h (fun c16 h => ?_) (fun c16 h => ?_)
     ·refine ah ae [(6, af y14)] 17 (ret (Fi (Fo ?_)))
      exact aU h rfl (ai [])
     ·refine skip (Fj (Fp ?_))
      refine aS ae [(21, af (i64.wrap (x4 + 1)))] 17 ?_
      exact bu h (ai [])
    ·refine exit (Fb ?_)
     exact aU h rfl (ai [])
   ·replace h : qa p0 p2 = some r := h
    unfold qa at h
    show (_ : Exit → St → Prop) (.exit 0) _
    refine E6 (Fp ?_)
    refine seq (seq ?_)
    refine AW.join (ι := Bool) (fun v => ⟨[(48, vb v)], [], 0⟩) (fun v : Bool => lE v = some r) (fun x17 h => ?_) ?_
    ·unfold lE at h
     refine Fp ?_
     refine Fw h (fun c18 h => ?_) (fun c18 h => ?_)
     ·refine ah ae [(6, af 2)] 1 (ret (Fo ?_))
      apply al h (af 2)
     ·refine skip (Fp ?_)
      refine ah ae [(6, af 0)] 1 (ret ?_)
      apply al h (af 0)
    ·rcases aD h with ⟨c19, h⟩ | ⟨c19, h⟩
     ·refine au ae [(48, vb true)] 9 [hn, ht c19] ?_
      exact jl true h
     ·obtain ⟨g20, h⟩ := aN h
      refine au ae [(48, vb (decide (p2 ≥ (dl .i64 1 (p0.length : Int)))))] 9 [hn, hf c19, hn, hn, hn, hn, ho g20] ?_
      exact jl (decide (p2 ≥ (dl .i64 1 (p0.length : Int)))) h (ai [])
   ·unfold uu at h
    show (_ : Exit → St → Prop) (.ret) _
    refine Fi (Fo ?_)
    apply al h (af x21)
 ·rcases aD h with ⟨c23, h⟩ | ⟨c23, h⟩
  ·refine au ae [(18, vb true)] 11 [hn, hn, hn, hn, ht c23] ?_
   exact jl true h
  ·refine au ae [(18, vb (decide ((p0.length : Int) > 8)))] 11 [hn, hn, hn, hn, hf c23] ?_
   exact jl (decide ((p0.length : Int) > 8)) h (ai [])
structure kk where
 A : Int
 B : Int
def G6 : kk := ⟨0, 0⟩
instance : Inhabited kk := ⟨G6⟩
def Kb (x : kk) : List T := [.v (.int .i64 x.A), .v (.int .i64 x.B)]
def HE (xs : List kk) : Nat → Nat → T := be G6 Kb xs
section
open Go.RowKit Go.Maps
theorem OJ : laidOutB Tryz.prog = true := by kernel_rfl
theorem Jp : WideMaps.KeyLaw Tryz.prog 55 := deep_law_laid OJ (m := 2) (by omega) (of_decide_eq_true (by kernel_rfl)) (by kernel_rfl) (by rw [Tryz.underlying55])
theorem IQ : Keyed Tryz.prog 55 := Keyed.of_law Jp
def GE (s t : Int) : Value := .agg #[.int .i64 s, .int .i64 t]
def Wf (x : Int) : Prop := (Lit.int .i64 x).wf = true
theorem KM {x : Int} (h0 : -9223372036854775808 ≤ x) (h1 : x < 9223372036854775808) : Wf x := by
 unfold Wf
 rw [← show wrap64 x = x by unfold wrap64; omega]
 exact wrap64_wf _
theorem Oa {s t : Int} (hs : Wf s) (ht : Wf t) : ∃ l, keyOf Tryz.prog 55 (GE s t) = some l := by
 obtain ⟨m, hm⟩ : ∃ m, Tryz.prog.types.size = m + 1 := ⟨Tryz.prog.types.size - 1, by kernel_rfl⟩
 have c3 : Tryz.prog.cellsOf 3 = 1 := by kernel_rfl
 have c55 : Tryz.prog.cellsOf 55 = 2 := by kernel_rfl
 have h3 : ∀ x, Wf x → Tryz.prog.keyLits (m + 1) 3 [.int .i64 x] = some [.int .i64 x] := fun x hx => by
  unfold Program.keyLits
  simp only [Tryz.underlying3]
  rw [if_pos ⟨tv, hx⟩]
 have hl : Tryz.prog.keyLits (Tryz.prog.types.size + 1) 55 (GE s t).cells.toList = some [.int .i64 s, .int .i64 t] := by
  rw [hm]
  unfold Program.keyLits
  simp only [Tryz.underlying55]
  rw [if_pos (by simp [c55, Value.cells, GE])]
  simp [c3, Value.cells, GE, h3 s hs, h3 t ht]
 have e1 : Tryz.prog.keyType 55 = true := by kernel_rfl
 have e2 : (GE s t).formed Tryz.prog 55 = true := by
  simp [Value.formed, GE, Tryz.underlying55, c55]
 unfold keyOf
 rw [Tryz.underlying55]
 show ∃ l, (if (Tryz.prog.keyType 55 && (GE s t).formed Tryz.prog 55) = true then _ else none) = some l
 rw [e1, e2, hl]
 exact ⟨_, rfl⟩
noncomputable def kl (s t : Int) : Lit := (keyOf Tryz.prog 55 (GE s t)).getD (.bool false)
theorem Is {s t : Int} (hs : Wf s) (ht : Wf t) : keyOf Tryz.prog 55 (GE s t) = some (kl s t) := by
 obtain ⟨l, h⟩ := Oa hs ht
 unfold kl
 rw [h]
 rfl
theorem Mh {s t s' t' : Int} (hs : Wf s) (ht : Wf t) (hs' : Wf s') (ht' : Wf t') (h : kl s t = kl s' t') : s = s' ∧ t = t' := by
 have h1 := Is hs ht
 rw [h] at h1
 have h2 := IQ.inj h1 (Is hs' ht')
 unfold GE at h2
 injection h2 with h2
 have h3 := congrArg Array.toList h2
 simp at h3
 exact h3
end
instance : DecidableEq kk := fun x y => decidable_of_iff (x.A = y.A ∧ x.B = y.B) (by cases x; cases y; simp)
def GU (x y : kk) : Bool := decide (x.A < y.A) || (decide (x.A = y.A) && decide (x.B < y.B))
def Hh (x : kk) : List kk → List kk
 | [] => [x]
 | y :: l => if GU x y = true then x :: y :: l else if GU y x = true then y :: Hh x l else y :: l
def HR (l : List kk) : List kk := l.foldr Hh []
theorem Kw {x y : kk} (h1 : ¬ GU x y = true) (h2 : ¬ GU y x = true) : x = y := by
 cases x; cases y
 simp only [GU, Bool.or_eq_true, FY, Pu] at h1 h2
 simp only [kk.mk.injEq]
 omega
theorem JD {x y z : kk} (h1 : GU x y = true) (h2 : GU y z = true) : GU x z = true := by
 simp only [GU, Bool.or_eq_true, FY, Pu] at h1 h2 ⊢
 omega
theorem Jq {x : kk} : ¬ GU x x = true := by
 simp only [GU, Bool.or_eq_true, FY, Pu]
 omega
theorem Kp {x z : kk} : ∀ {l : List kk}, z ∈ Hh x l ↔ z = x ∨ z ∈ l
 | [] => by simp [Hh]
 | y :: l => by
  unfold Hh
  split
  ·simp
  ·split
   ·rw [F1, Kp, F1]
    constructor
    ·rintro (h | h | h) <;> simp [h]
    ·rintro (h | h | h) <;> simp [h]
   ·rename_i h1 h2
    obtain rfl := Kw h1 h2
    simp
theorem Km {z : kk} : ∀ {l : List kk}, z ∈ HR l ↔ z ∈ l
 | [] => by simp [HR]
 | y :: l => by
  show z ∈ Hh y (HR l) ↔ _
  rw [Kp, Km, F1]
def I6 (l : List kk) : Prop := l.Pairwise fun x y => GU x y = true
theorem LF {x : kk} : ∀ {l : List kk}, I6 l → I6 (Hh x l)
 | [], _ => by simp [Hh, I6]
 | y :: l, h => by
  have h' := Py.1 h
  unfold Hh
  split
  ·rename_i h1
   exact Py.2 ⟨fun z hz => by
    rcases F1.1 hz with rfl | hz
    ·exact h1
    ·exact JD h1 (h'.1 z hz), h⟩
  ·split
   ·rename_i h2
    exact Py.2 ⟨fun z hz => by
     rcases Kp.1 hz with rfl | hz
     ·exact h2
     ·exact h'.1 z hz, LF h'.2⟩
   ·exact h
theorem Ll : ∀ l : List kk, I6 (HR l)
 | [] => List.Pairwise.nil
 | y :: l => LF (Ll l)
theorem LY : ∀ {l k : List kk}, I6 l → I6 k → (∀ z, z ∈ l ↔ z ∈ k) → l = k
 | [], [], _, _, _ => rfl
 | [], y :: k, _, _, h => absurd ((h y).2 FZ) (by simp)
 | x :: l, [], _, _, h => absurd ((h x).1 FZ) (by simp)
 | x :: l, y :: k, hl, hk, h => by
  have hl' := Py.1 hl
  have hk' := Py.1 hk
  have e : x = y := by
   rcases F1.1 ((h x).1 FZ) with e | hx
   ·exact e
   ·rcases F1.1 ((h y).2 FZ) with e | hy
    ·exact e.symm
    ·exact absurd (JD (hk'.1 x hx) (hl'.1 y hy)) Jq
  subst e
  rw [LY hl'.2 hk'.2 fun z => ?_]
  constructor
  ·intro hz
   rcases F1.1 ((h z).1 (F0 _ hz)) with rfl | h'
   ·exact absurd (hl'.1 z hz) Jq
   ·exact h'
  ·intro hz
   rcases F1.1 ((h z).2 (F0 _ hz)) with rfl | h'
   ·exact absurd (hk'.1 z hz) Jq
   ·exact h'
def Ie (i : Nat) (x y : aH) : List (Nat × kk) := x.IDs.flatMap fun s => y.IDs.map fun t => (i, ⟨s, t⟩)
def Iy (i : Nat) (x : aH) (ys : List aH) : List (Nat × kk) := ys.flatMap fun y => if x.Hash = y.Hash then Ie i x y else []
def Ju (i : Nat) (xs ys : List aH) : List (Nat × kk) := xs.flatMap fun x => Iy i x ys
def GF (a b : List (List aH)) (n : Nat) : List (Nat × kk) := (List.range n).flatMap fun i => Ju i (a.getD i []) (b.getD i [])
def Gs (V : List (Nat × kk)) (c : kk) : Nat := V.foldl (fun m e => if e.2 = c then m ||| 2 ^ e.1 else m) 0
theorem LZ (V : List (Nat × kk)) (e : Nat × kk) (c : kk) : Gs (V ++ [e]) c = if e.2 = c then Gs V c ||| 2 ^ e.1 else Gs V c := by
 unfold Gs
 rw [PG]
 rfl
theorem K2 (c : kk) (q : Nat) : ∀ (V : List (Nat × kk)) (m : Nat), (V.foldl (fun m e => if e.2 = c then m ||| 2 ^ e.1 else m) m).testBit q = (m.testBit q || decide ((q, c) ∈ V))
 | [], m => by simp
 | (i, d) :: V, m => by
  rw [Gq, K2 c q V]
  by_cases e : d = c
  ·subst e
   rw [if_pos rfl, Nat.testBit_or, Nat.testBit_two_pow]
   by_cases h : i = q
   ·subst h; simp
   ·have : ¬ q = i := fun e => h e.symm
    simp [h, this]
  ·rw [if_neg e]
   have : ¬ c = d := fun h => e h.symm
   simp [this]
theorem L0 (V : List (Nat × kk)) (c : kk) (q : Nat) : (Gs V c).testBit q = decide ((q, c) ∈ V) := by
 unfold Gs
 rw [K2]
 simp
theorem Mi {V : List (Nat × kk)} {n : Nat} (h : ∀ e ∈ V, e.1 < n) (c : kk) : Gs V c < 2 ^ n := by
 refine Nat.lt_pow_two_of_testBit _ fun q hq => ?_
 rw [L0, Pv]
 intro hm
 have := h _ hm
 simp only at this
 omega
section
open Go.RowKit Go.Maps Go.MapKept Go.WideElems Go.ChangeMaps
open Go.WideMaps (KeyLaw)
theorem MU {P : Program} {w : World} {t k e : TypeId} {R : Value → Option (DataW Unit × List MemPlace)} {b : Nat} {es : Array MapEntry} {clock : Nat} (K : KeyLaw P k) (ht : P.underlying t = some (.map k e)) {z : Value} (hz : ∀ u : World, (zeroValue e).run P u = .ok z u) (hb : w.heap[b]? = some (.map es clock)) (F : Fit P k R es clock)
  {key : Value} {kl : Lit} (hkey : keyOf P k key = some kl) {v0 : Value} {st : Nat} {es1 : Array MapEntry} {clock1 : Nat} (hE : (Instr.mapEntry t (.map (some b)) key).run P w = .ok (.tuple #[v0, goInt st]) (setBlock w b (.map es1 clock1))) :
  ∃ c, ∀ W : World, (W.heap[b]? = some (.map es clock) ∨ W.heap[b]? = some (.map es1 clock1)) → (Instr.lookup t (.map (some b)) key false).run P W = .ok c W := by
 have hsb : ∀ o : Obj, (setBlock w b o).heap[b]? = some o := fun o => (heap_set hb).1
 rcases K.find w hkey es.toList F.keys with ⟨h1, h2⟩ | ⟨j, e0, h1, h2, h3⟩
 ·have hr : (Instr.mapEntry t (.map (some b)) key).run P w = .ok (.tuple #[z, goInt clock]) (setBlock w b (.map (es.push ⟨key, z, clock⟩) (clock + 1))) := by
   simp [Instr.mapEntry, run_underlying ht, MapKept.run_getObj_map hb, K.check w false hkey, h1, hz, MapKept.run_setObj_map _ hb, Result.andThen, setBlock]
  rw [hr] at hE
  injection hE with _ hE
  have hE := congrArg (fun W : World => W.heap[b]?) hE
  simp only [hsb] at hE
  injection hE with hE
  injection hE with hE _
  subst hE
  refine ⟨z, fun W hW => ?_⟩
  rcases hW with hW | hW
  ·rcases K.find W hkey es.toList F.keys with ⟨g1, g2⟩ | ⟨j, e0, g1, g2, g3⟩
   ·simp [Instr.lookup, run_underlying ht, MapKept.run_getObj_map hW, K.check W _ hkey, g1, hz, Result.andThen]
   ·exact absurd g3 (h2 e0 (F5 g2))
  ·rcases K.find W hkey (es.push ⟨key, z, clock⟩).toList (fun x hx => by
    simp only [Array.toList_push, F2, FQ] at hx
    rcases hx with hx | rfl
    ·exact F.keys x hx
    ·exact ⟨kl, hkey⟩) with ⟨g1, g2⟩ | ⟨j, e0, g1, g2, g3⟩
   ·exact absurd rfl (g2 ⟨key, z, clock⟩ (by simp))
   ·have he : e0.val = z := by
     have hm := F5 g2
     simp only [Array.toList_push, F2, FQ] at hm
     rcases hm with hm | rfl
     ·exact absurd g3 (h2 e0 hm)
     ·rfl
    simp only [Array.toList_push] at g1
    simp [Instr.lookup, run_underlying ht, MapKept.run_getObj_map hW, K.check W _ hkey, g1, he, Result.andThen]
 ·have hj : es[j]? = some e0 := by simpa using h2
  have hsame : es.modify j (fun e => { e with key := key }) = es := by
   apply Array.ext'
   rw [Array.toList_modify, modify_eq_set _ _ _ _ h2]
   have : ({ e0 with key := key } : MapEntry) = e0 := by rw [← h3]
   rw [this]
   exact set_self _ _ _ h2
  have hr : (Instr.mapEntry t (.map (some b)) key).run P w = .ok (.tuple #[e0.val, goInt e0.born]) (setBlock w b (.map es clock)) := by
   simp [Instr.mapEntry, run_underlying ht, MapKept.run_getObj_map hb, K.check w false hkey, h1, hj, h3, K.stays w hkey, hsame, MapKept.run_setObj_map _ hb, Result.andThen, setBlock]
  rw [hr] at hE
  injection hE with _ hE
  have hE := congrArg (fun W : World => W.heap[b]?) hE
  simp only [hsb] at hE
  injection hE with hE
  injection hE with hE1 hE2
  subst hE1 hE2
  refine ⟨e0.val, fun W hW => ?_⟩
  have hW : W.heap[b]? = some (.map es clock) := hW.elim id id
  rcases K.find W hkey es.toList F.keys with ⟨g1, g2⟩ | ⟨j', e', g1, g2, g3⟩
  ·exact absurd h3 (g2 e0 (F5 h2))
  ·have hu : e' = e0 := entry_eq_of_key (((stamped_iff es clock).1 F.stamped).2.2) (F5 g2) (F5 h2) (g3.trans h3.symm)
   subst hu
   simp [Instr.lookup, run_underlying ht, MapKept.run_getObj_map hW, K.check W _ hkey, g1, Result.andThen]
end
section
open Go.RowKit Go.Maps
@[reducible] def If (cs : List T) : AV := .c (.t (.eptr cs.length (fun j => cs.getD j (.v undef)) 0))
@[reducible] def Gu (v : Value) : AV := .c (.t (.v v))
@[reducible] def HU (x : aH) : List T := [.v (.int .u64 x.Hash), .tree x.IDs.length 1 (aF x.IDs)]
@[reducible] def Ja (p0 p1 : List (List aH)) (b i : Nat) : List (Nat × AV) := [(0, vl 1 dF p0), (1, vl 1 dF p1), (5, Gu (.map (some b))), (17, vl 1 dF p0), (18, af (p0.length : Int)), (19, af (i : Int))]
@[reducible] def Ig (p0 p1 : List (List aH)) (b i j : Nat) : List (Nat × AV) := (6, af (i : Int)) :: (24, vl 2 bn (p0.getD i [])) :: (25, af ((p0.getD i []).length : Int)) :: (26, af (j : Int)) :: Ja p0 p1 b i
@[reducible] def Ih (p0 p1 : List (List aH)) (b i j k : Nat) : List (Nat × AV) := (9, If (HU ((p0.getD i []).getD j aE))) :: (33, vl 2 bn (p1.getD i [])) :: (34, af ((p1.getD i []).length : Int)) :: (35, af (k : Int)) :: Ig p0 p1 b i j
@[reducible] def Iz (p0 p1 : List (List aH)) (b i j k l : Nat) : List (Nat × AV) := (11, If (HU ((p1.getD i []).getD k aE))) :: (45, vl 1 aF ((p0.getD i []).getD j aE).IDs) :: (46, af (((p0.getD i []).getD j aE).IDs.length : Int)) :: (47, af (l : Int)) :: Ih p0 p1 b i j k
@[reducible] def IA (p0 p1 : List (List aH)) (b i j k l m : Nat) : List (Nat × AV) := (13, af (((p0.getD i []).getD j aE).IDs.getD l 0)) :: (52, vl 1 aF ((p1.getD i []).getD k aE).IDs) :: (53, af (((p1.getD i []).getD k aE).IDs.length : Int)) :: (54, af (m : Int)) :: Iz p0 p1 b i j k l
def Ii (D : DataW Unit) (V : List (Nat × kk)) : Prop := ∀ c : kk, Wf c.A → Wf c.B → D.atKey (kl c.A c.B) (.lit (.int .i64 0)) = .lit (.int .i64 ((Gs V c : Nat) : Int)) ∧ Maps.has D (kl c.A c.B) = decide (∃ e ∈ V, e.2 = c)
theorem Ii.nil : Ii (DataW.map []) [] := fun c _ _ => ⟨rfl, by rw [Pv (by simp)]; rfl⟩
theorem OK {s t : Int} (h1 : Wf s) (h2 : Wf t) : WideAt.IsKeyLit (kl s t) := IQ.key (Is h1 h2)
theorem Ii.put {D : DataW Unit} {V : List (Nat × kk)} (h : Ii D V) (hm : Maps.IsMap D) {c : kk} (i : Nat) (h1 : Wf c.A) (h2 : Wf c.B) : Ii (D.put (kl c.A c.B) (.lit (.int .i64 ((Gs (V ++ [(i, c)]) c : Nat) : Int)))) (V ++ [(i, c)]) := fun d g1 g2 => by
 by_cases e : d = c
 ·subst e
  have hk := OK h1 h2
  refine ⟨Maps.atKey_put_same hm hk _ _, ?_⟩
  rw [Maps.has_put_same hm hk, Pw ⟨(i, d), by simp, rfl⟩]
 ·have hne : kl d.A d.B ≠ kl c.A c.B := fun h' => e (by
   obtain ⟨q1, q2⟩ := Mh g1 g2 h1 h2 h'
   cases d; cases c
   simp only at q1 q2
   rw [q1, q2])
  have hc : ¬ c = d := fun h' => e h'.symm
  refine ⟨?_, ?_⟩
  ·rw [Maps.atKey_put_other hne, (h d g1 g2).1, LZ, if_neg hc]
  ·rw [Maps.has_put_other hne, (h d g1 g2).2]
   refine decide_eq_decide.2 ⟨fun ⟨x, hx, hxe⟩ => ⟨x, List.mem_append_left _ hx, hxe⟩, fun ⟨x, hx, hxe⟩ => ?_⟩
   rcases F2.1 hx with hx | hx
   ·exact ⟨x, hx, hxe⟩
   ·rw [FQ.1 hx] at hxe
    exact absurd hxe hc
def vL (p0 p1 : List (List aH)) (i j k l m : Nat) : List (Nat × kk) :=
 GF p0 p1 i ++ ((p0.getD i []).take j).flatMap (fun x => Iy i x (p1.getD i [])) ++ (((p1.getD i []).take k).flatMap fun y => if ((p0.getD i []).getD j aE).Hash = y.Hash then Ie i ((p0.getD i []).getD j aE) y else []) ++
  (((p0.getD i []).getD j aE).IDs.take l).flatMap (fun s => ((p1.getD i []).getD k aE).IDs.map fun t => (i, (⟨s, t⟩ : kk))) ++ ((((p1.getD i []).getD k aE).IDs.take m).map fun t => (i, (⟨((p0.getD i []).getD j aE).IDs.getD l 0, t⟩ : kk)))
theorem JE {α β : Type} (l : List α) (f : α → List β) (d : α) {i : Nat} (h : i < l.length) : (l.take (i + 1)).flatMap f = (l.take i).flatMap f ++ f (l.getD i d) := by
 rw [Gp, FI, FJ h, PH]
 simp
theorem Ph (p0 p1 : List (List aH)) (i j k l : Nat) {m : Nat} (h : m < ((p1.getD i []).getD k aE).IDs.length) : vL p0 p1 i j k l (m + 1) = vL p0 p1 i j k l m ++ [(i, ⟨((p0.getD i []).getD j aE).IDs.getD l 0, ((p1.getD i []).getD k aE).IDs.getD m 0⟩)] := by
 unfold vL
 rw [Cr h, PI]
 simp only [F7, Gr, List.map_nil]
theorem Pi (p0 p1 : List (List aH)) (i j k : Nat) {l : Nat} (h : l < ((p0.getD i []).getD j aE).IDs.length) : vL p0 p1 i j k l ((p1.getD i []).getD k aE).IDs.length = vL p0 p1 i j k (l + 1) 0 := by
 unfold vL
 rw [JE _ _ 0 h, PF]
 simp only [F7, List.take_zero, List.map_nil, PE]
theorem Pj (p0 p1 : List (List aH)) (i j : Nat) {k : Nat} (h : k < (p1.getD i []).length) (he : ((p0.getD i []).getD j aE).Hash = ((p1.getD i []).getD k aE).Hash) : vL p0 p1 i j k ((p0.getD i []).getD j aE).IDs.length 0 = vL p0 p1 i j (k + 1) 0 0 := by
 unfold vL
 rw [JE _ _ aE h, PF, if_pos he]
 unfold Ie
 simp only [F7, List.take_zero, List.map_nil, PE, List.flatMap_nil]
theorem O7 (p0 p1 : List (List aH)) (i j : Nat) {k : Nat} (h : k < (p1.getD i []).length) (he : ¬ ((p0.getD i []).getD j aE).Hash = ((p1.getD i []).getD k aE).Hash) : vL p0 p1 i j k 0 0 = vL p0 p1 i j (k + 1) 0 0 := by
 unfold vL
 rw [JE _ _ aE h, if_neg he]
 simp only [F7, List.take_zero, List.map_nil, PE, List.flatMap_nil]
theorem Pk (p0 p1 : List (List aH)) (i : Nat) {j : Nat} (h : j < (p0.getD i []).length) : vL p0 p1 i j (p1.getD i []).length 0 0 = vL p0 p1 i (j + 1) 0 0 0 := by
 unfold vL
 rw [JE _ _ aE h, PF]
 unfold Iy
 simp only [F7, List.take_zero, List.map_nil, PE, List.flatMap_nil]
theorem MC (p0 p1 : List (List aH)) (i : Nat) : vL p0 p1 i (p0.getD i []).length 0 0 0 = vL p0 p1 (i + 1) 0 0 0 0 := by
 unfold vL
 rw [PF]
 unfold GF Ju
 rw [List.range_succ, PH]
 simp only [F7, List.take_zero, List.map_nil, PE, List.flatMap_nil, List.flatMap_cons]
theorem J3 (p0 p1 : List (List aH)) (i : Nat) : vL p0 p1 i 0 0 0 0 = GF p0 p1 i := by
 unfold vL
 simp only [List.take_zero, List.map_nil, PE, List.flatMap_nil]
structure HS (p0 p1 : List (List aH)) : Prop where
 len : p0.length = p1.length
 len8 : p0.length ≤ 8
 g0 : ∀ i, i < p0.length → xc (p0.getD i [])
 g1 : ∀ i, i < p0.length → xc (p1.getD i [])
theorem xc.len {l : List aH} (h : xc l) : l.length ≤ 64 := by
 have : ∀ l : List aH, (∀ x ∈ l, x.IDs ≠ []) → l.length ≤ cm l := fun l => by
  induction l with
  | nil => intro _; exact F9 _
  | cons x l ih =>
   intro h
   have h1 := ih fun y hy => h y (F0 _ hy)
   have h2 : x.IDs.length ≠ 0 := fun e => h x FZ (List.length_eq_zero_iff.1 e)
   unfold cm at h1 ⊢
   simp only [Gr, PK, FN]
   omega
 refine Ga (this l fun x hx => ?_) h.tot
 obtain ⟨i, hi, rfl⟩ := List.getElem_of_mem hx
 have := h.ne i hi
 rwa [FI, FJ hi] at this
theorem xc.ids {l : List aH} (h : xc l) {i : Nat} (hi : i < l.length) : (l.getD i aE).IDs.length ≤ 64 := by
 have h1 := rB hi
 have h2 := wI l (i + 1)
 have h3 := h.tot
 omega
theorem Ng {l : List aH} {i : Nat} (h : i < l.length) : l.getD i aE ∈ l := by
 rw [FI, FJ h]
 exact Gh _
theorem xc.wf {l : List aH} (h : xc l) {i k : Nat} (hi : i < l.length) (hk : k < (l.getD i aE).IDs.length) : Wf ((l.getD i aE).IDs.getD k 0) := by
 have := h.rng ((l.getD i aE).IDs.getD k 0) (by
  unfold allI
  rw [PC]
  exact ⟨_, Ng hi, BM hk⟩)
 exact KM (by omega) (by omega)
end
section
open Go.RowKit Go.Maps
def GQ (n0 : Nat) (w0 : World) (b : Nat) (V : List (Nat × kk)) (bd : Nat) (tm : List (Nat × AV)) (a : Act) (w : World) : Prop := ∃ D, Ii D V ∧ V.length ≤ bd ∧ Ax Tryz.prog 74 55 (plainElem Tryz.prog 3) b n0 w0 tm V.length D a w
theorem GQ.run {n0 : Nat} {w0 : World} {b : Nat} {V : List (Nat × kk)} {bd : Nat} {tm tm' : List (Nat × AV)} {a : Act} {w : World} (H : GQ n0 w0 b V bd tm a w) {code : Code} {x : Exit} {Q : Exit → Act → World → Prop} (h : AW (b6 Tryz.prog (· = b) w 74) ⟨tm, [], 1⟩ code fun e S' => e = x ∧ Conv (b6 Tryz.prog (· = b) w 74) S' ⟨tm', [], 1⟩) (hf : tm'.all (fun p => dp p.2) = true) (kont : ∀ a' w', GQ n0 w0 b V bd tm' a' w' → Q x a' w') : code.wp Tryz.prog Q a w := by
 obtain ⟨D, h1, h2, H⟩ := H
 exact H.run h hf fun a' w' H' => kont a' w' ⟨D, h1, h2, H'⟩
theorem GQ.run_box {n0 : Nat} {w0 : World} {b : Nat} {V : List (Nat × kk)} {bd : Nat} {tm tm' : List (Nat × AV)} {a : Act} {w : World} (H : GQ n0 w0 b V bd tm a w) {code : Code} {x : Exit} {t ty : Nat} {cs : List T} {Q : Exit → Act → World → Prop} (h : AW (b6 Tryz.prog (· = b) w 74) ⟨tm, [], 1⟩ code fun e S' => e = x ∧ Conv (b6 Tryz.prog (· = b) w 74) S' ⟨(t, .c (.ptr 0 cs.length 0 0)) :: tm', [(0, .box ty (cs.map C.t))], 1⟩) (hf : tm'.all (fun p => dp p.2) = true) (kont : ∀ a' w', GQ n0 w0 b V bd ((t, .c (.t (.eptr cs.length (fun j => cs.getD j (.v undef)) 0))) :: tm') a' w' → Q x a' w') : code.wp Tryz.prog Q a w := by
 obtain ⟨D, h1, h2, H⟩ := H
 exact H.run_box h hf fun a' w' H' => kont a' w' ⟨D, h1, h2, H'⟩
theorem GQ.val {n0 : Nat} {w0 : World} {b : Nat} {V : List (Nat × kk)} {bd : Nat} {tm : List (Nat × AV)} {a : Act} {w : World} (H : GQ n0 w0 b V bd tm a w) {t : Nat} {v : Value} (e : Vm.look tm t = some (.c (.t (.v v)))) : a.tmps.getD t undef = v := by
 obtain ⟨D, h1, h2, H⟩ := H
 exact H.at_.val e
theorem GQ.more {n0 : Nat} {w0 : World} {b : Nat} {V : List (Nat × kk)} {bd bd' : Nat} {tm : List (Nat × AV)} {a : Act} {w : World} (H : GQ n0 w0 b V bd tm a w) (h : bd ≤ bd') : GQ n0 w0 b V bd' tm a w := by
 obtain ⟨D, h1, h2, H⟩ := H
 exact ⟨D, h1, Ga h2 h, H⟩
theorem KN {p0 p1 : List (List aH)} {i j k l m : Nat} : ∀ e ∈ vL p0 p1 i j k l m, e.1 ≤ i := fun e he => by
 have h4 : ∀ (n : Nat) (x y : aH), ∀ e ∈ Ie n x y, e.1 = n := fun n x y e he => by
  unfold Ie at he
  obtain ⟨s, _, he⟩ := PC.1 he
  obtain ⟨t, _, rfl⟩ := Pz.1 he
  rfl
 have h3 : ∀ (n : Nat) (x : aH) (ys : List aH), ∀ e ∈ Iy n x ys, e.1 = n := fun n x ys e he => by
  unfold Iy at he
  obtain ⟨y, _, he⟩ := PC.1 he
  split at he
  ·exact h4 _ _ _ _ he
  ·cases he
 unfold vL at he
 rcases F2.1 he with he | he
 rotate_left
 ·obtain ⟨t, _, rfl⟩ := Pz.1 he
  exact F9 _
 rcases F2.1 he with he | he
 rotate_left
 ·obtain ⟨s, _, he⟩ := PC.1 he
  obtain ⟨t, _, rfl⟩ := Pz.1 he
  exact F9 _
 rcases F2.1 he with he | he
 rotate_left
 ·obtain ⟨y, _, he⟩ := PC.1 he
  split at he
  ·exact Nat.le_of_eq (h4 _ _ _ _ he)
  ·cases he
 rcases F2.1 he with he | he
 rotate_left
 ·obtain ⟨x, _, he⟩ := PC.1 he
  exact Nat.le_of_eq (h3 _ _ _ _ he)
 unfold GF at he
 obtain ⟨n, hn, he⟩ := PC.1 he
 unfold Ju at he
 obtain ⟨x, _, he⟩ := PC.1 he
 have := h3 _ _ _ _ he
 have := List.mem_range.1 hn
 omega
theorem OL {m i : Nat} (hm : m < 256) (hi : i < 8) : GA .i64 (m : Int) (dl .i64 1 (i : Int)) = ((m ||| 2 ^ i : Nat) : Int) := by
 have e1 : dl .i64 1 (i : Int) = ((2 ^ i : Nat) : Int) := by
  have : ∀ i : Fin 8, dl .i64 1 ((i.val : Nat) : Int) = ((2 ^ i.val : Nat) : Int) := by decide
  exact this ⟨i, hi⟩
 have h2 : 2 ^ i < 256 := Nat.pow_lt_pow_right (by decide) hi
 have h : m ||| 2 ^ i < 2 ^ 8 := Nat.or_lt_two_pow hm h2
 rw [e1]
 show i64.wrap ((BitVec.ofInt 64 (m : Int) ||| BitVec.ofInt 64 ((2 ^ i : Nat) : Int)).toNat : Int) = _
 simp only [BitVec.ofInt_natCast, BitVec.toNat_or, BitVec.toNat_ofNat]
 rw [Nat.mod_eq_of_lt (by omega), Nat.mod_eq_of_lt (by omega)]
 exact ip (by omega) (by omega)
theorem Ob (p0 p1 : List (List aH)) (hg : HS p0 p1) (w : World) (ok : Nat → Prop) (x0 x1 : Value) (hok : ∀ b, ok b → b < w.heap.size) (h0 : RV w ok (fun _ => none) (vl 1 dF p0) x0) (h1 : RV w ok (fun _ => none) (vl 1 dF p1) x1) :
  Calls Tryz.prog 62 #[x0, x1] w fun e w' => ∃ b D, e = .returned (.map (some b)) ∧ Below w.heap.size w w' ∧ w.heap.size ≤ b ∧ Ii D (GF p0 p1 p0.length) ∧ ∃ n, n ≤ 1000000000 ∧ w'.ownsMap Tryz.prog 55 (plainElem Tryz.prog 3) b n D := by
 refine calls_of_wp Tryz.func62 rfl ?_
 have H0 : A0 Tryz.prog 74 w.heap.size w [(0, vl 1 dF p0), (1, vl 1 dF p1)] { tmps := #[x0, x1] ++ Array.replicate (Tryz.f62.ntmps - 2) undef, defers := [] } w := FF hok rfl fun t av ht => by
  match t, ht with
  | 0, ht => obtain rfl := am ht; exact ⟨by simp, h0⟩
  | 1, ht => obtain rfl := am ht; exact ⟨by simp, h1⟩
  | t + 2, ht => cases ht
 refine wp_seq (H0.run (tm' := [(0, vl 1 dF p0), (1, vl 1 dF p1)]) (aS ae [] 2 ⟨rfl, ai []⟩) rfl fun a1 w1 H1 => ?_)
 refine wp_seq (wp_region ?_)
 show wpOps _ _ _ [0, 1] _ _
 rw [wpOps_cons]
 refine mS (o := _) rfl rfl (v := .map (some w1.heap.size)) (w' := w1.alloc (.map #[] 0)) (by simp [execOp, run_makeMap]) ?_
 refine (H1.map 55 (plainElem Tryz.prog 3) 16 (by decide)).rest (tm' := [(0, vl 1 dF p0), (1, vl 1 dF p1), (5, Gu (.map (some w1.heap.size)))]) ae 1 1 [] (by kernel_rfl) rfl fun a2 w2 H2 => ?_
 have hwb : w.heap.size ≤ w1.heap.size := H1.sz
 generalize w1.heap.size = b at H2 hwb
 clear H0 H1 h0 h1
 show Code.wp _ _ _ _ _
 have I2 : GQ w.heap.size w b (vL p0 p1 0 0 0 0 0) (0 * 16777216) _ a2 w2 := ⟨_, Ii.nil, F9 _, H2⟩
 refine wp_seq (wp_seq (I2.run (tm' := Ja p0 p1 b 0) (aS ae [(17, vl 1 dF p0), (18, af (p0.length : Int)), (19, af 0)] 4 ⟨rfl, ai []⟩) rfl fun a3 w3 I3 => ?_))
 clear H2 I2
 refine wp_block (mR p0.length (fun i a w' => GQ w.heap.size w b (vL p0 p1 i 0 0 0 0) (i * 16777216) (Ja p0 p1 b i) a w') I3 (fun i hi a w' I => ?_) fun a w' I => ?_)
 rotate_left
 ·have hd : decide ((p0.length : Int) < (p0.length : Int)) = false := by simp
  refine wp_seq (I.run (tm' := [(5, Gu (.map (some b))), (20, vb false)]) (au ae [(20, vb false)] 2 [hf hd] ⟨rfl, ai []⟩) rfl fun a1 w1 I1 => ?_)
  refine wp_seq (wp_cond_false (I1.val (t := 20) rfl) (wp_exit ⟨(by intro e; cases e), ?_⟩))
  show Code.wp _ _ _ _ _
  refine wp_seq (I1.run (tm' := [(4, Gu (.map (some b)))]) (aS ae [(4, Gu (.map (some b)))] 3 ⟨rfl, ai []⟩) rfl fun a2 w2 I2 => wp_ret ?_)
  obtain ⟨D, m1, m2, H2⟩ := I2
  obtain ⟨u, e1, e2⟩ := jE (fn := Tryz.f62) (out := Gu (.map (some b))) (ps := [True]) ae (H2.at_.rep 1) (by kernel_rfl) ⟨tv, tv⟩
  obtain ⟨rfl, _⟩ := e2
  rw [J3] at m1 m2 H2
  exact ⟨H2.at_.defers, _, e1, b, D, rfl, H2.bel, hwb, m1, _, by have := hg.len8; omega, H2.own⟩
 have q0 := hg.g0 i hi
 have q1 := hg.g1 i hi
 have hi8 := hg.len8
 have hil : i < p1.length := by have := hg.len; omega
 have n0 := q0.len
 have n1 := q1.len
 have g1 : (0 : Int) ≤ (i : Int) := by omega
 have g2 : (i : Int) < (p0.length : Int) := by omega
 have g3 : (i : Int) < (p1.length : Int) := by omega
 have hw_i : i64.wrap ((i : Int) + 1) = ((i + 1 : Nat) : Int) := by rw [ip (by omega) (by omega)]; rfl
 have hd20 : decide ((i : Int) < (p0.length : Int)) = true := Pw (by omega)
 refine wp_seq (I.run (tm' := (20, vb true) :: Ja p0 p1 b i) (au ae [(20, vb true)] 2 [ht hd20] ⟨rfl, ai []⟩) rfl fun a1 w1 I1 => ?_)
 refine wp_seq (wp_cond_true (I1.val (t := 20) rfl) (wp_skip ?_))
 refine wp_seq (wp_block ?_)
 refine wp_seq (I1.run (tm' := (6, af (i : Int)) :: (7, vl 2 bn (p0.getD i [])) :: Ja p0 p1 b i) (au ae [(6, af (i : Int)), (7, vl 2 bn (p0.getD i []))] 6 [hn, hq g1 g2] ⟨rfl, ai []⟩) rfl fun a2 w2 I2 => ?_)
 refine wp_seq (I2.run (tm' := Ig p0 p1 b i 0) (aS ae [(24, vl 2 bn (p0.getD i [])), (25, af ((p0.getD i []).length : Int)), (26, af 0)] 4 ⟨rfl, ai []⟩) rfl fun a3 w3 I3 => ?_)
 clear I I1 I2
 refine wp_block (mR (p0.getD i []).length (fun j a w' => GQ w.heap.size w b (vL p0 p1 i j 0 0 0) (i * 16777216 + j * 262144) (Ig p0 p1 b i j) a w') (I3.more (by omega)) (fun j hj a w' I => ?_) fun a w' I => ?_)
 rotate_left
 ·skip
  have he27 : decide (((p0.getD i []).length : Int) < ((p0.getD i []).length : Int)) = false := Pv (by omega)
  refine wp_seq (I.run (tm' := (27, vb false) :: Ig p0 p1 b i (p0.getD i []).length) (au ae [(27, vb false)] 2 [hf he27] ⟨rfl, ai []⟩) rfl fun a1 w1 I1 => ?_)
  refine wp_seq (wp_cond_false (I1.val (t := 27) rfl) (wp_exit ⟨(by intro e; cases e), ?_⟩))
  show Code.wp _ _ _ _ _
  refine I1.run (tm' := [(0, vl 1 dF p0), (1, vl 1 dF p1), (5, Gu (.map (some b))), (17, vl 1 dF p0), (18, af (p0.length : Int)), (19, af (i64.wrap ((i : Int) + 1)))]) (aS ae [(19, af (i64.wrap ((i : Int) + 1)))] 3 ⟨rfl, ai []⟩) rfl fun a3 w3 I3 => ⟨rfl, ?_⟩
  rw [hw_i, MC] at I3
  exact I3.more (by omega)
 have g4 : (0 : Int) ≤ (j : Int) := by omega
 have g5 : (j : Int) < ((p0.getD i []).length : Int) := by omega
 have hw_j : i64.wrap ((j : Int) + 1) = ((j + 1 : Nat) : Int) := by rw [ip (by omega) (by omega)]; rfl
 have nx := q0.ids hj
 have hd27 : decide ((j : Int) < ((p0.getD i []).length : Int)) = true := Pw (by omega)
 refine wp_seq (I.run (tm' := (27, vb true) :: Ig p0 p1 b i j) (au ae [(27, vb true)] 2 [ht hd27] ⟨rfl, ai []⟩) rfl fun a1 w1 I1 => ?_)
 refine wp_seq (wp_cond_true (I1.val (t := 27) rfl) (wp_skip ?_))
 refine wp_seq (wp_block ?_)
 refine wp_seq (I1.run_box (t := 9) (ty := 176) (cs := HU ((p0.getD i []).getD j aE)) (tm' := Ig p0 p1 b i j) (AW.rg ae [(9, pX 3 2)] [3] [(3, .box 176 [aw ((p0.getD i []).getD j aE).Hash, cl 1 aF ((p0.getD i []).getD j aE).IDs])] 5 [hq g4 g5] ⟨rfl, ai [(0, 3)]⟩) rfl fun a2 w2 I2 => ?_)
 refine wp_seq (I2.run (tm' := Ih p0 p1 b i j 0) (au ae [(33, vl 2 bn (p1.getD i [])), (34, af ((p1.getD i []).length : Int)), (35, af 0)] 7 [hn, hn, hq g1 g3] ⟨rfl, ai []⟩) rfl fun a3 w3 I3 => ?_)
 clear I I1 I2
 refine wp_block (mR (p1.getD i []).length (fun k a w' => GQ w.heap.size w b (vL p0 p1 i j k 0 0) (i * 16777216 + j * 262144 + k * 4096) (Ih p0 p1 b i j k) a w') (I3.more (by omega)) (fun k hk a w' I => ?_) fun a w' I => ?_)
 rotate_left
 ·skip
  have he36 : decide (((p1.getD i []).length : Int) < ((p1.getD i []).length : Int)) = false := Pv (by omega)
  refine wp_seq (I.run (tm' := (36, vb false) :: Ih p0 p1 b i j (p1.getD i []).length) (au ae [(36, vb false)] 2 [hf he36] ⟨rfl, ai []⟩) rfl fun a1 w1 I1 => ?_)
  refine wp_seq (wp_cond_false (I1.val (t := 36) rfl) (wp_exit ⟨(by intro e; cases e), ?_⟩))
  show Code.wp _ _ _ _ _
  refine I1.run (tm' := (6, af (i : Int)) :: (24, vl 2 bn (p0.getD i [])) :: (25, af ((p0.getD i []).length : Int)) :: (26, af (i64.wrap ((j : Int) + 1))) :: Ja p0 p1 b i) (aS ae [(26, af (i64.wrap ((j : Int) + 1)))] 3 ⟨rfl, ai []⟩) rfl fun a3 w3 I3 => ⟨rfl, ?_⟩
  rw [hw_j, Pk p0 p1 i hj] at I3
  exact I3.more (by omega)
 have g6 : (0 : Int) ≤ (k : Int) := by omega
 have g7 : (k : Int) < ((p1.getD i []).length : Int) := by omega
 have hw_k : i64.wrap ((k : Int) + 1) = ((k + 1 : Nat) : Int) := by rw [ip (by omega) (by omega)]; rfl
 have ny := q1.ids hk
 have hd36 : decide ((k : Int) < ((p1.getD i []).length : Int)) = true := Pw (by omega)
 refine wp_seq (I.run (tm' := (36, vb true) :: Ih p0 p1 b i j k) (au ae [(36, vb true)] 2 [ht hd36] ⟨rfl, ai []⟩) rfl fun a1 w1 I1 => ?_)
 refine wp_seq (wp_cond_true (I1.val (t := 36) rfl) (wp_skip ?_))
 refine wp_seq (wp_block ?_)
 refine wp_seq (I1.run_box (t := 11) (ty := 176) (cs := HU ((p1.getD i []).getD k aE)) (tm' := Ih p0 p1 b i j k) (AW.rg ae [(11, pX 3 2)] [3] [(3, .box 176 [aw ((p1.getD i []).getD k aE).Hash, cl 1 aF ((p1.getD i []).getD k aE).IDs])] 5 [hq g6 g7] ⟨rfl, ai [(0, 3)]⟩) rfl fun a2 w2 I2 => ?_)
 refine wp_seq (wp_seq (I2.run (tm' := (43, vb (((p0.getD i []).getD j aE).Hash != ((p1.getD i []).getD k aE).Hash)) :: (11, If (HU ((p1.getD i []).getD k aE))) :: Ih p0 p1 b i j k) (aS ae [(43, vb (((p0.getD i []).getD j aE).Hash != ((p1.getD i []).getD k aE).Hash))] 6 ⟨rfl, ai []⟩) rfl fun a3 w3 I3 => ?_))
 clear I I1 I2
 by_cases hxy : ((p0.getD i []).getD j aE).Hash = ((p1.getD i []).getD k aE).Hash
 rotate_left
 ·have e : (((p0.getD i []).getD j aE).Hash != ((p1.getD i []).getD k aE).Hash) = true := by simpa using hxy
  rw [e] at I3
  refine wp_cond_true (I3.val (t := 43) rfl) (wp_exit ?_)
  show Code.wp _ _ _ _ _
  refine I3.run (tm' := (9, If (HU ((p0.getD i []).getD j aE))) :: (33, vl 2 bn (p1.getD i [])) :: (34, af ((p1.getD i []).length : Int)) :: (35, af (i64.wrap ((k : Int) + 1))) :: Ig p0 p1 b i j) (aS ae [(35, af (i64.wrap ((k : Int) + 1)))] 3 ⟨rfl, ai []⟩) rfl fun a4 w4 I4 => ⟨rfl, ?_⟩
  rw [hw_k, O7 p0 p1 i j hk hxy] at I4
  exact I4.more (by omega)
 have e : (((p0.getD i []).getD j aE).Hash != ((p1.getD i []).getD k aE).Hash) = false := by simpa using hxy
 rw [e] at I3
 refine wp_cond_false (I3.val (t := 43) rfl) (wp_skip ?_)
 show Code.wp _ _ _ _ _
 refine wp_seq (I3.run (tm' := Iz p0 p1 b i j k 0) (aS ae [(45, vl 1 aF ((p0.getD i []).getD j aE).IDs), (46, af (((p0.getD i []).getD j aE).IDs.length : Int)), (47, af 0)] 5 ⟨rfl, ai []⟩) rfl fun a4 w4 I4 => ?_)
 clear I3
 refine wp_block (mR ((p0.getD i []).getD j aE).IDs.length (fun l a w' => GQ w.heap.size w b (vL p0 p1 i j k l 0) (i * 16777216 + j * 262144 + k * 4096 + l * 64) (Iz p0 p1 b i j k l) a w') (I4.more (by omega)) (fun l hl a w' I => ?_) fun a w' I => ?_)
 rotate_left
 ·skip
  have he48 : decide ((((p0.getD i []).getD j aE).IDs.length : Int) < (((p0.getD i []).getD j aE).IDs.length : Int)) = false := Pv (by omega)
  refine wp_seq (I.run (tm' := (48, vb false) :: Iz p0 p1 b i j k ((p0.getD i []).getD j aE).IDs.length) (au ae [(48, vb false)] 2 [hf he48] ⟨rfl, ai []⟩) rfl fun a1 w1 I1 => ?_)
  refine wp_seq (wp_cond_false (I1.val (t := 48) rfl) (wp_exit ⟨(by intro e; cases e), ?_⟩))
  show Code.wp _ _ _ _ _
  refine I1.run (tm' := (9, If (HU ((p0.getD i []).getD j aE))) :: (33, vl 2 bn (p1.getD i [])) :: (34, af ((p1.getD i []).length : Int)) :: (35, af (i64.wrap ((k : Int) + 1))) :: Ig p0 p1 b i j) (aS ae [(35, af (i64.wrap ((k : Int) + 1)))] 3 ⟨rfl, ai []⟩) rfl fun a3 w3 I3 => ⟨rfl, ?_⟩
  rw [hw_k, Pj p0 p1 i j hk hxy] at I3
  exact I3.more (by omega)
 have g8 : (0 : Int) ≤ (l : Int) := by omega
 have g9 : (l : Int) < (((p0.getD i []).getD j aE).IDs.length : Int) := by omega
 have hw_l : i64.wrap ((l : Int) + 1) = ((l + 1 : Nat) : Int) := by rw [ip (by omega) (by omega)]; rfl
 have hd48 : decide ((l : Int) < (((p0.getD i []).getD j aE).IDs.length : Int)) = true := Pw (by omega)
 refine wp_seq (I.run (tm' := (48, vb true) :: Iz p0 p1 b i j k l) (au ae [(48, vb true)] 2 [ht hd48] ⟨rfl, ai []⟩) rfl fun a1 w1 I1 => ?_)
 refine wp_seq (wp_cond_true (I1.val (t := 48) rfl) (wp_skip ?_))
 refine wp_seq (wp_block ?_)
 refine wp_seq (I1.run (tm' := (13, af (((p0.getD i []).getD j aE).IDs.getD l 0)) :: Iz p0 p1 b i j k l) (au ae [(13, af (((p0.getD i []).getD j aE).IDs.getD l 0))] 4 [hq g8 g9] ⟨rfl, ai []⟩) rfl fun a2 w2 I2 => ?_)
 refine wp_seq (I2.run (tm' := IA p0 p1 b i j k l 0) (aS ae [(52, vl 1 aF ((p1.getD i []).getD k aE).IDs), (53, af (((p1.getD i []).getD k aE).IDs.length : Int)), (54, af 0)] 5 ⟨rfl, ai []⟩) rfl fun a3 w3 I3 => ?_)
 clear I I1 I2
 refine wp_block (mR ((p1.getD i []).getD k aE).IDs.length (fun m a w' => GQ w.heap.size w b (vL p0 p1 i j k l m) (i * 16777216 + j * 262144 + k * 4096 + l * 64 + m) (IA p0 p1 b i j k l m) a w') (I3.more (by omega)) (fun m hm a w' I => ?_) fun a w' I => ?_)
 rotate_left
 ·skip
  have he55 : decide ((((p1.getD i []).getD k aE).IDs.length : Int) < (((p1.getD i []).getD k aE).IDs.length : Int)) = false := Pv (by omega)
  refine wp_seq (I.run (tm' := (55, vb false) :: IA p0 p1 b i j k l ((p1.getD i []).getD k aE).IDs.length) (au ae [(55, vb false)] 2 [hf he55] ⟨rfl, ai []⟩) rfl fun a1 w1 I1 => ?_)
  refine wp_seq (wp_cond_false (I1.val (t := 55) rfl) (wp_exit ⟨(by intro e; cases e), ?_⟩))
  show Code.wp _ _ _ _ _
  refine I1.run (tm' := (11, If (HU ((p1.getD i []).getD k aE))) :: (45, vl 1 aF ((p0.getD i []).getD j aE).IDs) :: (46, af (((p0.getD i []).getD j aE).IDs.length : Int)) :: (47, af (i64.wrap ((l : Int) + 1))) :: Ih p0 p1 b i j k) (aS ae [(47, af (i64.wrap ((l : Int) + 1)))] 3 ⟨rfl, ai []⟩) rfl fun a3 w3 I3 => ⟨rfl, ?_⟩
  rw [hw_l, Pi p0 p1 i j k hl] at I3
  exact I3.more (by omega)
 have ga : (0 : Int) ≤ (m : Int) := by omega
 have gb : (m : Int) < (((p1.getD i []).getD k aE).IDs.length : Int) := by omega
 have hw_m : i64.wrap ((m : Int) + 1) = ((m + 1 : Nat) : Int) := by rw [ip (by omega) (by omega)]; rfl
 have hd55 : decide ((m : Int) < (((p1.getD i []).getD k aE).IDs.length : Int)) = true := Pw (by omega)
 refine wp_seq (I.run (tm' := (55, vb true) :: IA p0 p1 b i j k l m) (au ae [(55, vb true)] 2 [ht hd55] ⟨rfl, ai []⟩) rfl fun a1 w1 I1 => ?_)
 refine wp_seq (wp_cond_true (I1.val (t := 55) rfl) (wp_skip ?_))
 refine wp_seq (wp_block ?_)
 refine wp_seq (I1.run (tm' := (15, af (((p1.getD i []).getD k aE).IDs.getD m 0)) :: IA p0 p1 b i j k l m) (au ae [(15, af (((p1.getD i []).getD k aE).IDs.getD m 0))] 4 [hq ga gb] ⟨rfl, ai []⟩) rfl fun a2 w2 I2 => ?_)
 obtain ⟨D, m1, m2, H⟩ := I2
 have hs := q0.wf hj hl
 have ht := q1.wf hk hm
 have hk5 := Ph p0 p1 i j k l hm
 have hV := fun e he => Nat.lt_succ_of_le (KN (p0 := p0) (p1 := p1) (i := i) (j := j) (k := k) (l := l) (m := m) e he)
 generalize hVV : vL p0 p1 i j k l m = V at m1 m2 H hk5 hV
 have v5 : a2.eval (.tmp 5) = .map (some b) := H.at_.val (t := 5) rfl
 have v6 : a2.eval (.tmp 6) = .int .i64 (i : Int) := H.at_.val (t := 6) rfl
 have v13 : a2.eval (.tmp 13) = .int .i64 (((p0.getD i []).getD j aE).IDs.getD l 0) := H.at_.val (t := 13) rfl
 have v15 : a2.eval (.tmp 15) = .int .i64 (((p1.getD i []).getD k aE).IDs.getD m 0) := H.at_.val (t := 15) rfl
 generalize ((p1.getD i []).getD k aE).IDs.getD m 0 = t at ht hk5 v15 H
 obtain ⟨s, hs'⟩ : ∃ s, ((p0.getD i []).getD j aE).IDs.getD l 0 = s := ⟨_, rfl⟩
 rw [hs'] at hs hk5 v13
 have hmsk := Mi hV (⟨s, t⟩ : kk)
 have hp8 : 2 ^ (i + 1) ≤ 2 ^ 8 := Nat.pow_le_pow_right (by decide) (by omega)
 have hmsk : Gs V ⟨s, t⟩ < 256 := Gb hmsk hp8
 have hior := OL hmsk (show i < 8 by omega)
 have hm2 : ((Gs (V ++ [(i, (⟨s, t⟩ : kk))]) ⟨s, t⟩ : Nat) : Int) = GA .i64 (Gs V ⟨s, t⟩ : Int) (dl .i64 1 (i : Int)) := by rw [hior, LZ, if_pos rfl]
 obtain ⟨W0, hW0⟩ : ∃ W0, W0 = { w2 with drawn := w2.drawn + 1 } := ⟨_, rfl⟩
 have hB0 : Below w2.heap.size w2 W0 := by rw [hW0]; exact ⟨rfl, rfl, rfl, F9 _, fun _ _ => rfl⟩
 have own0 := BC H.own hB0
 have hkey := Is hs ht
 have hat := (m1 ⟨s, t⟩ hs ht).1
 obtain ⟨c, ps, r1, r2⟩ := own0.lookup IQ Tryz.underlying135 (z := .int .i64 0) (Tryz.zeroValue3 _) (zd := .lit (.int .i64 0)) (zp := []) (plainElem_int Tryz.underlying3 rfl) hkey
 have hc : c = .int .i64 (Gs V ⟨s, t⟩ : Int) := by
  obtain ⟨x, rfl, hx, _⟩ := plainElem_int_inv Tryz.underlying3 r2
  have hx := congrArg Prod.fst hx
  simp only at hx
  rw [show D.atKey (kl s t) (.lit (.int .i64 0)) = _ from hat] at hx
  injection hx with hx
  injection hx with _ hx
  rw [hx]
 subst hc
 have hwf : (Lit.int .i64 (GA .i64 (Gs V ⟨s, t⟩ : Int) (dl .i64 1 (i : Int)))).wf = true := by
  rw [hior]
  have : Gs V ⟨s, t⟩ ||| 2 ^ i < 2 ^ 8 := Nat.or_lt_two_pow hmsk (Nat.pow_lt_pow_right (by decide) (by omega))
  exact KM (by omega) (by omega)
 obtain ⟨w7, u1, u2, u3⟩ := own0.update IQ Tryz.underlying135 (by unfold maxLen; omega) hkey (val := .int .i64 (GA .i64 (Gs V ⟨s, t⟩ : Int) (dl .i64 1 (i : Int)))) (d := .lit (.int .i64 (GA .i64 (Gs V ⟨s, t⟩ : Int) (dl .i64 1 (i : Int))))) (ps := []) (plainElem_int Tryz.underlying3 hwf)
 have own1 := own0
 obtain ⟨es, clock, hb, F, _, _⟩ := own1
 obtain ⟨x0, st, es1, clock1, hE, _, hS⟩ := WideElems.entry_then_store Jp Tryz.underlying135 (fun u => Tryz.zeroValue3 u) hb F hkey
 obtain ⟨c', hlk⟩ := MU Jp Tryz.underlying135 (fun u => Tryz.zeroValue3 u) hb F hkey hE
 have hcc : c' = .int .i64 (Gs V ⟨s, t⟩ : Int) := by
  have := hlk W0 (.inl hb)
  rw [r1] at this
  injection this with this
  exact this.symm
 subst hcc
 obtain ⟨We, hWe⟩ : ∃ We, We = ChangeMaps.setBlock W0 b (.map es1 clock1) := ⟨_, rfl⟩
 rw [← hWe] at hE
 have hbe : We.heap[b]? = some (.map es1 clock1) := by rw [hWe]; exact (MapKept.heap_set hb).1
 obtain ⟨es', clock', z1, z2⟩ := hS We (.int .i64 (GA .i64 (Gs V ⟨s, t⟩ : Int) (dl .i64 1 (i : Int)))) hbe
 have hw7 : ChangeMaps.setBlock We b (.map es' clock') = w7 := by
  rw [z2] at u1
  injection u1 with _ u1
  rw [← u1, hWe]
  simp [ChangeMaps.setBlock]
 rw [hw7] at z1
 have r3 : ∀ W, (Instr.build 55 #[(0, .int .i64 s), (1, .int .i64 t)]).run Tryz.prog W = .ok (GE s t) W := fun W => by kernel_rfl
 refine Ar (by kernel_rfl) (nt := 74) (fun i' => match i' with
  | 0 => .map (some b)
  | 1 => .int .i64 s
  | 2 => .int .i64 t
  | 3 => GE s t
  | 4 => .int .i64 (Gs V ⟨s, t⟩ : Int)
  | 5 => .int .i64 (i : Int)
  | 6 => .int .i64 (dl .i64 1 (i : Int))
  | 7 => .int .i64 (GA .i64 (Gs V ⟨s, t⟩ : Int) (dl .i64 1 (i : Int)))
  | 8 => .tuple #[x0, goInt st]
  | 9 => goInt st
  | _ => undef) (fun d => if d 10 = true then w7 else if d 8 = true then We else W0) H.at_.size H.at_.defers (by rw [hW0]; rfl) (by kernel_rfl) (by kernel_rfl) (by kernel_rfl) (Cf (by kernel_rfl)) (fun d i' o' a ho hdi hdep Dt => ?_) fun d a hall Dt => ?_
 ·match i', ho with
   | 0, ho =>
    obtain rfl := am ho
    left
    simp [execOp, Dt.ev0 5 (by kernel_rfl), v5, cA]
   | 1, ho =>
    obtain rfl := am ho
    left
    simp [execOp, Dt.ev0 13 (by kernel_rfl), v13, cA]
   | 2, ho =>
    obtain rfl := am ho
    left
    simp [execOp, Dt.ev0 15 (by kernel_rfl), v15, cA]
   | 3, ho =>
    obtain rfl := am ho
    left
    have e59 : a.eval (.tmp 59) = _ := Dt.ev 1 rfl (hdep ⟨1, .data⟩ (by simp) rfl) rfl
    have e60 : a.eval (.tmp 60) = _ := Dt.ev 2 rfl (hdep ⟨2, .data⟩ (by simp) rfl) rfl
    simp [execOp, e59, e60, cA, r3]
   | 4, ho =>
    obtain rfl := am ho
    left
    have e58 : a.eval (.tmp 58) = _ := Dt.ev 0 rfl (hdep ⟨0, .data⟩ (by simp) rfl) rfl
    have e61 : a.eval (.tmp 61) = _ := Dt.ev 3 rfl (hdep ⟨3, .data⟩ (by simp) rfl) rfl
    have n7 : d 7 = false := Dt.no hdi (j := 7) rfl (e := ⟨4, .data⟩) (by simp) rfl rfl
    have n10 : d 10 = false := Dt.no n7 (j := 10) rfl (e := ⟨7, .data⟩) (by simp) rfl rfl
    cases h8 : d 8 <;> simp [execOp, e58, e61, cA, n10, h8, hlk W0 (.inl hb), hlk We (.inr hbe)]
   | 5, ho =>
    obtain rfl := am ho
    left
    simp [execOp, Dt.ev0 6 (by kernel_rfl), v6, cA]
   | 6, ho =>
    obtain rfl := am ho
    left
    have e63 : a.eval (.tmp 63) = _ := Dt.ev 5 rfl (hdep ⟨5, .data⟩ (by simp) rfl) rfl
    show (execOp a.eval _).run Tryz.prog (if d 10 = true then w7 else if d 8 = true then We else W0) = .ok _ (if cA d 6 10 = true then w7 else if cA d 6 8 = true then We else W0)
    rw [show cA d 6 10 = d 10 by simp [cA], show cA d 6 8 = d 8 by simp [cA]]
    generalize (if d 10 = true then w7 else if d 8 = true then We else W0) = W
    simp only [execOp, e63]
    kernel_rfl
   | 7, ho =>
    obtain rfl := am ho
    left
    have e62 : a.eval (.tmp 62) = _ := Dt.ev 4 rfl (hdep ⟨4, .data⟩ (by simp) rfl) rfl
    have e64 : a.eval (.tmp 64) = _ := Dt.ev 6 rfl (hdep ⟨6, .data⟩ (by simp) rfl) rfl
    show (execOp a.eval _).run Tryz.prog (if d 10 = true then w7 else if d 8 = true then We else W0) = .ok _ (if cA d 7 10 = true then w7 else if cA d 7 8 = true then We else W0)
    rw [show cA d 7 10 = d 10 by simp [cA], show cA d 7 8 = d 8 by simp [cA]]
    generalize (if d 10 = true then w7 else if d 8 = true then We else W0) = W
    simp only [execOp, e62, e64]
    kernel_rfl
   | 8, ho =>
    obtain rfl := am ho
    left
    have e58 : a.eval (.tmp 58) = _ := Dt.ev 0 rfl (hdep ⟨0, .data⟩ (by simp) rfl) rfl
    have e61 : a.eval (.tmp 61) = _ := Dt.ev 3 rfl (hdep ⟨3, .data⟩ (by simp) rfl) rfl
    have n9 : d 9 = false := Dt.no hdi (j := 9) rfl (e := ⟨8, .data⟩) (by simp) rfl rfl
    have n10 : d 10 = false := Dt.no n9 (j := 10) rfl (e := ⟨9, .data⟩) (by simp) rfl rfl
    simp [execOp, e58, e61, cA, n10, hdi, hE]
   | 9, ho =>
    obtain rfl := am ho
    left
    have e66 : a.eval (.tmp 66) = _ := Dt.ev 8 rfl (hdep ⟨8, .data⟩ (by simp) rfl) rfl
    simp [execOp, e66, cA, Instr.extract]
   | 10, ho =>
    obtain rfl := am ho
    right
    have e58 : a.eval (.tmp 58) = _ := Dt.ev 0 rfl (hdep ⟨0, .data⟩ (by simp) rfl) rfl
    have e67 : a.eval (.tmp 67) = _ := Dt.ev 9 rfl (hdep ⟨9, .data⟩ (by simp) rfl) rfl
    have e65 : a.eval (.tmp 65) = _ := Dt.ev 7 rfl (hdep ⟨7, .data⟩ (by simp) rfl) rfl
    have y8 : d 8 = true := hdep ⟨8, .chain⟩ (by simp) rfl
    refine ⟨rfl, ?_⟩
    simp [execOp, e58, e67, e65, cA, hdi, y8, z1]
   | i' + 11, ho => cases ho
 rw [if_pos (hall 10 (by decide))]
 have I3 : GQ w.heap.size w b (vL p0 p1 i j k l (m + 1)) (i * 16777216 + j * 262144 + k * 4096 + l * 64 + m + 1) (IA p0 p1 b i j k l m) a w7 := by
  have hbw : b < w2.heap.size := H.own.lt
  have A1 := (((H.at_.below hB0).moved (bad' := (· = b)) u3 (fun x e => by injection e with e; exact e.symm) (fun x e => .inl e)).det Dt (by kernel_rfl)).sub (tm' := IA p0 p1 b i j k l m) (by kernel_rfl)
  refine ⟨D.put (kl s t) (.lit (.int .i64 (GA .i64 (Gs V ⟨s, t⟩ : Int) (dl .i64 1 (i : Int))))), ?_, ?_, A1, ?_, (H.bel.trans (hB0.mono (by have := H.hn; omega))).grown u3 (by have := H.hn; have := hB0.size; omega) (fun x e => by injection e with e; subst e; exact H.hn), H.hn⟩
  ·rw [hk5]
   have := m1.put H.own.isMap i (c := ⟨s, t⟩) hs ht
   rw [hm2] at this
   exact this
  ·rw [hk5, FO]
   simp only [FN, FP]
   omega
  ·rw [hk5, FO]
   exact u2
 clear hE hlk z1 z2 hS
 show Code.wp _ _ _ _ _
 refine I3.run (tm' := (13, af (((p0.getD i []).getD j aE).IDs.getD l 0)) :: (52, vl 1 aF ((p1.getD i []).getD k aE).IDs) :: (53, af (((p1.getD i []).getD k aE).IDs.length : Int)) :: (54, af (i64.wrap ((m : Int) + 1))) :: Iz p0 p1 b i j k l) (aS ae [(54, af (i64.wrap ((m : Int) + 1)))] 3 ⟨rfl, ai []⟩) rfl fun a4 w4 I4 => ⟨rfl, ?_⟩
 rw [hw_m] at I4
 exact I4.more (by omega)
end
section
open Go.RowKit
theorem Kq (x : Int) (W : World) : Calls Tryz.prog 111 #[.int .i64 x] W fun e w' => e = .returned (.bool false) ∧ w' = W := by
 refine calls_of_wp Tryz.func111 rfl ?_
 simp only [Tryz.ntmps111, FW, FN, FP, Nat.reduceAdd, Nat.reduceSub, Array.replicate_succ, Array.replicate_zero, List.push_toArray, List.append_toArray, Gf, List.cons_append]
 go_wp2
 go_ret
 simp
def Gx (x y : Int) : Int := if x < y then -1 else if x > y then 1 else 0
theorem LG (x y : Int) (W : World) : Calls Tryz.prog 66 #[.int .i64 x, .int .i64 y] W fun e w' => e = .returned (.int .i64 (Gx x y)) ∧ w' = W := by
 refine calls_of_wp Tryz.func66 rfl ?_
 simp only [Tryz.ntmps66, FW, FN, FP, Nat.reduceAdd, Nat.reduceSub, Array.replicate_succ, Array.replicate_zero, List.push_toArray, List.append_toArray, Gf, List.cons_append]
 by_cases h1 : x < y
 ·have e : Gx x y = -1 := by unfold Gx; rw [if_pos h1]
  rw [e]
  go_wp2_with (go_at_call 111; refine (Kq _ _).mono ?_; rintro e w' ⟨rfl, rfl⟩)
  go_ret
  exact ⟨rfl, rfl⟩
 ·by_cases h2 : y < x
  ·have e : Gx x y = 1 := by unfold Gx; rw [if_neg h1, if_pos h2]
   rw [e]
   go_wp2_with (go_at_call 111; refine (Kq _ _).mono ?_; rintro e w' ⟨rfl, rfl⟩)
   go_ret
   exact ⟨rfl, rfl⟩
  ·have e : Gx x y = 0 := by unfold Gx; rw [if_neg h1, if_neg h2]
   rw [e]
   go_wp2_with (go_at_call 111; refine (Kq _ _).mono ?_; rintro e w' ⟨rfl, rfl⟩)
   go_ret
   exact ⟨rfl, rfl⟩
end
section
open Go.RowKit
def Jv (x y : Int) : Int := if x = 0 then y else x
theorem Oc (x y : Int) (b : Nat) (W : World) (h0 : W.cell? ⟨b, 0, none⟩ = some (.int .i64 x)) (h1 : W.cell? ⟨b, 1, none⟩ = some (.int .i64 y)) : Calls Tryz.prog 65 #[.slice (some ⟨b, 0, none⟩) 2 2] W fun e w' => e = .returned (.int .i64 (Jv x y)) ∧ w' = W := by
 refine calls_of_wp Tryz.func65 rfl ?_
 simp only [Tryz.ntmps65, FW, FN, FP, Nat.reduceAdd, Nat.reduceSub, Array.replicate_succ, Array.replicate_zero, List.push_toArray, List.append_toArray, Gf, List.cons_append]
 go_wp2
 go_loopw [8] (fun v wr => wr = W ∧ (v = .int .i64 0 ∨ (v = .int .i64 1 ∧ x = 0) ∨ (v = .int .i64 2 ∧ x = 0 ∧ y = 0))) (fun v wr => 2 - (intOf v).toNat)
 case atStart => exact ⟨rfl, .inl rfl⟩
 case round =>
  obtain ⟨rfl, rfl | ⟨rfl, rfl⟩ | ⟨rfl, rfl, rfl⟩⟩ := hrel
  ·by_cases hx : x = 0
   ·subst hx
    go_wp2
    go_roundw
    case rel => simp
    case measure => simp [intOf]
   ·go_wp2
    go_ret
    exact ⟨by unfold Jv; rw [if_neg hx]; rfl, rfl⟩
  ·by_cases hy : y = 0
   ·subst hy
    go_wp2
    go_roundw
    case rel => simp
    case measure => simp [intOf]
   ·go_wp2
    go_ret
    exact ⟨by unfold Jv; rw [if_pos rfl]; rfl, rfl⟩
  ·go_wp2
   go_ret
   exact ⟨rfl, rfl⟩
end
section
open Go.RowKit Go.Sort
theorem Mv (b o : Nat) (W : World) : (Instr.fieldAt 55 (.pointer (some ⟨b, o, none⟩)) 0).run Tryz.prog W = .ok (.pointer (some ⟨b, o, none⟩)) W := by kernel_rfl
theorem Mw (b o : Nat) (W : World) : (Instr.fieldAt 55 (.pointer (some ⟨b, o, none⟩)) 1).run Tryz.prog W = .ok (.pointer (some ⟨b, o + 1, none⟩)) W := by kernel_rfl
theorem JZ {B o : Nat} {v : Value} {W : World} (h : W.cell? ⟨B, o, none⟩ = some v) : (Instr.loadAt 3 (.pointer (some ⟨B, o, none⟩))).run Tryz.prog W = .ok v W := by
 simp [Instr.loadAt, Instr.sureAddr, loadVar, isAgg, run_underlying Tryz.underlying3, h]
theorem O8 (x y : Int) (W : World) : (Instr.buildSlice 22 2 #[(0, .int .i64 x), (1, .int .i64 y)]).run Tryz.prog W = .ok (.slice (some ⟨W.heap.size, 0, none⟩) 2 2) (W.alloc (.cells #[.int .i64 x, .int .i64 y] 3)) := by kernel_rfl
def GX (x y : kk) : Int := Jv (Gx x.A y.A) (Gx x.B y.B)
theorem Ir (w : World) (cur : Array Value) (t : TypeId) (j : Nat) (v : Value) (h : cur[j]? = some v) : (w.alloc (.cells cur t)).cell? ⟨w.heap.size, j, none⟩ = some v := by
 rw [World.cell?_alloc_at (w := w) cur t w.heap.size j rfl]
 exact h
theorem Od (x y : kk) (W : World) : Calls Tryz.prog 64 #[.agg #[.int .i64 x.A, .int .i64 x.B], .agg #[.int .i64 y.A, .int .i64 y.B]] W fun e w' => e = .returned (.int .i64 (GX x y)) ∧ ∃ q os', w' = grow (W.drewN q) os' := by
 refine calls_of_wp Tryz.func64 rfl ?_
 simp only [Tryz.ntmps64, FW, FN, FP, Nat.reduceAdd, Nat.reduceSub, Array.replicate_succ, Array.replicate_zero, List.push_toArray, List.append_toArray, Gf, List.cons_append]
 obtain ⟨W1, hW1⟩ : ∃ W1, W1 = W.alloc (.cells #[.int .i64 x.A, .int .i64 x.B] 55) := ⟨_, rfl⟩
 obtain ⟨W2, hW2⟩ : ∃ W2, W2 = W1.alloc (.cells #[.int .i64 y.A, .int .i64 y.B] 55) := ⟨_, rfl⟩
 have s1 : W1.heap.size = W.heap.size + 1 := by rw [hW1]; simp
 have c0 : W2.cell? ⟨W.heap.size, 0, none⟩ = some (.int .i64 x.A) := by rw [hW2, World.cell?_alloc_past (w := W1) _ W.heap.size 0 (by omega), hW1]; exact Ir W _ _ 0 _ rfl
 have c1 : W2.cell? ⟨W.heap.size, 1, none⟩ = some (.int .i64 x.B) := by rw [hW2, World.cell?_alloc_past (w := W1) _ W.heap.size 1 (by omega), hW1]; exact Ir W _ _ 1 _ rfl
 have c2 : W2.cell? ⟨W.heap.size + 1, 0, none⟩ = some (.int .i64 y.A) := by rw [← s1, hW2]; exact Ir W1 _ _ 0 _ rfl
 have c3 : W2.cell? ⟨W.heap.size + 1, 1, none⟩ = some (.int .i64 y.B) := by rw [← s1, hW2]; exact Ir W1 _ _ 1 _ rfl
 have s2 : W2.heap.size = W.heap.size + 2 := by rw [hW2]; simp [s1]
 have hfin : ∃ q os', W2.drew.alloc (.cells #[.int .i64 (Gx x.A y.A), .int .i64 (Gx x.B y.B)] 3) = grow (W.drewN q) os' := by
  refine ⟨1, #[.cells #[.int .i64 x.A, .int .i64 x.B] 55] ++ #[.cells #[.int .i64 y.A, .int .i64 y.B] 55] ++ #[.cells #[.int .i64 (Gx x.A y.A), .int .i64 (Gx x.B y.B)] 3], ?_⟩
  rw [hW2, hW1, alloc_eq_grow, alloc_eq_grow, alloc_eq_grow]
  show grow (grow (grow W.drew _) _) _ = _
  rw [grow_grow, grow_grow]
  rfl
 generalize hn : W.heap.size = n at c0 c1 c2 c3 s2
 refine wp_seq (wp_region ?_)
 show wpOps _ _ _ [0, 1, 2] _ _
 rw [wpOps_cons]
 refine mS (o := _) rfl rfl (v := .pointer (some ⟨n, 0, none⟩)) (w' := W1) (by rw [hW1, ← hn]; kernel_rfl) ?_
 rw [wpOps_cons]
 refine mS (o := _) rfl rfl (v := .pointer (some ⟨n + 1, 0, none⟩)) (w' := W2) (by rw [hW2, ← hn, ← s1]; kernel_rfl) ?_
 rw [wpOps_cons]
 refine mS (o := _) rfl rfl (v := .int .i64 0) (w' := W2) (by kernel_rfl) ?_
 show Code.wp _ _ _ { tmps := #[.agg #[.int .i64 x.A, .int .i64 x.B], .agg #[.int .i64 y.A, .int .i64 y.B], .pointer (some ⟨n, 0, none⟩), .pointer (some ⟨n + 1, 0, none⟩), .int .i64 0, undef, undef, undef, undef, undef, undef, undef, undef, undef, undef, undef, undef], defers := [] } _
 obtain ⟨a0, ha0⟩ : ∃ a0 : Act, a0 = { tmps := #[.agg #[.int .i64 x.A, .int .i64 x.B], .agg #[.int .i64 y.A, .int .i64 y.B], .pointer (some ⟨n, 0, none⟩), .pointer (some ⟨n + 1, 0, none⟩), .int .i64 0, undef, undef, undef, undef, undef, undef, undef, undef, undef, undef, undef, undef], defers := [] } := ⟨_, rfl⟩
 rw [← ha0]
 refine wp_seq ?_
 have v2 : a0.eval (.tmp 2) = .pointer (some ⟨n, 0, none⟩) := by rw [ha0]; rfl
 have v3 : a0.eval (.tmp 3) = .pointer (some ⟨n + 1, 0, none⟩) := by rw [ha0]; rfl
 have c0' : W2.drew.cell? ⟨n, 0, none⟩ = some (.int .i64 x.A) := c0
 have c1' : W2.drew.cell? ⟨n, 1, none⟩ = some (.int .i64 x.B) := c1
 have c2' : W2.drew.cell? ⟨n + 1, 0, none⟩ = some (.int .i64 y.A) := c2
 have c3' : W2.drew.cell? ⟨n + 1, 1, none⟩ = some (.int .i64 y.B) := c3
 have s2' : W2.drew.heap.size = n + 2 := s2
 have k0 : (W2.drew.alloc (.cells #[.int .i64 (Gx x.A y.A), .int .i64 (Gx x.B y.B)] 3)).cell? ⟨n + 2, 0, none⟩ = some (.int .i64 (Gx x.A y.A)) := by rw [← s2']; exact Ir _ _ _ 0 _ rfl
 have k1 : (W2.drew.alloc (.cells #[.int .i64 (Gx x.A y.A), .int .i64 (Gx x.B y.B)] 3)).cell? ⟨n + 2, 1, none⟩ = some (.int .i64 (Gx x.B y.B)) := by rw [← s2']; exact Ir _ _ _ 1 _ rfl
 have r_bs' : (Instr.buildSlice 22 2 #[(0, .int .i64 (Gx x.A y.A)), (1, .int .i64 (Gx x.B y.B))]).run Tryz.prog W2.drew = .ok (.slice (some ⟨n + 2, 0, none⟩) 2 2) (W2.drew.alloc (.cells #[.int .i64 (Gx x.A y.A), .int .i64 (Gx x.B y.B)] 3)) := by rw [← s2']; exact O8 _ _ _
 refine zU (by kernel_rfl) (nt := 17) (fun i' => match i' with
  | 0 => .pointer (some ⟨n, 0, none⟩)
  | 1 => .int .i64 x.A
  | 2 => .pointer (some ⟨n + 1, 0, none⟩)
  | 3 => .int .i64 y.A
  | 4 => .int .i64 (Gx x.A y.A)
  | 5 => .pointer (some ⟨n, 1, none⟩)
  | 6 => .int .i64 x.B
  | 7 => .pointer (some ⟨n + 1, 1, none⟩)
  | 8 => .int .i64 y.B
  | 9 => .int .i64 (Gx x.B y.B)
  | 10 => .slice (some ⟨n + 2, 0, none⟩) 2 2
  | 11 => .int .i64 (GX x y)
  | 12 => .int .i64 (GX x y)
  | _ => undef) (fun d => if d 10 = true then W2.drew.alloc (.cells #[.int .i64 (Gx x.A y.A), .int .i64 (Gx x.B y.B)] 3) else W2.drew) (by rw [ha0]; rfl) (by rw [ha0]) rfl (by kernel_rfl) (by kernel_rfl) (by kernel_rfl) (Cf (by kernel_rfl)) (fun d i' o' a K ho hdi hdep Dt hK => ?_) fun d a hall Dt => ?_
 ·have A : ∀ w, At Tryz.prog 17 (fun _ => False) [] a w := fun w => ⟨fun _ _ h => (by cases h), Dt.size, Dt.defers⟩
  match i', ho with
  | 0, ho =>
   obtain rfl := am ho
   exact mS (o := _) rfl rfl (by simp [execOp, cA, Dt.ev0 2 (by kernel_rfl), v2, Mv]) (hK _ fun _ _ => rfl)
  | 1, ho =>
   obtain rfl := am ho
   have e5 : a.eval (.tmp 5) = _ := Dt.ev 0 rfl (hdep ⟨0, .data⟩ (by simp) rfl) rfl
   have n4 : d 4 = false := Dt.no hdi (j := 4) rfl (e := ⟨1, .data⟩) (by simp) rfl rfl
   have n10 : d 10 = false := Dt.no n4 (j := 10) rfl (e := ⟨4, .data⟩) (by simp) rfl rfl
   exact mS (o := _) rfl rfl (by simp [execOp, cA, e5, n10, JZ c0']) (hK _ fun _ _ => rfl)
  | 2, ho =>
   obtain rfl := am ho
   exact mS (o := _) rfl rfl (by simp [execOp, cA, Dt.ev0 3 (by kernel_rfl), v3, Mv]) (hK _ fun _ _ => rfl)
  | 3, ho =>
   obtain rfl := am ho
   have e7 : a.eval (.tmp 7) = _ := Dt.ev 2 rfl (hdep ⟨2, .data⟩ (by simp) rfl) rfl
   have n4 : d 4 = false := Dt.no hdi (j := 4) rfl (e := ⟨3, .data⟩) (by simp) rfl rfl
   have n10 : d 10 = false := Dt.no n4 (j := 10) rfl (e := ⟨4, .data⟩) (by simp) rfl rfl
   exact mS (o := _) rfl rfl (by simp [execOp, cA, e7, n10, JZ c2']) (hK _ fun _ _ => rfl)
  | 4, ho =>
   obtain rfl := am ho
   have e6 : a.eval (.tmp 6) = _ := Dt.ev 1 rfl (hdep ⟨1, .data⟩ (by simp) rfl) rfl
   have e8 : a.eval (.tmp 8) = _ := Dt.ev 3 rfl (hdep ⟨3, .data⟩ (by simp) rfl) rfl
   refine jz ((A _).rep 1) (d := 9) rfl rfl rfl rfl rfl ⟨_, Tryz.func66, by kernel_rfl, rfl⟩ (vs := #[.int .i64 x.A, .int .i64 y.A]) (by simp [e6, e8]) (Calls.mono (LG x.A y.A _) ?_)
   rintro e w' ⟨rfl, rfl⟩
   refine ⟨_, rfl, ?_⟩
   have := hK _ fun _ _ => rfl
   rwa [show cA d 4 10 = d 10 by simp [cA]] at this
  | 5, ho =>
   obtain rfl := am ho
   exact mS (o := _) rfl rfl (by simp [execOp, cA, Dt.ev0 2 (by kernel_rfl), v2, Mw]) (hK _ fun _ _ => rfl)
  | 6, ho =>
   obtain rfl := am ho
   have e10 : a.eval (.tmp 10) = _ := Dt.ev 5 rfl (hdep ⟨5, .data⟩ (by simp) rfl) rfl
   have n9 : d 9 = false := Dt.no hdi (j := 9) rfl (e := ⟨6, .data⟩) (by simp) rfl rfl
   have n10 : d 10 = false := Dt.no n9 (j := 10) rfl (e := ⟨9, .data⟩) (by simp) rfl rfl
   exact mS (o := _) rfl rfl (by simp [execOp, cA, e10, n10, JZ c1']) (hK _ fun _ _ => rfl)
  | 7, ho =>
   obtain rfl := am ho
   exact mS (o := _) rfl rfl (by simp [execOp, cA, Dt.ev0 3 (by kernel_rfl), v3, Mw]) (hK _ fun _ _ => rfl)
  | 8, ho =>
   obtain rfl := am ho
   have e12 : a.eval (.tmp 12) = _ := Dt.ev 7 rfl (hdep ⟨7, .data⟩ (by simp) rfl) rfl
   have n9 : d 9 = false := Dt.no hdi (j := 9) rfl (e := ⟨8, .data⟩) (by simp) rfl rfl
   have n10 : d 10 = false := Dt.no n9 (j := 10) rfl (e := ⟨9, .data⟩) (by simp) rfl rfl
   exact mS (o := _) rfl rfl (by simp [execOp, cA, e12, n10, JZ c3']) (hK _ fun _ _ => rfl)
  | 9, ho =>
   obtain rfl := am ho
   have e11 : a.eval (.tmp 11) = _ := Dt.ev 6 rfl (hdep ⟨6, .data⟩ (by simp) rfl) rfl
   have e13 : a.eval (.tmp 13) = _ := Dt.ev 8 rfl (hdep ⟨8, .data⟩ (by simp) rfl) rfl
   refine jz ((A _).rep 1) (d := 14) rfl rfl rfl rfl rfl ⟨_, Tryz.func66, by kernel_rfl, rfl⟩ (vs := #[.int .i64 x.B, .int .i64 y.B]) (by simp [e11, e13]) (Calls.mono (LG x.B y.B _) ?_)
   rintro e w' ⟨rfl, rfl⟩
   refine ⟨_, rfl, ?_⟩
   have := hK _ fun _ _ => rfl
   rwa [show cA d 9 10 = d 10 by simp [cA]] at this
  | 10, ho =>
   obtain rfl := am ho
   have e9 : a.eval (.tmp 9) = _ := Dt.ev 4 rfl (hdep ⟨4, .data⟩ (by simp) rfl) rfl
   have e14 : a.eval (.tmp 14) = _ := Dt.ev 9 rfl (hdep ⟨9, .data⟩ (by simp) rfl) rfl
   exact mS (o := _) rfl rfl (by simp [execOp, cA, e9, e14, hdi, r_bs', s2']) (hK _ fun _ _ => rfl)
  | 11, ho =>
   obtain rfl := am ho
   have e15 : a.eval (.tmp 15) = _ := Dt.ev 10 rfl (hdep ⟨10, .data⟩ (by simp) rfl) rfl
   have y10 : d 10 = true := hdep ⟨10, .data⟩ (by simp) rfl
   simp only [y10, if_true] at hK ⊢
   refine jz ((A _).rep 1) (d := 16) rfl rfl rfl rfl rfl ⟨_, Tryz.func65, by kernel_rfl, rfl⟩ (vs := #[.slice (some ⟨n + 2, 0, none⟩) 2 2]) (by simp [e15]) (Calls.mono (Oc (Gx x.A y.A) (Gx x.B y.B) (n + 2) _ k0 k1) ?_)
   rintro e w' ⟨rfl, rfl⟩
   refine ⟨_, rfl, ?_⟩
   have := hK _ fun _ _ => rfl
   rwa [show cA d 11 10 = true by simp [cA, y10], if_pos rfl] at this
  | 12, ho =>
   obtain rfl := am ho
   have e16 : a.eval (.tmp 16) = _ := Dt.ev 11 rfl (hdep ⟨11, .data⟩ (by simp) rfl) rfl
   exact mS (o := _) rfl rfl (by simp [execOp, cA, e16]) (hK _ fun _ _ => rfl)
  | i' + 13, ho => cases ho
 ·rw [if_pos (hall 10 (by decide))]
  have e4 : a.tmps.getD 4 undef = _ := Dt.new 12 _ 4 rfl (hall 12 (by decide)) rfl
  show Code.wp _ _ _ _ _
  refine wp_ret ?_
  obtain ⟨u, e1, e2⟩ := jE (fn := Tryz.f64) (out := .c (.t (.v (.int .i64 (GX x y))))) (ps := [True]) ae ((show At Tryz.prog 17 (fun _ => False) [(4, .c (.t (.v (.int .i64 (GX x y)))))] a (W2.drew.alloc (.cells #[.int .i64 (Gx x.A y.A), .int .i64 (Gx x.B y.B)] 3)) from ⟨(fun t av ht => by
   rw [bo] at ht
   split at ht
   ·rename_i e
    subst e
    obtain rfl := am ht
    exact ⟨e4, rfl⟩
   ·cases ht), Dt.size, Dt.defers⟩).rep 1) (by kernel_rfl) ⟨tv, tv⟩
  obtain ⟨rfl, _⟩ := e2
  exact ⟨Dt.defers, _, e1, rfl, hfin⟩
end
section
open Go.RowKit Go.Sort Go.Proofs
def GN (x : kk) : List Value := [.int .i64 x.A, .int .i64 x.B]
theorem Ht (x y : kk) : ltOf GX x y = GU x y := by
 unfold ltOf GX Jv Gx GU
 rw [Bool.eq_iff_iff]
 simp only [Pu, Bool.or_eq_true, FY]
 grind
theorem Mx : SWO (ltOf GX) where
 irrefl x := by rw [Ht]; exact Bool.eq_false_iff.2 Jq
 trans x y z h1 h2 := by rw [Ht] at *; exact JD h1 h2
 ntrans x y z h1 h2 := by
  rw [Ht] at *
  rw [← Bool.not_eq_true] at *
  simp only [GU, Bool.or_eq_true, FY, Pu] at *
  omega
theorem Oe {K : List kk} (hn : K.Nodup) {M : List kk} (h : ∀ z, z ∈ K ↔ z ∈ M) : (K.mergeSort fun x y => !(ltOf GX) y x) = HR M := by
 have hp := List.mergeSort_perm K fun x y => !(ltOf GX) y x
 refine LY ?_ (Ll M) fun z => ?_
 ·have hs := List.pairwise_mergeSort (le := fun x y => !(ltOf GX) y x) (fun a b c h1 h2 => by
   simp only [Bool.not_eq_true', Ht] at h1 h2 ⊢
   have := Mx.ntrans c b a (by rw [Ht]; exact h2) (by rw [Ht]; exact h1)
   rwa [Ht] at this) (fun a b => by
   simp only [Bool.or_eq_true, Bool.not_eq_true', Ht]
   by_cases h1 : GU b a = true
   ·right
    refine Bool.eq_false_iff.2 fun h2 => Jq (JD h1 h2)
   ·left
    exact Bool.eq_false_iff.2 h1) K
  have hn' := hp.nodup_iff.2 hn
  refine List.Pairwise.imp ?_ (hs.and hn')
  rintro x y ⟨h1, h2⟩
  simp only [Bool.not_eq_true', Ht] at h1
  by_cases h3 : GU x y = true
  ·exact h3
  ·exact absurd (Kw h3 (by rw [h1]; decide)) h2
 ·rw [hp.mem_iff, h, Km]
theorem Nh (blk cap : Nat) (d : Array kk) (w : World) (hH : HoldsK GN 2 w blk 0 d) (hblk : blk < w.heap.size) (hsz : d.size < 4611686018427387904) : Calls Tryz.prog 63 #[.slice (some ⟨blk, 0, none⟩) d.size cap, .func (.func 64) #[] #[]] w fun e w' => e = .returned (.tuple #[]) ∧ ∃ n os, w' = sortWorldK GN 2 w blk 0 n (d.toList.mergeSort fun x y => !(ltOf GX) y x).toArray os :=
 AnyQ.slices_SortFunc_total LX 2 Tryz.isAgg55 Tryz.sizeOf55 GN (fun _ => rfl) (fun x v hv => by simp [GN] at hv; rcases hv with rfl | rfl <;> rfl) GX Mx 64 #[] blk 0 cap d w (enters_of Tryz.func64 (by kernel_rfl) rfl) (fun m os dk _ x y => Od x y _) hH hblk hsz (fun x y h1 h2 => by
  rw [Ht] at h1 h2
  exact Kw (by rw [h1]; decide) (by rw [h2]; decide))
theorem NM (w : World) : Calls Tryz.prog 63 #[.slice none 0 0, .func (.func 64) #[] #[]] w fun e w' => e = .returned (.tuple #[]) ∧ w' = w := AnyF.slices_SortFunc_none LX none 0 _ w
theorem My {m : Nat} {a : Value} {la : List Lit} (h : Tryz.prog.keyLits (m + 1) 3 [a] = some la) : ∃ s, a = .int .i64 s ∧ Wf s := by
 unfold Program.keyLits at h
 simp only [Tryz.underlying3] at h
 cases a with
 | int q s =>
  have h' : (if q = .i64 ∧ (Lit.int .i64 s).wf = true then some [Lit.int .i64 s] else none) = some la := h
  split at h'
  ·rename_i hc
   obtain ⟨rfl, hw⟩ := hc
   exact ⟨_, rfl, hw⟩
  ·cases h'
 | _ => cases h
theorem Of {v : Value} {l : Lit} (h : keyOf Tryz.prog 55 v = some l) : ∃ c : kk, Wf c.A ∧ Wf c.B ∧ v = GE c.A c.B ∧ l = kl c.A c.B := by
 obtain ⟨m, hm⟩ : ∃ m, Tryz.prog.types.size = m + 1 := ⟨Tryz.prog.types.size - 1, by kernel_rfl⟩
 have c3 : Tryz.prog.cellsOf 3 = 1 := by kernel_rfl
 have c55 : Tryz.prog.cellsOf 55 = 2 := by kernel_rfl
 have h' := h
 unfold keyOf at h'
 rw [Tryz.underlying55] at h'
 change (if (Tryz.prog.keyType 55 && v.formed Tryz.prog 55) = true then _ else none) = some l at h'
 split at h'
 rotate_left
 ·cases h'
 rename_i hc
 rw [FY] at hc
 obtain ⟨ls, hls, _⟩ := Option.map_eq_some_iff.1 h'
 rw [hm] at hls
 cases v with
 | agg cs =>
  have hs : cs.size = 2 := by have := hc.2; simpa [Value.formed, Tryz.underlying55, c55] using this
  obtain ⟨L⟩ := cs
  rcases L with _ | ⟨a, _ | ⟨b, _ | ⟨c, L⟩⟩⟩
  ·cases hs
  ·cases hs
  rotate_left
  ·simp at hs
  unfold Program.keyLits at hls
  simp only [Tryz.underlying55] at hls
  rw [if_pos (by simp [c55, Value.cells])] at hls
  simp [c3, Value.cells] at hls
  obtain ⟨la, ha, hls⟩ := Option.bind_eq_some_iff.1 hls
  cases hb : Tryz.prog.keyLits (m + 1) 3 [b] with
  | none => rw [hb] at hls; cases hls
  | some lb =>
   obtain ⟨s, rfl, hs1⟩ := My ha
   obtain ⟨t, rfl, ht1⟩ := My hb
   refine ⟨⟨s, t⟩, hs1, ht1, rfl, ?_⟩
   have h2 : keyOf Tryz.prog 55 (GE s t) = some l := h
   rw [Is hs1 ht1] at h2
   exact (am h2).symm
 | _ => simp [Value.formed, Tryz.underlying55] at hc
end
section
open Go.RowKit Go.Sort Go.Maps
theorem Ni {P : Program} {c : Code} {Q : Exit → Act → World → Prop} (M : Nat → Act → World → Prop) (hs : ∀ n a w, M n a w → c.wp P (fun e a' w' => (e = .normal ∧ ∃ n', n' < n ∧ M n' a' w') ∨ (e ≠ .normal ∧ Q e a' w')) a w) {n : Nat} {a : Act} {w : World} (h : M n a w) : (Code.loop c).wp P Q a w := by
 intro b k cs
 have key : ∀ (n : Nat) (a : Act) (w : World), M n a w → ∃ e a' w', Q e a' w' ∧ Arrives P (lone (b.at a (.code c :: .inLoop c :: k)) cs w) b k cs e a' w' := by
  intro n
  induction n using Nat.strongRecOn with
  | _ n ih =>
   intro a w h
   obtain ⟨e, a₁, w₁, hq, harr⟩ := hs n a w h b (.inLoop c :: k) cs
   rcases hq with ⟨rfl, n', hn, hM⟩ | ⟨hne, hq⟩
   ·obtain ⟨e₂, a₂, w₂, hq₂, harr₂⟩ := ih n' hn a₁ w₁ hM
    exact ⟨e₂, a₂, w₂, hq₂, .of_steps (Steps.trans harr (.one step_inLoop)) harr₂⟩
   ·refine ⟨e, a₁, w₁, hq, ?_⟩
    cases e with
    | normal => exact absurd rfl hne
    | exit id => exact .pass (x := .inLoop c) rfl (fun _ _ => .inl (by simp)) harr
    | goto l => exact .pass (x := .inLoop c) rfl (fun _ _ => .inl (by simp)) harr
    | ret => exact .pass (x := .inLoop c) rfl (fun _ _ => .inl (by simp)) harr
    | panic ch => exact .pass (x := .inLoop c) rfl (fun _ _ => .inl (by simp)) harr
    | outgrown => exact .pass (x := .inLoop c) rfl (fun _ _ => .inl (by simp)) harr
 obtain ⟨e, a', w', hq, harr⟩ := key n a w h
 exact ⟨e, a', w', hq, .of_steps (.one step_loop) harr⟩
def flatC (K : List kk) : List Value := K.flatMap fun x => [.int .i64 x.A, .int .i64 x.B]
def badL (b r : Nat) (v : Value) (x : Nat) : Prop := x = b ∨ x = r ∨ v.ownBlock = some x
structure Al (n0 : Nat) (w0 : World) (b r n : Nat) (D : DataW Unit) (V : List (Nat × kk)) (msk : Nat) (tm : List (Nat × AV)) (K : List kk) (v : Value) (left : Lit → Bool) (cnt : Nat) (a : Act) (w : World) : Prop where
 at_ : At Tryz.prog 39 (badL b r v) tm a w
 rg : w.ranges Tryz.prog 55 (plainElem Tryz.prog 3) b r n D left cnt
 own : w.ownsRow n0 55 2 v K.length (flatC K)
 apb : v.ownBlock ≠ some b
 apr : v.ownBlock ≠ some r
 bel : Below n0 w0 w
 sz : n0 ≤ w.heap.size
 hb : n0 ≤ b
 hr : n0 ≤ r
 nod : K.Nodup
 mem : ∀ c : kk, Wf c.A → Wf c.B → (c ∈ K ↔ (Maps.has D (kl c.A c.B) = true ∧ left (kl c.A c.B) = false ∧ Gs V c &&& msk ≠ 0))
 wf : ∀ c ∈ K, Wf c.A ∧ Wf c.B
 len : K.length + cnt ≤ 1000000000
theorem Al.lt {n0 : Nat} {w0 : World} {b r n : Nat} {D : DataW Unit} {V : List (Nat × kk)} {msk : Nat} {tm : List (Nat × AV)} {K : List kk} {v : Value} {left : Lit → Bool} {cnt : Nat} {a : Act} {w : World} (H : Al n0 w0 b r n D V msk tm K v left cnt a w) : ∀ x, badL b r v x → x < w.heap.size := fun x hx => by
 rcases hx with rfl | rfl | hx
 ·exact H.rg.owns.lt
 ·exact H.rg.lt
 ·exact (H.own.lt x hx).2
theorem Al.next {n0 : Nat} {w0 : World} {b r n : Nat} {D : DataW Unit} {V : List (Nat × kk)} {msk : Nat} {tm tm' : List (Nat × AV)} {K : List kk} {v : Value} {left : Lit → Bool} {cnt : Nat} {a a' : Act} {w w' : World} (H : Al n0 w0 b r n D V msk tm K v left cnt a w) (h1 : At Tryz.prog 39 (badL b r v) tm' a' w') (h2 : Below w.heap.size w w') : Al n0 w0 b r n D V msk tm' K v left cnt a' w' := by
 have g : w.grownBy w' none := ⟨h2.os, h2.tape, h2.output, h2.size, fun k hk _ => h2.block k hk⟩
 exact ⟨h1, H.rg.kept g (by simp) (by simp), H.own.kept g (by cases v.ownBlock <;> simp), H.apb, H.apr, H.bel.trans (h2.mono H.sz), Ga H.sz h2.size, H.hb, H.hr, H.nod, H.mem, H.wf, H.len⟩
theorem OM {m k : Nat} (hm : m < 256) (hk : k < 256) : dG .i64 (m : Int) (k : Int) = ((m &&& k : Nat) : Int) := by
 have h : m &&& k ≤ m := Nat.and_le_left
 show i64.wrap ((BitVec.ofInt 64 (m : Int) &&& BitVec.ofInt 64 (k : Int)).toNat : Int) = _
 simp only [BitVec.ofInt_natCast, BitVec.toNat_and, BitVec.toNat_ofNat]
 rw [Nat.mod_eq_of_lt (by omega), Nat.mod_eq_of_lt (by omega)]
 exact ip (by omega) (by omega)
def G2 (p0 p1 : List (List aH)) (msk : Nat) : List kk := HR (((GF p0 p1 p0.length).map Prod.snd).filter fun c => Gs (GF p0 p1 p0.length) c &&& msk ≠ 0)
end
section
open Go.RowKit Go.Sort Go.Proofs
theorem Og {p0 p1 : List (List aH)} {n : Nat} {e : Nat × kk} : e ∈ GF p0 p1 n ↔ ∃ x y, e.1 < n ∧ x ∈ p0.getD e.1 [] ∧ y ∈ p1.getD e.1 [] ∧ x.Hash = y.Hash ∧ e.2.A ∈ x.IDs ∧ e.2.B ∈ y.IDs := by
 unfold GF Ju Iy
 simp only [PC, List.mem_range]
 constructor
 ·rintro ⟨q, hq, x, hx, y, hy, he⟩
  split at he
  ·rename_i hh
   unfold Ie at he
   obtain ⟨s, hs, he⟩ := PC.1 he
   obtain ⟨t, ht, rfl⟩ := Pz.1 he
   exact ⟨x, y, hq, hx, hy, hh, hs, ht⟩
  ·cases he
 ·rintro ⟨x, y, hq, hx, hy, hh, hs, ht⟩
  refine ⟨e.1, hq, x, hx, y, hy, ?_⟩
  rw [if_pos hh]
  unfold Ie
  exact PC.2 ⟨e.2.A, hs, Pz.2 ⟨e.2.B, ht, rfl⟩⟩
theorem xc.idw {l : List aH} (h : xc l) {x : aH} (hx : x ∈ l) {s : Int} (hs : s ∈ x.IDs) : Wf s := by
 have := h.rng s (PC.2 ⟨x, hx, hs⟩)
 exact KM (by omega) (by omega)
theorem ON {p0 p1 : List (List aH)} (hg : HS p0 p1) : ∀ e ∈ GF p0 p1 p0.length, e.1 < 8 ∧ Wf e.2.A ∧ Wf e.2.B := fun e he => by
 obtain ⟨x, y, h1, h2, h3, _, h4, h5⟩ := Og.1 he
 have := hg.len8
 exact ⟨by omega, (hg.g0 _ h1).idw h2 h4, (hg.g1 _ h1).idw h3 h5⟩
theorem Lm : ∀ {K : List kk} {i : Nat} {c : kk}, K[i]? = some c → (flatC K)[i * 2]? = some (.int .i64 c.A) ∧ (flatC K)[i * 2 + 1]? = some (.int .i64 c.B)
 | x :: K, 0, c, h => by simp at h; subst h; exact ⟨rfl, rfl⟩
 | x :: K, i + 1, c, h => by
  have := Lm (K := K) (i := i) (c := c) (by simpa using h)
  rw [show (i + 1) * 2 = i * 2 + 1 + 1 by omega]
  simpa [flatC] using this
 | [], _, _, h => by simp at h
theorem Ln (d : Array kk) {i : Nat} (h : i < d.size) : (flatK GN 2 d)[i * 2]! = .int .i64 d[i]!.A ∧ (flatK GN 2 d)[i * 2 + 1]! = .int .i64 d[i]!.B := by
 refine ⟨?_, ?_⟩
 ·rw [get_flatK GN 2 d _ (by omega), show i * 2 / 2 = i by omega, show i * 2 % 2 = 0 by omega]; rfl
 ·rw [get_flatK GN 2 d _ (by omega), show (i * 2 + 1) / 2 = i by omega, show (i * 2 + 1) % 2 = 1 by omega]; rfl
theorem L3 {K : List kk} {i : Nat} {c : kk} (h : K[i]? = some c) : K.toArray[i]! = c := by
 obtain ⟨h1, h2⟩ := List.getElem?_eq_some_iff.1 h
 rw [getElem!_pos K.toArray i (by simpa using h1)]
 simpa using h2
theorem Lp {w : World} {n0 g cap : Nat} {K : List kk} (h : w.ownsRow n0 55 2 (.slice (some ⟨g, 0, none⟩) K.length cap) K.length (flatC K)) : HoldsK GN 2 w g 0 K.toArray := fun j hj => by
 rw [size_flatK] at hj
 have hj : j < K.length * 2 := by simpa using hj
 refine ⟨?_, by rw [Gg]; exact h.frozenAt j⟩
 rw [Gg, h.cellAt j hj]
 obtain ⟨c, hc⟩ : ∃ c, K[j / 2]? = some c := ⟨_, FJ (by omega)⟩
 obtain ⟨e1, e2⟩ := Lm hc
 obtain ⟨f1, f2⟩ := Ln K.toArray (i := j / 2) (by simp; omega)
 rw [L3 hc] at f1 f2
 rcases (show j % 2 = 0 ∨ j % 2 = 1 by omega) with h | h
 ·rw [show j / 2 * 2 = j by omega] at e1 f1
  rw [e1]
  exact congrArg some f1.symm
 ·rw [show j / 2 * 2 + 1 = j by omega] at e2 f2
  rw [e2]
  exact congrArg some f2.symm
theorem K0 {w : World} {g n : Nat} {os : Array Obj} (d : Array kk) : w.grownBy (sortWorldK GN 2 w g 0 n d os) (some g) := by
 refine ⟨rfl, rfl, rfl, ?_, fun k hk hne => ?_⟩
 ·unfold sortWorldK putRowK
  rw [show (grow (putRow id (Sort.ahead w n) g 0 (flatK GN 2 d)) os).heap.size = (putRow id (Sort.ahead w n) g 0 (flatK GN 2 d)).heap.size + os.size by simp [grow], size_putRow]
  exact Nat.le_add_right _ _
 ·unfold sortWorldK putRowK
  rw [heap_grow_old _ _ (by rw [size_putRow]; exact hk)]
  have : g ≠ k := fun e => hne (by rw [e])
  simp [putRow, mapBlock, Sort.ahead, Array.getElem?_modify, this]
theorem MN {w : World} {n0 g cap n : Nat} {os : Array Obj} {K R : List kk} {ok : Nat → Prop} {ρ : Vm.Ren} (h : w.ownsRow n0 55 2 (.slice (some ⟨g, 0, none⟩) K.length cap) K.length (flatC K)) (hgw : g < w.heap.size) (hl : R.length = K.length) (hc : K.length ≤ cap) (hok : ok g) : RV (sortWorldK GN 2 w g 0 n R.toArray os) ok ρ (vl 2 HE R) (.slice (some ⟨g, 0, none⟩) K.length cap) := by
 refine ⟨some ⟨g, 0, none⟩, cap, by rw [hl], by rw [hl]; exact hc, fun i hi j hj => ?_⟩
 have hH : HoldsK GN 2 (Sort.ahead w n) g 0 K.toArray := Lp h
 have h1 := fun k hk => cell?_putRow id (Sort.ahead w n) g 0 (flatK GN 2 K.toArray) (flatK GN 2 R.toArray) hH (by simp [hl]) k hk
 obtain ⟨c, hcc⟩ : ∃ c, R[i]? = some c := ⟨_, FJ hi⟩
 obtain ⟨f1, f2⟩ := Ln R.toArray (i := i) (by simpa using hi)
 rw [L3 hcc] at f1 f2
 have hcd : R.getD i G6 = c := by rw [FI, hcc]; rfl
 have hsz : g < (putRow id (Sort.ahead w n) g 0 (flatK GN 2 R.toArray)).heap.size := by rw [size_putRow]; exact hgw
 have hRs : HE R i j = (Kb c).getD j (.v undef) := by
  show (Kb (R.getD i G6)).getD j _ = _
  rw [hcd]
 match j, hj with
 | 0, _ =>
  refine ⟨g, 0, .int .i64 c.A, rfl, hok, ?_, by rw [hRs]; exact ⟨rfl, rfl⟩⟩
  unfold sortWorldK putRowK
  rw [cell?_grow _ _ _ hsz, show 0 + i * 2 + 0 = 0 + i * 2 by omega, h1 (i * 2) (by simp; omega), f1]
  rfl
 | 1, _ =>
  refine ⟨g, 0, .int .i64 c.B, rfl, hok, ?_, by rw [hRs]; exact ⟨rfl, rfl⟩⟩
  unfold sortWorldK putRowK
  rw [cell?_grow _ _ _ hsz, show 0 + i * 2 + 1 = 0 + (i * 2 + 1) by omega, h1 (i * 2 + 1) (by simp; omega), f2]
  rfl
end
section
open Go.RowKit
theorem Oh {d c : kk} (h1 : Wf d.A) (h2 : Wf d.B) (h3 : Wf c.A) (h4 : Wf c.B) : (kl d.A d.B).sameKey (kl c.A c.B) = decide (d = c) := by
 obtain ⟨x, hx⟩ := Jp.str (Is h1 h2)
 obtain ⟨y, hy⟩ := Jp.str (Is h3 h4)
 by_cases e : d = c
 ·subst e
  rw [hx, Pw rfl]
  simp [Lit.sameKey]
 ·have hne : kl d.A d.B ≠ kl c.A c.B := fun h' => e (by
   obtain ⟨q1, q2⟩ := Mh h1 h2 h3 h4 h'
   cases d; cases c
   simp only at q1 q2
   rw [q1, q2])
  rw [Pv e]
  rw [hx, hy] at hne ⊢
  simp only [Lit.sameKey]
  simpa using hne
end
section
open Go.RowKit Go.Sort Go.Maps Go.Proofs
theorem Nj (p0 p1 : List (List aH)) (p2 : Int) (hg : HS p0 p1) (hp : 0 ≤ p2 ∧ p2 < 256) (hc : IJ p0 p1 p2 = some 0) (w : World) (ok : Nat → Prop) (x0 x1 x2 : Value) (hok : ∀ b, ok b → b < w.heap.size) (h0 : RV w ok (fun _ => none) (vl 1 dF p0) x0) (h1 : RV w ok (fun _ => none) (vl 1 dF p1) x1) (h2 : RV w ok (fun _ => none) (af p2) x2) :
  Calls Tryz.prog 26 #[x0, x1, x2] w fun e w' => ∃ v, e = .returned (.tuple #[v, .int .i64 0]) ∧ Below w.heap.size w w' ∧ RV w' (fun b => w.heap.size ≤ b ∧ b < w'.heap.size) (fun _ => none) (vl 2 HE (G2 p0 p1 p2.toNat)) v := by
 refine calls_of_wp Tryz.func26 rfl ?_
 have H0 : A0 Tryz.prog 39 w.heap.size w [(0, vl 1 dF p0), (1, vl 1 dF p1), (2, af p2)] { tmps := #[x0, x1, x2] ++ Array.replicate (Tryz.f26.ntmps - 3) undef, defers := [] } w := FF hok rfl fun t av ht => by
  match t, ht with
  | 0, ht => obtain rfl := am ht; exact ⟨by simp, h0⟩
  | 1, ht => obtain rfl := am ht; exact ⟨by simp, h1⟩
  | 2, ht => obtain rfl := am ht; exact ⟨by simp, h2⟩
  | t + 3, ht => cases ht
 refine wp_seq (H0.run (tm' := [(0, vl 1 dF p0), (1, vl 1 dF p1), (2, af p2)]) (aS ae [] 3 ⟨rfl, ai []⟩) rfl fun a1 w1 H1 => ?_)
 refine wp_seq (wp_seq (H1.run (tm' := [(8, af 0), (0, vl 1 dF p0), (1, vl 1 dF p1), (2, af p2)]) (au ae [(8, af 0)] 5 [hn, hn, hn, hk (C1 p0 p1 p2 0 hc)] ⟨rfl, ai []⟩) rfl fun a2 w2 H2 => ?_))
 refine wp_seq (H2.run (tm' := [(17, vb false), (0, vl 1 dF p0), (1, vl 1 dF p1), (2, af p2)]) (aS ae [(17, vb false)] 3 ⟨rfl, ai []⟩) rfl fun a3 w3 H3 => wp_cond_false (H3.at_.val (t := 17) rfl) (wp_skip ?_))
 show Code.wp _ _ _ _ _
 refine wp_seq (H3.run (tm' := [(9, Gu (.slice none 0 0)), (0, vl 1 dF p0), (1, vl 1 dF p1), (2, af p2)]) (aS ae [(9, Gu (.slice none 0 0))] 2 ⟨rfl, ai []⟩) rfl fun a4 w4 H4 => ?_)
 clear H0 H1 H2 H3 h0 h1 h2
 refine wp_seq (wp_seq (H4.at_.cut (fun x e => e.elim) ae 2 2 (tm' := [(19, vl 1 dF p0), (20, vl 1 dF p1), (9, Gu (.slice none 0 0)), (2, af p2)]) [] (by kernel_rfl) rfl fun a5 w5 A5 B5 => ?_))
 have hb5 := H4.bel.trans (B5.mono H4.sz)
 have hs5 := Ga H4.sz B5.size
 clear H4 B5
 rw [show List.range' 2 2 = [2, 3] from rfl, wpOps_cons]
 refine jz (A5.rep 1) (d := 21) rfl rfl rfl rfl rfl ⟨_, Tryz.func62, by kernel_rfl, rfl⟩ (vs := #[a5.eval (.tmp 19), a5.eval (.tmp 20)]) (by simp) (Calls.mono (Ob p0 p1 hg w5 _ _ _ (fun b h => h.1) (A5.tmp 19 _ rfl) (A5.tmp 20 _ rfl)) ?_)
 rintro e w6 ⟨b, D, rfl, B6, hbn, hD, n, hn, hown⟩
 refine ⟨_, rfl, ?_⟩
 have A6 := (A5.below B6).putv 21 (by decide) (v := .map (some b)) (av := Gu (.map (some b))) ⟨rfl, rfl⟩
 have hb6 := hb5.trans (B6.mono hs5)
 have hs6 := Ga hs5 B6.size
 show wpOps _ _ _ [3] (a5.put (some 21) (.map (some b))) w6
 generalize a5.put (some 21) (.map (some b)) = a6 at A6 ⊢
 rw [wpOps_cons]
 obtain ⟨w7, hrun, hrg, hgr, hs7⟩ := hown.range (t := 135) IQ Tryz.underlying135
 have v21 : a6.eval (.tmp 21) = .map (some b) := A6.val (t := 21) rfl
 refine mS (o := _) rfl rfl (v := .pointer (some ⟨w6.heap.size, 0, none⟩)) (w' := w7) (by simp [execOp, v21, hrun]) ?_
 have hbn0 : w.heap.size ≤ b := Ga hs5 hbn
 have hbw6 : b < w6.heap.size := hown.lt
 have hB7 : Below w6.heap.size w6 w7 := ⟨hgr.os, hgr.tape, hgr.output, hgr.size, fun k hk => hgr.block k hk (by simp)⟩
 have A7 := (A6.below hB7).putv 22 (by decide) (v := .pointer (some ⟨w6.heap.size, 0, none⟩)) (av := Gu (.pointer (some ⟨w6.heap.size, 0, none⟩))) ⟨rfl, rfl⟩
 obtain ⟨V, hV⟩ : ∃ V, V = GF p0 p1 p0.length := ⟨_, rfl⟩
 have hVlt : ∀ e ∈ V, e.1 < 8 := by
  rw [hV, ← J3]
  intro e he
  by_cases hz : p0.length = 0
  ·have := KN e he
   omega
  ·rw [J3] at he
   unfold GF at he
   obtain ⟨q, hq, he⟩ := PC.1 he
   have h3 : e ∈ vL p0 p1 (q + 1) 0 0 0 0 := by
    rw [J3]
    unfold GF
    exact PC.2 ⟨q, List.mem_range.2 (Nat.lt_succ_self _), he⟩
   rw [← MC] at h3
   have h4 := KN e h3
   have := List.mem_range.1 hq
   have := hg.len8
   omega
 rw [← hV] at hD
 have hcnt : Maps.size D ≤ 1000000000 := Ga hown.size_le hn
 have I0 : Al w.heap.size w b w6.heap.size n D V p2.toNat [(2, af p2), (9, Gu (.slice none 0 0)), (22, Gu (.pointer (some ⟨w6.heap.size, 0, none⟩)))] [] (.slice none 0 0) (Maps.has D) (Maps.size D) (a6.put (some 22) (.pointer (some ⟨w6.heap.size, 0, none⟩))) w7 := by
  refine ⟨?_, hrg, World.ownsRow_nil _ _ _ _, (by intro e; cases e), (by intro e; cases e), hb6.trans (hB7.mono hs6), Ga hs6 hB7.size, hbn0, hs6, List.nodup_nil, fun c h1 h2 => ?_, (fun c h => by cases h), (by simp; omega)⟩
  ·exact (A7.sub (tm' := [(2, af p2), (9, Gu (.slice none 0 0)), (22, Gu (.pointer (some ⟨w6.heap.size, 0, none⟩)))]) (by kernel_rfl)).plain (by kernel_rfl)
  ·constructor
   ·intro h; cases h
   ·rintro ⟨e1, e2, _⟩
    rw [e1] at e2
    cases e2
 clear A5 A6 A7 hrun hgr hB7 hrg hown B6 v21 hb5 hb6
 have hr0 : w.heap.size ≤ w6.heap.size := hs6
 show wpOps _ _ _ [] (a6.put (some 22) (.pointer (some ⟨w6.heap.size, 0, none⟩))) w7
 generalize a6.put (some 22) (.pointer (some ⟨w6.heap.size, 0, none⟩)) = a7 at I0 ⊢
 generalize w6.heap.size = r at I0 hr0 hbw6 hs7 ⊢
 show Code.wp _ _ _ a7 w7
 refine wp_block (Ni (fun cnt a w' => ∃ K v left, Al w.heap.size w b r n D V p2.toNat [(2, af p2), (9, Gu v), (22, Gu (.pointer (some ⟨r, 0, none⟩)))] K v left cnt a w') (fun cnt a w' ⟨K, v, left, H⟩ => ?_) ⟨_, _, _, I0⟩)
 have v22 : a.eval (.tmp 22) = .pointer (some ⟨r, 0, none⟩) := H.at_.val (t := 22) rfl
 refine wp_seq (wp_region ?_)
 show wpOps _ _ _ [0, 1] _ _
 rw [wpOps_cons]
 have hbad := H.lt
 rcases H.rg.next IQ 0 with ⟨hc0, hl0, hrun⟩ | ⟨key, vv, kl', y, w8, cnt', hkey, hleft, hR, hat, hrun, hrg', hlt, hgr, hsz, hent⟩
 ·refine mS (o := _) rfl rfl (v := .tuple #[.bool false]) (w' := w') (by simp [execOp, v22, hrun]) ?_
  have A1 := H.at_.skip 23 (.tuple #[.bool false]) rfl
  show wpOps _ _ _ [1] (a.put (some 23) (.tuple #[.bool false])) w'
  have v23 : (a.put (some 23) (.tuple #[.bool false])).eval (.tmp 23) = .tuple #[.bool false] := dU _ (by rw [H.at_.size]; decide)
  generalize a.put (some 23) (.tuple #[.bool false]) = a1 at A1 v23 ⊢
  rw [wpOps_cons]
  refine mS (o := _) rfl rfl (v := .bool false) (w' := w') (by simp [execOp, v23, Instr.extract]) ?_
  have A2 := A1.putv 24 (by decide) (v := .bool false) (av := vb false) ⟨rfl, rfl⟩
  show wpOps _ _ _ [] (a1.put (some 24) (.bool false)) w'
  generalize a1.put (some 24) (.bool false) = a2 at A2 ⊢
  show Code.wp _ _ _ a2 w'
  refine wp_seq (wp_cond_false (A2.val (t := 24) rfl) (wp_exit (.inr ⟨(by intro e; cases e), ?_⟩)))
  show Code.wp _ _ _ a2 w'
  have hKV : ∀ z, z ∈ K ↔ z ∈ (V.map Prod.snd).filter fun c => Gs V c &&& p2.toNat ≠ 0 := fun z => by
   rw [List.mem_filter, Pz]
   constructor
   ·intro hz
    obtain ⟨w1, w2⟩ := H.wf z hz
    obtain ⟨q1, _, q3⟩ := (H.mem z w1 w2).1 hz
    rw [(hD z w1 w2).2] at q1
    exact ⟨of_decide_eq_true q1, by simpa using q3⟩
   ·rintro ⟨⟨e, he, rfl⟩, q3⟩
    have hw := ON hg e (by rw [← hV]; exact he)
    refine (H.mem e.2 hw.2.1 hw.2.2).2 ⟨?_, hl0 _, by simpa using q3⟩
    rw [(hD e.2 hw.2.1 hw.2.2).2]
    exact Pw ⟨e, he, rfl⟩
  have hsort : (K.mergeSort fun x y => !(ltOf GX) y x) = G2 p0 p1 p2.toNat := by
   unfold G2
   rw [← hV]
   exact Oe H.nod hKV
  have hRl : (G2 p0 p1 p2.toNat).length = K.length := by rw [← hsort, List.length_mergeSort]
  refine wp_seq (A2.cut hbad ae 1 1 (tm' := [(36, Gu v), (9, Gu v)]) [] (by kernel_rfl) rfl fun a3 w9 A3 B3 => ?_)
  have own9 := H.own.kept (w' := w9) (row := none) ⟨B3.os, B3.tape, B3.output, B3.size, fun k hk _ => B3.block k hk⟩ (by cases v.ownBlock <;> simp)
  have hb9 := H.bel.trans (B3.mono H.sz)
  have hs9 := Ga H.sz B3.size
  rw [show List.range' 1 1 = [1] from rfl, wpOps_cons]
  have v36 : a3.eval (.tmp 36) = v := A3.val (t := 36) rfl
  have hlen := H.len
  have hsw : Calls Tryz.prog 63 #[v, .func (.func 64) #[] #[]] w9 fun e w' => e = .returned (.tuple #[]) ∧ Below w.heap.size w w' ∧ RV w' (fun b => w.heap.size ≤ b ∧ b < w'.heap.size) (fun _ => none) (vl 2 HE (G2 p0 p1 p2.toNat)) v := by
   rcases own9.2 with ⟨rfl, hz⟩ | ⟨g, cap, cur, rfl, hbg, hg9, hnc, hcm, hcs, htk⟩
   ·refine (NM w9).mono ?_
    rintro e w' ⟨rfl, rfl⟩
    exact ⟨rfl, hb9, ⟨none, 0, by rw [hRl, hz], by rw [hRl]; omega, fun i hi => by omega⟩⟩
   ·have hgw : g < w9.heap.size := (Array.getElem?_eq_some_iff.1 hg9).1
    have := Nh g cap K.toArray w9 (Lp own9) hgw (by simp; omega)
    rw [FW] at this
    refine this.mono ?_
    rintro e w' ⟨rfl, m, os, rfl⟩
    refine ⟨rfl, hb9.grown (K0 _) hs9 (fun x e => by injection e with e; subst e; exact hbg), ?_⟩
    have hg' := (K0 (w := w9) (g := g) (n := m) (os := os) (List.mergeSort K fun x y => !(ltOf GX) y x).toArray).size
    have h3 := MN (n := m) (os := os) (R := G2 p0 p1 p2.toNat) (ok := fun b => w.heap.size ≤ b ∧ b < (sortWorldK GN 2 w9 g 0 m (List.mergeSort K fun x y => !(ltOf GX) y x).toArray os).heap.size) (ρ := fun _ => none) own9 hgw hRl hnc ⟨hbg, Gb hgw hg'⟩
    rw [hsort] at h3 ⊢
    exact h3
  refine jz (A3.rep 1) (d := 37) rfl rfl rfl rfl rfl ⟨_, Tryz.func63, by kernel_rfl, rfl⟩ (vs := #[v, .func (.func 64) #[] #[]]) (by simp [v36]; rfl) (Calls.mono hsw ?_)
  rintro e w10 ⟨rfl, hb10, hrv⟩
  refine ⟨_, rfl, ?_⟩
  show wpOps _ _ _ [] (a3.put (some 37) (.tuple #[])) w10
  have A4 := ((A3.skip 37 (.tuple #[]) rfl).plain (bad' := fun _ => False) (w' := w10) (by kernel_rfl))
  generalize a3.put (some 37) (.tuple #[]) = a4 at A4 ⊢
  show Code.wp _ _ _ a4 w10
  refine wp_seq (A4.run (fun x e => e.elim) (tm' := [(6, Gu v), (7, af 0)]) (aS ae [(6, Gu v), (7, af 0)] 4 ⟨rfl, ai []⟩) rfl fun a5 w11 A5 B5 => wp_ret ?_)
  obtain ⟨u, e1, e2⟩ := jE (fn := Tryz.f26) (out := .tup [Gu v, af 0]) (ps := [True, True]) ae (A5.rep 1) (by kernel_rfl) ⟨tv, tv, tv⟩
  refine ⟨A5.defers, u, e1, v, ?_, hb10.trans (B5.mono hb10.size), RV.mono ⟨fun x hx => ⟨hx.1, Gb hx.2 B5.size⟩, fun x hx => B5.block x hx.2⟩ (E1 _) _ _ hrv⟩
  obtain ⟨⟨ys⟩, rfl, h1⟩ := e2
  rcases ys with _ | ⟨y0, _ | ⟨y1, _ | ⟨y2, ys⟩⟩⟩
  ·exact h1.elim
  ·exact h1.2.elim
  ·obtain ⟨⟨rfl, _⟩, ⟨rfl, _⟩, _⟩ := h1
   rfl
  ·exact h1.2.2.elim
 ·obtain ⟨c, hcA, hcB, rfl, rfl⟩ := Of hkey
  obtain ⟨m, rfl, rfl, hmw⟩ := plainElem_int_inv Tryz.underlying3 hR
  have hm1 := (hD c hcA hcB).1
  rw [hat] at hm1
  injection hm1 with hm1
  injection hm1 with _ hm1
  have hhas : Maps.has D (kl c.A c.B) = true := Maps.has_true_of_atKey hat
  have hm8 : Gs V c < 256 := Mi hVlt c
  subst hm1
  refine mS (o := _) rfl rfl (v := .tuple #[.bool true, GE c.A c.B, .int .i64 (Gs V c : Int)]) (w' := w8) (by simp [execOp, v22, hrun]) ?_
  have A1 := H.at_.skip 23 (.tuple #[.bool true, GE c.A c.B, .int .i64 (Gs V c : Int)]) rfl
  show wpOps _ _ _ [1] (a.put (some 23) (.tuple #[.bool true, GE c.A c.B, .int .i64 (Gs V c : Int)])) w8
  have v23 : (a.put (some 23) (.tuple #[.bool true, GE c.A c.B, .int .i64 (Gs V c : Int)])).eval (.tmp 23) = .tuple #[.bool true, GE c.A c.B, .int .i64 (Gs V c : Int)] := dU _ (by rw [H.at_.size]; decide)
  generalize a.put (some 23) (.tuple #[.bool true, GE c.A c.B, .int .i64 (Gs V c : Int)]) = a1 at A1 v23 ⊢
  rw [wpOps_cons]
  refine mS (o := _) rfl rfl (v := .bool true) (w' := w8) (by simp [execOp, v23, Instr.extract]) ?_
  have A2 := (A1.putv 24 (by decide) (v := .bool true) (av := vb true) ⟨rfl, rfl⟩).plain (bad' := badL b r v) (w' := w8) (by kernel_rfl)
  show wpOps _ _ _ [] (a1.put (some 24) (.bool true)) w8
  generalize a1.put (some 24) (.bool true) = a2 at A2 ⊢
  show Code.wp _ _ _ a2 w8
  refine wp_seq (wp_cond_true (A2.val (t := 24) rfl) (wp_skip ?_))
  refine wp_block ?_
  have hcK : c ∉ K := fun h => by
   have := ((H.mem c hcA hcB).1 h).2.1
   rw [hleft] at this
   cases this
  have H8 : ∀ (K' : List kk), (K' = K ∧ Gs V c &&& p2.toNat = 0 ∨ K' = K ++ [c] ∧ Gs V c &&& p2.toNat ≠ 0) → ∀ d : kk, Wf d.A → Wf d.B → (d ∈ K' ↔ (Maps.has D (kl d.A d.B) = true ∧ (left (kl d.A d.B) && !(kl d.A d.B).sameKey (kl c.A c.B)) = false ∧ Gs V d &&& p2.toNat ≠ 0)) := fun K' hK' d h1 h2 => by
   rw [Oh h1 h2 hcA hcB]
   by_cases hdc : d = c
   ·subst hdc
    rcases hK' with ⟨rfl, hz⟩ | ⟨rfl, hz⟩
    ·simp [hcK, hz]
    ·simp [hhas, hz]
   ·have := H.mem d h1 h2
    rcases hK' with ⟨rfl, hz⟩ | ⟨rfl, hz⟩
    ·rw [this]; simp [hdc]
    ·rw [F2, this]; simp [hdc]
  have hbel8 := H.bel.grown hgr H.sz (fun x e => by injection e with e; subst e; exact H.hr)
  have hs8 : w.heap.size ≤ w8.heap.size := by rw [hsz]; exact H.sz
  have own8 := H.own.kept hgr (by cases ho : v.ownBlock with
   | none => exact .inl rfl
   | some x => exact .inr fun e => H.apr (ho.trans e))
  have hbad8 : ∀ x, badL b r v x → x < w8.heap.size := fun x hx => by rw [hsz]; exact hbad x hx
  have v22' : a2.eval (.tmp 22) = .pointer (some ⟨r, 0, none⟩) := A2.val (t := 22) rfl
  refine wp_seq (wp_region ?_)
  show wpOps _ _ _ [0, 1, 2, 3, 4, 5] _ _
  rw [wpOps_cons]
  refine mS (o := _) rfl rfl (v := .tuple #[GE c.A c.B, .int .i64 (Gs V c : Int)]) (w' := w8) (by simp [execOp, v22', hent]) ?_
  have A3 := A2.putv 25 (by decide) (v := .tuple #[GE c.A c.B, .int .i64 (Gs V c : Int)]) (av := .tup [.agg [ag c.A, ag c.B], af (Gs V c : Int)]) ⟨_, rfl, ⟨_, rfl, ⟨rfl, rfl⟩, ⟨rfl, rfl⟩, tv⟩, ⟨rfl, rfl⟩, tv⟩
  refine A3.rest_box hbad8 ae 1 5 (t := 10) (ty := 55) (cs := [.v (.int .i64 c.A), .v (.int .i64 c.B)]) (tm' := [(11, af (Gs V c : Int)), (2, af p2), (9, Gu v), (22, Gu (.pointer (some ⟨r, 0, none⟩)))]) [(0, 3)] [] (by kernel_rfl) rfl rfl fun a4 w9 A4 B4 => ?_
  show Code.wp _ _ _ _ _
  have hp2 : p2 = ((p2.toNat : Nat) : Int) := by omega
  have hand : dG .i64 (Gs V c : Int) p2 = ((Gs V c &&& p2.toNat : Nat) : Int) := by
   have := OM hm8 (k := p2.toNat) (by omega)
   rwa [← hp2] at this
  have hb9 : ∀ x, badL b r v x → x < w9.heap.size := fun x hx => Gb (hbad8 x hx) B4.size
  refine wp_seq (A4.run hb9 (tm' := (31, vb (dG .i64 (Gs V c : Int) p2 != 0)) :: (10, If [.v (.int .i64 c.A), .v (.int .i64 c.B)]) :: [(2, af p2), (9, Gu v), (22, Gu (.pointer (some ⟨r, 0, none⟩)))]) (aS ae [(31, vb (dG .i64 (Gs V c : Int) p2 != 0))] 5 ⟨rfl, ai []⟩) rfl fun a5 w10 A5 B5 => ?_)
  have B8 : Below w8.heap.size w8 w10 := B4.trans (B5.mono B4.size)
  rw [hand] at A5
  clear A1 A2 A3 A4 v23 v22' B4 B5 hb9
  have hlen := H.len
  by_cases hz : Gs V c &&& p2.toNat = 0
  ·have e : (((Gs V c &&& p2.toNat : Nat) : Int) != 0) = false := by rw [hz]; rfl
   rw [e] at A5
   have I8 : Al w.heap.size w b r n D V p2.toNat ((31, vb false) :: (10, If [.v (.int .i64 c.A), .v (.int .i64 c.B)]) :: [(2, af p2), (9, Gu v), (22, Gu (.pointer (some ⟨r, 0, none⟩)))]) K v (fun z => left z && !z.sameKey (kl c.A c.B)) cnt' a5 w10 :=
    ⟨A5, hrg'.kept (row := none) ⟨B8.os, B8.tape, B8.output, B8.size, fun k hk _ => B8.block k hk⟩ (by simp) (by simp), own8.kept (w' := w10) (row := none) ⟨B8.os, B8.tape, B8.output, B8.size, fun k hk _ => B8.block k hk⟩ (by cases v.ownBlock <;> simp), H.apb, H.apr, hbel8.trans (B8.mono hs8), Ga hs8 B8.size, H.hb, H.hr, H.nod, H8 K (.inl ⟨rfl, hz⟩), H.wf, by omega⟩
   refine wp_cond_false (A5.val (t := 31) rfl) (wp_skip ?_)
   exact .inl ⟨rfl, cnt', hlt, K, v, _, I8.next (A5.sub (by kernel_rfl)) (Below.refl _ _)⟩
  have e : (((Gs V c &&& p2.toNat : Nat) : Int) != 0) = true := by simp; omega
  rw [e] at A5
  refine wp_cond_true (A5.val (t := 31) rfl) ?_
  refine A5.cut (fun x hx => Gb (hbad8 x hx) B8.size) ae 2 3 (tm' := (33, .agg [ag c.A, ag c.B]) :: (32, Gu v) :: [(2, af p2), (9, Gu v), (22, Gu (.pointer (some ⟨r, 0, none⟩)))]) [] (by kernel_rfl) rfl fun a6' w11 A6 B6 => ?_
  have B11 : Below w8.heap.size w8 w11 := B8.trans (B6.mono B8.size)
  clear A5 B6 B8
  rw [show List.range' 2 3 = [2, 3, 4] from rfl, wpOps_cons]
  have v32 : a6'.eval (.tmp 32) = v := A6.val (t := 32) rfl
  have v33 : a6'.eval (.tmp 33) = GE c.A c.B := (by
   obtain ⟨ys, e, h⟩ := A6.tmp 33 _ rfl
   obtain ⟨ys⟩ := ys
   rcases ys with _ | ⟨y0, _ | ⟨y1, _ | ⟨y2, ys⟩⟩⟩
   ·exact h.elim
   ·exact h.2.elim
   ·obtain ⟨⟨rfl, _⟩, ⟨rfl, _⟩, _⟩ := h
    exact e
   ·exact h.2.2.elim)
  have r2 : (Instr.buildSlice 51 1 #[(0, GE c.A c.B)]).run Tryz.prog w11 = .ok (.slice (some ⟨w11.heap.size, 0, none⟩) 1 1) (w11.alloc (.cells #[.int .i64 c.A, .int .i64 c.B] 55)) := by kernel_rfl
  refine mS (o := _) rfl rfl (v := .slice (some ⟨w11.heap.size, 0, none⟩) 1 1) (w' := w11.alloc (.cells #[.int .i64 c.A, .int .i64 c.B] 55)) (by simp [execOp, v33, r2]) ?_
  show wpOps _ _ _ [3, 4] (a6'.put (some 34) (.slice (some ⟨w11.heap.size, 0, none⟩) 1 1)) _
  have A7 := (A6.sub (tm' := (32, Gu v) :: [(2, af p2), (9, Gu v), (22, Gu (.pointer (some ⟨r, 0, none⟩)))]) (by kernel_rfl)).putv 34 (by decide) (v := .slice (some ⟨w11.heap.size, 0, none⟩) 1 1) (av := Gu (.slice (some ⟨w11.heap.size, 0, none⟩) 1 1)) ⟨rfl, rfl⟩
  generalize a6'.put (some 34) (.slice (some ⟨w11.heap.size, 0, none⟩) 1 1) = a7' at A7 ⊢
  have hB12 : Below w11.heap.size w11 (w11.alloc (.cells #[.int .i64 c.A, .int .i64 c.B] 55)) := (Below.refl _ _).alloc (F9 _) _
  have B12 := B11.trans (hB12.mono B11.size)
  have hnew : ∀ j u, [Value.int .i64 c.A, .int .i64 c.B][j]? = some u → (w11.alloc (.cells #[.int .i64 c.A, .int .i64 c.B] 55)).cell? ((⟨w11.heap.size, 0, none⟩ : Addr).add j) = some u := fun j u hj => by
   rw [Addr.add_lit, Gg]
   exact Ir w11 _ 55 j u (by simpa using hj)
  have hs12 : (w11.alloc (.cells #[.int .i64 c.A, .int .i64 c.B] 55)).heap.size = w11.heap.size + 1 := by simp
  generalize w11.alloc (.cells #[.int .i64 c.A, .int .i64 c.B] 55) = w12 at B12 hnew hs12 ⊢
  have g12 : w8.grownBy w12 none := ⟨B12.os, B12.tape, B12.output, B12.size, fun k hk _ => B12.block k hk⟩
  have own12 := own8.kept g12 (by cases v.ownBlock <;> simp)
  have rg12 := hrg'.kept g12 (by simp) (by simp)
  have hs8' := B12.size
  generalize w11.heap.size = N at hnew hs12 A7 ⊢
  rw [wpOps_cons]
  have v32' : a7'.eval (.tmp 32) = v := A7.val (t := 32) rfl
  have v34 : a7'.eval (.tmp 34) = .slice (some ⟨N, 0, none⟩) 1 1 := A7.val (t := 34) rfl
  obtain ⟨ti, hi55, hz55, hs55, hb55⟩ : ∃ t, Tryz.prog.info? 55 = some t ∧ t.zero = some (.agg #[.int .i64 0, .int .i64 0]) ∧ t.size = 2 ∧ t.bytes = 16 := by
   have h : (Tryz.prog.info? 55).map (fun i => (i.zero, i.size, i.bytes)) = some (some (.agg #[.int .i64 0, .int .i64 0]), 2, 16) := by kernel_rfl
   obtain ⟨i, hi, e⟩ := Option.map_eq_some_iff.1 h
   simp only [FV] at e
   exact ⟨i, hi, e.1, e.2.1, e.2.2⟩
  obtain ⟨v', w13, hrun13, o1, gr13, _, hloc⟩ := run_append_own_at (P := Tryz.prog) w12 w.heap.size 51 51 55 ti _ 2 16 Tryz.underlying51 hi55 hz55 hs55 hb55 rfl (by decide) v K.length (flatC K) own12 ⟨N, 0, none⟩ 1 1 [.int .i64 c.A, .int .i64 c.B] rfl hnew (fun u hu => by
   simp at hu
   rcases hu with rfl | rfl <;> rfl) (by unfold maxLen; omega) (by omega) (Ga hs8 hs8')
  refine mS (o := _) rfl rfl (v := v') (w' := w13) (by simp [execOp, resolve, invoke, builtin, v32', v34, hrun13]) ?_
  show wpOps _ _ _ [4] (a7'.put (some 35) v') w13
  have A8 := ((A7.sub (tm' := [(2, af p2), (9, Gu v), (22, Gu (.pointer (some ⟨r, 0, none⟩)))]) (by kernel_rfl)).putv 35 (by decide) (v := v') (av := Gu v') ⟨rfl, (by rcases o1.2 with ⟨e, _⟩ | ⟨_, _, _, e, _⟩ <;> rw [e] <;> rfl)⟩).plain (bad' := badL b r v') (w' := w13) (by kernel_rfl)
  generalize a7'.put (some 35) v' = a8' at A8 ⊢
  have rg13 := rg12.kept gr13 (fun e => H.apb e.symm) (fun e => H.apr e.symm)
  have hbw12 : b < w12.heap.size := rg12.owns.lt
  have hrw12 : r < w12.heap.size := rg12.lt
  have I13 : Al w.heap.size w b r n D V p2.toNat [(35, Gu v'), (2, af p2), (9, Gu v), (22, Gu (.pointer (some ⟨r, 0, none⟩)))] (K ++ [c]) v' (fun z => left z && !z.sameKey (kl c.A c.B)) cnt' a8' w13 := by
   refine ⟨A8, rg13, ?_, ?_, ?_, (hbel8.trans (B12.mono hs8)).grown gr13 (Ga hs8 hs8') (fun g e => (H.own.lt g e).1), Ga (Ga hs8 hs8') gr13.size, H.hb, H.hr, ?_, H8 _ (.inr ⟨rfl, hz⟩), ?_, ?_⟩
   ·rw [FO]
    unfold flatC
    rw [PH]
    exact o1
   ·rcases hloc with e | e
    ·rw [e]; exact H.apb
    ·rw [e]; intro h; injection h with h; omega
   ·rcases hloc with e | e
    ·rw [e]; exact H.apr
    ·rw [e]; intro h; injection h with h; omega
   ·rw [List.nodup_append]
    exact ⟨H.nod, by simp, fun x hx y hy h => by rw [FQ.1 hy] at h; subst h; exact hcK hx⟩
   ·intro x hx
    rcases F2.1 hx with hx | hx
    ·exact H.wf x hx
    ·rw [FQ.1 hx]; exact ⟨hcA, hcB⟩
   ·rw [FO]
    simp only [FN, FP]
    omega
  refine A8.rest I13.lt ae 4 1 (tm' := [(2, af p2), (9, Gu v'), (22, Gu (.pointer (some ⟨r, 0, none⟩)))]) [] (by kernel_rfl) rfl fun a9 w14 A9 B9 => ?_
  exact .inl ⟨rfl, cnt', hlt, K ++ [c], v', _, I13.next A9 B9⟩
end
section
open Go.RowKit
open Classical in
noncomputable def Jj (p0 p1 : List (List aH)) (p2 : Int) : Option (List kk × Int) := if IJ p0 p1 p2 = some 0 ∧ HS p0 p1 ∧ 0 ≤ p2 ∧ p2 < 256 then some (G2 p0 p1 p2.toNat, 0) else none
theorem MG (p0 p1 : List (List aH)) (p2 : Int) (r : List kk × Int) (h : Jj p0 p1 p2 = some r) : CT 26 [vl 1 dF p0, vl 1 dF p1, af p2] [] (.tup [vl 2 HE r.1, af r.2]) [] := by
 unfold Jj at h
 split at h
 ·rename_i hc
  obtain rfl := am h
  refine uv (n := 0) ⟨_, Tryz.func26, by kernel_rfl, rfl⟩ fun w ok vs' hok ha => ?_
  obtain ⟨l⟩ := vs'
  rcases l with _ | ⟨v0, _ | ⟨v1, _ | ⟨v2, _ | ⟨v3, l⟩⟩⟩⟩
  ·exact ha.elim
  ·exact ha.2.elim
  ·exact ha.2.2.elim
  ·refine callsIn_wide.2 (Calls.mono (Nj p0 p1 p2 hc.2.1 hc.2.2 hc.1 w ok v0 v1 v2 hok ha.1 ha.2.1 ha.2.2.1) ?_)
   rintro e w' ⟨v, rfl, hB, hv⟩
   exact ⟨_, rfl, hB, _, rfl, hv, ⟨rfl, rfl⟩, tv⟩
  ·exact ha.2.2.2.elim
 ·cases h
end
end Go.Proofs.YtfmhbcfklokmaaaGreatDoor
namespace Go.Proofs.YtfmhbcfklokmaaaGreatDoor
open Vm
def nb (d : aL) : Prop := 0 ≤ d.at_ ∧ d.at_ ≤ 1000000 ∧ d.list.length ≤ 1000000
theorem O9 (x : Int) : bJ .u64 x 1 = x / 2 := by
 show x.fdiv (2 ^ min (1 : Int).toNat 64) = _
 exact Int.fdiv_eq_ediv_of_nonneg _ (by decide)
theorem LI {d : aL} (h : nb d) : ∃ w d', iR d = some (w, d') ∧ 0 ≤ w ∧ w < 18446744073709551616 ∧ nb d' := by
 obtain ⟨h0, h1, h2⟩ := h
 unfold iR
 by_cases c : d.at_ < ((d.list.length : Nat) : Int)
 ·rw [if_pos (by simpa using c), if_pos h0, if_pos c]
  unfold iK
  refine ⟨_, _, rfl, ?_, ?_, ?_⟩
  ·unfold bw; exact D2 _
  ·unfold bw; exact D3 _
  ·refine ⟨?_, ?_, h2⟩
   ·show 0 ≤ IntKind.i64.wrap (d.at_ + 1)
    rw [EI (by omega) (by omega)]; omega
   ·show IntKind.i64.wrap (d.at_ + 1) ≤ 1000000
    rw [EI (by omega) (by omega)]; omega
 ·rw [if_neg (by simpa using c)]
  unfold iK
  refine ⟨_, _, rfl, ?_, ?_, h0, h1, h2⟩
  ·unfold bw; exact D2 _
  ·unfold bw; exact D3 _
theorem PL {d : aL} (h : nb d) {n : Int} (hn : 1 ≤ n) (hn2 : n ≤ 4611686018427387904) : ∃ v d', cM d n = some (v, d') ∧ 0 ≤ v ∧ v < n ∧ nb d' := by
 obtain ⟨w, d', e, h0, h1, h2⟩ := LI h
 unfold cM
 rw [if_neg (by simp; omega), e]
 refine ⟨_, d', by simp only [aM, Option.bind_some]; rw [EK], ?_, ?_, h2⟩
 ·rw [O9, EI (by omega) (by omega), D4 (by omega)]
  exact Int.emod_nonneg _ (by omega)
 ·rw [O9, EI (by omega) (by omega), D4 (by omega)]
  exact Int.emod_lt_of_pos _ (by omega)
theorem PN {d : aL} (h : nb d) {n : Int} (hn : 1 ≤ n) (hn2 : n ≤ 4611686018427387904) : ∃ v d', dK d n = some (v, d') ∧ nb d' := by
 unfold dK
 obtain ⟨v, d1, he, v0, v1, hd1⟩ := PL h hn hn2
 rw [he]; clear he; first | rw [De] | rw [Df] | rw [Dh] | rw [Dd]
 exact ⟨_, _, rfl, hd1⟩
theorem Oi {l : List Int} (h : l.length ≤ 400) : ∃ d, uZ l = some d ∧ nb d := ⟨_, rfl, Int.le_refl 0, (by decide : (0 : Int) ≤ 1000000), Ga h (by decide)⟩
open _root_.ByteArray (mk)
open IntKind (i64 u64 u32 u8)
theorem Kn {α σ τ : Type} (d : α) (f : α → Bool) (l : List α) (s : Nat → σ) (r : Nat → τ) {υ : Type} (e : υ) {step : σ → Option (σ ⊕ (υ ⊕ τ))} (hs : ∀ i : Nat, i < l.length → step (s i) = if f (l.getD i d) = true then some (.inr (.inr (r i))) else some (.inl (s (i + 1))))
  (he : step (s l.length) = some (.inr (.inl e))) {s0 : σ} (h0 : s0 = s 0 := by rfl) : loop step s0 = some (match l.findIdx? f with | some i => .inr (r i) | none => .inl e) := by
 subst h0
 have key : ∀ k j, j + k = l.length → loop step (s j) = some (match (l.drop j).findIdx? f with | some i => .inr (r (j + i)) | none => .inl e) := by
  intro k
  induction k with
  | zero =>
   intro j hj
   have : j = l.length := by omega
   subst this
   rw [rR he, List.drop_length]
   rfl
  | succ k ih =>
   intro j hj
   have hs := hs j (by omega)
   have hd : l.drop j = l.getD j d :: l.drop (j + 1) := by
    rw [List.drop_eq_getElem_cons (show j < l.length by omega), FI, FJ (show j < l.length by omega)]
    rfl
   rw [hd, List.findIdx?_cons]
   by_cases hf : f (l.getD j d) = true
   ·rw [if_pos hf] at hs
    rw [rR hs, if_pos hf]
    rfl
   ·rw [if_neg hf] at hs
    rw [vH hs, ih (j + 1) (by omega), if_neg hf]
    cases (l.drop (j + 1)).findIdx? f with
    | none => rfl
    | some i => simp only [Option.map_some]; rw [show j + (i + 1) = j + 1 + i by omega]
 have := key l.length 0 (by omega)
 rw [this, List.drop_zero]
 cases l.findIdx? f with
 | none => rfl
 | some i => simp only [Gg]
theorem IL {α : Type} (d : α) {l : List α} {i : Nat} (h : i < l.length) : l.take (i + 1) = l.take i ++ [l.getD i d] := by
 rw [List.take_succ_eq_append_getElem h, FI, FJ h]
 rfl
theorem GJ {α : Type} (d : α) {l : List α} {i : Nat} (h : i < l.length) : l.getD i d ∈ l := by
 rw [FI, FJ h]
 exact Gh h
theorem IK (l : List UInt8) : bQ (gi l) = l.map fun c => (c.toNat : Int) := rfl
theorem Jl (l : List UInt8) : Vm.strOf (l.map fun c => (c.toNat : Int)) = gi l := by
 rw [← IK, zC]
theorem G1 (a b : List UInt8) : gi a ++ gi b = gi (a ++ b) := by
 rw [← ml, zt, IK, IK, IK, PI]
theorem GY (l k : List UInt8) : ((gi l).toList == (gi k).toList) = decide (l = k) := by
 rw [Em]
 simp only [Ec]
def Gw (c : UInt8) : Bool := decide (97 ≤ c.toNat) && decide (c.toNat ≤ 122)
def HY (l : List UInt8) : Prop := ∀ c ∈ l, Gw c = true
theorem Nk (c : UInt8) : qF (c.toNat : Int) = some (Gw c) := by
 unfold qF lu Gw
 by_cases h : 97 ≤ c.toNat
 ·rw [EQ, Pw h]
  simp only [Bool.true_and, FL, decide_eq_decide]
  omega
 ·rw [ER, Pv h, Bool.false_and]
theorem K9 (l : List UInt8) (h : l.length ≤ 1000) : gz (gi l) = some (gi (l.filter Gw)) := by
 unfold gz
 rw [DF (fun i => (((l.take i).filter Gw).map (fun c => (c.toNat : Int)), (i : Int))) l.length ((l.filter Gw).map fun c => (c.toNat : Int)) (fun i hi => by
   simp only [pk, k8, FM]
   rw [DU, DT, EQ, EK, EK, Nk, Dd, IL 0 hi, List.filter_append, PI, EI (n := (i : Int) + 1) (by omega) (by omega)]
   have hl : ((List.filter Gw (List.take i l)).map fun c => (c.toNat : Int)).length ≤ 1000 := by
    rw [Ps]
    exact Ga (List.length_filter_le _ _) (by rw [FR]; omega)
   by_cases hc : Gw (l.getD i 0) = true
   ·rw [if_pos hc, EP, List.filter_cons_of_pos hc]
    rfl
   ·rw [if_neg hc, List.filter_cons_of_neg hc]
    simp) (by
   simp only [pk]
   rw [DU, EO, PF]) (by simp)]
 rw [Dd, Jl]
theorem Kc {l : List UInt8} (hl : HY l) (h : l.length ≤ 1000) : gz (gi l) = some (gi l) := by
 rw [K9 l h, List.filter_eq_self.2 hl]
def Mz (l : List UInt8) : Prop := l ≠ [] ∧ HY l ∧ l.length ≤ 64
theorem Jm {l : List UInt8} (h : Mz l) : jw (gi l) = some true := by
 obtain ⟨h0, h1, h2⟩ := h
 unfold jw jh
 rw [show (mk #[]) = gi [] from rfl, GY, Pv h0, EM, if_pos (by rw [DU]; simp only [Pu]; omega), Kc h1 (by omega), Dd, GY, Pw rfl]
theorem Ke {l : List ByteArray} (hn : l.length ≤ 1000) (h : ∀ i, i < l.length → jw (l.getD i mt) = some true) (h2 : ∀ i, i + 1 < l.length → Op.bytesLess (l.getD i mt).toList (l.getD (i + 1) mt).toList = true) : qH l = some true := by
 unfold qH
 rw [DF (fun i => (i : Int)) l.length (.inl ()) (fun i hi => by
   simp only [uh, je]
   rw [FM, EQ, EK, EK, h i hi, Dd, EO]
   cases i with
   | zero => rw [EO, EO, EI (by omega) (by omega)]; rfl
   | succ j =>
    rw [EQ, EI (n := ((j + 1 : Nat) : Int) - 1) (by omega) (by omega), EK, EK, show (((j + 1 : Nat) : Int) - 1).toNat = j by omega, h2 j hi, EO, EI (by omega) (by omega)]
    rfl) (by
   simp only [uh]
   rw [EO]) (by simp)]
 rfl
theorem L4 (l : List aA) (hn : l.length ≤ 1000) (s : ByteArray) : jB l s = some (match l.findIdx? (fun p => p.From.toList == s.toList) with | some i => (i : Int) | none => -1) := by
 unfold jB nT
 rw [Kn bK (fun p => p.From.toList == s.toList) l (fun i => ((i : Int), s)) (fun i => ((i : Int), s)) s (fun i hi => by
   simp only [nN, qv, De, FM]
   rw [EQ, EK, EK, EI (n := (i : Int) + 1) (by omega) (by omega)]
   rfl) (by
   simp only [nN]
   rw [EO])]
 cases l.findIdx? (fun p => p.From.toList == s.toList) <;> rfl
theorem Nl {l : List aA} (hn : l.length ≤ 1000) (h : ∀ i, i < l.length → jw (l.getD i bK).From = some true ∧ jw (l.getD i bK).To = some true ∧ l.findIdx? (fun p => p.From.toList == (l.getD i bK).To.toList) = none) (h2 : ∀ i, i + 1 < l.length → Op.bytesLess (l.getD i bK).From.toList (l.getD (i + 1) bK).From.toList = true) : mo l = some true := by
 unfold mo
 rw [DF (fun i => (i : Int)) l.length (.inl ()) (fun i hi => by
   obtain ⟨g1, g2, g3⟩ := h i hi
   simp only [uw, fH]
   rw [FM, EQ, EK, EK, g1, Dd, EO, g2, Dd, EO, L4 l hn, g3]
   cases i with
   | zero =>
    rw [EN, Dd, EN, EI (by omega) (by omega)]; rfl
   | succ j =>
    rw [EQ, EI (n := ((j + 1 : Nat) : Int) - 1) (by omega) (by omega), EK, EK, show (((j + 1 : Nat) : Int) - 1).toNat = j by omega, h2 j hi, EO, Dd, EN, EI (by omega) (by omega)]
    rfl) (by
   simp only [uw]
   rw [EO]) (by simp)]
 rfl
def Ij (s : ByteArray) (l : List ByteArray) : Bool := l.any fun x => decide (x = s)
theorem Kx {s : ByteArray} {l : List ByteArray} : Ij s l = true ↔ s ∈ l := by
 unfold Ij
 simp only [List.any_eq_true, Pu]
 exact ⟨fun ⟨x, h, e⟩ => e ▸ h, fun h => ⟨s, h, rfl⟩⟩
theorem JM {s : ByteArray} {l : List ByteArray} (h : s ∉ l) : Ij s l = false := by
 cases hb : Ij s l with
 | false => rfl
 | true => exact absurd (Kx.1 hb) h
theorem LJ (l : List ByteArray) (hn : l.length ≤ 1000) (s : ByteArray) : kg l s = some (Ij s l) := by
 unfold kg oF
 rw [Kn mt (fun x => s.toList == x.toList) l (fun i => (i : Int)) (fun i => (i : Int)) () (fun i hi => by
   simp only [te, FM]
   rw [EQ, EK, EK, EI (n := (i : Int) + 1) (by omega) (by omega)]
   rfl) (by
   simp only [te]
   rw [EO])]
 cases hi : l.findIdx? (fun x => s.toList == x.toList) with
 | none =>
  have : s ∉ l := fun hm => by
   have := List.findIdx?_eq_none_iff.1 hi s hm
   rw [Em, Pw rfl] at this
   cases this
  rw [JM this]; rfl
 | some i =>
  obtain ⟨h1, h2, _⟩ := List.findIdx?_eq_some_iff_getElem.1 hi
  rw [Em, Pu] at h2
  rw [Kx.2 (show s ∈ l from h2 ▸ Gh h1)]
  show some (decide ((i : Int) ≥ 0)) = _
  rw [Pw (by omega)]
theorem La {r : aY} (hn : r.Titles.length ≤ 1000) (s : ByteArray) : lW r s = some (Ij s r.Titles) := by
 unfold lW
 rw [LJ _ hn]
 rfl
def T2 : List ByteArray := [gi [100, 114], gi [118, 97, 110]]
def N2 : List aA := [⟨gi [97, 110, 110, 97], gi [97, 110, 110]⟩, ⟨gi [98, 111, 98], gi [114, 111, 98, 101, 114, 116]⟩]
def P2 : List aA := [⟨gi [114, 100], gi [114, 111, 97, 100]⟩, ⟨gi [115, 116], gi [115, 116, 114, 101, 101, 116]⟩]
structure Gv (r : aY) : Prop where
 t : r.Titles = [] ∨ r.Titles = T2 ∨ r.Titles = [gi [100, 114]]
 n : r.Nicknames = [] ∨ r.Nicknames = N2
 s : r.Streets = [] ∨ r.Streets = P2
theorem Gv.lt {r : aY} (h : Gv r) : r.Titles.length ≤ 2 := by rcases h.t with e | e | e <;> rw [e] <;> decide
theorem Gv.ln {r : aY} (h : Gv r) : r.Nicknames.length ≤ 2 := by rcases h.n with e | e <;> rw [e] <;> decide
theorem Gv.ls {r : aY} (h : Gv r) : r.Streets.length ≤ 2 := by rcases h.s with e | e <;> rw [e] <;> decide
theorem Jo (l : List UInt8) (h : (!l.isEmpty && l.all Gw && decide (l.length ≤ 64)) = true) : Mz l := by
 simp only [FY, Pu, FX, Bool.not_eq_true'] at h
 refine ⟨?_, h.1.2, h.2⟩
 rintro rfl
 exact absurd h.1.1 (by decide)
theorem LK (a b : List UInt8) : Op.bytesLess (gi a).toList (gi b).toList = Op.bytesLess a b := by
 rw [Go.ByteArray.toList_eq, Go.ByteArray.toList_eq, DT, DT]
theorem Nm {r : aY} (h : Gv r) : qH r.Titles = some true := by
 rcases h.t with e | e | e <;> rw [e]
 ·exact Ke (by decide) (fun i hi => absurd hi (Px _)) (fun i hi => absurd hi (Px _))
 ·refine Ke (by decide) (fun i hi => ?_) (fun i hi => ?_)
  ·match i, hi with
   | 0, _ => exact Jm (Jo [100, 114] (by decide))
   | 1, _ => exact Jm (Jo [118, 97, 110] (by decide))
  ·match i, hi with
   | 0, _ => show Op.bytesLess (gi [100, 114]).toList (gi [118, 97, 110]).toList = true; rw [LK]; decide
 ·refine Ke (by decide) (fun i hi => ?_) (fun i hi => absurd hi (by simp))
  match i, hi with
  | 0, _ => exact Jm (Jo [100, 114] (by decide))
theorem NN (l : List (List UInt8 × List UInt8)) (s : List UInt8) : (l.map fun p => (⟨gi p.1, gi p.2⟩ : aA)).findIdx? (fun p => p.From.toList == (gi s).toList) = l.findIdx? (fun p => decide (p.1 = s)) := by
 rw [List.findIdx?_map]
 congr 1
 funext p
 exact GY _ _
def n2 : List (List UInt8 × List UInt8) := [([97, 110, 110, 97], [97, 110, 110]), ([98, 111, 98], [114, 111, 98, 101, 114, 116])]
def p2 : List (List UInt8 × List UInt8) := [([114, 100], [114, 111, 97, 100]), ([115, 116], [115, 116, 114, 101, 101, 116])]
def IB (l : List (List UInt8 × List UInt8)) : List aA := l.map fun p => ⟨gi p.1, gi p.2⟩
theorem JG {l : List (List UInt8 × List UInt8)} (h : l.all (fun p => !p.1.isEmpty && p.1.all Gw && decide (p.1.length ≤ 64) && (!p.2.isEmpty && p.2.all Gw && decide (p.2.length ≤ 64)) && (l.findIdx? (fun q => decide (q.1 = p.2))).isNone) = true) (hn : l.length ≤ 1000) (h2 : ∀ i, i + 1 < l.length → Op.bytesLess (l.getD i ([], [])).1 (l.getD (i + 1) ([], [])).1 = true) : mo (IB l) = some true := by
 have hg : ∀ i, (IB l).getD i bK = ⟨gi (l.getD i ([], [])).1, gi (l.getD i ([], [])).2⟩ := fun i => by
  unfold IB
  rw [FI, F6, FI]
  cases l[i]? <;> rfl
 refine Nl (by unfold IB; simpa using hn) (fun i hi => ?_) (fun i hi => ?_)
 ·rw [hg]
  have hi : i < l.length := by unfold IB at hi; simpa using hi
  have := FX.1 h _ (GJ ([], []) hi)
  simp only [FY] at this
  refine ⟨Jm (Jo _ ?_), Jm (Jo _ ?_), ?_⟩
  ·simp only [FY]; exact this.1.1
  ·simp only [FY]; exact this.1.2
  ·unfold IB
   rw [NN]
   exact Option.isNone_iff_eq_none.1 this.2
 ·rw [hg, hg, LK]
  exact h2 i (by unfold IB at hi; simpa using hi)
theorem Oj {r : aY} (h : Gv r) : mo r.Nicknames = some true := by
 rcases h.n with e | e <;> rw [e]
 ·exact JG (l := []) (by decide) (by decide) (fun i hi => absurd hi (Px _))
 ·exact JG (l := n2) (by decide) (by decide) (fun i hi => by match i, hi with | 0, _ => decide)
theorem Nn {r : aY} (h : Gv r) : mo r.Streets = some true := by
 rcases h.s with e | e <;> rw [e]
 ·exact JG (l := []) (by decide) (by decide) (fun i hi => absurd hi (Px _))
 ·exact JG (l := p2) (by decide) (by decide) (fun i hi => by match i, hi with | 0, _ => decide)
theorem K3 {r : aY} (h : Gv r) {p : aA} (hp : p ∈ r.Nicknames) : p.To ∉ r.Titles := by
 rcases h.n with e | e <;> rw [e] at hp
 ·cases hp
 ·have hc : p = ⟨gi [97, 110, 110, 97], gi [97, 110, 110]⟩ ∨ p = ⟨gi [98, 111, 98], gi [114, 111, 98, 101, 114, 116]⟩ := by simpa [N2] using hp
  rcases h.t with e2 | e2 | e2 <;> rw [e2]
  ·exact Pr
  ·unfold T2
   rcases hc with rfl | rfl <;> simp [Ec]
  ·rcases hc with rfl | rfl <;> simp [Ec]
theorem Ky {r : aY} (h : Gv r) : jx r = some 0 := by
 have hlt := h.lt
 have hln := h.ln
 have hls := h.ls
 unfold jx jk
 rw [ER, ER, ER, Nm h, Dd, EN, Oj h, Dd, EN, Nn h, Dd]
 unfold ji nM nS
 rw [EN, DF (fun i => ((i : Int), r.Titles, r.Nicknames, r.Streets)) r.Nicknames.length (.inl (r.Titles, r.Nicknames, r.Streets)) (fun i hi => by
   simp only [nJ, qe, FM]
   rw [EQ, EK, EK, La (show r.Titles.length ≤ 1000 by omega), JM (K3 h (GJ _ hi)), EI (n := (i : Int) + 1) (by omega) (by omega)]
   rfl) (by
   simp only [nJ]
   rw [EO]) (by simp)]
 rfl
def GB (l : List UInt8) : Prop := ∀ c ∈ l, 32 ≤ c.toNat ∧ c.toNat ≤ 126
theorem GB.ascii {l : List UInt8} (h : GB l) : ascii l := fun c hc => by have := h c hc; omega
theorem GB.get {l : List UInt8} (h : GB l) {i : Nat} (hi : i < l.length) : 32 ≤ (l.getD i 0).toNat ∧ (l.getD i 0).toNat ≤ 126 := h _ (GJ 0 hi)
theorem L5 {l : List UInt8} (h : GB l) {i : Nat} (hi : i < l.length) : mC (gi l) (i : Int) = some false := by
 have := h.get hi
 unfold mC gA
 rw [DU, DT, FM, EK, EK, if_neg (by simp only [beq_iff_eq]; omega)]
theorem No {l : List UInt8} (h : GB l) (hn : l.length ≤ 64) : qV (gi l) = some true := by
 unfold qV
 rw [DF (fun i => (i : Int)) l.length (.inl ()) (fun i hi => by
   have := h.get hi
   simp only [uy, lG, lH]
   rw [FM, DU, DT, EQ, L5 h hi, Dd, EN, EK, EK, ER, ER, EI (by omega) (by omega)]
   rfl) (by
   simp only [uy]
   rw [DU, EO]) (by simp)]
 show qf (gi l) = some true
 unfold qf
 rw [DU, Pw (by omega)]
def rc (l : List UInt8) : List UInt8 := l.flatMap fun b => cS b.toNat
theorem Np {b : UInt8} (h : b.toNat ≤ 126) : GB (cS b.toNat) := by
 intro c hc
 unfold cS at hc
 split at hc
 ·rename_i h1
  rw [FQ.1 hc]
  show 32 ≤ (UInt8.ofNat _).toNat ∧ (UInt8.ofNat _).toNat ≤ 126
  rw [UInt8.toNat_ofNat']
  omega
 ·split at hc
  ·rename_i h1
   rw [FQ.1 hc]
   show 32 ≤ (UInt8.ofNat _).toNat ∧ (UInt8.ofNat _).toNat ≤ 126
   rw [UInt8.toNat_ofNat']
   omega
  ·split at hc
   ·cases hc
   ·rw [FQ.1 hc]
    decide
theorem JH {l : List UInt8} (h : GB l) : GB (rc l) := by
 intro c hc
 obtain ⟨b, hb, hc⟩ := PC.1 hc
 exact Np (h b hb).2 c hc
theorem Nq (b : Nat) : (cS b).length ≤ 1 := by
 unfold cS
 repeat' split
 all_goals simp
theorem JI (l : List UInt8) : (rc l).length ≤ l.length := by
 induction l with
 | nil => simp [rc]
 | cons b l ih =>
  have := Nq b.toNat
  unfold rc at ih ⊢
  rw [List.flatMap_cons, FO, FN]
  omega
theorem L6 {l : List UInt8} (h : ascii l) : fB (gi l) = (Gt l).map gi := by
 unfold fB
 rw [show jX = (fun x => x == 32) from rfl, Dy _ (by rw [DT]; exact h), DT]
theorem IM {l : List UInt8} (h : ascii l) (hn : l.length ≤ 1000000) : fb (gi l) = some ((Gt l).map gi) := by
 unfold fb
 rw [DU, EK, L6 h]
theorem NO (l : List (List UInt8)) : xa (l.map gi) (mk #[32]) = gi (dE l) := by
 unfold xa
 rw [List.map_map, show ((fun x : ByteArray => x.data.toList) ∘ gi) = id from rfl, List.map_id, show (mk #[32]).data.toList = [32] from rfl, Au]
 rfl
theorem Kz {l : List (List UInt8)} (hn : l.length ≤ 1000000) (h : (dE l).length ≤ 1000000) : gK (l.map gi) = some (gi (dE l)) := by
 unfold gK strings_Join
 rw [NO, if_pos (by rw [Ps, DU]; omega)]
 rfl
theorem LL : ∀ (l : List UInt8) (st : List (List UInt8) × List UInt8), ((d9 (l.foldl dj st)).map fun x => x.length + 1).sum ≤ (st.1.map fun x => x.length + 1).sum + st.2.length + l.length + 1
 | [], st => by
  unfold d9
  rw [List.foldl_nil]
  split
  ·simp only [FP]; omega
  ·simp only [PI, List.sum_append, Gr, List.map_nil, PK, List.sum_nil, FP]; omega
 | c :: l, st => by
  rw [Gq]
  refine Ga (LL l _) ?_
  unfold dj
  split
  ·split
   ·simp only [FN]; omega
   ·simp only [PI, List.sum_append, Gr, List.map_nil, PK, List.sum_nil, FN, FP]; omega
  ·simp only [FO, FN, FP]; omega
theorem JF (l : List UInt8) : ((Gt l).map fun x => x.length + 1).sum ≤ l.length + 1 := by
 have := LL l ([], [])
 simpa [Gt] using this
theorem JN (l : List (List UInt8)) : l.length ≤ (l.map fun x => x.length + 1).sum := by
 induction l with
 | nil => simp
 | cons x l ih => simp only [FN, Gr, PK]; omega
theorem Ol {l : List (List UInt8)} {w : List UInt8} (h : w ∈ l) : w.length + 1 ≤ (l.map fun x => x.length + 1).sum := by
 induction l with
 | nil => cases h
 | cons x l ih =>
  rw [Gr, PK]
  rcases F1.1 h with rfl | h
  ·omega
  ·have := ih h; omega
theorem HI (l : List (List UInt8)) : (dE l).length ≤ (l.map fun x => x.length + 1).sum := by
 by_cases h : l = []
 ·subst h; simp [dE]
 ·have := AY h
  omega
theorem KA {l : List UInt8} (h : GB l) (hn : l.length ≤ 64) : jC (gi l) = some (gi (dE (Gt (rc l))), 0) := by
 have h1 := JF (rc l)
 have h2 := JI l
 have h3 := JN (Gt (rc l))
 have h4 := HI (Gt (rc l))
 unfold jC oT
 rw [No h hn, Dd, Dd, if_pos ⟨by rw [DU]; omega, fun i hi => by rw [DU] at hi; rw [DT]; have := h.get hi; omega, fun i hi => L5 h (by rw [DU] at hi; exact hi)⟩, if_pos rfl]
 rw [show eN (gi l) = gi (rc l) by
  unfold eN dw rc gi
  rw [show (ByteArray.mk l.toArray).size = l.length from rfl, PF], L6 (JH h).ascii, Kz (by omega) (by omega)]
 rfl
theorem Jn {c : UInt8} (h : Gw c = true) : cS c.toNat = [c] := by
 unfold Gw at h
 simp only [FY, Pu] at h
 unfold cS
 rw [EL, EK]
 show [UInt8.ofNat c.toNat] = [c]
 rw [UInt8.ofNat_toNat]
theorem IN {c : UInt8} (h : Gw c = true) : 32 ≤ c.toNat ∧ c.toNat ≤ 126 := by
 unfold Gw at h
 simp only [FY, Pu] at h
 omega
def KF (c : UInt8) : Prop := cS c.toNat = [c]
theorem Lq {l : List UInt8} (h : ∀ c ∈ l, KF c) : rc l = l := by
 induction l with
 | nil => rfl
 | cons c l ih =>
  unfold rc at ih ⊢
  rw [List.flatMap_cons, h c FZ, ih fun x hx => h x (F0 _ hx)]
  rfl
noncomputable def pW (l : List aA) (t : List UInt8) : List UInt8 := match l.findIdx? (fun p => p.From.toList == (gi t).toList) with
 | some i => (l.getD i bK).To.data.toList
 | none => t
noncomputable def Hj (r : aY) (t : List UInt8) : List UInt8 := pW r.Nicknames t
theorem MJ {r : aY} (h : r.Nicknames.length ≤ 1000) (t : List UInt8) : pR r (gi t) = some (gi (Hj r t)) := by
 unfold pR Hj pW
 rw [L4 _ h, Dd]
 cases hf : r.Nicknames.findIdx? (fun p => p.From.toList == (gi t).toList) with
 | none => rfl
 | some i =>
  have := (List.findIdx?_eq_some_iff_getElem.1 hf).1
  simp only
  rw [EQ, EK, EK, FM, Eb]
noncomputable def G7 (r : aY) (w : List UInt8) : Option (List UInt8) := if w.filter Gw = [] then none else if Ij (gi (w.filter Gw)) r.Titles = true then none else some (Hj r (w.filter Gw))
noncomputable def GD (r : aY) (ws : List (List UInt8)) : List (List UInt8) := ws.filterMap (G7 r)
theorem Om {r : aY} (hr : Gv r) (ws : List (List UInt8)) (hw : ws.length ≤ 1000) (hl : ∀ w ∈ ws, w.length ≤ 1000) : loop (fun v : (List ByteArray) × Int => oU r (ws.map gi) v.1 v.2) (([] : aj), 0) = some ((GD r ws).map gi) := by
 refine DF (fun i => ((GD r (ws.take i)).map gi, (i : Int))) ws.length _ (fun i hi => ?_) ?_ (by simp [GD])
 ·have hg : (ws.map gi).getD (0 + (i : Int).toNat) mt = gi (ws.getD i []) := by
   rw [Gg, FM, FI, F6, FI]
   cases ws[i]? <;> rfl
  have hk : ((GD r (ws.take i)).map gi).length ≤ 1000 := by
   rw [Ps]
   exact Ga (List.length_filterMap_le _ _) (by rw [FR]; omega)
  have e : GD r (ws.take (i + 1)) = GD r (ws.take i) ++ (G7 r (ws.getD i [])).toList := by
   rw [IL [] hi]
   unfold GD
   rw [List.filterMap_append, List.filterMap_cons]
   cases G7 r (ws.getD i []) <;> rfl
  simp only [oU, kO, kP]
  rw [Ps, EQ, EK, EK, hg, K9 _ (hl _ (GJ [] hi)), Dd, e, EI (n := (i : Int) + 1) (by omega) (by omega), show (mk #[]) = gi [] from rfl, GY, La (by have := hr.lt; omega), MJ (by have := hr.ln; omega)]
  unfold G7
  by_cases h1 : (ws.getD i []).filter Gw = []
  ·rw [if_pos h1, Pw h1, EN, EN]
   simp
  ·rw [if_neg h1, Pv h1, EM, Dd]
   cases hb : Ij (gi ((ws.getD i []).filter Gw)) r.Titles with
   | true => simp
   | false =>
    rw [EM, Dd, EP, EN]
    simp
 ·simp only [oU]
  rw [Ps, EO, PF]
theorem Mn {r : aY} (hr : Gv r) {l : List UInt8} (h : GB l) (hn : l.length ≤ 64) (h6 : (GD r (Gt (rc l))).length ≤ 6) (h64 : (dE (GD r (Gt (rc l)))).length ≤ 64) : lw r (gi l) = some (gi (dE (GD r (Gt (rc l)))), 0) := by
 have h1 := JF (rc l)
 have h2 := JI l
 have h3 := JN (Gt (rc l))
 have h4 := HI (Gt (rc l))
 have ha : ascii (dE (Gt (rc l))) := AX (p := fun c => c.toNat < 128) (by decide) fun x hx c hc => Dl (p := fun c => c.toNat < 128) (fun c hc => (JH h).ascii c hc) x hx c hc
 unfold lw
 rw [Ky hr, Dd, EN, KA h hn, De, EN, IM ha (by omega), Dd, As (Dz _)]
 rw [Om hr _ (by omega) (fun w hw => ?_), Dd, Kz (by omega) (by omega), Dd]
 ·unfold kQ
  rw [Ps, DU, ER, ER]
 ·have := Ol hw
  omega
def tw (w : List UInt8) : Prop := w ≠ [] ∧ HY w ∧ w.length ≤ 8
theorem He (l : List UInt8) (h : (!l.isEmpty && l.all Gw && decide (l.length ≤ 8)) = true) : tw l := by
 simp only [FY, Pu, FX, Bool.not_eq_true'] at h
 refine ⟨?_, h.1.2, h.2⟩
 rintro rfl
 exact absurd h.1.1 (by decide)
theorem tw.space {w : List UInt8} (h : tw w) : (32 : UInt8) ∉ w := fun hm => absurd (h.2.1 _ hm) (by decide)
theorem Pp {l : List (List UInt8)} (h : ∀ w ∈ l, tw w) : okW l := fun w hw => ⟨(h w hw).1, (h w hw).space⟩
theorem KO (a b c d t : List UInt8) : ([⟨gi a, gi b⟩, ⟨gi c, gi d⟩] : List aA).findIdx? (fun p => p.From.toList == (gi t).toList) = if a = t then some 0 else if c = t then some 1 else none := by
 simp only [List.findIdx?_cons, List.findIdx?_nil, GY, Option.map_none]
 by_cases h1 : a = t
 ·simp [h1]
 ·by_cases h2 : c = t
  ·simp [h1, h2]
  ·simp [h1, h2]
theorem Mj (a b c d t : List UInt8) : pW [⟨gi a, gi b⟩, ⟨gi c, gi d⟩] t = if a = t then b else if c = t then d else t := by
 unfold pW
 rw [KO]
 by_cases h1 : a = t
 ·rw [if_pos h1, if_pos h1]; rfl
 ·rw [if_neg h1, if_neg h1]
  by_cases h2 : c = t
  ·rw [if_pos h2, if_pos h2]; rfl
  ·rw [if_neg h2, if_neg h2]
theorem MV {r : aY} (h : Gv r) (w : List UInt8) : Hj r w = w ∧ (r.Nicknames.findIdx? (fun p => p.From.toList == (gi w).toList) = none) ∨ ∃ p ∈ r.Nicknames, Hj r w = p.To.data.toList ∧ tw (Hj r w) ∧ r.Nicknames.findIdx? (fun q => q.From.toList == (gi (Hj r w)).toList) = none := by
 unfold Hj
 rcases h.n with e | e <;> rw [e]
 ·exact .inl ⟨rfl, rfl⟩
 ·unfold N2
  rw [Mj, KO, KO]
  by_cases h1 : ([97, 110, 110, 97] : List UInt8) = w
  ·rw [if_pos h1]
   exact .inr ⟨_, FZ, rfl, He _ (by decide), by decide⟩
  ·rw [if_neg h1]
   by_cases h2 : ([98, 111, 98] : List UInt8) = w
   ·rw [if_pos h2]
    exact .inr ⟨_, F0 _ FZ, rfl, He _ (by decide), by decide⟩
   ·rw [if_neg h2, if_neg h1, if_neg h2]
    exact .inl ⟨rfl, rfl⟩
def J0 (r : aY) (w : List UInt8) : Prop := tw w ∧ G7 r w = some w
theorem tw.filter {w : List UInt8} (h : tw w) : w.filter Gw = w := List.filter_eq_self.2 h.2.1
theorem On {r : aY} {w : List UInt8} (h : r.Nicknames.findIdx? (fun p => p.From.toList == (gi w).toList) = none) : Hj r w = w := by
 unfold Hj pW
 rw [h]
theorem KG {r : aY} (hr : Gv r) {ws : List (List UInt8)} (h : ∀ w ∈ ws, tw w) : ∀ x ∈ GD r ws, J0 r x := by
 intro x hx
 obtain ⟨w, hw, e⟩ := List.mem_filterMap.1 hx
 have ht := h w hw
 unfold G7 at e
 rw [ht.filter, if_neg ht.1] at e
 split at e
 ·cases e
 ·rename_i hb
  obtain rfl := am e
  rcases MV hr w with ⟨e1, e2⟩ | ⟨p, hp, e1, e2, e3⟩
  ·rw [e1]
   refine ⟨ht, ?_⟩
   unfold G7
   rw [ht.filter, if_neg ht.1, if_neg hb, e1]
  ·refine ⟨e2, ?_⟩
   have hn := K3 hr hp
   rw [show p.To = gi (Hj r w) by rw [e1, Eb]] at hn
   unfold G7
   rw [e2.filter, if_neg e2.1, JM hn, EN, On e3]
theorem KB {r : aY} {ws : List (List UInt8)} (h : ∀ w ∈ ws, J0 r w) : GD r ws = ws := by
 unfold GD
 induction ws with
 | nil => rfl
 | cons w ws ih => rw [List.filterMap_cons, (h w FZ).2, ih fun x hx => h x (F0 _ hx)]
theorem JO {l : List (List UInt8)} (h : ∀ w ∈ l, tw w) : (l.map fun x => x.length + 1).sum ≤ 9 * l.length := by
 induction l with
 | nil => simp
 | cons x l ih =>
  have := ih fun y hy => h y (F0 _ hy)
  have := (h x FZ).2.2
  simp only [Gr, PK, FN]
  omega
theorem Kf {l : List (List UInt8)} (h : ∀ w ∈ l, ∀ c ∈ w, KF c) : rc (dE l) = dE l := Lq (AX (p := KF) (show cS 32 = [32] from rfl) h)
theorem Kr {l : List (List UInt8)} (h : ∀ w ∈ l, tw w) : GB (dE l) := AX (p := fun c => 32 ≤ c.toNat ∧ c.toNat ≤ 126) (by decide) fun w hw c hc => IN ((h w hw).2.1 c hc)
theorem NP {r : aY} (hr : Gv r) {ws : List (List UInt8)} (h : ∀ w ∈ ws, J0 r w) (hl : ws.length ≤ 6) : qJ r (gi (dE ws)) = some true := by
 have ht : ∀ w ∈ ws, tw w := fun w hw => (h w hw).1
 have e1 : Gt (rc (dE ws)) = ws := by rw [Kf fun w hw c hc => Jn ((ht w hw).2.1 c hc), As (Pp ht)]
 have h1 := JO ht
 have h2 := HI ws
 have := Mn hr (Kr ht) (by omega) (by rw [e1, KB h]; exact hl) (by rw [e1, KB h]; omega)
 unfold qJ ly
 rw [this, De, EM, GY, e1, KB h, Pw rfl]
theorem L8 {r : aY} (hr : Gv r) {l : List UInt8} (h : GB l) (hn : l.length ≤ 64) {ws : List (List UInt8)} (e : Gt (rc l) = ws) (hw : ∀ w ∈ ws, tw w) (h6 : ws.length ≤ 6) : lw r (gi l) = some (gi (dE (GD r ws)), 0) := by
 have hf := KG hr hw
 have h1 := JO fun w hw => (hf w hw).1
 have h2 := HI (GD r ws)
 have h3 : (GD r ws).length ≤ ws.length := List.length_filterMap_le _ _
 have := Mn hr h hn (by rw [e]; omega) (by rw [e]; omega)
 rw [e] at this
 exact this
noncomputable def GC (r : aY) (t : List UInt8) : List UInt8 := pW r.Streets t
theorem Js {r : aY} (h : Gv r) {w : List UInt8} (hw : tw w) : tw (GC r w) ∧ GC r (GC r w) = GC r w := by
 unfold GC
 rcases h.s with e | e <;> rw [e]
 ·exact ⟨hw, rfl⟩
 ·unfold P2
  simp only [Mj]
  by_cases h1 : ([114, 100] : List UInt8) = w
  ·rw [if_pos h1]
   exact ⟨He _ (by decide), by decide⟩
  ·rw [if_neg h1]
   by_cases h2 : ([115, 116] : List UInt8) = w
   ·rw [if_pos h2]
    exact ⟨He _ (by decide), by decide⟩
   ·rw [if_neg h2, if_neg h1, if_neg h2]
    exact ⟨hw, rfl⟩
theorem NQ (l : List aA) (hn : l.length ≤ 1000) (s : ByteArray) : nD l s = some ((match l.findIdx? (fun p => p.From.toList == s.toList) with | some i => (i : Int) | none => -1), s) := by
 unfold nD
 rw [Kn bK (fun p => p.From.toList == s.toList) l (fun i => ((i : Int), s)) (fun i => ((i : Int), s)) s (fun i hi => by
   simp only [nA, oz, De, FM]
   rw [EQ, EK, EK, EI (n := (i : Int) + 1) (by omega) (by omega)]
   rfl) (by
   simp only [nA]
   rw [EO])]
 cases l.findIdx? (fun p => p.From.toList == s.toList) <;> rfl
theorem Lb {l : List UInt8} (h : l ≠ []) : iX (gi l) = some (decide (48 ≤ (l.getD 0 0).toNat) && decide ((l.getD 0 0).toNat ≤ 57)) := by
 have hl : 0 < l.length := List.length_pos_iff.2 h
 unfold iX iM
 rw [show (mk #[]) = gi [] from rfl, GY, Pv h, EM, DU, DT, EK]
 by_cases h1 : 48 ≤ (l.getD 0 0).toNat
 ·rw [EQ, Pw h1]
  simp only [Bool.true_and, FL, decide_eq_decide]
  omega
 ·rw [ER, Pv h1, Bool.false_and]
theorem Kg {w : List UInt8} (h : tw w) : iX (gi w) = some false := by
 have hl : 0 < w.length := List.length_pos_iff.2 h.1
 have := h.2.1 _ (GJ 0 hl)
 unfold Gw at this
 simp only [FY, Pu] at this
 rw [Lb h.1, Pv (p := (w.getD 0 0).toNat ≤ 57) (by omega), Bool.and_false]
theorem JB : iX (gi [49, 50]) = some true := by
 rw [Lb (by decide)]
 rfl
theorem NR : qj (gi [49, 50]) = some (gi [49, 50]) := by
 unfold qj o8 kH kG oA
 rw [show (mk #[]) = gi [] from rfl, show (mk #[48]) = gi [48] from rfl, GY, GY, EN, EN, EM, EM, EM, EM, rR (t := gi [49, 50])]
 ·simp only [Dd]
  rw [JB, Dd, EN]
 ·simp only [tc, kf]
  rw [EM, EM, EN]
def KU (r : aY) (w : List UInt8) (o : List UInt8) : Prop := w = [49, 50] ∧ o = w ∨ tw w ∧ o = GC r w
theorem L9 {r : aY} (hr : Gv r) (y x : List ByteArray) (i : Nat) (hi : i < y.length) (hx : i < x.length) (hl : y.length ≤ 1000) {w o : List UInt8} (hw : x.getD i mt = gi w) (ho : KU r w o) : oB r y x (i : Int) = some (.inl (x.set i (gi o), ((i + 1 : Nat) : Int))) := by
 simp only [oB, iJ]
 rw [FM, Gg, hw, EQ, EK, EK, NQ _ (by have := hr.ls; omega), De, EI (n := (i : Int) + 1) (by omega) (by omega)]
 rcases ho with ⟨rfl, rfl⟩ | ⟨ht, rfl⟩
 ·rw [JB, Dd, if_pos rfl, NR, Dd]
  rfl
 ·rw [Kg ht, Dd, EN]
  unfold GC pW
  cases hf : r.Streets.findIdx? (fun p => p.From.toList == (gi w).toList) with
  | none =>
   rw [EN]
   have : x.set i (gi w) = x := by
    rw [← hw]
    apply List.ext_getElem?
    intro k
    rw [Gj]
    split
    ·rename_i hk
     subst hk
     first
     | rw [FI, FJ hx]; rfl
     | rw [if_pos hx, FI, FJ hx]; rfl
    ·rfl
   simp only [this]
   rfl
  | some k =>
   have := (List.findIdx?_eq_some_iff_getElem.1 hf).1
   simp only
   rw [EQ, EK, EK, FM, Eb]
   rfl
theorem Ma {r : aY} (hr : Gv r) {a b a' b' : List UInt8} (ha : KU r a a') (hb : KU r b b') : loop (fun v : (List ByteArray) × Int => oB r [gi a, gi b] v.1 v.2) ([gi a, gi b], 0) = some [gi a', gi b'] := by
 rw [vH (s' := ([gi a', gi b], 1)) (L9 hr [gi a, gi b] [gi a, gi b] 0 (Nat.zero_lt_succ _) (Nat.zero_lt_succ _) (show 2 ≤ 1000 by decide) rfl ha), vH (s' := ([gi a', gi b'], 2)) (L9 hr [gi a, gi b] [gi a', gi b] 1 (show 1 < 2 by decide) (show 1 < 2 by decide) (show 2 ≤ 1000 by decide) rfl hb)]
 exact rR rfl
theorem KC {w : List UInt8} (h : tw w) (b : Bool) : kc (if b = true then [gi [49, 50], gi w] else [gi w, gi [49, 50]]) = some ([gi [49, 50]], [gi w]) := by
 have e2 : ∀ x y z, nU x y z 2 = some (.inr (y, z)) ∨ 3 ≤ x.length := fun x y z => by
  by_cases hx : 3 ≤ x.length
  ·exact .inr hx
  ·left
   simp only [nU]
   rw [ER]
 unfold kc
 cases b with
 | true =>
  rw [if_pos rfl, vH (s' := ([gi [49, 50]], [], 1)), vH (s' := ([gi [49, 50]], [gi w], 2)), rR ((e2 _ _ _).resolve_right (by simp))]
  ·rfl
  ·simp only [nU, iu]
   rw [if_pos (by simp), EM, if_pos (by simp), show ([gi [49, 50], gi w] : aj).getD (1 : Int).toNat mt = gi w from rfl, Kg h]
   rfl
  ·simp only [nU, iu]
   rw [if_pos (by simp), EM, if_pos (by simp), show ([gi [49, 50], gi w] : aj).getD (0 : Int).toNat mt = gi [49, 50] from rfl, JB]
   rfl
 | false =>
  rw [EN, vH (s' := ([], [gi w], 1)), vH (s' := ([gi [49, 50]], [gi w], 2)), rR ((e2 _ _ _).resolve_right (by simp))]
  ·rfl
  ·simp only [nU, iu]
   rw [if_pos (by simp), EM, if_pos (by simp), show ([gi w, gi [49, 50]] : aj).getD (1 : Int).toNat mt = gi [49, 50] from rfl, JB]
   rfl
  ·simp only [nU, iu]
   rw [if_pos (by simp), EM, if_pos (by simp), show ([gi w, gi [49, 50]] : aj).getD (0 : Int).toNat mt = gi w from rfl, Kg h]
   rfl
theorem KP {r : aY} (hr : Gv r) {l w : List UInt8} (h : GB l) (hn : l.length ≤ 64) (hw : tw w) (b : Bool) (e : Gt (rc l) = if b = true then [[49, 50], w] else [w, [49, 50]]) : kR r (gi l) = some (gi (dE [GC r w, [49, 50]]), 0) := by
 have h1 := JF (rc l)
 have h2 := JI l
 have h3 := JN (Gt (rc l))
 have h4 := HI (Gt (rc l))
 have ha : ascii (dE (Gt (rc l))) := AX (p := fun c => c.toNat < 128) (by decide) fun x hx c hc => Dl (p := fun c => c.toNat < 128) (fun c hc => (JH h).ascii c hc) x hx c hc
 obtain ⟨hs, _⟩ := Js hr hw
 have hj : (dE [GC r w, [49, 50]]).length ≤ 64 := by
  have := hs.2.2
  simp only [dE, FO, FN, FP]
  omega
 unfold kR
 rw [Ky hr, Dd, EN, KA h hn, De, EN, IM ha (by omega), Dd, As (Dz _), e]
 have key : ∀ x30 : List ByteArray, x30.length = 2 → kc x30 = some ([gi [49, 50]], [gi (GC r w)]) → (aM (kc x30) fun y31 y32 => (if y32.length + y31.length ≤ 1099511627776 then ((gK (y32 ++ y31)).bind fun y35 => (if (decide ((x30.length : Int) > 6)) = true then (kx y35 true) else (kx y35 (decide (((y35.size : Nat) : Int) > 64))))) else none)) = some (gi (dE [GC r w, [49, 50]]), 0) := by
  intro x hx hp
  rw [hp, De, if_pos (by simp), show ([gi (GC r w)] ++ [gi [49, 50]] : aj) = [GC r w, [49, 50]].map gi from rfl, Kz (by simp) (by omega), Dd, hx, EN, DU]
  unfold kx
  rw [ER]
 cases b with
 | true =>
  rw [if_pos rfl, show ([[49, 50], w] : List (List UInt8)).map gi = [gi [49, 50], gi w] from rfl, Ma hr (.inl ⟨rfl, rfl⟩) (.inr ⟨hw, rfl⟩), Dd]
  exact key _ rfl (KC hs true)
 | false =>
  rw [EN, show ([w, [49, 50]] : List (List UInt8)).map gi = [gi w, gi [49, 50]] from rfl, Ma hr (.inr ⟨hw, rfl⟩) (.inl ⟨rfl, rfl⟩), Dd]
  exact key _ rfl (KC hs false)
theorem Lr {w : List UInt8} (hw : tw w) : Gt (rc (dE [w, [49, 50]])) = [w, [49, 50]] := by
 rw [Kf fun x hx c hc => ?_, As fun x hx => ?_]
 ·rcases F1.1 hx with rfl | hx
  ·exact ⟨hw.1, hw.space⟩
  ·rw [FQ.1 hx]; decide
 ·rcases F1.1 hx with rfl | hx
  ·exact Jn (hw.2.1 c hc)
  ·rw [FQ.1 hx] at hc
   have : c = 49 ∨ c = 50 := by simpa using hc
   rcases this with rfl | rfl <;> exact rfl
theorem Nr {w : List UInt8} (hw : tw w) : Gt (rc ([49, 50, 44, 32] ++ w)) = [[49, 50], w] := by
 have e : rc ([49, 50, 44, 32] ++ w) = [49, 50, 32, 32] ++ w := by
  unfold rc
  rw [PH]
  exact congrArg ([49, 50, 32, 32] ++ ·) (Lq fun c hc => Jn (hw.2.1 c hc))
 rw [e]
 unfold Gt
 rw [PG, show List.foldl dj ([], []) ([49, 50, 32, 32] : List UInt8) = ([[49, 50]], []) from rfl, Kl w hw.space]
 unfold d9
 rw [Gf, if_neg hw.1]
 rfl
theorem JP {w : List UInt8} (hw : tw w) : GB (dE [w, [49, 50]]) ∧ GB ([49, 50, 44, 32] ++ w) := by
 constructor
 ·refine AX (p := fun c => 32 ≤ c.toNat ∧ c.toNat ≤ 126) (by decide) fun x hx c hc => ?_
  rcases F1.1 hx with rfl | hx
  ·exact IN (hw.2.1 c hc)
  ·rw [FQ.1 hx] at hc
   have : c = 49 ∨ c = 50 := by simpa using hc
   rcases this with rfl | rfl <;> decide
 ·intro c hc
  rcases F2.1 hc with hc | hc
  ·have : c = 49 ∨ c = 50 ∨ c = 44 ∨ c = 32 := by simpa using hc
   rcases this with rfl | rfl | rfl | rfl <;> decide
  ·exact IN (hw.2.1 c hc)
theorem JQ {w : List UInt8} (hw : tw w) : (dE [w, [49, 50]]).length ≤ 12 := by
 have := hw.2.2
 simp only [dE, FO, FN, FP]
 omega
theorem Oo {r : aY} (hr : Gv r) {w : List UInt8} (hw : tw w) : kR r (gi (w ++ [32, 49, 50])) = some (gi (dE [GC r w, [49, 50]]), 0) ∧ kR r (gi ([49, 50, 44, 32] ++ w)) = some (gi (dE [GC r w, [49, 50]]), 0) := by
 have := hw.2.2
 have := JQ hw
 exact ⟨KP hr (l := dE [w, [49, 50]]) (JP hw).1 (by omega) hw false (Lr hw), KP hr (JP hw).2 (by simp only [FO, FN, FP]; omega) hw true (Nr hw)⟩
theorem Ns {r : aY} (hr : Gv r) {w : List UInt8} (hw : tw w) : pV r (gi (dE [GC r w, [49, 50]])) = some true := by
 obtain ⟨h1, h2⟩ := Js hr hw
 have := JQ h1
 unfold pV kT
 rw [KP hr (JP h1).1 (by omega) h1 false (Lr h1), De, EM, h2, GY, Pw rfl]
theorem KD {l o : List UInt8} (h : (l.all (fun c => decide (32 ≤ c.toNat) && decide (c.toNat ≤ 126)) && decide (l.length ≤ 64) && decide ((Gt (rc l)).flatten = o) && decide (o.length ≤ 12)) = true) : lZ (gi l) = some (gi o, 0) := by
 simp only [FY, Pu, FX] at h
 obtain ⟨⟨⟨h0, h1⟩, h2⟩, h3⟩ := h
 have k1 := JF (rc l)
 have k2 := JI l
 have k3 := JN (Gt (rc l))
 have k4 := HI (Gt (rc l))
 have hp : GB l := h0
 have ha : ascii (dE (Gt (rc l))) := AX (p := fun c => c.toNat < 128) (by decide) fun x hx c hc => Dl (p := fun c => c.toNat < 128) (fun c hc => (JH hp).ascii c hc) x hx c hc
 have hj : xa ((Gt (rc l)).map gi) (mk #[]) = gi o := by
  unfold xa
  rw [List.map_map, show ((fun x : ByteArray => x.data.toList) ∘ gi) = id from rfl, List.map_id, show (mk #[]).data.toList = [] from rfl, ← h2]
  have : ∀ k : List (List UInt8), Lib.join k [] = k.flatten := fun k => by
   match k with
   | [] => rfl
   | x :: k =>
    rw [Lib.join_cons, List.flatten_cons]
    congr 1
    induction k with
    | nil => rfl
    | cons y k ih => simp [Lib.joinTail] at ih ⊢; try simp [ih]
  rw [this]
  rfl
 unfold lZ strings_Join
 rw [KA hp h1, De, EN, IM ha (by omega), Dd, As (Dz _), hj, Ps, if_pos ⟨by omega, by rw [DU]; omega⟩, Dd, DU, ER]
theorem OO : lZ (gi [97, 98, 32, 49, 50]) = some (gi [97, 98, 49, 50], 0) := KD (by decide)
theorem OP : lZ (gi [65, 45, 66, 49, 50]) = some (gi [97, 98, 49, 50], 0) := KD (by decide)
theorem MO : pU (gi [97, 98, 49, 50]) = some true := by
 unfold pU kS
 rw [KD (l := [97, 98, 49, 50]) (o := [97, 98, 49, 50]) (by decide), De, EM, GY, Pw rfl]
end Go.Proofs.YtfmhbcfklokmaaaGreatDoor
