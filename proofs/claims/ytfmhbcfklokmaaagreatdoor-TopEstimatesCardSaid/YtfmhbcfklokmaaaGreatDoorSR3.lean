/- Lemmas for the statement TopEstimates: Go functions told as pure functions, and laws about these; texts joined and shortened by a program of mine; no condition. -/
import Derived.Test.YtfmhbcfklokmaaaGreatDoorSR1
import Derived.Test.YtfmhbcfklokmaaaGreatDoorRows
import Derived.Test.YtfmhbcfklokmaaaGreatDoorSR2
set_option linter.unusedVariables false
set_option linter.unusedSimpArgs false
set_option linter.defProp false
namespace Go.Proofs.YtfmhbcfklokmaaaGreatDoor
open Vm
open AW (block cond exit ret seq skip)
open _root_.ByteArray (mk)
open IntKind (i64 u64 u32 u8)
set_option maxRecDepth 100000
set_option maxHeartbeats 10000000
noncomputable section
theorem dx : Tryz.prog.follows .mixedOrders = true := by kernel_rfl
abbrev kN : C := .t (.v .nilFunc)
abbrev kF (g : Nat) : C := .t (.v (.func (.func g) #[] #[]))
abbrev kE (w : ByteArray) (a b c : Nat) : List C := [cs w, kF a, kF b, kF c]
abbrev HD : List C := [cs ⟨#[]⟩, kN, kN, kN] ++ kE ⟨#[110, 97, 109, 101]⟩ 189 190 191 ++ kE ⟨#[100, 97, 116, 101]⟩ 192 193 195 ++ kE ⟨#[99, 111, 100, 101]⟩ 196 198 200 ++ kE ⟨#[97, 100, 100, 114, 101, 115, 115]⟩ 201 202 191
theorem v8 : CT 154 [] [] (.agg HD) [] := by
 refine aw ae 0 Tryz.func154 rfl (fun _ _ _ => ?_)
 refine QZ ae [(0, pX 0 4)] [0] [(0, .row 244 false 4 5 (dp [.v (.string ⟨#[]⟩), .v .nilFunc, .v .nilFunc, .v .nilFunc, .v (.string ⟨#[]⟩), .v .nilFunc, .v .nilFunc, .v .nilFunc, .v (.string ⟨#[]⟩), .v .nilFunc, .v .nilFunc, .v .nilFunc, .v (.string ⟨#[]⟩), .v .nilFunc, .v .nilFunc, .v .nilFunc, .v (.string ⟨#[]⟩), .v .nilFunc, .v .nilFunc, .v .nilFunc] 4))] 1 [] ?_
 refine QZ ae [] [0] [(0, .row 244 false 4 5 (dp [.v (.string ⟨#[]⟩), .v .nilFunc, .v .nilFunc, .v .nilFunc, .v (.string ⟨#[110, 97, 109, 101]⟩), .v (.func (.func 189) #[] #[]), .v (.func (.func 190) #[] #[]), .v (.func (.func 191) #[] #[]), .v (.string ⟨#[100, 97, 116, 101]⟩), .v (.func (.func 192) #[] #[]), .v (.func (.func 193) #[] #[]), .v (.func (.func 195) #[] #[]), .v (.string ⟨#[99, 111, 100, 101]⟩), .v (.func (.func 196) #[] #[]), .v (.func (.func 198) #[] #[]), .v (.func (.func 200) #[] #[]), .v (.string ⟨#[97, 100, 100, 114, 101, 115, 115]⟩), .v (.func (.func 201) #[] #[]), .v (.func (.func 202) #[] #[]), .v (.func (.func 191) #[] #[])] 4))] 7 [] (ret ?_)
 exact ⟨_, Conv.refl _ _, .inr rfl, gE.mk [] 0 (out0 := .agg HD) (ps := [0 + 4 < 5]) (by kernel_rfl) ⟨by decide, tv⟩ (by kernel_rfl) (by kernel_rfl)⟩
theorem zY (p0 : aS) (p1 : Int) (hc : eB p0 = some 0) (h0 : 0 ≤ p1) (h1 : p1 < (p0.Fields.length : Int)) (hk : (p0.Fields.getD p1.toNat bD).Kind = 1) : CT 112 [.agg (bf p0), af p1] [] (.tup [.agg (kE ⟨#[110, 97, 109, 101]⟩ 189 190 191), af 0]) [] := by
 refine aw ae 0 Tryz.func112 rfl (fun _ _ _ => ?_)
 refine QZ ae [(2, pX 0 4), (4, pX 1 4)] [0, 1] [(0, .box 33 (bf p0)), (1, .box 194 [cs ⟨#[]⟩, kN, kN, kN])] 3 [] (seq (aA ae [(6, af 0)] 5 [hn, hl [] [] 0 (iK p0 0 hc)] ?_))
 refine ah ae [(10, vb false)] 7 ?_
 refine cond (b := false) (by kernel_rfl) (fun e => by cases e) (fun _ => skip (QX (seq ?_)))
 have g1 : decide (p1 < 0) = false := by simp; omega
 have g2 : decide (p1 ≥ (p0.Fields.length : Int)) = false := by simp; omega
 refine aA ae [(21, vb false)] 16 [hn, hf g1, hn, hn, hn, hn, hn, hf g2] ?_
 refine cond (b := false) (by kernel_rfl) (fun e => by cases e) (fun _ => skip (QX ?_))
 refine Q1 ae dx [[], [], [], [], [], [], [], [], [1]] [(5, af 0)] [(1, .box 194 (kE ⟨#[110, 97, 109, 101]⟩ 189 190 191))] 25 [hl [] [] 0 v8, hn, hn, hn, hq h0 h1, hn, xC 1 hn hk, hq (p := (0 : Int) ≤ 1) (by decide) (q := (1 : Int) < 5) (by decide)] ?_
 refine ret ?_
 exact be (.inr rfl) [] 0 (.tup [.agg (kE ⟨#[110, 97, 109, 101]⟩ 189 190 191), af 0])
theorem zZ (p0 : aS) (p1 : Int) (hc : eB p0 = some 0) (h0 : 0 ≤ p1) (h1 : p1 < (p0.Fields.length : Int)) (hk : (p0.Fields.getD p1.toNat bD).Kind = 2) : CT 112 [.agg (bf p0), af p1] [] (.tup [.agg (kE ⟨#[100, 97, 116, 101]⟩ 192 193 195), af 0]) [] := by
 refine aw ae 0 Tryz.func112 rfl (fun _ _ _ => ?_)
 refine QZ ae [(2, pX 0 4), (4, pX 1 4)] [0, 1] [(0, .box 33 (bf p0)), (1, .box 194 [cs ⟨#[]⟩, kN, kN, kN])] 3 [] (seq (aA ae [(6, af 0)] 5 [hn, hl [] [] 0 (iK p0 0 hc)] ?_))
 refine ah ae [(10, vb false)] 7 ?_
 refine cond (b := false) (by kernel_rfl) (fun e => by cases e) (fun _ => skip (QX (seq ?_)))
 have g1 : decide (p1 < 0) = false := by simp; omega
 have g2 : decide (p1 ≥ (p0.Fields.length : Int)) = false := by simp; omega
 refine aA ae [(21, vb false)] 16 [hn, hf g1, hn, hn, hn, hn, hn, hf g2] ?_
 refine cond (b := false) (by kernel_rfl) (fun e => by cases e) (fun _ => skip (QX ?_))
 refine Q1 ae dx [[], [], [], [], [], [], [], [], [1]] [(5, af 0)] [(1, .box 194 (kE ⟨#[100, 97, 116, 101]⟩ 192 193 195))] 25 [hl [] [] 0 v8, hn, hn, hn, hq h0 h1, hn, xC 2 hn hk, hq (p := (0 : Int) ≤ 2) (by decide) (q := (2 : Int) < 5) (by decide)] ?_
 refine ret ?_
 exact be (.inr rfl) [] 0 (.tup [.agg (kE ⟨#[100, 97, 116, 101]⟩ 192 193 195), af 0])
theorem Aa (p0 : aS) (p1 : Int) (hc : eB p0 = some 0) (h0 : 0 ≤ p1) (h1 : p1 < (p0.Fields.length : Int)) (hk : (p0.Fields.getD p1.toNat bD).Kind = 3) : CT 112 [.agg (bf p0), af p1] [] (.tup [.agg (kE ⟨#[99, 111, 100, 101]⟩ 196 198 200), af 0]) [] := by
 refine aw ae 0 Tryz.func112 rfl (fun _ _ _ => ?_)
 refine QZ ae [(2, pX 0 4), (4, pX 1 4)] [0, 1] [(0, .box 33 (bf p0)), (1, .box 194 [cs ⟨#[]⟩, kN, kN, kN])] 3 [] (seq (aA ae [(6, af 0)] 5 [hn, hl [] [] 0 (iK p0 0 hc)] ?_))
 refine ah ae [(10, vb false)] 7 ?_
 refine cond (b := false) (by kernel_rfl) (fun e => by cases e) (fun _ => skip (QX (seq ?_)))
 have g1 : decide (p1 < 0) = false := by simp; omega
 have g2 : decide (p1 ≥ (p0.Fields.length : Int)) = false := by simp; omega
 refine aA ae [(21, vb false)] 16 [hn, hf g1, hn, hn, hn, hn, hn, hf g2] ?_
 refine cond (b := false) (by kernel_rfl) (fun e => by cases e) (fun _ => skip (QX ?_))
 refine Q1 ae dx [[], [], [], [], [], [], [], [], [1]] [(5, af 0)] [(1, .box 194 (kE ⟨#[99, 111, 100, 101]⟩ 196 198 200))] 25 [hl [] [] 0 v8, hn, hn, hn, hq h0 h1, hn, xC 3 hn hk, hq (p := (0 : Int) ≤ 3) (by decide) (q := (3 : Int) < 5) (by decide)] ?_
 refine ret ?_
 exact be (.inr rfl) [] 0 (.tup [.agg (kE ⟨#[99, 111, 100, 101]⟩ 196 198 200), af 0])
theorem Ab (p0 : aS) (p1 : Int) (hc : eB p0 = some 0) (h0 : 0 ≤ p1) (h1 : p1 < (p0.Fields.length : Int)) (hk : (p0.Fields.getD p1.toNat bD).Kind = 4) : CT 112 [.agg (bf p0), af p1] [] (.tup [.agg (kE ⟨#[97, 100, 100, 114, 101, 115, 115]⟩ 201 202 191), af 0]) [] := by
 refine aw ae 0 Tryz.func112 rfl (fun _ _ _ => ?_)
 refine QZ ae [(2, pX 0 4), (4, pX 1 4)] [0, 1] [(0, .box 33 (bf p0)), (1, .box 194 [cs ⟨#[]⟩, kN, kN, kN])] 3 [] (seq (aA ae [(6, af 0)] 5 [hn, hl [] [] 0 (iK p0 0 hc)] ?_))
 refine ah ae [(10, vb false)] 7 ?_
 refine cond (b := false) (by kernel_rfl) (fun e => by cases e) (fun _ => skip (QX (seq ?_)))
 have g1 : decide (p1 < 0) = false := by simp; omega
 have g2 : decide (p1 ≥ (p0.Fields.length : Int)) = false := by simp; omega
 refine aA ae [(21, vb false)] 16 [hn, hf g1, hn, hn, hn, hn, hn, hf g2] ?_
 refine cond (b := false) (by kernel_rfl) (fun e => by cases e) (fun _ => skip (QX ?_))
 refine Q1 ae dx [[], [], [], [], [], [], [], [], [1]] [(5, af 0)] [(1, .box 194 (kE ⟨#[97, 100, 100, 114, 101, 115, 115]⟩ 201 202 191))] 25 [hl [] [] 0 v8, hn, hn, hn, hq h0 h1, hn, xC 4 hn hk, hq (p := (0 : Int) ≤ 4) (by decide) (q := (4 : Int) < 5) (by decide)] ?_
 refine ret ?_
 exact be (.inr rfl) [] 0 (.tup [.agg (kE ⟨#[97, 100, 100, 114, 101, 115, 115]⟩ 201 202 191), af 0])
theorem wD {w : ByteArray} {a b c : Nat} (p0 : aS) (p1 : Int) (p2 : ByteArray) (r : ByteArray × Int) (hq : CT 112 [.agg (bf p0), af p1] [] (.tup [.agg (kE w a b c), af 0]) []) (he : (p2.toList == (mk #[]).toList) = false) (h : d7 Tryz.prog a [.agg [cl 1 Rs p0.Rules.Titles, cl 2 bA p0.Rules.Nicknames, cl 2 bA p0.Rules.Streets], vs p2] [] (.tup [vs r.1, af r.2]) []) : CT 68 [.agg (bf p0), af p1, vs p2] [] (.tup [vs r.1, af r.2]) [] := by
 refine aw ae 0 Tryz.func68 rfl (fun _ _ _ => ?_)
 refine QZ ae [(3, pX 0 4)] [0] [(0, .box 33 (bf p0))] 3 [] ?_
 refine QZ ae [(8, pX 8 4), (9, af 0)] [8] [(8, .box 194 (kE w a b c))] 11 (Ss [hl [] [] 0 hq]) (seq ?_)
 refine aA ae [(21, vb false)] 17 (Sv [hf he]) ?_
 refine cond (b := false) (by kernel_rfl) (fun e => by cases e) (fun _ => skip (QX ?_))
 refine aA ae [(6, vs r.1), (7, af r.2)] 26 (Sw [hl [] [] 0 h]) (ret ?_)
 exact be (.inr rfl) [] 0 (.tup [vs r.1, af r.2])
theorem wE {w : ByteArray} {a b c : Nat} (p0 : aS) (p1 : Int) (p2 : ByteArray) (hq : CT 112 [.agg (bf p0), af p1] [] (.tup [.agg (kE w a b c), af 0]) []) (he : (p2.toList == (mk #[]).toList) = true) : CT 68 [.agg (bf p0), af p1, vs p2] [] (.tup [vs (mk #[]), af 0]) [] := by
 refine aw ae 0 Tryz.func68 rfl (fun _ _ _ => ?_)
 refine QZ ae [(3, pX 0 4)] [0] [(0, .box 33 (bf p0))] 3 [] ?_
 refine QZ ae [(8, pX 8 4), (9, af 0)] [8] [(8, .box 194 (kE w a b c))] 11 (Ss [hl [] [] 0 hq]) (seq ?_)
 refine aA ae [(21, vb true)] 17 (Sv [ht he]) ?_
 refine cond (b := true) (by kernel_rfl) (fun _ => ?_) (fun e => by cases e)
 refine ah ae [(6, vs (mk #[])), (7, af 0)] 20 (ret (QW ?_))
 exact be (.inr rfl) [] 0 (.tup [vs (mk #[]), af 0])
theorem wF {w : ByteArray} {a b c : Nat} (p0 : aS) (p1 : Int) (p2 : ByteArray) (r : Bool) (hq : CT 112 [.agg (bf p0), af p1] [] (.tup [.agg (kE w a b c), af 0]) []) (he : (p2.toList == (mk #[]).toList) = false) (h : d7 Tryz.prog b [.agg [cl 1 Rs p0.Rules.Titles, cl 2 bA p0.Rules.Nicknames, cl 2 bA p0.Rules.Streets], vs p2] [] (vb r) []) : CT 121 [.agg (bf p0), af p1, vs p2] [] (vb r) [] := by
 refine aw ae 0 Tryz.func121 rfl (fun _ _ _ => ?_)
 refine QZ ae [(3, pX 0 4)] [0] [(0, .box 33 (bf p0))] 2 [] ?_
 refine QZ ae [(7, pX 7 4), (8, af 0)] [7] [(7, .box 194 (kE w a b c))] 10 (Ss [hl [] [] 0 hq]) ?_
 refine aA ae [(6, vb r)] 24 (Sv [hf he, hn, hn, hn, hn, hn, hn, hl [] [] 0 h]) (ret ?_)
 exact be (.inr rfl) [] 0 (vb r)
theorem wG {w : ByteArray} {a b c : Nat} (p0 : aS) (p1 : Int) (p2 : ByteArray) (hq : CT 112 [.agg (bf p0), af p1] [] (.tup [.agg (kE w a b c), af 0]) []) (he : (p2.toList == (mk #[]).toList) = true) : CT 121 [.agg (bf p0), af p1, vs p2] [] (vb true) [] := by
 refine aw ae 0 Tryz.func121 rfl (fun _ _ _ => ?_)
 refine QZ ae [(3, pX 0 4)] [0] [(0, .box 33 (bf p0))] 2 [] ?_
 refine QZ ae [(7, pX 7 4), (8, af 0)] [7] [(7, .box 194 (kE w a b c))] 10 (Ss [hl [] [] 0 hq]) ?_
 refine aA ae [(6, vb true)] 25 (Sv [ht he]) (ret ?_)
 exact be (.inr rfl) [] 0 (vb true)
noncomputable def qY (p0 : aS) (p1 : Int) (p2 : ByteArray) : Option (ByteArray × Int) := (eB p0).bind fun e => if (e = 0 ∧ 0 ≤ p1 ∧ p1 < (p0.Fields.length : Int)) then if (p0.Fields.getD p1.toNat bD).Kind = 1 then if (p2.toList == (mk #[]).toList) then some (mk #[], 0) else jK p0.Rules p2 else if (p0.Fields.getD p1.toNat bD).Kind = 2 then if (p2.toList == (mk #[]).toList) then some (mk #[], 0) else oU p0.Rules p2 else if (p0.Fields.getD p1.toNat bD).Kind = 3 then if (p2.toList == (mk #[]).toList) then some (mk #[], 0) else u4 p0.Rules p2 else if (p0.Fields.getD p1.toNat bD).Kind = 4 then if (p2.toList == (mk #[]).toList) then some (mk #[], 0) else iH p0.Rules p2 else none else none
theorem Iz (p0 : aS) (p1 : Int) (p2 : ByteArray) (r : (ByteArray × Int)) (h : qY p0 p1 p2 = some r) : CT 68 [.agg (bf p0), af p1, vs p2] [] (.tup [vs r.1, af r.2]) [] := by
 unfold qY at h
 obtain ⟨e, hc, h2⟩ := Option.bind_eq_some_iff.1 h
 obtain ⟨⟨e0, h0, h1⟩, h3⟩ := aY h2
 subst e0
 clear h h2
 by_cases k1 : (p0.Fields.getD p1.toNat bD).Kind = 1
 ·rw [if_pos k1] at h3
  have hq := zY p0 p1 hc h0 h1 k1
  rcases aI h3 with ⟨he, h⟩ | ⟨he, h⟩
  ·obtain rfl := ay h
   exact wE p0 p1 p2 hq he
  ·exact wD p0 p1 p2 r hq he (CF p0.Rules p2 r h)
 rw [if_neg k1] at h3
 by_cases k2 : (p0.Fields.getD p1.toNat bD).Kind = 2
 ·rw [if_pos k2] at h3
  have hq := zZ p0 p1 hc h0 h1 k2
  rcases aI h3 with ⟨he, h⟩ | ⟨he, h⟩
  ·obtain rfl := ay h
   exact wE p0 p1 p2 hq he
  ·exact wD p0 p1 p2 r hq he (JP p0.Rules p2 r h)
 rw [if_neg k2] at h3
 by_cases k3 : (p0.Fields.getD p1.toNat bD).Kind = 3
 ·rw [if_pos k3] at h3
  have hq := Aa p0 p1 hc h0 h1 k3
  rcases aI h3 with ⟨he, h⟩ | ⟨he, h⟩
  ·obtain rfl := ay h
   exact wE p0 p1 p2 hq he
  ·exact wD p0 p1 p2 r hq he (IH p0.Rules p2 r h)
 rw [if_neg k3] at h3
 by_cases k4 : (p0.Fields.getD p1.toNat bD).Kind = 4
 ·rw [if_pos k4] at h3
  have hq := Ab p0 p1 hc h0 h1 k4
  rcases aI h3 with ⟨he, h⟩ | ⟨he, h⟩
  ·obtain rfl := ay h
   exact wE p0 p1 p2 hq he
  ·exact wD p0 p1 p2 r hq he (Cu p0.Rules p2 r h)
 rw [if_neg k4] at h3
 cases h3
noncomputable def lO (p0 : aS) (p1 : Int) (p2 : ByteArray) : Option Bool := (eB p0).bind fun e => if (e = 0 ∧ 0 ≤ p1 ∧ p1 < (p0.Fields.length : Int)) then if (p0.Fields.getD p1.toNat bD).Kind = 1 then if (p2.toList == (mk #[]).toList) then some true else sG p0.Rules p2 else if (p0.Fields.getD p1.toNat bD).Kind = 2 then if (p2.toList == (mk #[]).toList) then some true else rk p0.Rules p2 else if (p0.Fields.getD p1.toNat bD).Kind = 3 then if (p2.toList == (mk #[]).toList) then some true else u5 p0.Rules p2 else if (p0.Fields.getD p1.toNat bD).Kind = 4 then if (p2.toList == (mk #[]).toList) then some true else rI p0.Rules p2 else none else none
theorem CU (p0 : aS) (p1 : Int) (p2 : ByteArray) (r : Bool) (h : lO p0 p1 p2 = some r) : CT 121 [.agg (bf p0), af p1, vs p2] [] (vb r) [] := by
 unfold lO at h
 obtain ⟨e, hc, h2⟩ := Option.bind_eq_some_iff.1 h
 obtain ⟨⟨e0, h0, h1⟩, h3⟩ := aY h2
 subst e0
 clear h h2
 by_cases k1 : (p0.Fields.getD p1.toNat bD).Kind = 1
 ·rw [if_pos k1] at h3
  have hq := zY p0 p1 hc h0 h1 k1
  rcases aI h3 with ⟨he, h⟩ | ⟨he, h⟩
  ·obtain rfl := ay h
   exact wG p0 p1 p2 hq he
  ·exact wF p0 p1 p2 r hq he (Jy p0.Rules p2 r h)
 rw [if_neg k1] at h3
 by_cases k2 : (p0.Fields.getD p1.toNat bD).Kind = 2
 ·rw [if_pos k2] at h3
  have hq := zZ p0 p1 hc h0 h1 k2
  rcases aI h3 with ⟨he, h⟩ | ⟨he, h⟩
  ·obtain rfl := ay h
   exact wG p0 p1 p2 hq he
  ·exact wF p0 p1 p2 r hq he (II p0.Rules p2 r h)
 rw [if_neg k2] at h3
 by_cases k3 : (p0.Fields.getD p1.toNat bD).Kind = 3
 ·rw [if_pos k3] at h3
  have hq := Aa p0 p1 hc h0 h1 k3
  rcases aI h3 with ⟨he, h⟩ | ⟨he, h⟩
  ·obtain rfl := ay h
   exact wG p0 p1 p2 hq he
  ·exact wF p0 p1 p2 r hq he (IJ p0.Rules p2 r h)
 rw [if_neg k3] at h3
 by_cases k4 : (p0.Fields.getD p1.toNat bD).Kind = 4
 ·rw [if_pos k4] at h3
  have hq := Ab p0 p1 hc h0 h1 k4
  rcases aI h3 with ⟨he, h⟩ | ⟨he, h⟩
  ·obtain rfl := ay h
   exact wG p0 p1 p2 hq he
  ·exact wF p0 p1 p2 r hq he (IU p0.Rules p2 r h)
 rw [if_neg k4] at h3
 cases h3
theorem we {w : ByteArray} {a b c : Nat} (p0 : aS) (p1 : Int) (p2 : ByteArray) (r : List ByteArray) (hq : CT 112 [.agg (bf p0), af p1] [] (.tup [.agg (kE w a b c), af 0]) []) (he : (p2.toList == (mk #[]).toList) = false) (hN : lO p0 p1 p2 = some true) (h : d7 Tryz.prog c [vs p2] [] (.c (.ref 0 1 0 r.length)) [(0, .row 9 false 1 r.length (Rs r))]) : CT 122 [.agg (bf p0), af p1, vs p2] [] (.tup [.c (.ref 0 1 0 r.length), af 0]) [(0, .row 9 false 1 r.length (Rs r))] := by
 refine aw ae 0 Tryz.func122 rfl (fun _ _ _ => ?_)
 refine QZ ae [(3, pX 0 4)] [0] [(0, .box 33 (bf p0))] 3 [] ?_
 refine QZ ae [(8, pX 8 4), (9, af 0)] [8] [(8, .box 194 (kE w a b c))] 11 (Ss [hl [] [] 0 hq]) (seq (block ?_))
 refine ah ae [(16, vb false)] 14 ?_
 refine cond (b := false) (by kernel_rfl) (fun e => by cases e) (fun _ => ?_)
 refine aA ae [(20, vb false)] 19 (Su [hl [] [] 0 (CU p0 p1 p2 true hN)]) ?_
 refine cond (b := false) (by kernel_rfl) (fun e => by cases e) (fun _ => ?_)
 refine aA ae [(26, vb false)] 22 [hn, hf he] ?_
 refine cond (b := false) (by kernel_rfl) (fun e => by cases e) (fun _ => skip (QU (QX ?_)))
 refine QZ ae [(6, rX 25 1 r.length), (7, af 0)] [25] [(25, .row 9 false 1 r.length (Rs r))] 28 (Su [hl [] [] 1 h]) (ret ?_)
 exact be (.inr rfl) [(0, 25)] 1 (.tup [.c (.ref 25 1 0 r.length), af 0])
noncomputable def so (p0 : aS) (p1 : Int) (p2 : ByteArray) : Option (List ByteArray × Int) := (eB p0).bind fun e => if (e = 0 ∧ 0 ≤ p1 ∧ p1 < (p0.Fields.length : Int) ∧ lO p0 p1 p2 = some true) then if (p0.Fields.getD p1.toNat bD).Kind = 1 then if (p2.toList == (mk #[]).toList) then none else (oV p2).bind fun g => some (g, 0) else if (p0.Fields.getD p1.toNat bD).Kind = 2 then if (p2.toList == (mk #[]).toList) then none else (rm p2).bind fun g => some (g, 0) else if (p0.Fields.getD p1.toNat bD).Kind = 3 then if (p2.toList == (mk #[]).toList) then none else (u6 p2).bind fun g => some (g, 0) else if (p0.Fields.getD p1.toNat bD).Kind = 4 then if (p2.toList == (mk #[]).toList) then none else (oV p2).bind fun g => some (g, 0) else none else none
theorem Jk (p0 : aS) (p1 : Int) (p2 : ByteArray) (r : (List ByteArray × Int)) (h : so p0 p1 p2 = some r) : CT 122 [.agg (bf p0), af p1, vs p2] [] (.tup [.c (.ref 0 1 0 r.1.length), af r.2]) [(0, .row 9 false 1 r.1.length (Rs r.1))] := by
 unfold so at h
 obtain ⟨e, hc, h2⟩ := Option.bind_eq_some_iff.1 h
 obtain ⟨⟨e0, h0, h1, hN⟩, h3⟩ := aY h2
 subst e0
 clear h h2
 by_cases k1 : (p0.Fields.getD p1.toNat bD).Kind = 1
 ·rw [if_pos k1] at h3
  have hq := zY p0 p1 hc h0 h1 k1
  rcases aI h3 with ⟨he, h⟩ | ⟨he, h⟩
  ·cases h
  ·obtain ⟨g, hg, h⟩ := Option.bind_eq_some_iff.1 h
   obtain rfl := ay h
   exact we p0 p1 p2 g hq he hN (Du p2 g hg)
 rw [if_neg k1] at h3
 by_cases k2 : (p0.Fields.getD p1.toNat bD).Kind = 2
 ·rw [if_pos k2] at h3
  have hq := zZ p0 p1 hc h0 h1 k2
  rcases aI h3 with ⟨he, h⟩ | ⟨he, h⟩
  ·cases h
  ·obtain ⟨g, hg, h⟩ := Option.bind_eq_some_iff.1 h
   obtain rfl := ay h
   exact we p0 p1 p2 g hq he hN (IK p2 g hg)
 rw [if_neg k2] at h3
 by_cases k3 : (p0.Fields.getD p1.toNat bD).Kind = 3
 ·rw [if_pos k3] at h3
  have hq := Aa p0 p1 hc h0 h1 k3
  rcases aI h3 with ⟨he, h⟩ | ⟨he, h⟩
  ·cases h
  ·obtain ⟨g, hg, h⟩ := Option.bind_eq_some_iff.1 h
   obtain rfl := ay h
   exact we p0 p1 p2 g hq he hN (IL p2 g hg)
 rw [if_neg k3] at h3
 by_cases k4 : (p0.Fields.getD p1.toNat bD).Kind = 4
 ·rw [if_pos k4] at h3
  have hq := Ab p0 p1 hc h0 h1 k4
  rcases aI h3 with ⟨he, h⟩ | ⟨he, h⟩
  ·cases h
  ·obtain ⟨g, hg, h⟩ := Option.bind_eq_some_iff.1 h
   obtain rfl := ay h
   exact we p0 p1 p2 g hq he hN (Du p2 g hg)
 rw [if_neg k4] at h3
 cases h3
structure aL where
 ID : Int
 Version : Int
 Values : List ByteArray
def bL : aL := ⟨0, 0, ([] : am)⟩
instance : Inhabited aL := ⟨bL⟩
noncomputable def rJ (p0 : aS) (p3 : List ByteArray) (x12 : Int) (x13 : List ByteArray) : Option ((Int × List ByteArray) ⊕ (List ByteArray ⊕ Int)) := if decide (x12 < (p3.length : Int)) then if 0 ≤ x12 then if x12 < (p3.length : Int) then aF (qY p0 x12 (p3.getD x12.toNat mt)) fun y19 y20 => (if (y20 != 0) then some (.inr (.inr y20)) else if x12 < (x13.length : Int) then some (.inl (SB (x12 + 1), (x13.set (0 + x12.toNat) y19))) else none) else none else none else some (.inr (.inl x13))
noncomputable def Dv (p1 : Int) (p2 : Int) (x24 : List ByteArray) : Option (aL × Int) := some ((⟨p1, p2, x24⟩ : aL), 0)
def Dw (x25 : Int) : Option (aL × Int) := some ((⟨0, 0, ([] : am)⟩ : aL), x25)
noncomputable def fU (p0 : aS) (p1 : Int) (p2 : Int) (p3 : List ByteArray) : Option (aL × Int) := (eB p0).bind fun y1 => (if (y1 != 0) then some ((⟨0, 0, ([] : am)⟩ : aL), y1) else if ((p3.length : Int) != (p0.Fields.length : Int)) then some ((⟨0, 0, ([] : am)⟩ : aL), 8) else (nF p1 p2).bind fun y5 => (if (!y5) then some ((⟨0, 0, ([] : am)⟩ : aL), 7) else if 0 ≤ (p3.length : Int) then if (p3.length : Int) ≤ 1099511627776 then cD (loop (fun v : Int × List ByteArray => rJ p0 p3 v.1 v.2) (0, (List.replicate ((p3.length : Int).toNat) (mt : ByteArray)))) (fun t => Dv p1 p2 t) (fun t => Dw t) else none else none))
theorem u7 (p0 : aS) (p1 : Int) (p2 : Int) (p3 : List ByteArray) (r : aL × Int) (h : fU p0 p1 p2 p3 = some r) : CT 27 [.agg (bf p0), af p1, af p2, vl 1 Rs p3] [] (.tup [.agg [ag r.1.ID, ag r.1.Version, .ref 0 1 0 r.1.Values.length], af r.2]) [(0, .row 9 false 1 r.1.Values.length (Rs r.1.Values))] := by
 refine aw ae 0 Tryz.func27 rfl (fun _ _ _ => ?_)
 unfold fU at h
 refine QZ ae [(8, pX 1 3), (4, pX 0 4)] [0, 1] [(1, .box 53 [ag 0, ag 0, ar]), (0, .box 33 (bf p0))] 3 [] (seq ?_)
 obtain ⟨y1, e2, h⟩ := ap h
 refine aA ae [(10, af y1)] 5 [hn, hk (iK p0 y1 e2)] ?_
 refine ah ae [(19, vb (y1 != 0))] 7 ?_
 refine Q2 h ?_ ?_ <;> intro c3 h
 ·refine QZ ae [(9, af y1)] [1] [(1, .box 53 [ag 0, ag 0, ar])] 11 [] (ret (QW ?_))
  obtain rfl := ay h
  exact b6 (.inr rfl) [(0, 11)] 1 (.tup [.agg [ag 0, ag 0, .ref 11 1 0 (([] : am).length)], af y1]) (dr (id := 1) (ty0 := 53) (cs := [ag 0, ag 0, ar]) 2 (ty := 9) (sz := 1) (n := ([] : am).length) (f := Rs ([] : am)) (by kernel_rfl) (by kernel_rfl) rfl)
 ·refine skip (QX ?_)
  refine seq (block ?_)
  refine ah ae [(22, vb ((p3.length : Int) != (p0.Fields.length : Int)))] 14 ?_
  refine Q2 h ?_ ?_ <;> intro c4 h
  ·refine QZ ae [(9, af 8)] [1] [(1, .box 53 [ag 0, ag 0, ar])] 17 [] (ret (QT (QW ?_)))
   obtain rfl := ay h
   exact b6 (.inr rfl) [(0, 17)] 1 (.tup [.agg [ag 0, ag 0, .ref 17 1 0 (([] : am).length)], af 8]) (dr (id := 1) (ty0 := 53) (cs := [ag 0, ag 0, ar]) 2 (ty := 9) (sz := 1) (n := ([] : am).length) (f := Rs ([] : am)) (by kernel_rfl) (by kernel_rfl) rfl)
  ·obtain ⟨y5, e6, h⟩ := ap h
   refine aA ae [(30, vb (!y5))] 18 (Ss [hk (yh p1 p2 y5 e6)]) ?_
   refine Q2 h ?_ ?_ <;> intro c7 h
   ·refine QZ ae [(9, af 7)] [1] [(1, .box 53 [ag 0, ag 0, ar])] 21 [] (ret (QT (QW ?_)))
    obtain rfl := ay h
    exact b6 (.inr rfl) [(0, 21)] 1 (.tup [.agg [ag 0, ag 0, .ref 21 1 0 (([] : am).length)], af 7]) (dr (id := 1) (ty0 := 53) (cs := [ag 0, ag 0, ar]) 2 (ty := 9) (sz := 1) (n := ([] : am).length) (f := Rs ([] : am)) (by kernel_rfl) (by kernel_rfl) rfl)
   ·refine skip (QU (QX ?_))
    obtain ⟨g8, g9, h⟩ := aJ h
    refine QZ ae [(11, pX 24 3)] [22, 24] [(24, .box 53 [ag p1, ag p2, .ref 22 1 0 ((List.replicate ((p3.length : Int).toNat) (mt : ByteArray)).length)]), (22, .row 9 false 1 (List.replicate ((p3.length : Int).toNat) (mt : ByteArray)).length (Rs (List.replicate ((p3.length : Int).toNat) (mt : ByteArray))))] 26 (Sv [gM mt Es 1 16 [.string ⟨#[]⟩] rfl rfl (p3.length : Int) (p3.length : Int) g8 (Int.le_refl _) g9 (by decide)]) (seq ?_)
    refine ah ae [(44, af 0), (43, af (p3.length : Int)), (42, vl 1 Rs p3)] 29 (block ?_)
    refine Q4 h (fun v => ⟨[(4, pX 0 4), (8, pX 1 3), (11, pX 2 3), (42, vl 1 Rs p3), (43, af (p3.length : Int)), (44, af v.1)], [(0, .box 33 (bf p0)), (1, .box 53 [ag 0, ag 0, ar]), (2, .box 53 [ag p1, ag p2, .ref 3 1 0 v.2.length]), (3, .row 9 false 1 v.2.length (Rs v.2))], 4⟩) (fun t => (.exit 1, ⟨[(8, pX 0 3), (11, pX 1 3)], [(0, .box 53 [ag 0, ag 0, ar]), (1, .box 53 [ag p1, ag p2, .ref 2 1 0 t.length]), (2, .row 9 false 1 t.length (Rs t))], 3⟩)) (fun t => (.ret, ⟨[(8, pX 0 3), (9, af t)], [(0, .box 53 [ag 0, ag 0, ar])], 1⟩)) (ai [(0, 0), (1, 1), (2, 24), (3, 22)]) (fun _ => tv) (fun _ => tv) ?_ (fun x24 h => ?_) (fun x25 h => ?_)
    ·clear h
     intro v o h
     obtain ⟨x12, x13⟩ := v
     replace h : rJ p0 p3 x12 x13 = some o := h
     unfold rJ at h
     refine ah ae [(45, vb (decide (x12 < (p3.length : Int))))] 5 (seq ?_)
     refine Q2 h ?_ ?_ <;> intro c16 h
     ·refine skip (QX ?_)
      refine seq (block ?_)
      obtain ⟨g17, g18, h⟩ := aJ h
      refine aA ae [(13, vs (p3.getD x12.toNat mt)), (12, af x12)] 10 [hn, hq g17 g18] ?_
      obtain ⟨y19, y20, e21, h⟩ := aK h
      refine aA ae [(15, af y20), (14, vs y19)] 18 (Su [hk (Iz p0 x12 (p3.getD x12.toNat mt) (y19, y20) e21)]) (seq ?_)
      refine ah ae [(57, vb (y20 != 0))] 20 ?_
      refine Q2 h ?_ ?_ <;> intro c22 h
      ·refine QZ ae [(9, af y20)] [1] [(1, .box 53 [ag 0, ag 0, ar])] 24 [] (ret (QW ?_))
       refine QT (QW ?_)
       exact aX h rfl (ai [(0, 1)])
      ·refine skip (QX ?_)
       obtain ⟨g23, h⟩ := aY h
       refine QY ae [] [3] [(3, .row 9 false 1 x13.length (Rs (x13.set (0 + x12.toNat) y19)))] 26 (Sv [hq g17 g23, hset mt Es x13 (0 + x12.toNat) y19 (n := x13.length) (by have h1 : 0 ≤ x12 := g17; have h2 : x12 < (x13.length : Int) := g23; omega) rfl]) ?_
       refine QU (QX ?_)
       refine ba ae [(44, af (SB (x12 + 1)))] 28 ?_
       exact bh h (Conv.trans (ai (S' := ⟨[(44, af (SB (x12 + 1))), (4, pX 0 4), (8, pX 1 3), (11, pX 2 3), (42, vl 1 Rs p3), (43, af (p3.length : Int))], [(3, .row 9 false 1 x13.length (Rs (x13.set (0 + x12.toNat) y19))), (0, .box 33 (bf p0)), (1, .box 53 [ag 0, ag 0, ar]), (2, .box 53 [ag p1, ag p2, .ref 3 1 0 x13.length])], 28⟩) [(3, 3), (0, 0), (1, 1), (2, 2)] (by kernel_rfl)) (Conv.trans (tc (S' := ⟨[(44, af (SB (x12 + 1))), (4, pX 0 4), (8, pX 1 3), (11, pX 2 3), (42, vl 1 Rs p3), (43, af (p3.length : Int))], [(3, .row 9 false 1 (x13.set (0 + x12.toNat) y19).length (Rs (x13.set (0 + x12.toNat) y19))), (0, .box 33 (bf p0)), (1, .box 53 [ag 0, ag 0, ar]), (2, .box 53 [ag p1, ag p2, .ref 3 1 0 ((x13.set (0 + x12.toNat) y19).length)])], 28⟩) (by simp only [R7])) (ai [(0, 0), (1, 1), (2, 2), (3, 3)])))
     ·refine exit (QR ?_)
      exact aX h rfl (ai [(0, 1), (1, 2), (2, 3)])
    ·unfold Dv at h
     show (_ : XQ) (.exit 1) _
     refine QO (QX ?_)
     refine QZ ae [(9, af 0)] [0] [(0, .box 53 [ag p1, ag p2, .ref 2 1 0 x24.length])] 6 [] (ret ?_)
     obtain rfl := ay h
     exact be (.inr rfl) [(0, 2)] 1 (.tup [.agg [ag p1, ag p2, .ref 2 1 0 x24.length], af 0])
    ·unfold Dw at h
     show (_ : XQ) (.ret) _
     refine QT (QW ?_)
     obtain rfl := ay h
     exact b6 (.inr rfl) [(0, 1)] 1 (.tup [.agg [ag 0, ag 0, .ref 1 1 0 (([] : am).length)], af x25]) (dr (id := 0) (ty0 := 53) (cs := [ag 0, ag 0, ar]) 2 (ty := 9) (sz := 1) (n := ([] : am).length) (f := Rs ([] : am)) (by kernel_rfl) (by kernel_rfl) rfl)
structure bd where
 A : Int
 B : Int
def Lp : bd := ⟨0, 0⟩
instance : Inhabited bd := ⟨Lp⟩
def jH (x1 : Bool) : Option Bool := some x1
def gW (p0 : Int) : Option Bool := if decide (p0 ≥ 64) then if decide (p0 ≤ 512) then jH ((p0.tmod 64) == 0) else jH false else jH false
theorem yo (p0 : Int) (r : Bool) (h : gW p0 = some r) : CT 159 [af p0] [] (vb r) [] := by
 refine aw ae 0 Tryz.func159 rfl (fun _ _ _ => ?_)
 unfold gW at h
 refine ah ae [] 1 (seq ?_)
 refine AW.join (ι := Bool) (fun v => ⟨[(2, vb v)], [], 0⟩) (fun v : Bool => jH v = some r) (fun x1 h => ?_) ?_
 ·unfold jH at h
  refine QX (ret ?_)
  apply au h (vb x1)
 ·rcases aI h with ⟨c2, h⟩ | ⟨c2, h⟩
  ·rcases aI h with ⟨c3, h⟩ | ⟨c3, h⟩
   ·refine ax ae [(2, vb ((p0.tmod 64) == 0))] 13 [hn, ht c2, hn, hn, ht c3, hn, hn, hn, ho (p := (64 : Int) ≠ 0) (by decide)] ?_
    exact jl ((p0.tmod 64) == 0) h
   ·refine ax ae [(2, vb false)] 13 [hn, ht c2, hn, hn, hf c3] ?_
    exact jl false h
  ·refine ax ae [(2, vb false)] 13 [hn, hf c2] ?_
   exact jl false h
def qa (x : Int) : List T := [.v (.int .u64 x)]
def bo (xs : List Int) : Nat → Nat → T := bJ 0 qa xs
theorem qb : ∀ x, kA (qa x) := fun _ => ⟨tv, tv⟩
structure aR where
 Length : Int
 Words : List Int
def dA : aR := ⟨0, ([] : List Int)⟩
instance : Inhabited aR := ⟨dA⟩
def oW (p0 : Int) : Option (aR × Int) := (gW p0).bind fun y1 => (if (!y1) then some ((⟨0, ([] : List Int)⟩ : aR), 2) else (if 0 ≤ (SB (p0.tdiv 64)) then (if (SB (p0.tdiv 64)) ≤ 1099511627776 then (some ((⟨p0, (List.replicate ((SB (p0.tdiv 64)).toNat) (0 : Int))⟩ : aR), 0)) else none) else none))
theorem Dx (p0 : Int) (r : aR × Int) (h : oW p0 = some r) : CT 120 [af p0] [] (.tup [.agg [ag r.1.Length, .ref 0 1 0 r.1.Words.length], af r.2]) [(0, .row 37 false 1 r.1.Words.length (bo r.1.Words))] := by
 refine aw ae 0 Tryz.func120 rfl (fun _ _ _ => ?_)
 unfold oW at h
 refine QZ ae [(2, pX 0 2)] [0] [(0, .box 126 [ag 0, ar])] 2 [] (seq ?_)
 obtain ⟨y1, e2, h⟩ := ap h
 refine aA ae [(6, vb (!y1))] 4 [hn, hk (yo p0 y1 e2)] ?_
 refine Q2 h ?_ ?_ <;> intro c3 h
 ·refine QZ ae [(3, af 2)] [0] [(0, .box 126 [ag 0, ar])] 7 [] (ret (QW ?_))
  obtain rfl := ay h
  exact b6 (.inr rfl) [(0, 7)] 1 (.tup [.agg [ag 0, .ref 7 1 0 (([] : List Int).length)], af 2]) (dr (id := 0) (ty0 := 126) (cs := [ag 0, ar]) 1 (ty := 37) (sz := 1) (n := ([] : List Int).length) (f := bo ([] : List Int)) (by kernel_rfl) (by kernel_rfl) rfl)
 ·refine skip (QX ?_)
  obtain ⟨g4, g5, h⟩ := aJ h
  refine QZ ae [(3, af 0)] [0, 7] [(0, .box 126 [ag p0, .ref 7 1 0 ((List.replicate ((SB (p0.tdiv 64)).toNat) (0 : Int)).length)]), (7, .row 37 false 1 (List.replicate ((SB (p0.tdiv 64)).toNat) (0 : Int)).length (bo (List.replicate ((SB (p0.tdiv 64)).toNat) (0 : Int))))] 11 (Ss [ho (p := (64 : Int) ≠ 0) (by decide), gM 0 qa 1 8 [.int .u64 0] rfl rfl (SB (p0.tdiv 64)) (SB (p0.tdiv 64)) g4 (Int.le_refl _) g5 (by decide)]) (ret ?_)
  obtain rfl := ay h
  exact be (.inr rfl) [(0, 7)] 1 (.tup [.agg [ag p0, .ref 7 1 0 ((List.replicate ((SB (p0.tdiv 64)).toNat) (0 : Int)).length)], af 0])
def lH (x5 : Bool) : Option Int := if x5 then some 10 else some 0
def lV (p0 : aD) : Option Int := aF (oW p0.Length) fun y1 y2 => (if (y2 != 0) then some 10 else if decide (p0.Hashes < 1) then lH true else if decide (p0.Hashes > 16) then lH true else if decide (p0.Salt < (-1)) then lH true else lH (decide (p0.Salt ≥ 5)))
theorem rn (p0 : aD) (r : Int) (h : lV p0 = some r) : CT 78 [.agg [ag p0.Length, ag p0.Hashes, ag p0.Salt]] [] (af r) [] := by
 refine aw ae 0 Tryz.func78 rfl (fun _ _ _ => ?_)
 unfold lV at h
 refine QZ ae [(1, pX 0 3)] [0] [(0, .box 84 [ag p0.Length, ag p0.Hashes, ag p0.Salt])] 2 [] (seq ?_)
 obtain ⟨y1, y2, e3, h⟩ := aK h
 refine QZ ae [(4, af y2)] [4, 8] [] 11 (Ss [hm [] [] 1 (Dx p0.Length (y1, y2) e3) ⟨bS qb _ _ _, tv⟩]) ?_
 refine ah ae [(12, vb (y2 != 0))] 13 ?_
 refine Q2 h ?_ ?_ <;> intro c4 h
 ·refine ah ae [(2, af 10)] 14 (ret (QW ?_))
  apply au h (af 10)
 ·refine skip (QX ?_)
  refine seq (seq ?_)
  refine AW.join (ι := Bool) (fun v => ⟨[(30, vb v)], [], 0⟩) (fun v : Bool => lH v = some r) (fun x5 h => ?_) ?_
  ·unfold lH at h
   refine QX ?_
   refine Q2 h ?_ ?_ <;> intro c6 h
   ·refine ah ae [(2, af 10)] 1 (ret (QW ?_))
    apply au h (af 10)
   ·refine skip (QX ?_)
    refine ah ae [(2, af 0)] 1 (ret ?_)
    apply au h (af 0)
  ·rcases aI h with ⟨c7, h⟩ | ⟨c7, h⟩
   ·refine ax ae [(30, vb true)] 31 (Ss [ht c7]) ?_
    exact jl true h
   ·rcases aI h with ⟨c8, h⟩ | ⟨c8, h⟩
    ·refine ax ae [(30, vb true)] 31 (Ss [hf c7, hn, hn, hn, ht c8]) ?_
     exact jl true h
    ·rcases aI h with ⟨c9, h⟩ | ⟨c9, h⟩
     ·refine ax ae [(30, vb true)] 31 (Ss [hf c7, hn, hn, hn, hf c8, hn, hn, hn, hn, ht c9]) ?_
      exact jl true h
     ·refine ax ae [(30, vb (decide (p0.Salt ≥ 5)))] 31 (Ss [hf c7, hn, hn, hn, hf c8, hn, hn, hn, hn, hf c9]) ?_
      exact jl (decide (p0.Salt ≥ 5)) h
def nG (x6 : Int) (x10 : Bool) : Option (Int ⊕ (Unit ⊕ Unit)) := if x10 then some (.inr (.inr ())) else some (.inl (SB (x6 + 1)))
def u9 (p1 : List aD) (x6 : Int) : Option (Int ⊕ (Unit ⊕ Unit)) := if decide (x6 < (p1.length : Int)) then if 0 ≤ x6 then if x6 < (p1.length : Int) then (lV (p1.getD x6.toNat dk)).bind fun y12 => (if (y12 != 0) then nG x6 true else if decide (((p1.getD x6.toNat dk).Salt) ≥ (p1.length : Int)) then nG x6 true else nG x6 (((p1.getD x6.toNat dk).Salt) == x6)) else none else none else some (.inr (.inl ()))
def yB : Option Int := some 0
def yC : Option Int := some 10
def oC (p0 : aS) (p1 : List aD) : Option Int := (eB p0).bind fun y1 => (if (y1 != 0) then some y1 else if ((p1.length : Int) != (p0.Fields.length : Int)) then some 8 else cD (loop (fun v : Int => u9 p1 v) 0) (fun t => yB) (fun t => yC))
theorem C8 (p0 : aS) (p1 : List aD) (r : Int) (h : oC p0 p1 = some r) : CT 36 [.agg (bf p0), vl 3 cA p1] [] (af r) [] := by
 refine aw ae 0 Tryz.func36 rfl (fun _ _ _ => ?_)
 unfold oC at h
 refine QZ ae [(2, pX 0 4)] [0] [(0, .box 33 (bf p0))] 2 [] (seq ?_)
 obtain ⟨y1, e2, h⟩ := ap h
 refine aA ae [(5, af y1)] 4 [hn, hk (iK p0 y1 e2)] ?_
 refine ah ae [(11, vb (y1 != 0))] 6 ?_
 refine Q2 h ?_ ?_ <;> intro c3 h
 ·refine ah ae [(4, af y1)] 8 (ret (QW ?_))
  apply au h (af y1)
 ·refine skip (QX (seq ?_))
  refine ah ae [(18, vb ((p1.length : Int) != (p0.Fields.length : Int)))] 12 ?_
  refine Q2 h ?_ ?_ <;> intro c4 h
  ·refine ah ae [(4, af 8)] 13 (ret (QW ?_))
   apply au h (af 8)
  ·refine skip (QX (seq ?_))
   refine ah ae [(21, af 0), (20, af (p1.length : Int)), (19, vl 3 cA p1)] 15 (block ?_)
   refine Q4 h (fun v => ⟨[(1, vl 3 cA p1), (19, vl 3 cA p1), (20, af (p1.length : Int)), (21, af v)], [], 0⟩) (fun t => (.exit 0, ⟨[], [], 0⟩)) (fun t => (.ret, ⟨[(4, af 10)], [], 0⟩)) (ai []) (fun _ => tv) (fun _ => tv) ?_ (fun t h => ?_) (fun t h => ?_)
   ·clear h
    intro x6 o h
    unfold u9 at h
    refine ah ae [(22, vb (decide (x6 < (p1.length : Int))))] 1 (seq ?_)
    refine Q2 h ?_ ?_ <;> intro c7 h
    ·refine skip (QX ?_)
     refine seq (block ?_)
     obtain ⟨g8, g9, h⟩ := aJ h
     refine QZ ae [(6, af x6), (7, pX 4 3)] [4] [(4, .box 84 [ag ((p1.getD x6.toNat dk).Length), ag ((p1.getD x6.toNat dk).Hashes), ag ((p1.getD x6.toNat dk).Salt)])] 7 [hn, hq g8 g9] (seq ?_)
     refine AW.join (ι := Bool) (fun v => ⟨[(1, vl 3 cA p1), (19, vl 3 cA p1), (20, af (p1.length : Int)), (21, af x6), (41, vb v)], [], 0⟩) (fun v : Bool => nG x6 v = some o) (fun x10 h => ?_) ?_
     ·unfold nG at h
      refine QX ?_
      refine Q2 h ?_ ?_ <;> intro c11 h
      ·refine ah ae [(4, af 10)] 1 (ret (QT (QW ?_)))
       exact aX h rfl (ai [])
      ·refine skip (QU (QX ?_))
       refine ba ae [(21, af (SB (x6 + 1)))] 2 ?_
       exact bh h (ai [])
     ·obtain ⟨y12, e13, h⟩ := ap h
      rcases aI h with ⟨c14, h⟩ | ⟨c14, h⟩
      ·refine ax ae [(41, vb true)] 22 [hn, hk (rn (p1.getD x6.toNat dk) y12 e13), ht c14] ?_
       exact jl true h
      ·rcases aI h with ⟨c15, h⟩ | ⟨c15, h⟩
       ·refine ax ae [(41, vb true)] 22 [hn, hk (rn (p1.getD x6.toNat dk) y12 e13), hf c14, hn, hn, hn, hn, hn, ht c15] ?_
        exact jl true h
       ·refine ax ae [(41, vb (((p1.getD x6.toNat dk).Salt) == x6))] 22 [hn, hk (rn (p1.getD x6.toNat dk) y12 e13), hf c14, hn, hn, hn, hn, hn, hf c15] ?_
        exact jl (((p1.getD x6.toNat dk).Salt) == x6) h (ai [])
    ·refine exit (QR ?_)
     exact aX h rfl (ai [])
   ·replace h : yB = some r := h
    unfold yB at h
    show (_ : XQ) (.exit 0) _
    refine QO (QX ?_)
    refine ah ae [(4, af 0)] 1 (ret ?_)
    apply au h (af 0)
   ·replace h : yC = some r := h
    unfold yC at h
    show (_ : XQ) (.ret) _
    refine QT (QW ?_)
    apply au h (af 10)
def vc (p0 : aS) (p1 : aL) (x4 : Int) : Option (Int ⊕ (Unit ⊕ Unit)) := if decide (x4 < (p1.Values.length : Int)) then if 0 ≤ x4 then if x4 < (p1.Values.length : Int) then (lO p0 x4 (p1.Values.getD x4.toNat mt)).bind fun y8 => (if (!y8) then some (.inr (.inr ())) else some (.inl (SB (x4 + 1)))) else none else none else some (.inr (.inl ()))
def yD : Option Int := some 0
def yE : Option Int := some 7
def rp (p0 : aS) (p1 : aL) (x1 : Bool) : Option Int := if x1 then some 7 else cD (loop (fun v : Int => vc p0 p1 v) 0) (fun t => yD) (fun t => yE)
def oD (p0 : aS) (p1 : aL) : Option Int := (nF p1.ID p1.Version).bind fun y12 => (if (!y12) then rp p0 p1 true else rp p0 p1 ((p1.Values.length : Int) != (p0.Fields.length : Int)))
abbrev dE (x : aL) : List C := [ag x.ID, ag x.Version, cl 1 Rs x.Values]
theorem C9 (p0 : aS) (p1 : aL) (r : Int) (h : oD p0 p1 = some r) : CT 79 [.agg (bf p0), .agg (dE p1)] [] (af r) [] := by
 refine aw ae 0 Tryz.func79 rfl (fun _ _ _ => ?_)
 unfold oD at h
 refine QZ ae [(3, pX 1 3), (2, pX 0 4)] [0, 1] [(1, .box 53 (dE p1)), (0, .box 33 (bf p0))] 3 [] (seq (seq ?_))
 refine AW.join (ι := Bool) (fun v => ⟨[(2, pX 0 4), (3, pX 1 3), (21, vb v)], [(0, .box 33 (bf p0)), (1, .box 53 (dE p1))], 2⟩) (fun v : Bool => rp p0 p1 v = some r) (fun x1 h => ?_) ?_
 ·unfold rp at h
  refine QX ?_
  refine Q2 h ?_ ?_ <;> intro c2 h
  ·refine ah ae [(4, af 7)] 3 (ret (QW ?_))
   apply au h (af 7)
  ·refine skip (QX (seq ?_))
   refine ah ae [(25, af 0), (24, af (p1.Values.length : Int)), (23, vl 1 Rs p1.Values)] 6 (block ?_)
   refine Q4 h (fun v => ⟨[(2, pX 0 4), (23, vl 1 Rs p1.Values), (24, af (p1.Values.length : Int)), (25, af v)], [(0, .box 33 (bf p0))], 1⟩) (fun t => (.exit 0, ⟨[], [], 0⟩)) (fun t => (.ret, ⟨[(4, af 7)], [], 0⟩)) (ai [(0, 0)]) (fun _ => tv) (fun _ => tv) ?_ (fun t h => ?_) (fun t h => ?_)
   ·clear h
    intro x4 o h
    unfold vc at h
    refine ah ae [(26, vb (decide (x4 < (p1.Values.length : Int))))] 2 (seq ?_)
    refine Q2 h ?_ ?_ <;> intro c5 h
    ·refine skip (QX ?_)
     refine seq (block ?_)
     obtain ⟨g6, g7, h⟩ := aJ h
     refine aA ae [(6, vs (p1.Values.getD x4.toNat mt)), (5, af x4)] 7 [hn, hq g6 g7] ?_
     obtain ⟨y8, e9, h⟩ := ap h
     refine aA ae [(34, vb (!y8))] 11 (Su [hk (CU p0 x4 (p1.Values.getD x4.toNat mt) y8 e9)]) ?_
     refine Q2 h ?_ ?_ <;> intro c10 h
     ·refine ah ae [(4, af 7)] 12 (ret (QT (QW ?_)))
      exact aX h rfl (ai [])
     ·refine skip (QU (QX ?_))
      refine ba ae [(25, af (SB (x4 + 1)))] 13 ?_
      exact bh h (ai [(0, 0)])
    ·refine exit (QR ?_)
     exact aX h rfl (ai [])
   ·replace h : yD = some r := h
    unfold yD at h
    show (_ : XQ) (.exit 0) _
    refine QO (QX ?_)
    refine ah ae [(4, af 0)] 1 (ret ?_)
    apply au h (af 0)
   ·replace h : yE = some r := h
    unfold yE at h
    show (_ : XQ) (.ret) _
    refine QT (QW ?_)
    apply au h (af 7)
 ·obtain ⟨y12, e13, h⟩ := ap h
  rcases aI h with ⟨c14, h⟩ | ⟨c14, h⟩
  ·refine ax ae [(21, vb true)] 17 (Sv [hk (yh p1.ID p1.Version y12 e13), ht c14]) ?_
   exact jl true h (ai [(0, 0), (1, 1)])
  ·refine ax ae [(21, vb ((p1.Values.length : Int) != (p0.Fields.length : Int)))] 17 (Sv [hk (yh p1.ID p1.Version y12 e13), hf c14]) ?_
   exact jl ((p1.Values.length : Int) != (p0.Fields.length : Int)) h (ai [(0, 0), (1, 1)])
def sq (p0 : aS) (p1 : aL) : Option Int := (eB p0).bind fun y1 => (if (y1 != 0) then some y1 else (oD p0 p1).bind fun y4 => (some y4))
theorem Jl (p0 : aS) (p1 : aL) (r : Int) (h : sq p0 p1 = some r) : CT 54 [.agg (bf p0), .agg (dE p1)] [] (af r) [] := by
 refine aw ae 0 Tryz.func54 rfl (fun _ _ _ => ?_)
 unfold sq at h
 refine QZ ae [(3, pX 1 3), (2, pX 0 4)] [0, 1] [(1, .box 53 (dE p1)), (0, .box 33 (bf p0))] 3 [] (seq ?_)
 obtain ⟨y1, e2, h⟩ := ap h
 refine aA ae [(5, af y1)] 5 [hn, hk (iK p0 y1 e2)] ?_
 refine ah ae [(9, vb (y1 != 0))] 7 ?_
 refine Q2 h ?_ ?_ <;> intro c3 h
 ·refine ah ae [(4, af y1)] 9 (ret (QW ?_))
  apply au h (af y1)
 ·refine skip (QX ?_)
  obtain ⟨y4, e5, h⟩ := ap h
  refine aA ae [(4, af y4)] 10 (Ss [hk (C9 p0 p1 y4 e5)]) (ret ?_)
  apply au h (af y4)
structure nu where
 field : Int
 salted : Bool
 salt : ByteArray
def I4 : nu := ⟨0, false, mt⟩
instance : Inhabited nu := ⟨I4⟩
def tT : ByteArray := mk #[48, 48, 48, 49, 48, 50, 48, 51, 48, 52, 48, 53, 48, 54, 48, 55, 48, 56, 48, 57, 49, 48, 49, 49, 49, 50, 49, 51, 49, 52, 49, 53, 49, 54, 49, 55, 49, 56, 49, 57, 50, 48, 50, 49, 50, 50, 50, 51, 50, 52, 50, 53, 50, 54, 50, 55, 50, 56, 50, 57, 51, 48, 51, 49, 51, 50, 51, 51, 51, 52, 51, 53, 51, 54, 51, 55, 51, 56, 51, 57, 52, 48, 52, 49, 52, 50, 52, 51, 52, 52, 52, 53, 52, 54, 52, 55, 52, 56, 52, 57, 53, 48, 53, 49, 53, 50, 53, 51, 53, 52, 53, 53, 53, 54, 53, 55, 53, 56, 53, 57, 54, 48, 54, 49, 54, 50, 54, 51, 54, 52, 54, 53, 54, 54, 54, 55, 54, 56, 54, 57, 55, 48, 55, 49, 55, 50, 55, 51, 55, 52, 55, 53, 55, 54, 55, 55, 55, 56, 55, 57, 56, 48, 56, 49, 56, 50, 56, 51, 56, 52, 56, 53, 56, 54, 56, 55, 56, 56, 56, 57, 57, 48, 57, 49, 57, 50, 57, 51, 57, 52, 57, 53, 57, 54, 57, 55, 57, 56, 57, 57]
noncomputable def yT (p0 : Int) : Option ByteArray := if decide (p0 < 10) then if 0 ≤ p0 then if 0 ≤ (SB (p0 + 1)) then if p0.toNat ≤ ((SB (p0 + 1)).toNat) then if ((SB (p0 + 1)).toNat) ≤ ((mk #[48, 49, 50, 51, 52, 53, 54, 55, 56, 57, 97, 98, 99, 100, 101, 102, 103, 104, 105, 106, 107, 108, 109, 110, 111, 112, 113, 114, 115, 116, 117, 118, 119, 120, 121, 122]).size) then some ((mk #[48, 49, 50, 51, 52, 53, 54, 55, 56, 57, 97, 98, 99, 100, 101, 102, 103, 104, 105, 106, 107, 108, 109, 110, 111, 112, 113, 114, 115, 116, 117, 118, 119, 120, 121, 122]).extract p0.toNat ((SB (p0 + 1)).toNat)) else none else none else none else none else if 0 ≤ (SB (p0 * 2)) then if 0 ≤ (SB ((SB (p0 * 2)) + 2)) then if ((SB (p0 * 2)).toNat) ≤ ((SB ((SB (p0 * 2)) + 2)).toNat) then if ((SB ((SB (p0 * 2)) + 2)).toNat) ≤ tT.size then some (tT.extract ((SB (p0 * 2)).toNat) ((SB ((SB (p0 * 2)) + 2)).toNat)) else none else none else none else none
theorem I6 (p0 : Int) (r : ByteArray) (h : yT p0 = some r) : CT 221 [af p0] [] (vs r) [] := by
 refine aw ae 0 Tryz.func221 rfl (fun _ _ _ => ?_)
 unfold yT at h
 refine ah ae [] 1 (seq ?_)
 refine ah ae [(4, vb (decide (p0 < 10)))] 3 ?_
 refine Q2 h ?_ ?_ <;> intro c1 h
 ·obtain ⟨g2, g3, h⟩ := aJ h
  obtain ⟨g4, g5, h⟩ := aJ h
  refine aA ae [(2, vs ((mk #[48, 49, 50, 51, 52, 53, 54, 55, 56, 57, 97, 98, 99, 100, 101, 102, 103, 104, 105, 106, 107, 108, 109, 110, 111, 112, 113, 114, 115, 116, 117, 118, 119, 120, 121, 122]).extract p0.toNat ((SB (p0 + 1)).toNat)))] 8 (Su [ho (p := (0 ≤ p0) ∧ (0 ≤ (SB (p0 + 1))) ∧ (p0.toNat ≤ ((SB (p0 + 1)).toNat)) ∧ (((SB (p0 + 1)).toNat) ≤ ((mk #[48, 49, 50, 51, 52, 53, 54, 55, 56, 57, 97, 98, 99, 100, 101, 102, 103, 104, 105, 106, 107, 108, 109, 110, 111, 112, 113, 114, 115, 116, 117, 118, 119, 120, 121, 122]).size))) (⟨g2, g3, g4, g5⟩)]) (ret (QW ?_))
  apply au h (vs ((mk #[48, 49, 50, 51, 52, 53, 54, 55, 56, 57, 97, 98, 99, 100, 101, 102, 103, 104, 105, 106, 107, 108, 109, 110, 111, 112, 113, 114, 115, 116, 117, 118, 119, 120, 121, 122]).extract p0.toNat ((SB (p0 + 1)).toNat)))
 ·refine skip (QX ?_)
  obtain ⟨g6, g7, h⟩ := aJ h
  obtain ⟨g8, g9, h⟩ := aJ h
  refine aA ae [(2, vs (tT.extract ((SB (p0 * 2)).toNat) ((SB ((SB (p0 * 2)) + 2)).toNat)))] 10 (Sw [ho (p := (0 ≤ (SB (p0 * 2))) ∧ (0 ≤ (SB ((SB (p0 * 2)) + 2))) ∧ (((SB (p0 * 2)).toNat) ≤ ((SB ((SB (p0 * 2)) + 2)).toNat)) ∧ (((SB ((SB (p0 * 2)) + 2)).toNat) ≤ tT.size)) (⟨g6, g7, g8, g9⟩)]) (ret ?_)
  apply au h (vs (tT.extract ((SB (p0 * 2)).toNat) ((SB ((SB (p0 * 2)) + 2)).toNat)))
noncomputable def uE (x6 : Int) : Option ByteArray := none
noncomputable def uF (p0 : Int) (x2 : Bool) : Option ByteArray := if x2 then (yT p0).bind fun y4 => (some y4) else if decide (p0 < 0) then uE (u64.wrap (0 - (u64.wrap p0))) else uE (u64.wrap p0)
noncomputable def yk (p0 : Int) (p1 : Int) : Option ByteArray := if (p1 == 10) then if decide ((0 : Int) ≤ p0) then uF p0 (decide (p0 < 100)) else uF p0 false else none
theorem Iu (p0 : Int) (p1 : Int) (r : ByteArray) (h : yk p0 p1 = some r) : CT 183 [af p0, af p1] [] (vs r) [] := by
 refine aw ae 0 Tryz.func183 rfl (fun _ _ _ => ?_)
 unfold yk at h
 refine ah ae [] 1 (seq ?_)
 refine ah ae [(11, vb (p1 == 10))] 3 ?_
 refine Q2 h ?_ ?_ <;> intro c1 h
 ·refine seq (seq ?_)
  refine AW.join (ι := Bool) (fun v => ⟨[(0, af p0), (17, vb v)], [], 0⟩) (fun v : Bool => uF p0 v = some r) (fun x2 h => ?_) ?_
  ·unfold uF at h
   refine QX ?_
   refine Q2 h ?_ ?_ <;> intro c3 h
   ·obtain ⟨y4, e5, h⟩ := ap h
    refine aA ae [(4, vs y4)] 2 [hn, hk (I6 p0 y4 e5)] (ret (QW (QW ?_)))
    apply au h (vs y4)
   ·refine skip (QX ?_)
    refine QZ ae [(5, pX 0 1)] [0] [(0, .row 295 false 1 24 (bQ ([0, 0, 0, 0, 0, 0, 0, 0, 0, 0, 0, 0, 0, 0, 0, 0, 0, 0, 0, 0, 0, 0, 0, 0] : List Int)))] 1 [hr 24 (bQ ([0, 0, 0, 0, 0, 0, 0, 0, 0, 0, 0, 0, 0, 0, 0, 0, 0, 0, 0, 0, 0, 0, 0, 0] : List Int)) (p := 24 = 24 ∧ ∀ i, i < 24 → ∀ j, j < 1 → bn (dp [.v (.int .u8 0), .v (.int .u8 0), .v (.int .u8 0), .v (.int .u8 0), .v (.int .u8 0), .v (.int .u8 0), .v (.int .u8 0), .v (.int .u8 0), .v (.int .u8 0), .v (.int .u8 0), .v (.int .u8 0), .v (.int .u8 0), .v (.int .u8 0), .v (.int .u8 0), .v (.int .u8 0), .v (.int .u8 0), .v (.int .u8 0), .v (.int .u8 0), .v (.int .u8 0), .v (.int .u8 0), .v (.int .u8 0), .v (.int .u8 0), .v (.int .u8 0), .v (.int .u8 0)] 1 i j) (bQ ([0, 0, 0, 0, 0, 0, 0, 0, 0, 0, 0, 0, 0, 0, 0, 0, 0, 0, 0, 0, 0, 0, 0, 0] : List Int) i j)) (⟨rfl, fun i hi j hj => match i, hi, j, hj with | 0, _, 0, _ => bn.refl _ | 1, _, 0, _ => bn.refl _ | 2, _, 0, _ => bn.refl _ | 3, _, 0, _ => bn.refl _ | 4, _, 0, _ => bn.refl _ | 5, _, 0, _ => bn.refl _ | 6, _, 0, _ => bn.refl _ | 7, _, 0, _ => bn.refl _ | 8, _, 0, _ => bn.refl _ | 9, _, 0, _ => bn.refl _ | 10, _, 0, _ => bn.refl _ | 11, _, 0, _ => bn.refl _ | 12, _, 0, _ => bn.refl _ | 13, _, 0, _ => bn.refl _ | 14, _, 0, _ => bn.refl _ | 15, _, 0, _ => bn.refl _ | 16, _, 0, _ => bn.refl _ | 17, _, 0, _ => bn.refl _ | 18, _, 0, _ => bn.refl _ | 19, _, 0, _ => bn.refl _ | 20, _, 0, _ => bn.refl _ | 21, _, 0, _ => bn.refl _ | 22, _, 0, _ => bn.refl _ | 23, _, 0, _ => bn.refl _ | _ + 24, h, _, _ => absurd h (by omega) | _, _, _ + 1, h => absurd h (by omega)⟩)] ?_
    refine ah ae [(6, a6 (u64.wrap p0))] 4 (seq ?_)
    refine AW.join (ι := Int) (fun v => ⟨[(0, af p0), (5, pX 0 1), (6, a6 v)], [(0, .row 295 false 1 24 (bQ ([0, 0, 0, 0, 0, 0, 0, 0, 0, 0, 0, 0, 0, 0, 0, 0, 0, 0, 0, 0, 0, 0, 0, 0] : List Int)))], 1⟩) (fun v : Int => uE v = some r) (fun x6 h => ?_) ?_
    ·unfold uE at h
     refine QX (seq ?_)
     cases h
    ·refine ah ae [(23, vb (decide (p0 < 0)))] 6 ?_
     refine Q2 h ?_ ?_ <;> intro c7 h
     ·refine ba ae [(6, a6 (u64.wrap (0 - (u64.wrap p0))))] 9 ?_
      exact jl (u64.wrap (0 - (u64.wrap p0))) h (ai [(0, 0)])
     ·refine skip ?_
      exact jl (u64.wrap p0) h (ai [(0, 0)])
  ·rcases aI h with ⟨c8, h⟩ | ⟨c8, h⟩
   ·refine ax ae [(17, vb (decide (p0 < 100)))] 9 [hn, ht c8] ?_
    exact jl (decide (p0 < 100)) h
   ·refine ax ae [(17, vb false)] 9 [hn, hf c8] ?_
    exact jl false h
 ·refine skip (QX (seq ?_))
  cases h
noncomputable def yp (p0 : Int) : Option ByteArray := (yk p0 10).bind fun y1 => (some y1)
theorem IA (p0 : Int) (r : ByteArray) (h : yp p0 = some r) : CT 143 [af p0] [] (vs r) [] := by
 refine aw ae 0 Tryz.func143 rfl (fun _ _ _ => ?_)
 unfold yp at h
 refine ah ae [] 1 ?_
 obtain ⟨y1, e2, h⟩ := ap h
 refine aA ae [(2, vs y1)] 3 [hn, hk (Iu p0 10 y1 e2)] (ret ?_)
 apply au h (vs y1)
noncomputable def vC (p0 : Int) : Option ByteArray := (yp p0).bind fun y1 => (some y1)
theorem Jm (p0 : Int) (r : ByteArray) (h : vC p0 = some r) : CT 106 [af p0] [] (vs r) [] := by
 refine aw ae 0 Tryz.func106 rfl (fun _ _ _ => ?_)
 unfold vC at h
 refine ah ae [] 1 ?_
 obtain ⟨y1, e2, h⟩ := ap h
 refine aA ae [(2, vs y1)] 3 [hn, hk (IA p0 y1 e2)] (ret ?_)
 apply au h (vs y1)
def np (p0 : List Int) (x3 : Int) (x4 : Int) : Option ((Int × Int) ⊕ Int) := if decide (x4 < (p0.length : Int)) then if 0 ≤ x4 then if x4 < (p0.length : Int) then if 0 ≤ (SB (8 * x4)) then (some (cw .u64 x3 (ck .u64 (u64.wrap (p0.getD x4.toNat 0)) (SB (8 * x4))))).bind fun z10 => (some (.inl (z10, SB (x4 + 1)))) else none else none else none else some (.inr x3)
def nX (p0 : List Int) : Option Int := (loop (fun v : Int × Int => np p0 v.1 v.2) (0, 0)).bind fun x12 => (some x12)
theorem CG (p0 : List Int) (r : Int) (h : nX p0 = some r) : CT 181 [vl 1 bQ p0] [] (a6 r) [] := by
 refine aw ae 0 Tryz.func181 rfl (fun _ _ _ => ?_)
 unfold nX at h
 refine ah ae [] 1 ?_
 refine ah ae [(3, a6 0)] 2 (seq ?_)
 refine ah ae [(8, af 0), (7, af (p0.length : Int)), (6, vl 1 bQ p0)] 5 (block ?_)
 obtain ⟨x12, l13, h⟩ := ap h
 refine Q3 l13 (fun v => ⟨[(3, a6 v.1), (6, vl 1 bQ p0), (7, af (p0.length : Int)), (8, af v.2)], [], 0⟩) (fun t : Int => (.exit 0, ⟨[(3, a6 t)], [], 0⟩)) (ai []) (fun _ => tv) ?_ ?_
 ·clear l13 h
  intro v o h
  obtain ⟨x3, x4⟩ := v
  replace h : np p0 x3 x4 = some o := h
  unfold np at h
  refine ah ae [(9, vb (decide (x4 < (p0.length : Int))))] 1 (seq ?_)
  refine Q2 h ?_ ?_ <;> intro c6 h
  ·refine skip (QX ?_)
   refine seq (block ?_)
   obtain ⟨g7, g8, h⟩ := aJ h
   refine aA ae [(5, jv (p0.getD x4.toNat 0)), (4, af x4)] 6 [hn, hq g7 g8] ?_
   obtain ⟨g9, h⟩ := aY h
   obtain ⟨z10, n11, h⟩ := ap h
   replace n11 := ay n11
   refine ax ae [(3, a6 z10)] 14 (Sw [ho g9]) ?_ (by subst n11; kernel_rfl)
   refine QU (QX ?_)
   refine ba ae [(8, af (SB (x4 + 1)))] 16 ?_
   exact bh h (ai [])
  ·refine exit (QR ?_)
   exact aX h rfl (ai [])
 ·show (_ : XQ) (.exit 0) _
  refine QO (QX ?_)
  refine ah ae [(2, a6 x12)] 2 (ret ?_)
  apply au h (a6 x12)
structure dl where
 a : Int
 b : Int
 c : Int
 d : Int
def Jn : dl := ⟨0, 0, 0, 0⟩
instance : Inhabited dl := ⟨Jn⟩
def fg (p0 : Int) (p1 : Int) : Option Int := if 0 ≤ (cn .u64 (u64.wrap p1) 63) then if 0 ≤ (u64.wrap (64 - (cn .u64 (u64.wrap p1) 63))) then (some (cw .u64 (ck .u64 p0 (cn .u64 (u64.wrap p1) 63)) (a7 .u64 p0 (u64.wrap (64 - (cn .u64 (u64.wrap p1) 63)))))).bind fun z3 => (some z3) else none else none
theorem mY (p0 : Int) (p1 : Int) (r : Int) (h : fg p0 p1 = some r) : CT 220 [a6 p0, af p1] [] (a6 r) [] := by
 refine aw ae 0 Tryz.func220 rfl (fun _ _ _ => ?_)
 unfold fg at h
 refine ah ae [] 1 ?_
 refine ah ae [(5, a6 (cn .u64 (u64.wrap p1) 63))] 5 ?_
 obtain ⟨g1, g2, h⟩ := aJ h
 obtain ⟨z3, n4, h⟩ := ap h
 replace n4 := ay n4
 refine aA ae [(4, a6 z3)] 14 (Ss [ho g1, hn, hn, hn, ho g2]) ?_ (by subst n4; kernel_rfl)
 refine ret ?_
 apply au h (a6 z3)
def mV (p1 : Int) (x6 : Int) (x7 : Int) (x8 : Int) (x9 : Int) (x10 : Int) : Option ((Int × Int × Int × Int × Int) ⊕ (Int × Int × Int × Int)) := if decide (x6 < p1) then (fg x8 13).bind fun y16 => ((fg (u64.wrap (x7 + x8)) 32).bind fun y18 => ((fg x10 16).bind fun y20 => ((some (u64.wrap (y18 + (bq .u64 y20 (u64.wrap (x9 + x10)))))).bind fun z22 => ((fg (bq .u64 y20 (u64.wrap (x9 + x10))) 21).bind fun y24 => ((some (u64.wrap ((u64.wrap (x9 + x10)) + (bq .u64 y16 (u64.wrap (x7 + x8)))))).bind fun z26 => ((fg (bq .u64 y16 (u64.wrap (x7 + x8))) 17).bind fun y28 => ((fg z26 32).bind fun y30 => (some (.inl (SB (x6 + 1), z22, bq .u64 y28 z26, y30, bq .u64 y24 z22)))))))))) else some (.inr (x7, x8, x9, x10))
def nb (p0 : dl) (p1 : Int) : Option dl := mz (loop (fun v : Int × Int × Int × Int × Int => mV p1 v.1 v.2.1 v.2.2.1 v.2.2.2.1 v.2.2.2.2) (0, p0.a, p0.b, p0.c, p0.d)) fun x32 x33 x34 x35 => (some (⟨x32, x33, x34, x35⟩ : dl))
theorem Cp (p0 : dl) (p1 : Int) (r : dl) (h : nb p0 p1 = some r) : CT 182 [.c (.ptr 0 4 0 0), af p1] [(0, .box 266 [aH p0.a, aH p0.b, aH p0.c, aH p0.d])] (.tup []) [(0, .box 266 [aH r.a, aH r.b, aH r.c, aH r.d])] := by
 refine aw ae 1 Tryz.func182 rfl (fun _ _ _ => ?_)
 unfold nb at h
 refine ah ae [(5, af 0), (4, af p1)] 3 (block ?_)
 obtain ⟨x32, x33, x34, x35, l36, h⟩ := sM h
 refine Q3 l36 (fun v => ⟨[(0, pX 0 4), (4, af p1), (5, af v.1)], [(0, .box 266 [aH v.2.1, aH v.2.2.1, aH v.2.2.2.1, aH v.2.2.2.2])], 1⟩) (fun t : Int × Int × Int × Int => (.exit 0, ⟨[], [(0, .box 266 [aH t.1, aH t.2.1, aH t.2.2.1, aH t.2.2.2])], 1⟩)) (ai [(0, 0)]) (fun _ => tv) ?_ ?_
 ·clear l36 h
  intro v o h
  obtain ⟨x6, x7, x8, x9, x10⟩ := v
  replace h : mV p1 x6 x7 x8 x9 x10 = some o := h
  unfold mV at h
  refine ah ae [(6, vb (decide (x6 < p1)))] 2 (seq ?_)
  refine Q2 h ?_ ?_ <;> intro c15 h
  ·refine skip (QX ?_)
   refine seq (block ?_)
   refine Q1 ae dx [[], [], [], [], [], [], [], [], [], [], [], [0]] [] [(0, .box 266 [aH (u64.wrap (x7 + x8)), aH x8, aH x9, aH x10])] 14 [] ?_
   obtain ⟨y16, e17, h⟩ := ap h
   refine Q1 ae dx [[], [], [], [], [], [], [], [], [], [], [], [], [], [0]] [] [(0, .box 266 [aH (u64.wrap (x7 + x8)), aH (bq .u64 y16 (u64.wrap (x7 + x8))), aH x9, aH x10])] 27 (Sw [hk (mY x8 13 y16 e17)]) ?_
   obtain ⟨y18, e19, h⟩ := ap h
   refine QZ ae [] [0] [(0, .box 266 [aH y18, aH (bq .u64 y16 (u64.wrap (x7 + x8))), aH x9, aH x10])] 35 (Sw [hk (mY (u64.wrap (x7 + x8)) 32 y18 e19)]) ?_
   refine Q1 ae dx [[], [], [], [], [], [], [], [], [], [], [], [0]] [] [(0, .box 266 [aH y18, aH (bq .u64 y16 (u64.wrap (x7 + x8))), aH (u64.wrap (x9 + x10)), aH x10])] 47 [] ?_
   obtain ⟨y20, e21, h⟩ := ap h
   refine Q1 ae dx [[], [], [], [], [], [], [], [], [], [], [], [], [], [0]] [] [(0, .box 266 [aH y18, aH (bq .u64 y16 (u64.wrap (x7 + x8))), aH (u64.wrap (x9 + x10)), aH (bq .u64 y20 (u64.wrap (x9 + x10)))])] 60 (Sw [hk (mY x10 16 y20 e21)]) ?_
   obtain ⟨z22, n23, h⟩ := ap h
   replace n23 := ay n23
   refine Q1 ae dx [[], [], [], [], [], [], [], [], [], [], [], [0]] [] [(0, .box 266 [aH z22, aH (bq .u64 y16 (u64.wrap (x7 + x8))), aH (u64.wrap (x9 + x10)), aH (bq .u64 y20 (u64.wrap (x9 + x10)))])] 72 [] ?_ (by subst n23; kernel_rfl)
   obtain ⟨y24, e25, h⟩ := ap h
   refine Q1 ae dx [[], [], [], [], [], [], [], [], [], [], [], [], [], [0]] [] [(0, .box 266 [aH z22, aH (bq .u64 y16 (u64.wrap (x7 + x8))), aH (u64.wrap (x9 + x10)), aH (bq .u64 y24 z22)])] 85 (Sw [hk (mY (bq .u64 y20 (u64.wrap (x9 + x10))) 21 y24 e25)]) ?_
   obtain ⟨z26, n27, h⟩ := ap h
   replace n27 := ay n27
   refine Q1 ae dx [[], [], [], [], [], [], [], [], [], [], [], [0]] [] [(0, .box 266 [aH z22, aH (bq .u64 y16 (u64.wrap (x7 + x8))), aH z26, aH (bq .u64 y24 z22)])] 97 [] ?_ (by subst n27; kernel_rfl)
   obtain ⟨y28, e29, h⟩ := ap h
   refine Q1 ae dx [[], [], [], [], [], [], [], [], [], [], [], [], [], [0]] [] [(0, .box 266 [aH z22, aH (bq .u64 y28 z26), aH z26, aH (bq .u64 y24 z22)])] 110 (Sw [hk (mY (bq .u64 y16 (u64.wrap (x7 + x8))) 17 y28 e29)]) ?_
   obtain ⟨y30, e31, h⟩ := ap h
   refine QY ae [] [0] [(0, .box 266 [aH z22, aH (bq .u64 y28 z26), aH y30, aH (bq .u64 y24 z22)])] 118 (Sw [hk (mY z26 32 y30 e31)]) ?_
   refine QU (QX ?_)
   refine ba ae [(5, af (SB (x6 + 1)))] 120 ?_
   exact bh h (ai [(0, 0)])
  ·refine exit (QR ?_)
   exact aX h rfl (ai [(0, 0)])
 ·show (_ : XQ) (.exit 0) _
  refine QO ?_
  obtain rfl := ay h
  exact be (.inl rfl) [(0, 0)] 1 (.tup [])
def nk (p0 : dl) (p1 : Int) : Option dl := (nb (⟨p0.a, p0.b, p0.c, bq .u64 p0.d p1⟩ : dl) 2).bind fun y1 => (some (⟨bq .u64 y1.a p1, y1.b, y1.c, y1.d⟩ : dl))
theorem Cr (p0 : dl) (p1 : Int) (r : dl) (h : nk p0 p1 = some r) : CT 180 [.c (.ptr 0 4 0 0), a6 p1] [(0, .box 266 [aH p0.a, aH p0.b, aH p0.c, aH p0.d])] (.tup []) [(0, .box 266 [aH r.a, aH r.b, aH r.c, aH r.d])] := by
 refine aw ae 1 Tryz.func180 rfl (fun _ _ _ => ?_)
 unfold nk at h
 refine QZ ae [] [0] [(0, .box 266 [aH p0.a, aH p0.b, aH p0.c, aH (bq .u64 p0.d p1)])] 10 [] ?_
 obtain ⟨y1, e2, h⟩ := ap h
 refine QZ ae [] [0] [(0, .box 266 [aH y1.a, aH y1.b, aH y1.c, aH y1.d])] 11 [hn, hm [0] [] 0 (Cp (⟨p0.a, p0.b, p0.c, bq .u64 p0.d p1⟩ : dl) 2 y1 e2) ⟨rfl, tv⟩] ?_
 refine QY ae [] [0] [(0, .box 266 [aH (bq .u64 y1.a p1), aH y1.b, aH y1.c, aH y1.d])] 20 [] ?_
 obtain rfl := ay h
 exact be (.inl rfl) [(0, 0)] 1 (.tup [])
def nZ (x6 : List Int) (x7 : Int) (x8 : Int) (x9 : Int) (x10 : Int) : Option ((List Int × Int × Int × Int × Int) ⊕ (List Int × Int × Int × Int × Int)) := if decide ((x6.length : Int) ≥ 8) then if 8 ≤ x6.length then (nX (x6.take 8)).bind fun y18 => ((nk (⟨x7, x8, x9, x10⟩ : dl) y18).bind fun y20 => (some (.inl (((x6.drop 8).take (x6.length - 8)), y20.a, y20.b, y20.c, y20.d)))) else none else some (.inr (x6, x7, x8, x9, x10))
def sH (p0 : bd) (p1 : List Int) : Option Int := fJ (loop (fun v : List Int × Int × Int × Int × Int => nZ v.1 v.2.1 v.2.2.1 v.2.2.2.1 v.2.2.2.2) (p1, bq .u64 p0.A 8317987319222330741, bq .u64 p0.B 7237128888997146477, bq .u64 p0.A 7816392313619706465, bq .u64 p0.B 8387220255154660723)) fun x22 x23 x24 x25 x26 => ((nX x22).bind fun y27 => ((nk (⟨x23, x24, x25, x26⟩ : dl) (cw .u64 y27 (ck .u64 (u64.wrap (p1.length : Int)) 56))).bind fun y29 => ((nb (⟨y29.a, y29.b, bq .u64 y29.c 255, y29.d⟩ : dl) 4).bind fun y31 => (some (bq .u64 (bq .u64 (bq .u64 y31.a y31.b) y31.c) y31.d)))))
abbrev bN (x : bd) : List C := [aH x.A, aH x.B]
theorem Jz (p0 : bd) (p1 : List Int) (r : Int) (h : sH p0 p1 = some r) : CT 142 [.agg (bN p0), vl 1 bQ p1] [] (a6 r) [] := by
 refine aw ae 0 Tryz.func142 rfl (fun _ _ _ => ?_)
 unfold sH at h
 refine QZ ae [(2, pX 0 2)] [0] [(0, .box 39 (bN p0))] 2 [] ?_
 refine QZ ae [(5, pX 15 4)] [15] [(15, .box 266 [aH (bq .u64 p0.A 8317987319222330741), aH (bq .u64 p0.B 7237128888997146477), aH (bq .u64 p0.A 7816392313619706465), aH (bq .u64 p0.B 8387220255154660723)])] 17 [] ?_
 refine aA ae [(6, a6 (ck .u64 (u64.wrap (p1.length : Int)) 56))] 22 (Su [ho (p := 0 ≤ (56 : Int)) (by decide)]) (seq (block ?_))
 obtain ⟨x22, x23, x24, x25, x26, l33, h⟩ := gZ h
 refine Q3 l33 (fun v => ⟨[(1, vl 1 bQ v.1), (5, pX 0 4), (6, a6 (ck .u64 (u64.wrap (p1.length : Int)) 56))], [(0, .box 266 [aH v.2.1, aH v.2.2.1, aH v.2.2.2.1, aH v.2.2.2.2])], 1⟩) (fun t : (List Int) × Int × Int × Int × Int => (.exit 0, ⟨[(1, vl 1 bQ t.1), (5, pX 0 4), (6, a6 (ck .u64 (u64.wrap (p1.length : Int)) 56))], [(0, .box 266 [aH t.2.1, aH t.2.2.1, aH t.2.2.2.1, aH t.2.2.2.2])], 1⟩)) (ai [(0, 15)]) (fun _ => tv) ?_ ?_
 ·clear l33 h
  intro v o h
  obtain ⟨x6, x7, x8, x9, x10⟩ := v
  replace h : nZ x6 x7 x8 x9 x10 = some o := h
  unfold nZ at h
  refine seq ?_
  refine ah ae [(26, vb (decide ((x6.length : Int) ≥ 8)))] 4 ?_
  refine Q2 h ?_ ?_ <;> intro c16 h
  ·refine skip (QX ?_)
   refine seq (block ?_)
   obtain ⟨g17, h⟩ := aY h
   obtain ⟨y18, e19, h⟩ := ap h
   obtain ⟨y20, e21, h⟩ := ap h
   refine QY ae [] [0] [(0, .box 266 [aH y20.a, aH y20.b, aH y20.c, aH y20.d])] 6 [hn, ho (p := (True) ∧ (0 ≤ (8 : Int)) ∧ (0 ≤ 8) ∧ (8 ≤ x6.length)) (⟨tv, (by decide), (Nat.zero_le _), g17⟩), hg [] [] true 0 (q := (True) ∧ (True)) ⟨tv, tv⟩ (a0 := [.c (.t (.tree 8 1 (bQ x6)))]) (CG (x6.take 8) y18 e19) ⟨aN.c (cu.tree (pj (by omega))), tv⟩ (fun _ => tv), hm [0] [] 0 (Cr (⟨x7, x8, x9, x10⟩ : dl) y18 y20 e21) ⟨rfl, tv⟩] ?_
   refine QU (QX ?_)
   refine ax ae [(1, .c (.t (.tree (x6.length - 8) 1 (fun i j => bQ x6 (8 + i) j))))] 9 [hn, ho (p := (0 ≤ (8 : Int)) ∧ (True) ∧ (8 ≤ x6.length) ∧ (x6.length ≤ x6.length)) (⟨(by decide), tv, g17, (RR _)⟩)] ?_
   exact bh h (Conv.trans (cV [(1, vl 1 bQ ((x6.drop 8).take (x6.length - 8)))] ⟨⟨.c (.t (.tree (x6.length - 8) 1 (fun i j => bQ x6 (8 + i) j))), by kernel_rfl, bU.c (QQ (cu.tree (Nh (by omega))))⟩, tv⟩) (ai [(0, 0)]))
  ·refine exit (QR ?_)
   exact aX h rfl (ai [(0, 0)])
 ·show (_ : XQ) (.exit 0) _
  refine QO (QX ?_)
  obtain ⟨y27, e28, h⟩ := ap h
  obtain ⟨y29, e30, h⟩ := ap h
  refine QZ ae [] [0] [(0, .box 266 [aH y29.a, aH y29.b, aH y29.c, aH y29.d])] 4 [hn, hk (CG x22 y27 e28), hn, hn, hm [0] [] 0 (Cr (⟨x23, x24, x25, x26⟩ : dl) (cw .u64 y27 (ck .u64 (u64.wrap (p1.length : Int)) 56)) y29 e30) ⟨rfl, tv⟩] ?_
  refine QZ ae [] [0] [(0, .box 266 [aH y29.a, aH y29.b, aH (bq .u64 y29.c 255), aH y29.d])] 9 [] ?_
  obtain ⟨y31, e32, h⟩ := ap h
  refine QZ ae [] [0] [(0, .box 266 [aH y31.a, aH y31.b, aH y31.c, aH y31.d])] 9 [hm [0] [] 0 (Cp (⟨y29.a, y29.b, bq .u64 y29.c 255, y29.d⟩ : dl) 4 y31 e32) ⟨rfl, tv⟩] ?_
  refine ah ae [(4, a6 (bq .u64 (bq .u64 (bq .u64 y31.a y31.b) y31.c) y31.d))] 21 (ret ?_)
  apply au h (a6 (bq .u64 (bq .u64 (bq .u64 y31.a y31.b) y31.c) y31.d))
abbrev bz (s : ByteArray) : Int := if (65535 : Int) < (s.size : Int) then 65535 else (s.size : Int)
noncomputable def nv (p1 : List ByteArray) (x3 : List Int) (x4 : Int) : Option ((List Int × Int) ⊕ List Int) := if decide (x4 < (p1.length : Int)) then (if 0 ≤ x4 then (if x4 < (p1.length : Int) then (if 0 ≤ (bz (p1.getD x4.toNat mt)) then (if ((bz (p1.getD x4.toNat mt)).toNat) ≤ ((p1.getD x4.toNat mt).size) then (if x3.length + ([u8.wrap (a7 .i64 ((((p1.getD x4.toNat mt).extract 0 ((bz (p1.getD x4.toNat mt)).toNat)).size : Nat) : Int) 8), u8.wrap ((((p1.getD x4.toNat mt).extract 0 ((bz (p1.getD x4.toNat mt)).toNat)).size : Nat) : Int)] : List Int).length ≤ 1099511627776 then (if (x3 ++ ([u8.wrap (a7 .i64 ((((p1.getD x4.toNat mt).extract 0 ((bz (p1.getD x4.toNat mt)).toNat)).size : Nat) : Int) 8), u8.wrap ((((p1.getD x4.toNat mt).extract 0 ((bz (p1.getD x4.toNat mt)).toNat)).size : Nat) : Int)] : List Int)).length + ((p1.getD x4.toNat mt).extract 0 ((bz (p1.getD x4.toNat mt)).toNat)).size ≤ 1099511627776 then (some (.inl (((x3 ++ ([u8.wrap (a7 .i64 ((((p1.getD x4.toNat mt).extract 0 ((bz (p1.getD x4.toNat mt)).toNat)).size : Nat) : Int) 8), u8.wrap ((((p1.getD x4.toNat mt).extract 0 ((bz (p1.getD x4.toNat mt)).toNat)).size : Nat) : Int)] : List Int)) ++ (dh ((p1.getD x4.toNat mt).extract 0 ((bz (p1.getD x4.toNat mt)).toNat)))), SB (x4 + 1)))) else none) else none) else none) else none) else none) else none) else some (.inr x3)
noncomputable def iQ (p0 : bd) (p1 : List ByteArray) : Option Int := (loop (fun v : List Int × Int => nv p1 v.1 v.2) (([] : List Int), 0)).bind fun x13 => ((sH p0 x13).bind fun y14 => (some y14))
theorem uQ (p0 : bd) (p1 : List ByteArray) (r : Int) (h : iQ p0 p1 = some r) : CT 104 [.agg (bN p0), vl 1 Rs p1] [] (a6 r) [] := by
 refine aw ae 0 Tryz.func104 rfl (fun _ _ _ => ?_)
 unfold iQ at h
 refine QZ ae [(2, pX 0 2)] [0] [(0, .box 39 (bN p0))] 2 [] ?_
 refine ah ae [(5, .c (ar))] 3 (seq ?_)
 refine ah ae [(10, af 0), (9, af (p1.length : Int)), (8, vl 1 Rs p1)] 6 (block ?_)
 obtain ⟨x13, l16, h⟩ := ap h
 refine Q3 l16 (fun v => ⟨[(2, pX 0 2), (5, rX 1 1 v.1.length), (8, vl 1 Rs p1), (9, af (p1.length : Int)), (10, af v.2)], [(0, .box 39 (bN p0)), (1, .row 5 false 1 v.1.length (bQ v.1))], 2⟩) (fun t : List Int => (.exit 0, ⟨[(2, pX 0 2), (5, rX 1 1 t.length)], [(0, .box 39 (bN p0)), (1, .row 5 false 1 t.length (bQ t))], 2⟩)) (Conv.trans (cG (t := 5) (ty := 5) (sz := 1) (n := ([] : List Int).length) (f := bQ ([] : List Int)) (by kernel_rfl) rfl) (ai [(0, 0), (1, 6)])) (fun _ => tv) ?_ ?_
 ·clear l16 h
  intro v o h
  obtain ⟨x3, x4⟩ := v
  replace h : nv p1 x3 x4 = some o := h
  unfold nv at h
  refine ah ae [(11, vb (decide (x4 < (p1.length : Int))))] 3 (seq ?_)
  refine Q2 h ?_ ?_ <;> intro c6 h
  ·refine skip (QX ?_)
   refine seq (block ?_)
   obtain ⟨g7, g8, h⟩ := aJ h
   refine aA ae [(7, vs (p1.getD x4.toNat mt))] 6 [hq g7 g8] ?_
   obtain ⟨g9, g10, h⟩ := aJ h
   refine aA ae [(7, vs ((p1.getD x4.toNat mt).extract 0 ((bz (p1.getD x4.toNat mt)).toNat)))] 12 (Sv [ho (p := (True) ∧ (0 ≤ (bz (p1.getD x4.toNat mt))) ∧ (0 ≤ ((bz (p1.getD x4.toNat mt)).toNat)) ∧ (((bz (p1.getD x4.toNat mt)).toNat) ≤ ((p1.getD x4.toNat mt).size))) (⟨tv, g9, (Nat.zero_le _), g10⟩)]) ?_
   obtain ⟨g11, h⟩ := aY h
   refine QZ ae [(5, .c (.ref 21 1 0 ((x3 ++ ([u8.wrap (a7 .i64 ((((p1.getD x4.toNat mt).extract 0 ((bz (p1.getD x4.toNat mt)).toNat)).size : Nat) : Int) 8), u8.wrap ((((p1.getD x4.toNat mt).extract 0 ((bz (p1.getD x4.toNat mt)).toNat)).size : Nat) : Int)] : List Int)).length)))] [1, 20, 21] [(21, .row 5 false 1 (x3 ++ ([u8.wrap (a7 .i64 ((((p1.getD x4.toNat mt).extract 0 ((bz (p1.getD x4.toNat mt)).toNat)).size : Nat) : Int) 8), u8.wrap ((((p1.getD x4.toNat mt).extract 0 ((bz (p1.getD x4.toNat mt)).toNat)).size : Nat) : Int)] : List Int)).length (bQ (x3 ++ ([u8.wrap (a7 .i64 ((((p1.getD x4.toNat mt).extract 0 ((bz (p1.getD x4.toNat mt)).toNat)).size : Nat) : Int) 8), u8.wrap ((((p1.getD x4.toNat mt).extract 0 ((bz (p1.getD x4.toNat mt)).toNat)).size : Nat) : Int)] : List Int))))] 23 (Su [ho (p := 0 ≤ (8 : Int)) (by decide), hn, hn, hn, hn, bB 0 fB 1 (fun _ => rfl) ([u8.wrap (a7 .i64 ((((p1.getD x4.toNat mt).extract 0 ((bz (p1.getD x4.toNat mt)).toNat)).size : Nat) : Int) 8), u8.wrap ((((p1.getD x4.toNat mt).extract 0 ((bz (p1.getD x4.toNat mt)).toNat)).size : Nat) : Int)] : List Int), cP 0 fB 1 1 x3 ([u8.wrap (a7 .i64 ((((p1.getD x4.toNat mt).extract 0 ((bz (p1.getD x4.toNat mt)).toNat)).size : Nat) : Int) 8), u8.wrap ((((p1.getD x4.toNat mt).extract 0 ((bz (p1.getD x4.toNat mt)).toNat)).size : Nat) : Int)] : List Int) g11 (by decide)]) ?_
   obtain ⟨g12, h⟩ := aY h
   refine QY ae [(5, .c (.ref 25 1 0 (((x3 ++ ([u8.wrap (a7 .i64 ((((p1.getD x4.toNat mt).extract 0 ((bz (p1.getD x4.toNat mt)).toNat)).size : Nat) : Int) 8), u8.wrap ((((p1.getD x4.toNat mt).extract 0 ((bz (p1.getD x4.toNat mt)).toNat)).size : Nat) : Int)] : List Int)) ++ (dh ((p1.getD x4.toNat mt).extract 0 ((bz (p1.getD x4.toNat mt)).toNat)))).length)))] [21, 25] [(25, .row 5 false 1 ((x3 ++ ([u8.wrap (a7 .i64 ((((p1.getD x4.toNat mt).extract 0 ((bz (p1.getD x4.toNat mt)).toNat)).size : Nat) : Int) 8), u8.wrap ((((p1.getD x4.toNat mt).extract 0 ((bz (p1.getD x4.toNat mt)).toNat)).size : Nat) : Int)] : List Int)) ++ (dh ((p1.getD x4.toNat mt).extract 0 ((bz (p1.getD x4.toNat mt)).toNat)))).length (bQ ((x3 ++ ([u8.wrap (a7 .i64 ((((p1.getD x4.toNat mt).extract 0 ((bz (p1.getD x4.toNat mt)).toNat)).size : Nat) : Int) 8), u8.wrap ((((p1.getD x4.toNat mt).extract 0 ((bz (p1.getD x4.toNat mt)).toNat)).size : Nat) : Int)] : List Int)) ++ (dh ((p1.getD x4.toNat mt).extract 0 ((bz (p1.getD x4.toNat mt)).toNat))))))] 27 (Ss [hr (((x3 ++ ([u8.wrap (a7 .i64 ((((p1.getD x4.toNat mt).extract 0 ((bz (p1.getD x4.toNat mt)).toNat)).size : Nat) : Int) 8), u8.wrap ((((p1.getD x4.toNat mt).extract 0 ((bz (p1.getD x4.toNat mt)).toNat)).size : Nat) : Int)] : List Int)) ++ (dh ((p1.getD x4.toNat mt).extract 0 ((bz (p1.getD x4.toNat mt)).toNat)))).length) (bQ ((x3 ++ ([u8.wrap (a7 .i64 ((((p1.getD x4.toNat mt).extract 0 ((bz (p1.getD x4.toNat mt)).toNat)).size : Nat) : Int) 8), u8.wrap ((((p1.getD x4.toNat mt).extract 0 ((bz (p1.getD x4.toNat mt)).toNat)).size : Nat) : Int)] : List Int)) ++ (dh ((p1.getD x4.toNat mt).extract 0 ((bz (p1.getD x4.toNat mt)).toNat))))) (p := ((x3 ++ ([u8.wrap (a7 .i64 ((((p1.getD x4.toNat mt).extract 0 ((bz (p1.getD x4.toNat mt)).toNat)).size : Nat) : Int) 8), u8.wrap ((((p1.getD x4.toNat mt).extract 0 ((bz (p1.getD x4.toNat mt)).toNat)).size : Nat) : Int)] : List Int)).length = (x3 ++ ([u8.wrap (a7 .i64 ((((p1.getD x4.toNat mt).extract 0 ((bz (p1.getD x4.toNat mt)).toNat)).size : Nat) : Int) 8), u8.wrap ((((p1.getD x4.toNat mt).extract 0 ((bz (p1.getD x4.toNat mt)).toNat)).size : Nat) : Int)] : List Int)).length) ∧ (True) ∧ (((x3 ++ ([u8.wrap (a7 .i64 ((((p1.getD x4.toNat mt).extract 0 ((bz (p1.getD x4.toNat mt)).toNat)).size : Nat) : Int) 8), u8.wrap ((((p1.getD x4.toNat mt).extract 0 ((bz (p1.getD x4.toNat mt)).toNat)).size : Nat) : Int)] : List Int)).length + ((p1.getD x4.toNat mt).extract 0 ((bz (p1.getD x4.toNat mt)).toNat)).size ≤ 1099511627776) ∧ ((1 : Nat) ≤ 128)) ∧ ((x3 ++ ([u8.wrap (a7 .i64 ((((p1.getD x4.toNat mt).extract 0 ((bz (p1.getD x4.toNat mt)).toNat)).size : Nat) : Int) 8), u8.wrap ((((p1.getD x4.toNat mt).extract 0 ((bz (p1.getD x4.toNat mt)).toNat)).size : Nat) : Int)] : List Int)).length + ((p1.getD x4.toNat mt).extract 0 ((bz (p1.getD x4.toNat mt)).toNat)).size = ((x3 ++ ([u8.wrap (a7 .i64 ((((p1.getD x4.toNat mt).extract 0 ((bz (p1.getD x4.toNat mt)).toNat)).size : Nat) : Int) 8), u8.wrap ((((p1.getD x4.toNat mt).extract 0 ((bz (p1.getD x4.toNat mt)).toNat)).size : Nat) : Int)] : List Int)) ++ (dh ((p1.getD x4.toNat mt).extract 0 ((bz (p1.getD x4.toNat mt)).toNat)))).length ∧ ∀ i, i < ((x3 ++ ([u8.wrap (a7 .i64 ((((p1.getD x4.toNat mt).extract 0 ((bz (p1.getD x4.toNat mt)).toNat)).size : Nat) : Int) 8), u8.wrap ((((p1.getD x4.toNat mt).extract 0 ((bz (p1.getD x4.toNat mt)).toNat)).size : Nat) : Int)] : List Int)) ++ (dh ((p1.getD x4.toNat mt).extract 0 ((bz (p1.getD x4.toNat mt)).toNat)))).length → ∀ j, j < 1 → bn ((da ((x3 ++ ([u8.wrap (a7 .i64 ((((p1.getD x4.toNat mt).extract 0 ((bz (p1.getD x4.toNat mt)).toNat)).size : Nat) : Int) 8), u8.wrap ((((p1.getD x4.toNat mt).extract 0 ((bz (p1.getD x4.toNat mt)).toNat)).size : Nat) : Int)] : List Int)).length) (bQ (x3 ++ ([u8.wrap (a7 .i64 ((((p1.getD x4.toNat mt).extract 0 ((bz (p1.getD x4.toNat mt)).toNat)).size : Nat) : Int) 8), u8.wrap ((((p1.getD x4.toNat mt).extract 0 ((bz (p1.getD x4.toNat mt)).toNat)).size : Nat) : Int)] : List Int))) (pF ((p1.getD x4.toNat mt).extract 0 ((bz (p1.getD x4.toNat mt)).toNat)))) i j) (bQ ((x3 ++ ([u8.wrap (a7 .i64 ((((p1.getD x4.toNat mt).extract 0 ((bz (p1.getD x4.toNat mt)).toNat)).size : Nat) : Int) 8), u8.wrap ((((p1.getD x4.toNat mt).extract 0 ((bz (p1.getD x4.toNat mt)).toNat)).size : Nat) : Int)] : List Int)) ++ (dh ((p1.getD x4.toNat mt).extract 0 ((bz (p1.getD x4.toNat mt)).toNat)))) i j))) (⟨rfl, tv, ⟨g12, (by decide)⟩, t7 (tA rfl (DG _) ig Ld)⟩)]) ?_
   refine QU (QX ?_)
   refine ba ae [(10, af (SB (x4 + 1)))] 29 ?_
   exact bh h (ai [(0, 0), (1, 25)])
  ·refine exit (QR ?_)
   exact aX h rfl (ai [(0, 0), (1, 1)])
 ·show (_ : XQ) (.exit 0) _
  refine QO (QX ?_)
  obtain ⟨y14, e15, h⟩ := ap h
  refine aA ae [(4, a6 y14)] 5 (Ss [hg [] [] true 0 (q := ((True) ∧ (True) ∧ (True)) ∧ (0 + x13.length ≤ x13.length) ∧ (True)) ⟨⟨tv, tv, tv⟩, Ax, tv⟩ (a0 := [.agg (bN p0), vl 1 bQ x13]) (Jz p0 x13 y14 e15) ⟨aN.refl _, aN.refl _, tv⟩ (fun _ => tv)]) (ret ?_)
  apply au h (a6 y14)
noncomputable def oa (p0 : bd) (p1 : ByteArray) : Option bd := (iQ p0 ([p1, (mk #[97])] : am)).bind fun y1 => ((iQ p0 ([p1, (mk #[98])] : am)).bind fun y3 => (some (⟨y1, y3⟩ : bd)))
theorem CH (p0 : bd) (p1 : ByteArray) (r : bd) (h : oa p0 p1 = some r) : CT 105 [.agg (bN p0), vs p1] [] (.agg (bN r)) [] := by
 refine aw ae 0 Tryz.func105 rfl (fun _ _ _ => ?_)
 unfold oa at h
 refine QZ ae [(4, pX 1 2), (2, pX 0 2)] [0, 1] [(1, .box 39 [aH 0, aH 0]), (0, .box 39 (bN p0))] 2 [] ?_
 obtain ⟨y1, e2, h⟩ := ap h
 obtain ⟨y3, e4, h⟩ := ap h
 refine Q1 ae dx [[], [], [4], [], [], [], [7], [], [], [1]] [] [(1, .box 39 [aH y1, aH y3])] 10 (Ss [bB mt Es 1 (fun _ => rfl) ([p1, (mk #[97])] : am), hg [] [] true 0 (q := ((True) ∧ (True) ∧ (True)) ∧ (0 + ([p1, (mk #[97])] : am).length ≤ ([p1, (mk #[97])] : am).length) ∧ (True)) ⟨⟨tv, tv, tv⟩, Ax, tv⟩ (a0 := [.agg (bN p0), vl 1 Rs ([p1, (mk #[97])] : am)]) (uQ p0 ([p1, (mk #[97])] : am) y1 e2) ⟨aN.refl _, aN.refl _, tv⟩ (fun _ => tv), hn, hn, bB mt Es 1 (fun _ => rfl) ([p1, (mk #[98])] : am), hg [] [] true 0 (q := ((True) ∧ (True) ∧ (True)) ∧ (0 + ([p1, (mk #[98])] : am).length ≤ ([p1, (mk #[98])] : am).length) ∧ (True)) ⟨⟨tv, tv, tv⟩, Ax, tv⟩ (a0 := [.agg (bN p0), vl 1 Rs ([p1, (mk #[98])] : am)]) (uQ p0 ([p1, (mk #[98])] : am) y3 e4) ⟨aN.refl _, aN.refl _, tv⟩ (fun _ => tv)]) ?_
 refine ret ?_
 apply au h (.agg [aH y1, aH y3])
def mU (x6 : Int) (x7 : Int) : Option bd := some (⟨x6, x7⟩ : bd)
noncomputable def qB (p0 : nu) (p1 : bd) : Option bd := (vC p0.field).bind fun y1 => (if (mk #[102, 105, 101, 108, 100]).size + y1.size ≤ ce then (oa p1 ((mk #[102, 105, 101, 108, 100]) ++ y1)).bind fun y4 => (if p0.salted = true then if (mk #[115, 97, 108, 116, 61]).size + p0.salt.size ≤ ce then (oa y4 ((mk #[115, 97, 108, 116, 61]) ++ p0.salt)).bind fun y10 => (mU y10.A y10.B) else none else mU y4.A y4.B) else none)
theorem Ic (p0 : nu) (p1 : bd) (r : bd) (h : qB p0 p1 = some r) : CT 124 [.agg [ag p0.field, cb p0.salted, cs p0.salt], .agg (bN p1)] [] (.agg (bN r)) [] := by
 refine aw ae 0 Tryz.func124 rfl (fun _ _ _ => ?_)
 unfold qB at h
 refine QZ ae [(4, pX 2 2), (3, pX 1 2), (2, pX 0 3)] [0, 1, 2] [(2, .box 39 [aH 0, aH 0]), (1, .box 39 (bN p1)), (0, .box 205 [ag p0.field, cb p0.salted, cs p0.salt])] 3 [] ?_
 obtain ⟨y1, e2, h⟩ := ap h
 obtain ⟨g3, h⟩ := aY h
 obtain ⟨y4, e5, h⟩ := ap h
 refine Q1 ae dx [[], [], [], [], [], [], [1]] [] [(1, .box 39 (bN y4))] 8 (Su [hk (Jm p0.field y1 e2), ho g3, hk (CH p1 ((mk #[102, 105, 101, 108, 100]) ++ y1) y4 e5)]) ?_
 refine seq ?_
 refine AW.join (ι := Int × Int) (fun v => ⟨[(3, pX 0 2), (4, pX 1 2)], [(0, .box 39 [aH v.1, aH v.2]), (1, .box 39 [aH 0, aH 0])], 2⟩) (fun v : Int × Int => mU v.1 v.2 = some r) (fun v h => ?_) ?_
 ·obtain ⟨x6, x7⟩ := v
  replace h : mU x6 x7 = some r := h
  unfold mU at h
  refine QX ?_
  refine QZ ae [] [1] [(1, .box 39 [aH x6, aH x7])] 4 [] (ret ?_)
  apply au h (.agg [aH x6, aH x7])
 ·refine ah ae [(12, vb p0.salted)] 10 ?_
  refine Q2 h ?_ ?_ <;> intro c8 h
  ·obtain ⟨g9, h⟩ := aY h
   obtain ⟨y10, e11, h⟩ := ap h
   refine QY ae [] [1] [(1, .box 39 (bN y10))] 15 (Su [ho g9, hk (CH y4 ((mk #[115, 97, 108, 116, 61]) ++ p0.salt) y10 e11)]) ?_
   exact jl (y10.A, y10.B) h (ai [(0, 1), (1, 2)])
  ·refine skip ?_
   exact jl (y4.A, y4.B) h (ai [(0, 1), (1, 2)])
noncomputable def sI (p0 : aD) (p1 : bd) (p2 : ByteArray) : Option (Int × Int × aD × Int) := (iQ p1 [(mk #[49]), p2]).bind fun y1 => (if (u64.wrap p0.Length) ≠ 0 then (iQ p1 [(mk #[50]), p2]).bind fun y4 => (if (u64.wrap (SB (p0.Length - 1))) ≠ 0 then (some (SB (1 + (SB (y4.tmod (u64.wrap (SB (p0.Length - 1)))))))).bind fun z7 => (some (SB (y1.tmod (u64.wrap p0.Length)), z7, p0, SB (y1.tmod (u64.wrap p0.Length)))) else none) else none)
theorem JA (p0 : aD) (p1 : bd) (p2 : ByteArray) (r : (Int × Int × aD × Int)) (h : sI p0 p1 p2 = some r) : CT 204 [.agg [ag p0.Length, ag p0.Hashes, ag p0.Salt], .agg (bN p1), vs p2] [] (.clo 236 [] [.c (.ptr 0 1 0 0), .c (.ptr 1 1 0 0), .c (.ptr 2 3 0 0), .c (.ptr 3 1 0 0)]) [(0, .box 3 [ag r.1]), (1, .box 3 [ag r.2.1]), (2, .box 84 [ag r.2.2.1.Length, ag r.2.2.1.Hashes, ag r.2.2.1.Salt]), (3, .box 3 [ag r.2.2.2])] := by
 refine aw ae 0 Tryz.func204 rfl (fun _ _ _ => ?_)
 unfold sI at h
 refine QZ ae [(4, pX 1 2), (3, pX 0 3)] [0, 1] [(1, .box 39 (bN p1)), (0, .box 84 [ag p0.Length, ag p0.Hashes, ag p0.Salt])] 3 [] ?_
 obtain ⟨y1, e2, h⟩ := ap h
 obtain ⟨g3, h⟩ := aY h
 refine Q1 ae dx [[], [], [5], [], [], [], [], [], [], [11], [11]] [(7, pX 11 1)] [(11, .box 3 [ag (SB (y1.tmod (u64.wrap p0.Length)))])] 13 (Ss [bB mt Es 1 (fun _ => rfl) [(mk #[49]), p2], hg [] [] true 0 (q := ((True) ∧ (True) ∧ (True)) ∧ (0 + [(mk #[49]), p2].length ≤ [(mk #[49]), p2].length) ∧ (True)) ⟨⟨tv, tv, tv⟩, Ax, tv⟩ (a0 := [.agg (bN p1), vl 1 Rs [(mk #[49]), p2]]) (uQ p1 [(mk #[49]), p2] y1 e2) ⟨aN.refl _, aN.refl _, tv⟩ (fun _ => tv), hn, hn, hn, ho g3]) ?_
 obtain ⟨y4, e5, h⟩ := ap h
 obtain ⟨g6, h⟩ := aY h
 obtain ⟨z7, n8, h⟩ := ap h
 replace n8 := ay n8
 refine Q1 ae dx [[], [], [15], [], [], [], [], [], [], [], [], [23], [23]] [(8, pX 23 1)] [(23, .box 3 [ag z7])] 25 (Ss [bB mt Es 1 (fun _ => rfl) [(mk #[50]), p2], hg [] [] true 0 (q := ((True) ∧ (True) ∧ (True)) ∧ (0 + [(mk #[50]), p2].length ≤ [(mk #[50]), p2].length) ∧ (True)) ⟨⟨tv, tv, tv⟩, Ax, tv⟩ (a0 := [.agg (bN p1), vl 1 Rs [(mk #[50]), p2]]) (uQ p1 [(mk #[50]), p2] y4 e5) ⟨aN.refl _, aN.refl _, tv⟩ (fun _ => tv), hn, hn, hn, hn, ho g6]) ?_ (by subst n8; kernel_rfl)
 refine QZ ae [(9, pX 26 1)] [26] [(26, .box 3 [ag (SB (y1.tmod (u64.wrap p0.Length)))])] 28 [] ?_
 refine ah ae [(6, .clo 236 [] [.c (.ptr 26 1 0 0), .c (.ptr 23 1 0 0), .c (.ptr 0 3 0 0), .c (.ptr 11 1 0 0)])] 30 (ret ?_)
 obtain rfl := ay h
 exact be (.inr rfl) [(0, 26), (1, 23), (2, 0), (3, 11)] 4 (.clo 236 [] [.c (.ptr 26 1 0 0), .c (.ptr 23 1 0 0), .c (.ptr 0 3 0 0), .c (.ptr 11 1 0 0)])
def rK (pc0 : Int) (pc1 : Int) (pc2 : aD) (pc3 : Int) : Option (Int × Int × Int × aD × Int) := if pc2.Length ≠ 0 then some (pc0, ((SB (pc0 + pc1)).tmod pc2.Length), pc1, pc2, pc0) else none
theorem IV (pc0 : Int) (pc1 : Int) (pc2 : aD) (pc3 : Int) (r : Int × Int × Int × aD × Int) (h : rK pc0 pc1 pc2 pc3 = some r) : CT 236 [.c (.ptr 0 1 0 0), .c (.ptr 1 1 0 0), .c (.ptr 2 3 0 0), .c (.ptr 3 1 0 0)] [(0, .box 3 [ag pc0]), (1, .box 3 [ag pc1]), (2, .box 84 [ag pc2.Length, ag pc2.Hashes, ag pc2.Salt]), (3, .box 3 [ag pc3])] (af r.1) [(0, .box 3 [ag r.2.1]), (1, .box 3 [ag r.2.2.1]), (2, .box 84 [ag r.2.2.2.1.Length, ag r.2.2.2.1.Hashes, ag r.2.2.2.1.Salt]), (3, .box 3 [ag r.2.2.2.2])] := by
 refine aw ae 4 Tryz.func236 rfl (fun _ _ _ => ?_)
 unfold rK at h
 refine ah ae [] 5 ?_
 obtain ⟨g1, h⟩ := aY h
 refine Q1 ae dx [[], [], [], [], [], [], [], [3], [0]] [] [(0, .box 3 [ag ((SB (pc0 + pc1)).tmod pc2.Length)]), (3, .box 3 [ag pc0])] 14 (Sy [ho g1]) ?_
 refine ah ae [(4, af pc0)] 16 (ret ?_)
 obtain rfl := ay h
 exact be (.inr rfl) [(0, 0), (1, 1), (2, 2), (3, 3)] 4 (af pc0)
def nl (p0 : aD) (x16 : List Int) (x17 : Int) (x18 : Int) (x19 : Int) (x20 : Int) (x21 : Int) (x22 : Int) (x23 : Int) : Option ((List Int × Int × Int × Int × Int × Int × Int × Int) ⊕ List Int) := if (decide (x17 < ((List.replicate p0.Hashes.toNat (0 : Int)).length : Int))) = true then fJ (rK x18 x19 (⟨x20, x21, x22⟩ : aD) x23) fun y26 y27 y28 y29 y30 => (if 0 ≤ x17 then if x17 < (x16.length : Int) then some (.inl ((x16.set (0 + x17.toNat) y26), SB (x17 + 1), y27, y28, y29.Length, y29.Hashes, y29.Salt, y30)) else none else none) else some (.inr x16)
noncomputable def rq (p0 : aD) (p1 : bd) (p2 : ByteArray) : Option (List Int × Int) := (lV p0).bind fun y1 => (if (y1 != 0) then some (([] : List Int), y1) else if 0 ≤ p0.Hashes then if p0.Hashes ≤ 1099511627776 then (sI p0 p1 p2).bind fun y6 => ((loop (fun v : List Int × Int × Int × Int × Int × Int × Int × Int => nl p0 v.1 v.2.1 v.2.2.1 v.2.2.2.1 v.2.2.2.2.1 v.2.2.2.2.2.1 v.2.2.2.2.2.2.1 v.2.2.2.2.2.2.2) ((List.replicate p0.Hashes.toNat (0 : Int)), 0, y6.1, y6.2.1, y6.2.2.1.Length, y6.2.2.1.Hashes, y6.2.2.1.Salt, y6.2.2.2)).bind fun x34 => (some (x34, 0))) else none else none)
theorem IM (p0 : aD) (p1 : bd) (p2 : ByteArray) (r : (List Int) × Int) (h : rq p0 p1 p2 = some r) : CT 160 [.agg [ag p0.Length, ag p0.Hashes, ag p0.Salt], .agg (bN p1), vs p2] [] (.tup [.c (.ref 0 1 0 r.1.length), af r.2]) [(0, .row 3 false 1 r.1.length (al r.1))] := by
 refine aw ae 0 Tryz.func160 rfl (fun _ _ _ => ?_)
 unfold rq at h
 refine QZ ae [(4, pX 1 2), (3, pX 0 3)] [0, 1] [(1, .box 39 (bN p1)), (0, .box 84 [ag p0.Length, ag p0.Hashes, ag p0.Salt])] 4 [] (seq ?_)
 obtain ⟨y1, e2, h⟩ := ap h
 refine aA ae [(8, af y1)] 6 [hn, hk (rn p0 y1 e2)] ?_
 refine ah ae [(15, vb (y1 != 0))] 8 ?_
 refine Q2 h ?_ ?_ <;> intro c3 h
 ·refine ah ae [(7, af y1), (6, .c (ar))] 11 (ret (QW ?_))
  obtain rfl := ay h
  exact b6 (.inr rfl) [(0, 11)] 1 (.tup [.c (.ref 11 1 0 (([] : List Int).length)), af y1]) (cG (t := 6) (ty := 3) (sz := 1) (n := ([] : List Int).length) (f := al ([] : List Int)) (by kernel_rfl) rfl)
 ·refine skip (QX ?_)
  obtain ⟨g4, g5, h⟩ := aJ h
  obtain ⟨y6, e7, h⟩ := ap h
  refine Q1 ae dx [[], [], [10], [], [], [], [14, 15, 16, 17]] [(10, .clo 236 [] [.c (.ptr 14 1 0 0), .c (.ptr 15 1 0 0), .c (.ptr 16 3 0 0), .c (.ptr 17 1 0 0)]), (9, .c (.ref 10 1 0 ((List.replicate p0.Hashes.toNat (0 : Int)).length)))] [(14, .box 3 [ag y6.1]), (15, .box 3 [ag y6.2.1]), (16, .box 84 [ag y6.2.2.1.Length, ag y6.2.2.1.Hashes, ag y6.2.2.1.Salt]), (17, .box 3 [ag y6.2.2.2]), (10, .row 3 false 1 (List.replicate p0.Hashes.toNat (0 : Int)).length (al (List.replicate p0.Hashes.toNat (0 : Int))))] 20 (Ss [gM 0 dj 1 8 [.int .i64 0] rfl rfl p0.Hashes p0.Hashes g4 (Int.le_refl _) g5 (by decide), hn, hn, hn, hm [] [] 4 (JA p0 p1 p2 y6 e7) ⟨rfl, rfl, rfl, rfl, tv⟩]) ?_
  refine seq ?_
  refine ah ae [(26, af 0), (25, af ((List.replicate p0.Hashes.toNat (0 : Int)).length : Int))] 23 (block ?_)
  obtain ⟨x34, l35, h⟩ := ap h
  refine Q3 l35 (fun v => ⟨[(9, rX 0 1 v.1.length), (10, .clo 236 [] [.c (.ptr 1 1 0 0), .c (.ptr 2 1 0 0), .c (.ptr 3 3 0 0), .c (.ptr 4 1 0 0)]), (25, af ((List.replicate p0.Hashes.toNat (0 : Int)).length : Int)), (26, af v.2.1)], [(0, .row 3 false 1 v.1.length (al v.1)), (1, .box 3 [ag v.2.2.1]), (2, .box 3 [ag v.2.2.2.1]), (3, .box 84 [ag v.2.2.2.2.1, ag v.2.2.2.2.2.1, ag v.2.2.2.2.2.2.1]), (4, .box 3 [ag v.2.2.2.2.2.2.2])], 5⟩) (fun t : List Int => (.exit 0, ⟨[(9, rX 0 1 t.length)], [(0, .row 3 false 1 t.length (al t))], 1⟩)) (ai [(0, 10), (1, 14), (2, 15), (3, 16), (4, 17)]) (fun _ => tv) ?_ ?_
  ·clear l35 h
   intro v o h
   obtain ⟨x16, x17, x18, x19, x20, x21, x22, x23⟩ := v
   replace h : nl p0 x16 x17 x18 x19 x20 x21 x22 x23 = some o := h
   unfold nl at h
   refine ah ae [(27, vb (decide (x17 < ((List.replicate p0.Hashes.toNat (0 : Int)).length : Int))))] 6 (seq ?_)
   refine Q2 h ?_ ?_ <;> intro c25 h
   ·refine skip (QX ?_)
    refine seq (block ?_)
    refine ah ae [(11, af x17)] 8 ?_
    obtain ⟨y26, y27, y28, y29, y30, e31, h⟩ := gZ h
    obtain ⟨g32, g33, h⟩ := aJ h
    refine QY ae [] [0, 1, 2, 3, 4] [(0, .row 3 false 1 x16.length (al (x16.set (0 + x17.toNat) y26))), (1, .box 3 [ag y27]), (2, .box 3 [ag y28]), (3, .box 84 [ag y29.Length, ag y29.Hashes, ag y29.Salt]), (4, .box 3 [ag y30])] 13 (Su [hm [1, 2, 3, 4] [] 0 (IV x18 x19 (⟨x20, x21, x22⟩ : aD) x23 (y26, y27, y28, y29, y30) e31) ⟨rfl, rfl, rfl, rfl, tv⟩, hq g32 g33, hset 0 dj x16 (0 + x17.toNat) y26 (n := x16.length) (by have h1 : 0 ≤ x17 := g32; have h2 : x17 < (x16.length : Int) := g33; omega) rfl]) ?_
    refine QU (QX ?_)
    refine ba ae [(26, af (SB (x17 + 1)))] 15 ?_
    exact bh h (Conv.trans (cV [(9, .c (.ref 0 1 0 ((x16.set (0 + x17.toNat) y26).length)))] ⟨⟨.c (.ref 0 1 0 x16.length), by kernel_rfl, bU.len (by simp only [R7])⟩, tv⟩) (Conv.trans (eN 0 3 false 1 x16.length ((x16.set (0 + x17.toNat) y26).length) (al (x16.set (0 + x17.toNat) y26)) (by kernel_rfl) (by simp only [R7])) (ai [(0, 0), (1, 1), (2, 2), (3, 3), (4, 4)])))
   ·refine exit (QR ?_)
    exact aX h rfl (ai [(0, 0)])
  ·show (_ : XQ) (.exit 0) _
   refine QO (QX ?_)
   refine ah ae [(7, af 0), (6, rX 0 1 x34.length)] 4 (ret ?_)
   obtain rfl := ay h
   exact be (.inr rfl) [(0, 0)] 1 (.tup [.c (.ref 0 1 0 x34.length), af 0])
def lF (y16 : List Int) (x21 : Int) (x22 : List Int) : Option ((Int × List Int) ⊕ List Int) := if decide (x21 < (y16.length : Int)) then if 0 ≤ x21 then if x21 < (y16.length : Int) then if 0 ≤ (SB ((y16.getD (0 + x21.toNat) 0).tdiv 64)) then if (SB ((y16.getD (0 + x21.toNat) 0).tdiv 64)) < (x22.length : Int) then if 0 ≤ ((y16.getD (0 + x21.toNat) 0).tmod 64) then some (.inl (SB (x21 + 1), (x22.set (0 + (SB ((y16.getD (0 + x21.toNat) 0).tdiv 64)).toNat) (cw .u64 (x22.getD (0 + (SB ((y16.getD (0 + x21.toNat) 0).tdiv 64)).toNat) 0) (ck .u64 1 ((y16.getD (0 + x21.toNat) 0).tmod 64)))))) else none else none else none else none else none else some (.inr x22)
noncomputable def nH (p0 : aD) (p1 : bd) (p2 : List ByteArray) (x10 : Int) (x11 : List Int) : Option ((Int × List Int) ⊕ List Int) := if decide (x10 < (p2.length : Int)) then if 0 ≤ x10 then if x10 < (p2.length : Int) then aF (rq p0 p1 (p2.getD x10.toNat mt)) fun y16 y17 => ((loop (fun v : Int × List Int => lF y16 v.1 v.2) (0, x11)).bind fun x30 => (some (.inl (SB (x10 + 1), x30)))) else none else none else some (.inr x11)
noncomputable def sr (p0 : aD) (p1 : bd) (p2 : List ByteArray) : Option (aR × Int) := (lV p0).bind fun y1 => (if (y1 != 0) then some ((⟨0, ([] : List Int)⟩ : aR), y1) else if decide ((p2.length : Int) > 80) then some ((⟨0, ([] : List Int)⟩ : aR), 1) else aF (oW p0.Length) fun y5 y6 => ((loop (fun v : Int × List Int => nH p0 p1 p2 v.1 v.2) (0, y5.Words)).bind fun x32 => (some ((⟨y5.Length, x32⟩ : aR), 0))))
theorem Jo (p0 : aD) (p1 : bd) (p2 : List ByteArray) (r : aR × Int) (h : sr p0 p1 p2 = some r) : CT 123 [.agg [ag p0.Length, ag p0.Hashes, ag p0.Salt], .agg (bN p1), vl 1 Rs p2] [] (.tup [.agg [ag r.1.Length, .ref 0 1 0 r.1.Words.length], af r.2]) [(0, .row 37 false 1 r.1.Words.length (bo r.1.Words))] := by
 refine aw ae 0 Tryz.func123 rfl (fun _ _ _ => ?_)
 unfold sr at h
 refine QZ ae [(6, pX 2 2), (4, pX 1 2), (3, pX 0 3)] [0, 1, 2] [(2, .box 126 [ag 0, ar]), (1, .box 39 (bN p1)), (0, .box 84 [ag p0.Length, ag p0.Hashes, ag p0.Salt])] 4 [] (seq ?_)
 obtain ⟨y1, e2, h⟩ := ap h
 refine aA ae [(8, af y1)] 6 [hn, hk (rn p0 y1 e2)] ?_
 refine ah ae [(20, vb (y1 != 0))] 8 ?_
 refine Q2 h ?_ ?_ <;> intro c3 h
 ·refine QZ ae [(7, af y1)] [2] [(2, .box 126 [ag 0, ar])] 12 [] (ret (QW ?_))
  obtain rfl := ay h
  exact b6 (.inr rfl) [(0, 12)] 1 (.tup [.agg [ag 0, .ref 12 1 0 (([] : List Int).length)], af y1]) (dr (id := 2) (ty0 := 126) (cs := [ag 0, ar]) 1 (ty := 37) (sz := 1) (n := ([] : List Int).length) (f := bo ([] : List Int)) (by kernel_rfl) (by kernel_rfl) rfl)
 ·refine skip (QX (seq ?_))
  refine ah ae [(25, vb (decide ((p2.length : Int) > 80)))] 11 ?_
  refine Q2 h ?_ ?_ <;> intro c4 h
  ·refine QZ ae [(7, af 1)] [2] [(2, .box 126 [ag 0, ar])] 14 [] (ret (QW ?_))
   obtain rfl := ay h
   exact b6 (.inr rfl) [(0, 14)] 1 (.tup [.agg [ag 0, .ref 14 1 0 (([] : List Int).length)], af 1]) (dr (id := 2) (ty0 := 126) (cs := [ag 0, ar]) 1 (ty := 37) (sz := 1) (n := ([] : List Int).length) (f := bo ([] : List Int)) (by kernel_rfl) (by kernel_rfl) rfl)
  ·refine skip (QX ?_)
   obtain ⟨y5, y6, e7, h⟩ := aK h
   refine QZ ae [(9, pX 17 2)] [13, 17] [(17, .box 126 [ag y5.Length, .ref 13 1 0 y5.Words.length]), (13, .row 37 false 1 y5.Words.length (bo y5.Words))] 20 (Ss [hm [] [] 1 (Dx p0.Length (y5, y6) e7) ⟨bS qb _ _ _, tv⟩]) (seq ?_)
   refine ah ae [(35, af 0), (34, af (p2.length : Int)), (33, vl 1 Rs p2)] 23 (block ?_)
   obtain ⟨x32, l33, h⟩ := ap h
   refine Q3 l33 (fun v => ⟨[(3, pX 0 3), (4, pX 1 2), (6, pX 2 2), (9, pX 3 2), (33, vl 1 Rs p2), (34, af (p2.length : Int)), (35, af v.1)], [(0, .box 84 [ag p0.Length, ag p0.Hashes, ag p0.Salt]), (1, .box 39 (bN p1)), (2, .box 126 [ag 0, ar]), (3, .box 126 [ag y5.Length, .ref 4 1 0 v.2.length]), (4, .row 37 false 1 v.2.length (bo v.2))], 5⟩) (fun t : List Int => (.exit 0, ⟨[(6, pX 0 2), (9, pX 1 2)], [(0, .box 126 [ag 0, ar]), (1, .box 126 [ag y5.Length, .ref 2 1 0 t.length]), (2, .row 37 false 1 t.length (bo t))], 3⟩)) (ai [(0, 0), (1, 1), (2, 2), (3, 17), (4, 13)]) (fun _ => tv) ?_ ?_
   ·clear l33 h
    intro v o h
    obtain ⟨x10, x11⟩ := v
    replace h : nH p0 p1 p2 x10 x11 = some o := h
    unfold nH at h
    refine ah ae [(36, vb (decide (x10 < (p2.length : Int))))] 6 (seq ?_)
    refine Q2 h ?_ ?_ <;> intro c13 h
    ·refine skip (QX ?_)
     refine seq (block ?_)
     obtain ⟨g14, g15, h⟩ := aJ h
     refine aA ae [(12, vs (p2.getD x10.toNat mt))] 9 [hq g14 g15] ?_
     obtain ⟨y16, y17, e18, h⟩ := aK h
     refine QZ ae [(13, rX 12 1 y16.length)] [12] [(12, .row 3 false 1 y16.length (al y16))] 18 (Su [hm [] [] 1 (IM p0 p1 (p2.getD x10.toNat mt) (y16, y17) e18) ⟨bS fb _ _ _, tv⟩]) ?_
     refine ah ae [(48, af 0), (47, af (y16.length : Int)), (46, rX 12 1 y16.length)] 21 (block ?_)
     obtain ⟨x30, l31, h⟩ := ap h
     refine Q3 l31 (fun v => ⟨[(3, pX 0 3), (4, pX 1 2), (6, pX 2 2), (9, pX 3 2), (33, vl 1 Rs p2), (34, af (p2.length : Int)), (35, af x10), (46, rX 4 1 y16.length), (47, af (y16.length : Int)), (48, af v.1)], [(0, .box 84 [ag p0.Length, ag p0.Hashes, ag p0.Salt]), (1, .box 39 (bN p1)), (2, .box 126 [ag 0, ar]), (3, .box 126 [ag y5.Length, .ref 5 1 0 v.2.length]), (4, .row 3 false 1 y16.length (al y16)), (5, .row 37 false 1 v.2.length (bo v.2))], 6⟩) (fun t : List Int => (.exit 2, ⟨[(3, pX 0 3), (4, pX 1 2), (6, pX 2 2), (9, pX 3 2), (33, vl 1 Rs p2), (34, af (p2.length : Int)), (35, af x10)], [(0, .box 84 [ag p0.Length, ag p0.Hashes, ag p0.Salt]), (1, .box 39 (bN p1)), (2, .box 126 [ag 0, ar]), (3, .box 126 [ag y5.Length, .ref 4 1 0 t.length]), (4, .row 37 false 1 t.length (bo t))], 5⟩)) (ai [(0, 0), (1, 1), (2, 2), (3, 3), (4, 12), (5, 4)]) (fun _ => tv) ?_ ?_
     ·clear l31 h
      intro v o h
      obtain ⟨x21, x22⟩ := v
      replace h : lF y16 x21 x22 = some o := h
      unfold lF at h
      refine ah ae [(49, vb (decide (x21 < (y16.length : Int))))] 7 (seq ?_)
      refine Q2 h ?_ ?_ <;> intro c24 h
      ·refine skip (QX ?_)
       refine seq (block ?_)
       obtain ⟨g25, g26, h⟩ := aJ h
       refine aA ae [(16, af (y16.getD (0 + x21.toNat) 0))] 10 [hq g25 g26, ho (p := (0 + x21.toNat) < y16.length) (by have h1 : 0 ≤ x21 := g25; have h2 : x21 < (y16.length : Int) := g26; omega)] ?_
       obtain ⟨g27, g28, h⟩ := aJ h
       obtain ⟨g29, h⟩ := aY h
       refine Q0 ae dx [[], [], [], [], [], [], [], [], [], [], [], [5]] [] [(5, .row 37 false 1 x22.length (bo (x22.set (0 + (SB ((y16.getD (0 + x21.toNat) 0).tdiv 64)).toNat) (cw .u64 (x22.getD (0 + (SB ((y16.getD (0 + x21.toNat) 0).tdiv 64)).toNat) 0) (ck .u64 1 ((y16.getD (0 + x21.toNat) 0).tmod 64))))))] 22 (Su [ho (p := (64 : Int) ≠ 0) (by decide), hq g27 g28, ho (p := (0 + (SB ((y16.getD (0 + x21.toNat) 0).tdiv 64)).toNat) < x22.length) (by have h1 : 0 ≤ (SB ((y16.getD (0 + x21.toNat) 0).tdiv 64)) := g27; have h2 : (SB ((y16.getD (0 + x21.toNat) 0).tdiv 64)) < (x22.length : Int) := g28; omega), hn, ho (p := (64 : Int) ≠ 0) (by decide), ho g29, hn, hq g27 g28, hset 0 qa x22 (0 + (SB ((y16.getD (0 + x21.toNat) 0).tdiv 64)).toNat) (cw .u64 (x22.getD (0 + (SB ((y16.getD (0 + x21.toNat) 0).tdiv 64)).toNat) 0) (ck .u64 1 ((y16.getD (0 + x21.toNat) 0).tmod 64))) (n := x22.length) (by have h1 : 0 ≤ (SB ((y16.getD (0 + x21.toNat) 0).tdiv 64)) := g27; have h2 : (SB ((y16.getD (0 + x21.toNat) 0).tdiv 64)) < (x22.length : Int) := g28; omega) rfl]) ?_
       refine QU (QX ?_)
       refine ba ae [(48, af (SB (x21 + 1)))] 24 ?_
       exact bh h (Conv.trans (ai (S' := ⟨[(48, af (SB (x21 + 1))), (3, pX 0 3), (4, pX 1 2), (6, pX 2 2), (9, pX 3 2), (33, vl 1 Rs p2), (34, af (p2.length : Int)), (35, af x10), (46, rX 4 1 y16.length), (47, af (y16.length : Int))], [(5, .row 37 false 1 x22.length (bo (x22.set (0 + (SB ((y16.getD (0 + x21.toNat) 0).tdiv 64)).toNat) (cw .u64 (x22.getD (0 + (SB ((y16.getD (0 + x21.toNat) 0).tdiv 64)).toNat) 0) (ck .u64 1 ((y16.getD (0 + x21.toNat) 0).tmod 64)))))), (0, .box 84 [ag p0.Length, ag p0.Hashes, ag p0.Salt]), (1, .box 39 (bN p1)), (2, .box 126 [ag 0, ar]), (3, .box 126 [ag y5.Length, .ref 5 1 0 x22.length]), (4, .row 3 false 1 y16.length (al y16))], 24⟩) [(5, 5), (0, 0), (1, 1), (2, 2), (3, 3), (4, 4)] (by kernel_rfl)) (Conv.trans (tc (S' := ⟨[(48, af (SB (x21 + 1))), (3, pX 0 3), (4, pX 1 2), (6, pX 2 2), (9, pX 3 2), (33, vl 1 Rs p2), (34, af (p2.length : Int)), (35, af x10), (46, rX 4 1 y16.length), (47, af (y16.length : Int))], [(5, .row 37 false 1 (x22.set (0 + (SB ((y16.getD (0 + x21.toNat) 0).tdiv 64)).toNat) (cw .u64 (x22.getD (0 + (SB ((y16.getD (0 + x21.toNat) 0).tdiv 64)).toNat) 0) (ck .u64 1 ((y16.getD (0 + x21.toNat) 0).tmod 64)))).length (bo (x22.set (0 + (SB ((y16.getD (0 + x21.toNat) 0).tdiv 64)).toNat) (cw .u64 (x22.getD (0 + (SB ((y16.getD (0 + x21.toNat) 0).tdiv 64)).toNat) 0) (ck .u64 1 ((y16.getD (0 + x21.toNat) 0).tmod 64)))))), (0, .box 84 [ag p0.Length, ag p0.Hashes, ag p0.Salt]), (1, .box 39 (bN p1)), (2, .box 126 [ag 0, ar]), (3, .box 126 [ag y5.Length, .ref 5 1 0 ((x22.set (0 + (SB ((y16.getD (0 + x21.toNat) 0).tdiv 64)).toNat) (cw .u64 (x22.getD (0 + (SB ((y16.getD (0 + x21.toNat) 0).tdiv 64)).toNat) 0) (ck .u64 1 ((y16.getD (0 + x21.toNat) 0).tmod 64)))).length)]), (4, .row 3 false 1 y16.length (al y16))], 24⟩) (by simp only [R7])) (ai [(0, 0), (1, 1), (2, 2), (3, 3), (4, 4), (5, 5)])))
      ·refine exit (QR ?_)
       exact aX h rfl (ai [(0, 0), (1, 1), (2, 2), (3, 3), (4, 5)])
     ·show (_ : XQ) (.exit 2) _
      refine QO (QU (QX ?_))
      refine ba ae [(35, af (SB (x10 + 1)))] 7 ?_
      exact bh h (ai [(0, 0), (1, 1), (2, 2), (3, 3), (4, 4)])
    ·refine exit (QR ?_)
     exact aX h rfl (ai [(0, 2), (1, 3), (2, 4)])
   ·show (_ : XQ) (.exit 0) _
    refine QO (QX ?_)
    refine QZ ae [(7, af 0)] [0] [(0, .box 126 [ag y5.Length, .ref 2 1 0 x32.length])] 6 [] (ret ?_)
    obtain rfl := ay h
    exact be (.inr rfl) [(0, 2)] 1 (.tup [.agg [ag y5.Length, .ref 2 1 0 x32.length], af 0])
noncomputable def lG (p0 : aS) (p1 : aD) (p2 : bd) (p3 : aL) (p4 : Int) (x4 : ByteArray) : Option (aR × Int) := aF (so p0 p4 (p3.Values.getD p4.toNat mt)) fun y5 y6 => (if (y6 != 0) then some ((⟨0, ([] : List Int)⟩ : aR), y6) else (qB (⟨p4, decide (p1.Salt ≥ 0), x4⟩ : nu) p2).bind fun y9 => (aF (sr p1 y9 y5) fun y11 y12 => (some (y11, y12))))
noncomputable def gr (p0 : aS) (p1 : aD) (p2 : bd) (p3 : aL) (p4 : Int) : Option (aR × Int) := if 0 ≤ p4 then if p4 < (p3.Values.length : Int) then if ((p3.Values.getD p4.toNat mt).toList == (mk #[]).toList) then some ((⟨0, ([] : List Int)⟩ : aR), 0) else if decide (p1.Salt ≥ 0) then if 0 ≤ p1.Salt then if p1.Salt < (p3.Values.length : Int) then lG p0 p1 p2 p3 p4 (p3.Values.getD p1.Salt.toNat mt) else none else none else lG p0 p1 p2 p3 p4 mt else none else none
theorem Jp (p0 : aS) (p1 : aD) (p2 : bd) (p3 : aL) (p4 : Int) (r : aR × Int) (h : gr p0 p1 p2 p3 p4 = some r) : CT 82 [.agg (bf p0), .agg [ag p1.Length, ag p1.Hashes, ag p1.Salt], .agg (bN p2), .agg (dE p3), af p4] [] (.tup [.agg [ag r.1.Length, .ref 0 1 0 r.1.Words.length], af r.2]) [(0, .row 37 false 1 r.1.Words.length (bo r.1.Words))] := by
 refine aw ae 0 Tryz.func82 rfl (fun _ _ _ => ?_)
 unfold gr at h
 refine QZ ae [(10, pX 4 2), (8, pX 3 3), (7, pX 2 2), (6, pX 1 3), (5, pX 0 4)] [0, 1, 2, 3, 4] [(4, .box 126 [ag 0, ar]), (3, .box 53 (dE p3)), (2, .box 39 (bN p2)), (1, .box 84 [ag p1.Length, ag p1.Hashes, ag p1.Salt]), (0, .box 33 (bf p0))] 6 [] (seq ?_)
 obtain ⟨g1, g2, h⟩ := aJ h
 refine aA ae [(20, vb ((p3.Values.getD p4.toNat mt).toList == (mk #[]).toList))] 12 (Su [hq g1 g2]) ?_
 refine Q2 h ?_ ?_ <;> intro c3 h
 ·refine QZ ae [(11, af 0)] [4] [(4, .box 126 [ag 0, ar])] 15 [] (ret (QW ?_))
  obtain rfl := ay h
  exact b6 (.inr rfl) [(0, 15)] 1 (.tup [.agg [ag 0, .ref 15 1 0 (([] : List Int).length)], af 0]) (dr (id := 4) (ty0 := 126) (cs := [ag 0, ar]) 1 (ty := 37) (sz := 1) (n := ([] : List Int).length) (f := bo ([] : List Int)) (by kernel_rfl) (by kernel_rfl) rfl)
 ·refine skip (QX ?_)
  refine QZ ae [(12, pX 17 3)] [17] [(17, .box 205 [ag p4, cb (decide (p1.Salt ≥ 0)), cs mt])] 19 [] (seq ?_)
  refine AW.join (ι := ByteArray) (fun v => ⟨[(4, af p4), (5, pX 0 4), (6, pX 1 3), (7, pX 2 2), (8, pX 3 3), (10, pX 4 2), (12, pX 5 3)], [(0, .box 33 (bf p0)), (1, .box 84 [ag p1.Length, ag p1.Hashes, ag p1.Salt]), (2, .box 39 (bN p2)), (3, .box 53 (dE p3)), (4, .box 126 [ag 0, ar]), (5, .box 205 [ag p4, cb (decide (p1.Salt ≥ 0)), cs v])], 6⟩) (fun v : ByteArray => lG p0 p1 p2 p3 p4 v = some r) (fun x4 h => ?_) ?_
  ·unfold lG at h
   refine QX ?_
   obtain ⟨y5, y6, e7, h⟩ := aK h
   refine Q1 ae dx [[], [], [], [], [], [], [], [13]] [(14, af y6), (13, rX 13 1 y5.length)] [(13, .row 9 false 1 y5.length (Rs y5))] 19 (Sw [hq g1 g2, hn, hm [] [] 1 (Jk p0 p4 (p3.Values.getD p4.toNat mt) (y5, y6) e7) ⟨bS Vs _ _ _, tv⟩]) ?_
   refine seq ?_
   refine ah ae [(48, vb (y6 != 0))] 21 ?_
   refine Q2 h ?_ ?_ <;> intro c8 h
   ·refine QZ ae [(11, af y6)] [4] [(4, .box 126 [ag 0, ar])] 25 [] (ret (QW ?_))
    obtain rfl := ay h
    exact b6 (.inr rfl) [(0, 25)] 1 (.tup [.agg [ag 0, .ref 25 1 0 (([] : List Int).length)], af y6]) (dr (id := 4) (ty0 := 126) (cs := [ag 0, ar]) 1 (ty := 37) (sz := 1) (n := ([] : List Int).length) (f := bo ([] : List Int)) (by kernel_rfl) (by kernel_rfl) rfl)
   ·refine skip (QX ?_)
    obtain ⟨y9, e10, h⟩ := ap h
    obtain ⟨y11, y12, e13, h⟩ := aK h
    refine Q1 ae dx [[], [], [], [], [], [25], [], [], [4]] [(11, af y12)] [(4, .box 126 [ag y11.Length, .ref 25 1 0 y11.Words.length]), (25, .row 37 false 1 y11.Words.length (bo y11.Words))] 30 (Su [hk (Ic (⟨p4, decide (p1.Salt ≥ 0), x4⟩ : nu) p2 y9 e10), hn, hg [] [] true 1 (q := ((True) ∧ (True) ∧ (True) ∧ (True)) ∧ ((True) ∧ (True) ∧ (True)) ∧ (0 + y5.length ≤ y5.length) ∧ (True)) ⟨⟨tv, tv, tv, tv⟩, ⟨tv, tv, tv⟩, Ax, tv⟩ (a0 := [.agg [ag p1.Length, ag p1.Hashes, ag p1.Salt], .agg (bN y9), vl 1 Rs y5]) (Jo p1 y9 y5 (y11, y12) e13) ⟨aN.refl _, aN.refl _, aN.refl _, tv⟩ (fun _ => ⟨bS qb _ _ _, tv⟩)]) ?_
    refine ret ?_
    obtain rfl := ay h
    exact be (.inr rfl) [(0, 25)] 1 (.tup [.agg [ag y11.Length, .ref 25 1 0 y11.Words.length], af y12])
  ·refine ah ae [(28, vb (decide (p1.Salt ≥ 0)))] 21 ?_
   refine Q2 h ?_ ?_ <;> intro c14 h
   ·obtain ⟨g15, g16, h⟩ := aJ h
    refine QY ae [] [17] [(17, .box 205 [ag p4, cb (decide (p1.Salt ≥ 0)), cs (p3.Values.getD p1.Salt.toNat mt)])] 29 (Sv [hq g15 g16]) ?_
    exact jl (p3.Values.getD p1.Salt.toNat mt) h (ai [(0, 0), (1, 1), (2, 2), (3, 3), (4, 4), (5, 17)])
   ·refine skip ?_
    exact jl mt h (ai [(0, 0), (1, 1), (2, 2), (3, 3), (4, 4), (5, 17)])
def qT (p0 : Int) (p1 : aD) (pc0 : aS) (pc1 : bd) (pc2 : aL) : Option (aR × Int × aS × bd × aL) := aF (gr pc0 p1 pc1 pc2 p0) fun y1 y2 => (some (y1, y2, pc0, pc1, pc2))
theorem Iv (p0 : Int) (p1 : aD) (pc0 : aS) (pc1 : bd) (pc2 : aL) (r : aR × Int × aS × bd × aL) (h : qT p0 p1 pc0 pc1 pc2 = some r) : CT 81 [af p0, .agg [ag p1.Length, ag p1.Hashes, ag p1.Salt], .c (.ptr 0 4 0 0), .c (.ptr 1 2 0 0), .c (.ptr 2 3 0 0)] [(0, .box 33 (bf pc0)), (1, .box 39 (bN pc1)), (2, .box 53 (dE pc2))] (.tup [.agg [ag r.1.Length, .ref 3 1 0 r.1.Words.length], af r.2.1]) [(0, .box 33 (bf r.2.2.1)), (1, .box 39 (bN r.2.2.2.1)), (2, .box 53 (dE r.2.2.2.2)), (3, .row 37 false 1 r.1.Words.length (bo r.1.Words))] := by
 refine aw ae 3 Tryz.func81 rfl (fun _ _ _ => ?_)
 unfold qT at h
 refine QZ ae [(7, pX 4 2), (6, pX 3 3)] [3, 4] [(4, .box 126 [ag 0, ar]), (3, .box 84 [ag p1.Length, ag p1.Hashes, ag p1.Salt])] 6 [] ?_
 obtain ⟨y1, y2, e3, h⟩ := aK h
 refine QZ ae [(8, af y2)] [4, 11] [(4, .box 126 [ag y1.Length, .ref 11 1 0 y1.Words.length]), (11, .row 37 false 1 y1.Words.length (bo y1.Words))] 16 (Sw [hm [] [] 1 (Jp pc0 p1 pc1 pc2 p0 (y1, y2) e3) ⟨bS qb _ _ _, tv⟩]) (ret ?_)
 obtain rfl := ay h
 exact be (.inr rfl) [(0, 0), (1, 1), (2, 2), (3, 11)] 4 (.tup [.agg [ag y1.Length, .ref 11 1 0 y1.Words.length], af y2])
def zf (x : aR) : List T := [.v (.int .i64 x.Length), .tree x.Words.length 1 (bo x.Words)]
def bR (xs : List aR) : Nat → Nat → T := bJ dA zf xs
noncomputable def mN (p0 : List aD) (x12 : List aR) (x13 : Int) (x14 : List aC) (x15 : List ByteArray) (x16 : List aE) (x17 : List aE) (x18 : Int) (x19 : Int) (x20 : Int) (x21 : Int) (x22 : List ByteArray) : Option ((List aR × Int × List aC × List ByteArray × List aE × List aE × Int × Int × Int × Int × List ByteArray) ⊕ ((List aR × List aC × List ByteArray × List aE × List aE × Int × Int × Int × Int × List ByteArray) ⊕ (Int × List aC × List ByteArray × List aE × List aE × Int × Int × Int × Int × List ByteArray))) := if decide (x13 < (p0.length : Int)) then if 0 ≤ x13 then if x13 < (p0.length : Int) then fJ (qT x13 (p0.getD x13.toNat dk) (⟨x14, (⟨x15, x16, x17⟩ : aW)⟩ : aS) (⟨x18, x19⟩ : bd) (⟨x20, x21, x22⟩ : aL)) fun y46 y47 y48 y49 y50 => (if (y47 != 0) then some (.inr (.inr (y47, y48.Fields, y48.Rules.Titles, y48.Rules.Nicknames, y48.Rules.Streets, y49.A, y49.B, y50.ID, y50.Version, y50.Values))) else if x12.length + [y46].length ≤ 1099511627776 then some (.inl ((x12 ++ [y46]), SB (x13 + 1), y48.Fields, y48.Rules.Titles, y48.Rules.Nicknames, y48.Rules.Streets, y49.A, y49.B, y50.ID, y50.Version, y50.Values)) else none) else none else none else some (.inr (.inl (x12, x14, x15, x16, x17, x18, x19, x20, x21, x22)))
noncomputable def xP (x54 : List aR) (x55 : List aC) (x56 : List ByteArray) (x57 : List aE) (x58 : List aE) (x59 : Int) (x60 : Int) (x61 : Int) (x62 : Int) (x63 : List ByteArray) : Option (List aR × Int × aS × bd × aL) := some (x54, 0, (⟨x55, (⟨x56, x57, x58⟩ : aW)⟩ : aS), (⟨x59, x60⟩ : bd), (⟨x61, x62, x63⟩ : aL))
noncomputable def xQ (x64 : Int) (x65 : List aC) (x66 : List ByteArray) (x67 : List aE) (x68 : List aE) (x69 : Int) (x70 : Int) (x71 : Int) (x72 : Int) (x73 : List ByteArray) : Option (List aR × Int × aS × bd × aL) := some (([] : List aR), x64, (⟨x65, (⟨x66, x67, x68⟩ : aW)⟩ : aS), (⟨x69, x70⟩ : bd), (⟨x71, x72, x73⟩ : aL))
noncomputable def uq (p0 : List aD) (p1d0 : aS) (p1d1 : bd) (p1d2 : aL) : Option (List aR × Int × aS × bd × aL) := cD (loop (fun v : List aR × Int × List aC × List ByteArray × List aE × List aE × Int × Int × Int × Int × List ByteArray => mN p0 v.1 v.2.1 v.2.2.1 v.2.2.2.1 v.2.2.2.2.1 v.2.2.2.2.2.1 v.2.2.2.2.2.2.1 v.2.2.2.2.2.2.2.1 v.2.2.2.2.2.2.2.2.1 v.2.2.2.2.2.2.2.2.2.1 v.2.2.2.2.2.2.2.2.2.2) (([] : List aR), 0, p1d0.Fields, p1d0.Rules.Titles, p1d0.Rules.Nicknames, p1d0.Rules.Streets, p1d1.A, p1d1.B, p1d2.ID, p1d2.Version, p1d2.Values)) (fun t => xP t.1 t.2.1 t.2.2.1 t.2.2.2.1 t.2.2.2.2.1 t.2.2.2.2.2.1 t.2.2.2.2.2.2.1 t.2.2.2.2.2.2.2.1 t.2.2.2.2.2.2.2.2.1 t.2.2.2.2.2.2.2.2.2) (fun t => xQ t.1 t.2.1 t.2.2.1 t.2.2.2.1 t.2.2.2.2.1 t.2.2.2.2.2.1 t.2.2.2.2.2.2.1 t.2.2.2.2.2.2.2.1 t.2.2.2.2.2.2.2.2.1 t.2.2.2.2.2.2.2.2.2)
theorem HY (p0 : List aD) (p1d0 : aS) (p1d1 : bd) (p1d2 : aL) (r : (List aR) × Int × aS × bd × aL) (h : uq p0 p1d0 p1d1 p1d2 = some r) : CT 80 [vl 3 cA p0, .clo 81 [] [.c (.ptr 0 4 0 0), .c (.ptr 1 2 0 0), .c (.ptr 2 3 0 0)]] [(0, .box 33 (bf p1d0)), (1, .box 39 (bN p1d1)), (2, .box 53 (dE p1d2))] (.tup [.c (.ref 3 2 0 r.1.length), af r.2.1]) [(0, .box 33 (bf r.2.2.1)), (1, .box 39 (bN r.2.2.2.1)), (2, .box 53 (dE r.2.2.2.2)), (3, .row 126 false 2 r.1.length (bR r.1))] := by
 refine aw ae 3 Tryz.func80 rfl (fun _ _ _ => ?_)
 unfold uq at h
 refine ah ae [] 5 ?_
 refine ah ae [(6, .c (ar))] 6 (seq ?_)
 refine ah ae [(13, af 0), (12, af (p0.length : Int)), (11, vl 3 cA p0)] 9 (block ?_)
 refine Q4 h (fun v => ⟨[(1, .clo 81 [] [.c (.ptr 0 4 0 0), .c (.ptr 1 2 0 0), .c (.ptr 2 3 0 0)]), (6, rX 3 2 v.1.length), (11, vl 3 cA p0), (12, af (p0.length : Int)), (13, af v.2.1)], [(0, .box 33 [cl 2 cZ v.2.2.1, cl 1 Rs v.2.2.2.1, cl 2 bA v.2.2.2.2.1, cl 2 bA v.2.2.2.2.2.1]), (1, .box 39 [aH v.2.2.2.2.2.2.1, aH v.2.2.2.2.2.2.2.1]), (2, .box 53 [ag v.2.2.2.2.2.2.2.2.1, ag v.2.2.2.2.2.2.2.2.2.1, cl 1 Rs v.2.2.2.2.2.2.2.2.2.2]), (3, .row 126 false 2 v.1.length (bR v.1))], 4⟩) (fun t => (.exit 0, ⟨[(6, rX 3 2 t.1.length)], [(0, .box 33 [cl 2 cZ t.2.1, cl 1 Rs t.2.2.1, cl 2 bA t.2.2.2.1, cl 2 bA t.2.2.2.2.1]), (1, .box 39 [aH t.2.2.2.2.2.1, aH t.2.2.2.2.2.2.1]), (2, .box 53 [ag t.2.2.2.2.2.2.2.1, ag t.2.2.2.2.2.2.2.2.1, cl 1 Rs t.2.2.2.2.2.2.2.2.2]), (3, .row 126 false 2 t.1.length (bR t.1))], 4⟩)) (fun t => (.ret, ⟨[(4, .c (ar)), (5, af t.1)], [(0, .box 33 [cl 2 cZ t.2.1, cl 1 Rs t.2.2.1, cl 2 bA t.2.2.2.1, cl 2 bA t.2.2.2.2.1]), (1, .box 39 [aH t.2.2.2.2.2.1, aH t.2.2.2.2.2.2.1]), (2, .box 53 [ag t.2.2.2.2.2.2.2.1, ag t.2.2.2.2.2.2.2.2.1, cl 1 Rs t.2.2.2.2.2.2.2.2.2])], 3⟩)) (Conv.trans (cG (t := 6) (ty := 126) (sz := 2) (n := ([] : List aR).length) (f := bR ([] : List aR)) (by kernel_rfl) rfl) (ai [(0, 0), (1, 1), (2, 2), (3, 9)])) (fun _ => tv) (fun _ => tv) ?_ (fun t h => ?_) (fun t h => ?_)
 ·clear h
  intro v o h
  obtain ⟨x12, x13, x14, x15, x16, x17, x18, x19, x20, x21, x22⟩ := v
  replace h : mN p0 x12 x13 x14 x15 x16 x17 x18 x19 x20 x21 x22 = some o := h
  unfold mN at h
  refine ah ae [(14, vb (decide (x13 < (p0.length : Int))))] 5 (seq ?_)
  refine Q2 h ?_ ?_ <;> intro c43 h
  ·refine skip (QX ?_)
   refine seq (block ?_)
   obtain ⟨g44, g45, h⟩ := aJ h
   refine QZ ae [(7, af x13), (8, pX 8 3)] [8] [(8, .box 84 [ag ((p0.getD x13.toNat dk).Length), ag ((p0.getD x13.toNat dk).Hashes), ag ((p0.getD x13.toNat dk).Salt)])] 11 [hn, hq g44 g45] ?_
   obtain ⟨y46, y47, y48, y49, y50, e51, h⟩ := gZ h
   refine QZ ae [(10, af y47), (9, pX 18 2)] [0, 1, 2, 14, 18] [(18, .box 126 [ag y46.Length, .ref 14 1 0 y46.Words.length]), (0, .box 33 (bf y48)), (1, .box 39 (bN y49)), (2, .box 53 (dE y50)), (14, .row 37 false 1 y46.Words.length (bo y46.Words))] 21 (Su [hl [0, 1, 2] [] 1 (Iv x13 (p0.getD x13.toNat dk) (⟨x14, (⟨x15, x16, x17⟩ : aW)⟩ : aS) (⟨x18, x19⟩ : bd) (⟨x20, x21, x22⟩ : aL) (y46, y47, y48, y49, y50) e51)]) (seq ?_)
   refine ah ae [(26, vb (y47 != 0))] 23 ?_
   refine Q2 h ?_ ?_ <;> intro c52 h
   ·refine ah ae [(5, af y47), (4, .c (ar))] 26 (ret (QW ?_))
    refine QT (QW ?_)
    exact aX h rfl (ai [(0, 0), (1, 1), (2, 2)])
   ·refine skip (QX ?_)
    refine AW.pre (Conv.trans (qf 14 37 1 y46.Words.length (bo y46.Words) (by kernel_rfl)) (fV (id := 18) (ty := 126) (cs := [ag y46.Length, .ref 14 1 0 y46.Words.length]) (ds := [ag y46.Length, cl 1 bo y46.Words]) (by kernel_rfl) ⟨bv.refl _ _, bv.ref (ty := 37) (f := bo y46.Words) (by kernel_rfl) Ax, tv⟩)) ?_
    obtain ⟨g53, h⟩ := aY h
    refine QY ae [(6, .c (.ref 26 2 0 ((x12 ++ [y46]).length)))] [3, 25, 26] [(26, .row 126 false 2 (x12 ++ [y46]).length (bR (x12 ++ [y46])))] 28 (Ss [bB dA zf 2 (fun _ => rfl) [y46], cP dA zf 2 32 x12 [y46] g53 (by decide)]) ?_
    refine QU (QX ?_)
    refine ba ae [(13, af (SB (x13 + 1)))] 30 ?_
    exact bh h (ai [(0, 0), (1, 1), (2, 2), (3, 26)])
  ·refine exit (QR ?_)
   exact aX h rfl (ai [(0, 0), (1, 1), (2, 2), (3, 3)])
 ·obtain ⟨x54, x55, x56, x57, x58, x59, x60, x61, x62, x63⟩ := t
  replace h : xP x54 x55 x56 x57 x58 x59 x60 x61 x62 x63 = some r := h
  unfold xP at h
  show (_ : XQ) (.exit 0) _
  refine QO (QX ?_)
  refine ah ae [(5, af 0), (4, rX 3 2 x54.length)] 7 (ret ?_)
  obtain rfl := ay h
  exact be (.inr rfl) [(0, 0), (1, 1), (2, 2), (3, 3)] 4 (.tup [.c (.ref 3 2 0 x54.length), af 0])
 ·obtain ⟨x64, x65, x66, x67, x68, x69, x70, x71, x72, x73⟩ := t
  replace h : xQ x64 x65 x66 x67 x68 x69 x70 x71 x72 x73 = some r := h
  unfold xQ at h
  show (_ : XQ) (.ret) _
  refine QT (QW ?_)
  obtain rfl := ay h
  exact b6 (.inr rfl) [(0, 0), (1, 1), (2, 2), (3, 3)] 4 (.tup [.c (.ref 3 2 0 (([] : List aR).length)), af x64]) (cG (t := 4) (ty := 126) (sz := 2) (n := ([] : List aR).length) (f := bR ([] : List aR)) (by kernel_rfl) rfl)
structure aB where
 ID : Int
 Version : Int
 Fields : List aR
def bu : aB := ⟨0, 0, ([] : List aR)⟩
instance : Inhabited aB := ⟨bu⟩
def oc (p0 : aS) (p1 : List aD) (p2 : bd) (p3 : aL) : Option (aB × Int) := fJ (uq p1 p0 p2 p3) fun y1 y2 y3 y4 y5 => (if (y2 != 0) then some ((⟨0, 0, ([] : List aR)⟩ : aB), y2) else some ((⟨y5.ID, y5.Version, y1⟩ : aB), 0))
theorem CJ (p0 : aS) (p1 : List aD) (p2 : bd) (p3 : aL) (r : aB × Int) (h : oc p0 p1 p2 p3 = some r) : CT 40 [.agg (bf p0), vl 3 cA p1, .agg (bN p2), .agg (dE p3)] [] (.tup [.agg [ag r.1.ID, ag r.1.Version, .ref 0 2 0 r.1.Fields.length], af r.2]) [(0, .row 126 false 2 r.1.Fields.length (bR r.1.Fields))] := by
 refine aw ae 0 Tryz.func40 rfl (fun _ _ _ => ?_)
 unfold oc at h
 refine QZ ae [(8, pX 3 3), (7, pX 2 3), (6, pX 1 2), (4, pX 0 4)] [0, 1, 2, 3] [(3, .box 70 [ag 0, ag 0, ar]), (2, .box 53 (dE p3)), (1, .box 39 (bN p2)), (0, .box 33 (bf p0))] 5 [] ?_
 obtain ⟨y1, y2, y3, y4, y5, e6, h⟩ := gZ h
 refine QZ ae [(11, af y2), (10, rX 7 2 y1.length)] [0, 1, 2, 7] [(2, .box 53 (dE y5)), (7, .row 126 false 2 y1.length (bR y1))] 13 (Ss [hl [0, 1, 2] [] 1 (HY p1 p0 p2 p3 (y1, y2, y3, y4, y5) e6)]) (seq ?_)
 refine ah ae [(19, vb (y2 != 0))] 15 ?_
 refine Q2 h ?_ ?_ <;> intro c7 h
 ·refine QZ ae [(9, af y2)] [3] [(3, .box 70 [ag 0, ag 0, ar])] 19 [] (ret (QW ?_))
  obtain rfl := ay h
  exact b6 (.inr rfl) [(0, 19)] 1 (.tup [.agg [ag 0, ag 0, .ref 19 2 0 (([] : List aR).length)], af y2]) (dr (id := 3) (ty0 := 70) (cs := [ag 0, ag 0, ar]) 2 (ty := 126) (sz := 2) (n := ([] : List aR).length) (f := bR ([] : List aR)) (by kernel_rfl) (by kernel_rfl) rfl)
 ·refine skip (QX ?_)
  refine QZ ae [(9, af 0)] [3] [(3, .box 70 [ag y5.ID, ag y5.Version, .ref 7 2 0 y1.length])] 23 [] (ret ?_)
  obtain rfl := ay h
  exact be (.inr rfl) [(0, 7)] 1 (.tup [.agg [ag y5.ID, ag y5.Version, .ref 7 2 0 y1.length], af 0])
def gq (p0 : aS) (p1 : List aD) (p2 : bd) (p3 : aL) : Option (aB × Int) := (oC p0 p1).bind fun y1 => (if (y1 != 0) then some ((⟨0, 0, ([] : List aR)⟩ : aB), y1) else (sq p0 p3).bind fun y4 => (if (y4 != 0) then some ((⟨0, 0, ([] : List aR)⟩ : aB), y4) else aF (oc p0 p1 p2 p3) fun y7 y8 => (some (y7, y8))))
theorem CW (p0 : aS) (p1 : List aD) (p2 : bd) (p3 : aL) (r : aB × Int) (h : gq p0 p1 p2 p3 = some r) : CT 21 [.agg (bf p0), vl 3 cA p1, .agg (bN p2), .agg (dE p3)] [] (.tup [.agg [ag r.1.ID, ag r.1.Version, .ref 0 2 0 r.1.Fields.length], af r.2]) [(0, .row 126 false 2 r.1.Fields.length (bR r.1.Fields))] := by
 refine aw ae 0 Tryz.func21 rfl (fun _ _ _ => ?_)
 unfold gq at h
 refine QZ ae [(8, pX 3 3), (7, pX 2 3), (6, pX 1 2), (4, pX 0 4)] [0, 1, 2, 3] [(3, .box 70 [ag 0, ag 0, ar]), (2, .box 53 (dE p3)), (1, .box 39 (bN p2)), (0, .box 33 (bf p0))] 5 [] (seq ?_)
 obtain ⟨y1, e2, h⟩ := ap h
 refine aA ae [(10, af y1)] 8 (Ss [hk (C8 p0 p1 y1 e2)]) ?_
 refine ah ae [(16, vb (y1 != 0))] 10 ?_
 refine Q2 h ?_ ?_ <;> intro c3 h
 ·refine QZ ae [(9, af y1)] [3] [(3, .box 70 [ag 0, ag 0, ar])] 14 [] (ret (QW ?_))
  obtain rfl := ay h
  exact b6 (.inr rfl) [(0, 14)] 1 (.tup [.agg [ag 0, ag 0, .ref 14 2 0 (([] : List aR).length)], af y1]) (dr (id := 3) (ty0 := 70) (cs := [ag 0, ag 0, ar]) 2 (ty := 126) (sz := 2) (n := ([] : List aR).length) (f := bR ([] : List aR)) (by kernel_rfl) (by kernel_rfl) rfl)
 ·refine skip (QX (seq ?_))
  obtain ⟨y4, e5, h⟩ := ap h
  refine aA ae [(11, af y4)] 13 (Ss [hk (Jl p0 p3 y4 e5)]) ?_
  refine ah ae [(23, vb (y4 != 0))] 15 ?_
  refine Q2 h ?_ ?_ <;> intro c6 h
  ·refine QZ ae [(9, af y4)] [3] [(3, .box 70 [ag 0, ag 0, ar])] 19 [] (ret (QW ?_))
   obtain rfl := ay h
   exact b6 (.inr rfl) [(0, 19)] 1 (.tup [.agg [ag 0, ag 0, .ref 19 2 0 (([] : List aR).length)], af y4]) (dr (id := 3) (ty0 := 70) (cs := [ag 0, ag 0, ar]) 2 (ty := 126) (sz := 2) (n := ([] : List aR).length) (f := bR ([] : List aR)) (by kernel_rfl) (by kernel_rfl) rfl)
  ·refine skip (QX ?_)
   obtain ⟨y7, y8, e9, h⟩ := aK h
   refine QZ ae [(9, af y8)] [3, 19] [(3, .box 70 [ag y7.ID, ag y7.Version, .ref 19 2 0 y7.Fields.length]), (19, .row 126 false 2 y7.Fields.length (bR y7.Fields))] 24 (Sv [hl [] [] 1 (CJ p0 p1 p2 p3 (y7, y8) e9)]) (ret ?_)
   obtain rfl := ay h
   exact be (.inr rfl) [(0, 19)] 1 (.tup [.agg [ag y7.ID, ag y7.Version, .ref 19 2 0 y7.Fields.length], af y8])
def lj (x1 : Bool) : Option Bool := some x1
def fO (p0 : Int) : Option Bool := if decide (p0 ≥ 1) then lj (decide (p0 ≤ 5)) else lj false
theorem uA (p0 : Int) (r : Bool) (h : fO p0 = some r) : CT 55 [af p0] [] (vb r) [] := by
 refine aw ae 0 Tryz.func55 rfl (fun _ _ _ => ?_)
 unfold fO at h
 refine ah ae [] 1 (seq ?_)
 refine AW.join (ι := Bool) (fun v => ⟨[(2, vb v)], [], 0⟩) (fun v : Bool => lj v = some r) (fun x1 h => ?_) ?_
 ·unfold lj at h
  refine QX (ret ?_)
  apply au h (vb x1)
 ·rcases aI h with ⟨c2, h⟩ | ⟨c2, h⟩
  ·refine ax ae [(2, vb (decide (p0 ≤ 5)))] 8 [hn, ht c2] ?_
   exact jl (decide (p0 ≤ 5)) h
  ·refine ax ae [(2, vb false)] 8 [hn, hf c2] ?_
   exact jl false h
def nI (x1 : Bool) : Option Bool := some x1
def gX (p0 : aR) : Option Bool := (gW p0.Length).bind fun y2 => (if y2 then nI ((p0.Words.length : Int) == (SB (p0.Length.tdiv 64))) else nI false)
theorem lC (p0 : aR) (r : Bool) (h : gX p0 = some r) : CT 129 [.agg [ag p0.Length, cl 1 bo p0.Words]] [] (vb r) [] := by
 refine aw ae 0 Tryz.func129 rfl (fun _ _ _ => ?_)
 unfold gX at h
 refine QZ ae [(1, pX 0 2)] [0] [(0, .box 126 [ag p0.Length, cl 1 bo p0.Words])] 2 [] (seq ?_)
 refine AW.join (ι := Bool) (fun v => ⟨[(2, vb v)], [], 0⟩) (fun v : Bool => nI v = some r) (fun x1 h => ?_) ?_
 ·unfold nI at h
  refine QX (ret ?_)
  apply au h (vb x1)
 ·obtain ⟨y2, e3, h⟩ := ap h
  rcases aI h with ⟨c4, hs⟩ | ⟨c4, hs⟩
  ·clear h; subst c4; have h := hs; clear hs
   refine ax ae [(2, vb ((p0.Words.length : Int) == (SB (p0.Length.tdiv 64))))] 14 (Ss [hk (yo p0.Length true e3), hn, hn, hn, hn, hn, hn, ho (p := (64 : Int) ≠ 0) (by decide)]) ?_
   exact jl ((p0.Words.length : Int) == (SB (p0.Length.tdiv 64))) h (ai [])
  ·clear h; subst c4; have h := hs; clear hs
   refine ax ae [(2, vb false)] 14 (Ss [hk (yo p0.Length false e3)]) ?_
   exact jl false h
def vt (p0 : Int) (p1 : Int) : Option Int := some (cn .u64 p0 p1)
theorem I7 (p0 : Int) (p1 : Int) (r : Int) (h : vt p0 p1 = some r) : CT 138 [a6 p0, a6 p1] [] (a6 r) [] := by
 refine aw ae 0 Tryz.func138 rfl (fun _ _ _ => ?_)
 unfold vt at h
 refine ah ae [] 1 ?_
 refine ah ae [(4, a6 (cn .u64 p0 p1))] 5 (ret ?_)
 apply au h (a6 (cn .u64 p0 p1))
def mR (p0 : aR) (p1 : aR) (x7 : Int) (x8 : List Int) : Option ((Int × List Int) ⊕ List Int) := if decide (x7 < (p0.Words.length : Int)) then if 0 ≤ x7 then if x7 < (p0.Words.length : Int) then if x7 < (p1.Words.length : Int) then (vt (p0.Words.getD x7.toNat 0) (p1.Words.getD x7.toNat 0)).bind fun y14 => (if x7 < (x8.length : Int) then some (.inl (SB (x7 + 1), (x8.set (0 + x7.toNat) y14))) else none) else none else none else none else some (.inr x8)
def kR (p0 : aR) (p1 : aR) (x1 : Bool) : Option (aR × Int) := if x1 then some ((⟨0, ([] : List Int)⟩ : aR), 8) else if 0 ≤ (p0.Words.length : Int) then if (p0.Words.length : Int) ≤ 1099511627776 then (loop (fun v : Int × List Int => mR p0 p1 v.1 v.2) (0, (List.replicate ((p0.Words.length : Int).toNat) (0 : Int)))).bind fun x17 => (some ((⟨p0.Length, x17⟩ : aR), 0)) else none else none
def qw (p0 : aR) (p1 : aR) : Option (aR × Int) := (gX p0).bind fun y19 => (if (!y19) then kR p0 p1 true else (gX p1).bind fun y22 => (if (!y22) then kR p0 p1 true else kR p0 p1 (p0.Length != p1.Length)))
theorem H8 (p0 : aR) (p1 : aR) (r : aR × Int) (h : qw p0 p1 = some r) : CT 137 [.agg [ag p0.Length, cl 1 bo p0.Words], .agg [ag p1.Length, cl 1 bo p1.Words], .c (.t (.v (.func (.func 138) #[] #[])))] [] (.tup [.agg [ag r.1.Length, .ref 0 1 0 r.1.Words.length], af r.2]) [(0, .row 37 false 1 r.1.Words.length (bo r.1.Words))] := by
 refine aw ae 0 Tryz.func137 rfl (fun _ _ _ => ?_)
 unfold qw at h
 refine QZ ae [(6, pX 2 2), (4, pX 1 2), (3, pX 0 2)] [0, 1, 2] [(2, .box 126 [ag 0, ar]), (1, .box 126 [ag p1.Length, cl 1 bo p1.Words]), (0, .box 126 [ag p0.Length, cl 1 bo p0.Words])] 4 [] (seq (seq ?_))
 refine AW.join (ι := Bool) (fun v => ⟨[(2, .c (.t (.v (.func (.func 138) #[] #[])))), (3, pX 0 2), (4, pX 1 2), (6, pX 2 2), (25, vb v)], [(0, .box 126 [ag p0.Length, cl 1 bo p0.Words]), (1, .box 126 [ag p1.Length, cl 1 bo p1.Words]), (2, .box 126 [ag 0, ar])], 3⟩) (fun v : Bool => kR p0 p1 v = some r) (fun x1 h => ?_) ?_
 ·unfold kR at h
  refine QX ?_
  refine Q2 h ?_ ?_ <;> intro c2 h
  ·refine QZ ae [(7, af 8)] [2] [(2, .box 126 [ag 0, ar])] 6 [] (ret (QW ?_))
   obtain rfl := ay h
   exact b6 (.inr rfl) [(0, 6)] 1 (.tup [.agg [ag 0, .ref 6 1 0 (([] : List Int).length)], af 8]) (dr (id := 2) (ty0 := 126) (cs := [ag 0, ar]) 1 (ty := 37) (sz := 1) (n := ([] : List Int).length) (f := bo ([] : List Int)) (by kernel_rfl) (by kernel_rfl) rfl)
  ·refine skip (QX ?_)
   obtain ⟨g3, g4, h⟩ := aJ h
   refine Q1 ae dx [[], [], [], [], [], [8], [], [10], [10]] [(8, pX 10 2)] [(10, .box 126 [ag p0.Length, .ref 8 1 0 ((List.replicate ((p0.Words.length : Int).toNat) (0 : Int)).length)]), (8, .row 37 false 1 (List.replicate ((p0.Words.length : Int).toNat) (0 : Int)).length (bo (List.replicate ((p0.Words.length : Int).toNat) (0 : Int))))] 12 (Sw [gM 0 qa 1 8 [.int .u64 0] rfl rfl (p0.Words.length : Int) (p0.Words.length : Int) g3 (Int.le_refl _) g4 (by decide)]) ?_
   refine seq ?_
   refine ah ae [(37, af 0), (36, af (p0.Words.length : Int)), (35, vl 1 bo p0.Words)] 16 (block ?_)
   obtain ⟨x17, l18, h⟩ := ap h
   refine Q3 l18 (fun v => ⟨[(2, .c (.t (.v (.func (.func 138) #[] #[])))), (4, pX 0 2), (6, pX 1 2), (8, pX 2 2), (35, vl 1 bo p0.Words), (36, af (p0.Words.length : Int)), (37, af v.1)], [(0, .box 126 [ag p1.Length, cl 1 bo p1.Words]), (1, .box 126 [ag 0, ar]), (2, .box 126 [ag p0.Length, .ref 3 1 0 v.2.length]), (3, .row 37 false 1 v.2.length (bo v.2))], 4⟩) (fun t : List Int => (.exit 0, ⟨[(6, pX 0 2), (8, pX 1 2)], [(0, .box 126 [ag 0, ar]), (1, .box 126 [ag p0.Length, .ref 2 1 0 t.length]), (2, .row 37 false 1 t.length (bo t))], 3⟩)) (ai [(0, 1), (1, 2), (2, 10), (3, 8)]) (fun _ => tv) ?_ ?_
   ·clear l18 h
    intro v o h
    obtain ⟨x7, x8⟩ := v
    replace h : mR p0 p1 x7 x8 = some o := h
    unfold mR at h
    refine ah ae [(38, vb (decide (x7 < (p0.Words.length : Int))))] 5 (seq ?_)
    refine Q2 h ?_ ?_ <;> intro c10 h
    ·refine skip (QX ?_)
     refine seq (block ?_)
     obtain ⟨g11, g12, h⟩ := aJ h
     refine aA ae [(10, a6 (p0.Words.getD x7.toNat 0)), (9, af x7)] 10 [hn, hq g11 g12] ?_
     obtain ⟨g13, h⟩ := aY h
     obtain ⟨y14, e15, h⟩ := ap h
     obtain ⟨g16, h⟩ := aY h
     refine Q0 ae dx [[], [], [], [], [], [], [], [], [], [], [], [], [3]] [] [(3, .row 37 false 1 x8.length (bo (x8.set (0 + x7.toNat) y14)))] 22 (Sz [hq g11 g13, hn, hk (I7 (p0.Words.getD x7.toNat 0) (p1.Words.getD x7.toNat 0) y14 e15), hq g11 g16, hset 0 qa x8 (0 + x7.toNat) y14 (n := x8.length) (by have h1 : 0 ≤ x7 := g11; have h2 : x7 < (x8.length : Int) := g16; omega) rfl]) ?_
     refine QU (QX ?_)
     refine ba ae [(37, af (SB (x7 + 1)))] 24 ?_
     exact bh h (Conv.trans (ai (S' := ⟨[(37, af (SB (x7 + 1))), (2, .c (.t (.v (.func (.func 138) #[] #[])))), (4, pX 0 2), (6, pX 1 2), (8, pX 2 2), (35, vl 1 bo p0.Words), (36, af (p0.Words.length : Int))], [(3, .row 37 false 1 x8.length (bo (x8.set (0 + x7.toNat) y14))), (0, .box 126 [ag p1.Length, cl 1 bo p1.Words]), (1, .box 126 [ag 0, ar]), (2, .box 126 [ag p0.Length, .ref 3 1 0 x8.length])], 24⟩) [(3, 3), (0, 0), (1, 1), (2, 2)] (by kernel_rfl)) (Conv.trans (tc (S' := ⟨[(37, af (SB (x7 + 1))), (2, .c (.t (.v (.func (.func 138) #[] #[])))), (4, pX 0 2), (6, pX 1 2), (8, pX 2 2), (35, vl 1 bo p0.Words), (36, af (p0.Words.length : Int))], [(3, .row 37 false 1 (x8.set (0 + x7.toNat) y14).length (bo (x8.set (0 + x7.toNat) y14))), (0, .box 126 [ag p1.Length, cl 1 bo p1.Words]), (1, .box 126 [ag 0, ar]), (2, .box 126 [ag p0.Length, .ref 3 1 0 ((x8.set (0 + x7.toNat) y14).length)])], 24⟩) (by simp only [R7])) (ai [(0, 0), (1, 1), (2, 2), (3, 3)])))
    ·refine exit (QR ?_)
     exact aX h rfl (ai [(0, 1), (1, 2), (2, 3)])
   ·show (_ : XQ) (.exit 0) _
    refine QO (QX ?_)
    refine QZ ae [(7, af 0)] [0] [(0, .box 126 [ag p0.Length, .ref 2 1 0 x17.length])] 6 [] (ret ?_)
    obtain rfl := ay h
    exact be (.inr rfl) [(0, 2)] 1 (.tup [.agg [ag p0.Length, .ref 2 1 0 x17.length], af 0])
 ·obtain ⟨y19, e20, h⟩ := ap h
  rcases aI h with ⟨c21, h⟩ | ⟨c21, h⟩
  ·refine ax ae [(25, vb true)] 18 [hn, hk (lC p0 y19 e20), ht c21] ?_
   exact jl true h (ai [(0, 0), (1, 1), (2, 2)])
  ·obtain ⟨y22, e23, h⟩ := ap h
   rcases aI h with ⟨c24, h⟩ | ⟨c24, h⟩
   ·refine ax ae [(25, vb true)] 17 [hn, hk (lC p0 y19 e20), hf c21, hn, hn, hk (lC p1 y22 e23), ht c24] ?_
    exact jl true h (ai [(0, 0), (1, 1), (2, 2)])
   ·refine ax ae [(25, vb (p0.Length != p1.Length))] 17 [hn, hk (lC p0 y19 e20), hf c21, hn, hn, hk (lC p1 y22 e23), hf c24] ?_
    exact jl (p0.Length != p1.Length) h (ai [(0, 0), (1, 1), (2, 2)])
def l9 (p0 : aR) (p1 : aR) : Option (aR × Int) := aF (qw p0 p1) fun y1 y2 => (some (y1, y2))
theorem JQ (p0 : aR) (p1 : aR) (r : aR × Int) (h : l9 p0 p1 = some r) : CT 100 [.agg [ag p0.Length, cl 1 bo p0.Words], .agg [ag p1.Length, cl 1 bo p1.Words]] [] (.tup [.agg [ag r.1.Length, .ref 0 1 0 r.1.Words.length], af r.2]) [(0, .row 37 false 1 r.1.Words.length (bo r.1.Words))] := by
 refine aw ae 0 Tryz.func100 rfl (fun _ _ _ => ?_)
 unfold l9 at h
 refine QZ ae [(4, pX 2 2), (3, pX 1 2), (2, pX 0 2)] [0, 1, 2] [(2, .box 126 [ag 0, ar]), (1, .box 126 [ag p1.Length, cl 1 bo p1.Words]), (0, .box 126 [ag p0.Length, cl 1 bo p0.Words])] 4 [] ?_
 obtain ⟨y1, y2, e3, h⟩ := aK h
 refine QZ ae [(5, af y2)] [2, 6] [(2, .box 126 [ag y1.Length, .ref 6 1 0 y1.Words.length]), (6, .row 37 false 1 y1.Words.length (bo y1.Words))] 11 (Ss [hm [] [] 1 (H8 p0 p1 (y1, y2) e3) ⟨bS qb _ _ _, tv⟩]) (ret ?_)
 obtain rfl := ay h
 exact be (.inr rfl) [(0, 6)] 1 (.tup [.agg [ag y1.Length, .ref 6 1 0 y1.Words.length], af y2])
def nw (p0 : Int) : Option Int := (some (u64.wrap ((cn .u64 (a7 .u64 p0 1) 6148914691236517205) + (cn .u64 p0 6148914691236517205)))).bind fun z1 => ((some (u64.wrap ((cn .u64 (a7 .u64 z1 2) 3689348814741910323) + (cn .u64 z1 3689348814741910323)))).bind fun z3 => ((some (cn .u64 (u64.wrap ((a7 .u64 z3 4) + z3)) 1085102592571150095)).bind fun z5 => ((some (u64.wrap ((u64.wrap (z5 + (a7 .u64 z5 8))) + (a7 .u64 (u64.wrap (z5 + (a7 .u64 z5 8))) 16)))).bind fun z7 => ((some (cn .i64 (SB (u64.wrap (z7 + (a7 .u64 z7 32)))) 127)).bind fun z9 => (some z9)))))
theorem IB (p0 : Int) (r : Int) (h : nw p0 = some r) : CT 139 [a6 p0] [] (af r) [] := by
 refine aw ae 0 Tryz.func139 rfl (fun _ _ _ => ?_)
 unfold nw at h
 refine ah ae [] 1 ?_
 obtain ⟨z1, n2, h⟩ := ap h
 replace n2 := ay n2
 refine aA ae [(0, a6 z1)] 8 [hn, ho (p := 0 ≤ (1 : Int)) (by decide)] ?_ (by subst n2; kernel_rfl)
 obtain ⟨z3, n4, h⟩ := ap h
 replace n4 := ay n4
 refine aA ae [(0, a6 z3)] 15 [hn, ho (p := 0 ≤ (2 : Int)) (by decide)] ?_ (by subst n4; kernel_rfl)
 obtain ⟨z5, n6, h⟩ := ap h
 replace n6 := ay n6
 refine aA ae [(0, a6 z5)] 21 [hn, ho (p := 0 ≤ (4 : Int)) (by decide)] ?_ (by subst n6; kernel_rfl)
 refine aA ae [(0, a6 (u64.wrap (z5 + (a7 .u64 z5 8))))] 26 (Ss [ho (p := 0 ≤ (8 : Int)) (by decide)]) ?_
 obtain ⟨z7, n8, h⟩ := ap h
 replace n8 := ay n8
 refine aA ae [(0, a6 z7)] 31 (Ss [ho (p := 0 ≤ (16 : Int)) (by decide)]) ?_ (by subst n8; kernel_rfl)
 refine aA ae [(0, a6 (u64.wrap (z7 + (a7 .u64 z7 32))))] 36 (Ss [ho (p := 0 ≤ (32 : Int)) (by decide)]) ?_
 obtain ⟨z9, n10, h⟩ := ap h
 replace n10 := ay n10
 refine ah ae [(2, af z9)] 40 ?_ (by subst n10; kernel_rfl)
 refine ret ?_
 apply au h (af z9)
def nJ (p0 : aR) (x6 : Int) (x7 : Int) : Option ((Int × Int) ⊕ Int) := if decide (x7 < (p0.Words.length : Int)) then if 0 ≤ x7 then if x7 < (p0.Words.length : Int) then (nw (p0.Words.getD x7.toNat 0)).bind fun y12 => (some (.inl (SB (x6 + y12), SB (x7 + 1)))) else none else none else some (.inr x6)
def iS (p0 : aR) : Option Int := (gX p0).bind fun y1 => (if (!y1) then some 0 else (loop (fun v : Int × Int => nJ p0 v.1 v.2) (0, 0)).bind fun x14 => (some x14))
theorem yq (p0 : aR) (r : Int) (h : iS p0 = some r) : CT 101 [.agg [ag p0.Length, cl 1 bo p0.Words]] [] (af r) [] := by
 refine aw ae 0 Tryz.func101 rfl (fun _ _ _ => ?_)
 unfold iS at h
 refine QZ ae [(1, pX 0 2)] [0] [(0, .box 126 [ag p0.Length, cl 1 bo p0.Words])] 2 [] (seq ?_)
 obtain ⟨y1, e2, h⟩ := ap h
 refine aA ae [(8, vb (!y1))] 4 [hn, hk (lC p0 y1 e2)] ?_
 refine Q2 h ?_ ?_ <;> intro c3 h
 ·refine ah ae [(2, af 0)] 5 (ret (QW ?_))
  apply au h (af 0)
 ·refine skip (QX ?_)
  refine ah ae [(3, af 0)] 5 (seq ?_)
  refine ah ae [(12, af 0), (11, af (p0.Words.length : Int)), (10, vl 1 bo p0.Words)] 9 (block ?_)
  obtain ⟨x14, l15, h⟩ := ap h
  refine Q3 l15 (fun v => ⟨[(3, af v.1), (10, vl 1 bo p0.Words), (11, af (p0.Words.length : Int)), (12, af v.2)], [], 0⟩) (fun t : Int => (.exit 0, ⟨[(3, af t)], [], 0⟩)) (ai []) (fun _ => tv) ?_ ?_
  ·clear l15 h
   intro v o h
   obtain ⟨x6, x7⟩ := v
   replace h : nJ p0 x6 x7 = some o := h
   unfold nJ at h
   refine ah ae [(13, vb (decide (x7 < (p0.Words.length : Int))))] 1 (seq ?_)
   refine Q2 h ?_ ?_ <;> intro c9 h
   ·refine skip (QX ?_)
    refine seq (block ?_)
    obtain ⟨g10, g11, h⟩ := aJ h
    refine aA ae [(5, a6 (p0.Words.getD x7.toNat 0))] 4 [hq g10 g11] ?_
    obtain ⟨y12, e13, h⟩ := ap h
    refine ax ae [(3, af (SB (x6 + y12)))] 8 (Ss [hk (IB (p0.Words.getD x7.toNat 0) y12 e13)]) ?_
    refine QU (QX ?_)
    refine ba ae [(12, af (SB (x7 + 1)))] 10 ?_
    exact bh h (ai [])
   ·refine exit (QR ?_)
    exact aX h rfl (ai [])
  ·show (_ : XQ) (.exit 0) _
   refine QO (QX ?_)
   refine ah ae [(2, af x14)] 2 (ret ?_)
   apply au h (af x14)
def iN (p0 : aR) (p1 : aR) : Option Int := aF (l9 p0 p1) fun y1 y2 => (if (y2 != 0) then some (-1) else (iS p0).bind fun y5 => ((iS p1).bind fun y7 => (if ((SB (y5 + y7)) == 0) then some 0 else (iS y1).bind fun y10 => (if (SB (2 * (SB (y5 + y7)))) ≠ 0 then (some (SB ((SB ((SB (4000 * y10)) + (SB (y5 + y7)))).tdiv (SB (2 * (SB (y5 + y7))))))).bind fun z13 => (some z13) else none))))
theorem IN (p0 : aR) (p1 : aR) (r : Int) (h : iN p0 p1 = some r) : CT 56 [.agg [ag p0.Length, cl 1 bo p0.Words], .agg [ag p1.Length, cl 1 bo p1.Words]] [] (af r) [] := by
 refine aw ae 0 Tryz.func56 rfl (fun _ _ _ => ?_)
 unfold iN at h
 refine QZ ae [(3, pX 1 2), (2, pX 0 2)] [0, 1] [(1, .box 126 [ag p1.Length, cl 1 bo p1.Words]), (0, .box 126 [ag p0.Length, cl 1 bo p0.Words])] 3 [] ?_
 obtain ⟨y1, y2, e3, h⟩ := aK h
 refine QZ ae [(6, af y2), (5, pX 9 2)] [5, 9] [(9, .box 126 [ag y1.Length, .ref 5 1 0 y1.Words.length]), (5, .row 37 false 1 y1.Words.length (bo y1.Words))] 12 (Ss [hm [] [] 1 (JQ p0 p1 (y1, y2) e3) ⟨bS qb _ _ _, tv⟩]) (seq ?_)
 refine ah ae [(15, vb (y2 != 0))] 14 ?_
 refine Q2 h ?_ ?_ <;> intro c4 h
 ·refine ah ae [(4, af (-1))] 15 (ret (QW ?_))
  apply au h (af (-1))
 ·refine skip (QX ?_)
  obtain ⟨y5, e6, h⟩ := ap h
  obtain ⟨y7, e8, h⟩ := ap h
  refine Q1 ae dx [] [(7, af (SB (y5 + y7)))] [] 18 [hn, hk (yq p0 y5 e6), hn, hk (yq p1 y7 e8)] ?_
  refine seq ?_
  refine ah ae [(22, vb ((SB (y5 + y7)) == 0))] 20 ?_
  refine Q2 h ?_ ?_ <;> intro c9 h
  ·refine ah ae [(4, af 0)] 21 (ret (QW ?_))
   apply au h (af 0)
  ·refine skip (QX ?_)
   obtain ⟨y10, e11, h⟩ := ap h
   obtain ⟨g12, h⟩ := aY h
   obtain ⟨z13, n14, h⟩ := ap h
   replace n14 := ay n14
   refine aA ae [(4, af z13)] 28 [hn, hg [] [] true 0 (q := ((True) ∧ (0 + y1.Words.length ≤ y1.Words.length) ∧ (True)) ∧ (True)) ⟨⟨tv, Ax, tv⟩, tv⟩ (a0 := [.agg [ag y1.Length, cl 1 bo y1.Words]]) (yq y1 y10 e11) ⟨aN.refl _, tv⟩ (fun _ => tv), hn, hn, hn, hn, hn, ho g12] ?_ (by subst n14; kernel_rfl)
   refine ret ?_
   apply au h (af z13)
def iD (p0 : aB) (p1 : aB) (x5 : List Int) (x6 : Int) : Option ((List Int × Int) ⊕ List Int) := if decide (x6 < (p0.Fields.length : Int)) then if 0 ≤ x6 then if x6 < (p0.Fields.length : Int) then if x6 < (p1.Fields.length : Int) then (iN (p0.Fields.getD x6.toNat dA) (p1.Fields.getD x6.toNat dA)).bind fun y12 => (if x5.length + [y12].length ≤ 1099511627776 then some (.inl ((x5 ++ [y12]), SB (x6 + 1))) else none) else none else none else none else some (.inr x5)
def kY (p0 : aB) (p1 : aB) (x1 : Bool) : Option (List Int × Int) := if x1 then some (([] : List Int), 8) else (loop (fun v : List Int × Int => iD p0 p1 v.1 v.2) (([] : List Int), 0)).bind fun x15 => (some (x15, 0))
def gm (p0 : aB) (p1 : aB) : Option (List Int × Int) := if ((p0.Fields.length : Int) != (p1.Fields.length : Int)) then kY p0 p1 true else (fO (p0.Fields.length : Int)).bind fun y18 => (kY p0 p1 (!y18))
theorem Cs (p0 : aB) (p1 : aB) (r : (List Int) × Int) (h : gm p0 p1 = some r) : CT 22 [.agg [ag p0.ID, ag p0.Version, cl 2 bR p0.Fields], .agg [ag p1.ID, ag p1.Version, cl 2 bR p1.Fields]] [] (.tup [.c (.ref 0 1 0 r.1.length), af r.2]) [(0, .row 3 false 1 r.1.length (al r.1))] := by
 refine aw ae 0 Tryz.func22 rfl (fun _ _ _ => ?_)
 unfold gm at h
 refine QZ ae [(3, pX 1 3), (2, pX 0 3)] [0, 1] [(1, .box 70 [ag p1.ID, ag p1.Version, cl 2 bR p1.Fields]), (0, .box 70 [ag p0.ID, ag p0.Version, cl 2 bR p0.Fields])] 4 [] (seq (seq ?_))
 refine AW.join (ι := Bool) (fun v => ⟨[(2, pX 0 3), (3, pX 1 3), (22, vb v)], [(0, .box 70 [ag p0.ID, ag p0.Version, cl 2 bR p0.Fields]), (1, .box 70 [ag p1.ID, ag p1.Version, cl 2 bR p1.Fields])], 2⟩) (fun v : Bool => kY p0 p1 v = some r) (fun x1 h => ?_) ?_
 ·unfold kY at h
  refine QX ?_
  refine Q2 h ?_ ?_ <;> intro c2 h
  ·refine ah ae [(5, af 8), (4, .c (ar))] 4 (ret (QW ?_))
   obtain rfl := ay h
   exact b6 (.inr rfl) [(0, 4)] 1 (.tup [.c (.ref 4 1 0 (([] : List Int).length)), af 8]) (cG (t := 4) (ty := 3) (sz := 1) (n := ([] : List Int).length) (f := al ([] : List Int)) (by kernel_rfl) rfl)
  ·refine skip (QX ?_)
   refine ah ae [(6, .c (ar))] 3 (seq ?_)
   refine ah ae [(26, af 0), (25, af (p0.Fields.length : Int)), (24, vl 2 bR p0.Fields)] 7 (block ?_)
   obtain ⟨x15, l16, h⟩ := ap h
   refine Q3 l16 (fun v => ⟨[(3, pX 0 3), (6, rX 1 1 v.1.length), (24, vl 2 bR p0.Fields), (25, af (p0.Fields.length : Int)), (26, af v.2)], [(0, .box 70 [ag p1.ID, ag p1.Version, cl 2 bR p1.Fields]), (1, .row 3 false 1 v.1.length (al v.1))], 2⟩) (fun t : List Int => (.exit 0, ⟨[(6, rX 0 1 t.length)], [(0, .row 3 false 1 t.length (al t))], 1⟩)) (Conv.trans (cG (t := 6) (ty := 3) (sz := 1) (n := ([] : List Int).length) (f := al ([] : List Int)) (by kernel_rfl) rfl) (ai [(0, 1), (1, 7)])) (fun _ => tv) ?_ ?_
   ·clear l16 h
    intro v o h
    obtain ⟨x5, x6⟩ := v
    replace h : iD p0 p1 x5 x6 = some o := h
    unfold iD at h
    refine ah ae [(27, vb (decide (x6 < (p0.Fields.length : Int))))] 3 (seq ?_)
    refine Q2 h ?_ ?_ <;> intro c8 h
    ·refine skip (QX ?_)
     refine seq (block ?_)
     obtain ⟨g9, g10, h⟩ := aJ h
     refine QZ ae [(7, af x6), (8, pX 6 2)] [6] [(6, .box 126 [ag ((p0.Fields.getD x6.toNat dA).Length), cl 1 bo ((p0.Fields.getD x6.toNat dA).Words)])] 9 [hn, hq g9 g10] ?_
     obtain ⟨g11, h⟩ := aY h
     obtain ⟨y12, e13, h⟩ := ap h
     obtain ⟨g14, h⟩ := aY h
     refine Q0 ae dx [[], [], [], [], [], [], [], [], [16], [17, 1]] [(6, .c (.ref 17 1 0 ((x5 ++ [y12]).length)))] [(17, .row 3 false 1 (x5 ++ [y12]).length (al (x5 ++ [y12])))] 19 (Sw [hq g9 g11, hn, hk (IN (p0.Fields.getD x6.toNat dA) (p1.Fields.getD x6.toNat dA) y12 e13), bB 0 dj 1 (fun _ => rfl) [y12], cP 0 dj 1 8 x5 [y12] g14 (by decide)]) ?_
     refine QU (QX ?_)
     refine ba ae [(26, af (SB (x6 + 1)))] 21 ?_
     exact bh h (ai [(0, 0), (1, 17)])
    ·refine exit (QR ?_)
     exact aX h rfl (ai [(0, 1)])
   ·show (_ : XQ) (.exit 0) _
    refine QO (QX ?_)
    refine ah ae [(5, af 0), (4, rX 0 1 x15.length)] 4 (ret ?_)
    obtain rfl := ay h
    exact be (.inr rfl) [(0, 0)] 1 (.tup [.c (.ref 0 1 0 x15.length), af 0])
 ·rcases aI h with ⟨c17, h⟩ | ⟨c17, h⟩
  ·refine ax ae [(22, vb true)] 18 (Sy [ht c17]) ?_
   exact jl true h (ai [(0, 0), (1, 1)])
  ·obtain ⟨y18, e19, h⟩ := ap h
   refine ax ae [(22, vb (!y18))] 17 (Sy [hf c17, hn, hn, hn, hn, hk (uA (p0.Fields.length : Int) y18 e19)]) ?_
   exact jl (!y18) h (ai [(0, 0), (1, 1)])
def iI : Option (List Int) := some ([1, 3, 9, 27, 81, 243] : List Int)
theorem yb (r : List Int) (h : iI = some r) : CT 58 [] [] (.agg [ag (r.getD 0 0), ag (r.getD 1 0), ag (r.getD 2 0), ag (r.getD 3 0), ag (r.getD 4 0), ag (r.getD 5 0)]) [] := by
 refine aw ae 0 Tryz.func58 rfl (fun _ _ _ => ?_)
 unfold iI at h
 refine QZ ae [(0, pX 0 1)] [0] [(0, .row 129 false 1 6 (al ([0, 0, 0, 0, 0, 0] : List Int)))] 1 [hr 6 (al ([0, 0, 0, 0, 0, 0] : List Int)) (p := 6 = 6 ∧ ∀ i, i < 6 → ∀ j, j < 1 → bn (dp [.v (.int .i64 0), .v (.int .i64 0), .v (.int .i64 0), .v (.int .i64 0), .v (.int .i64 0), .v (.int .i64 0)] 1 i j) (al ([0, 0, 0, 0, 0, 0] : List Int) i j)) (⟨rfl, fun i hi j hj => match i, hi, j, hj with | 0, _, 0, _ => bn.refl _ | 1, _, 0, _ => bn.refl _ | 2, _, 0, _ => bn.refl _ | 3, _, 0, _ => bn.refl _ | 4, _, 0, _ => bn.refl _ | 5, _, 0, _ => bn.refl _ | _ + 6, h, _, _ => absurd h (by omega) | _, _, _ + 1, h => absurd h (by omega)⟩)] ?_
 refine QZ ae [] [0] [(0, .row 129 false 1 6 (al ([1, 3, 9, 27, 81, 243] : List Int)))] 3 [hn, hr 6 (al ([1, 3, 9, 27, 81, 243] : List Int)) (p := 6 = 6 ∧ ∀ i, i < 6 → ∀ j, j < 1 → bn (dp [.v (.int .i64 1), .v (.int .i64 3), .v (.int .i64 9), .v (.int .i64 27), .v (.int .i64 81), .v (.int .i64 243)] 1 i j) (al ([1, 3, 9, 27, 81, 243] : List Int) i j)) (⟨rfl, fun i hi j hj => match i, hi, j, hj with | 0, _, 0, _ => bn.refl _ | 1, _, 0, _ => bn.refl _ | 2, _, 0, _ => bn.refl _ | 3, _, 0, _ => bn.refl _ | 4, _, 0, _ => bn.refl _ | 5, _, 0, _ => bn.refl _ | _ + 6, h, _, _ => absurd h (by omega) | _, _, _ + 1, h => absurd h (by omega)⟩)] (ret ?_)
 obtain rfl := ay h
 exact ⟨_, Conv.refl _ _, .inr rfl, gE.mk [] 0 (out0 := .agg [ag (([1, 3, 9, 27, 81, 243] : List Int).getD 0 0), ag (([1, 3, 9, 27, 81, 243] : List Int).getD 1 0), ag (([1, 3, 9, 27, 81, 243] : List Int).getD 2 0), ag (([1, 3, 9, 27, 81, 243] : List Int).getD 3 0), ag (([1, 3, 9, 27, 81, 243] : List Int).getD 4 0), ag (([1, 3, 9, 27, 81, 243] : List Int).getD 5 0)]) (ps := [0 + 5 < 6]) (by kernel_rfl) ⟨(by decide), tv⟩ (by kernel_rfl) (by kernel_rfl)⟩
def nc (p0 : List Int) (x6 : Int) (x7 : Int) (x12 : Bool) : Option ((Int × Int) ⊕ (Int ⊕ Unit)) := if x12 then some (.inr (.inr ())) else (iI).bind fun y14 => (if x7 < ((6 : Nat) : Int) then (some (SB (x6 + (SB ((p0.getD x7.toNat 0) * (y14.getD x7.toNat 0)))))).bind fun z17 => (some (.inl (z17, SB (x7 + 1)))) else none)
def jD (p0 : List Int) (x6 : Int) (x7 : Int) : Option ((Int × Int) ⊕ (Int ⊕ Unit)) := if decide (x7 < (p0.length : Int)) then if 0 ≤ x7 then if x7 < (p0.length : Int) then if decide ((p0.getD x7.toNat 0) < 0) then nc p0 x6 x7 true else nc p0 x6 x7 (decide ((p0.getD x7.toNat 0) ≥ 3)) else none else none else some (.inr (.inl x6))
def Cw (x20 : Int) : Option (Int × Int) := some (x20, 0)
def yf : Option (Int × Int) := some (0, 2)
def lu (p0 : List Int) : Option (Int × Int) := (fO (p0.length : Int)).bind fun y1 => (if (!y1) then some (0, 8) else cD (loop (fun v : Int × Int => jD p0 v.1 v.2) (0, 0)) (fun t => Cw t) (fun t => yf))
theorem Iw (p0 : List Int) (r : Int × Int) (h : lu p0 = some r) : CT 57 [vl 1 al p0] [] (.tup [af r.1, af r.2]) [] := by
 refine aw ae 0 Tryz.func57 rfl (fun _ _ _ => ?_)
 unfold lu at h
 refine ah ae [] 2 (seq ?_)
 obtain ⟨y1, e2, h⟩ := ap h
 refine aA ae [(10, vb (!y1))] 5 (Ss [hk (uA (p0.length : Int) y1 e2)]) ?_
 refine Q2 h ?_ ?_ <;> intro c3 h
 ·refine ah ae [(3, af 8), (2, af 0)] 7 (ret (QW ?_))
  apply au h (.tup [af 0, af 8])
 ·refine skip (QX ?_)
  refine ah ae [(4, af 0)] 6 (seq ?_)
  refine ah ae [(13, af 0), (12, af (p0.length : Int)), (11, vl 1 al p0)] 9 (block ?_)
  refine Q4 h (fun v => ⟨[(4, af v.1), (11, vl 1 al p0), (12, af (p0.length : Int)), (13, af v.2)], [], 0⟩) (fun t => (.exit 0, ⟨[(4, af t)], [], 0⟩)) (fun t => (.ret, ⟨[(2, af 0), (3, af 2)], [], 0⟩)) (ai []) (fun _ => tv) (fun _ => tv) ?_ (fun x20 h => ?_) (fun t h => ?_)
  ·clear h
   intro v o h
   obtain ⟨x6, x7⟩ := v
   replace h : jD p0 x6 x7 = some o := h
   unfold jD at h
   refine ah ae [(14, vb (decide (x7 < (p0.length : Int))))] 1 (seq ?_)
   refine Q2 h ?_ ?_ <;> intro c9 h
   ·refine skip (QX ?_)
    refine seq (block ?_)
    obtain ⟨g10, g11, h⟩ := aJ h
    refine aA ae [(6, af (p0.getD x7.toNat 0)), (5, af x7)] 6 [hn, hq g10 g11] (seq (seq ?_))
    refine AW.join (ι := Bool) (fun v => ⟨[(4, af x6), (5, af x7), (6, af (p0.getD x7.toNat 0)), (11, vl 1 al p0), (12, af (p0.length : Int)), (13, af x7), (23, vb v)], [], 0⟩) (fun v : Bool => nc p0 x6 x7 v = some o) (fun x12 h => ?_) ?_
    ·unfold nc at h
     refine QX ?_
     refine Q2 h ?_ ?_ <;> intro c13 h
     ·refine ah ae [(3, af 2), (2, af 0)] 2 (ret (QW ?_))
      refine QT (QW ?_)
      exact aX h rfl (ai [])
     ·refine skip (QX ?_)
      obtain ⟨y14, e15, h⟩ := ap h
      obtain ⟨g16, h⟩ := aY h
      obtain ⟨z17, n18, h⟩ := ap h
      replace n18 := ay n18
      refine ax ae [(4, af z17)] 7 (Ss [hk (yb y14 e15), hn, hr 6 (al y14) (p := ((0 ≤ x7) ∧ (x7 < ((6 : Nat) : Int))) ∧ (6 = 6 ∧ ∀ i, i < 6 → ∀ j, j < 1 → dp [.v (.int .i64 (y14.getD 0 0)), .v (.int .i64 (y14.getD 1 0)), .v (.int .i64 (y14.getD 2 0)), .v (.int .i64 (y14.getD 3 0)), .v (.int .i64 (y14.getD 4 0)), .v (.int .i64 (y14.getD 5 0))] 1 i j = al y14 i j)) (⟨⟨g10, g16⟩, ⟨rfl, fun i hi j hj => match i, hi, j, hj with | 0, _, 0, _ => rfl | 1, _, 0, _ => rfl | 2, _, 0, _ => rfl | 3, _, 0, _ => rfl | 4, _, 0, _ => rfl | 5, _, 0, _ => rfl | _ + 6, h, _, _ => absurd h (by omega) | _, _, _ + 1, h => absurd h (by omega)⟩⟩)]) ?_ (by subst n18; kernel_rfl)
      refine QU (QX ?_)
      refine ba ae [(13, af (SB (x7 + 1)))] 9 ?_
      exact bh h (ai [])
    ·rcases aI h with ⟨c19, h⟩ | ⟨c19, h⟩
     ·refine ax ae [(23, vb true)] 12 [hn, ht c19] ?_
      exact jl true h
     ·refine ax ae [(23, vb (decide ((p0.getD x7.toNat 0) ≥ 3)))] 12 [hn, hf c19] ?_
      exact jl (decide ((p0.getD x7.toNat 0) ≥ 3)) h (ai [])
   ·refine exit (QR ?_)
    exact aX h rfl (ai [])
  ·unfold Cw at h
   show (_ : XQ) (.exit 0) _
   refine QO (QX ?_)
   refine ah ae [(3, af 0), (2, af x20)] 3 (ret ?_)
   apply au h (.tup [af x20, af 0])
  ·replace h : yf = some r := h
   unfold yf at h
   show (_ : XQ) (.ret) _
   refine QT (QW ?_)
   apply au h (.tup [af 0, af 2])
def kZ (x8 : Int) (x11 : List Int) : Option ((List Int × Int) ⊕ (List Int ⊕ Unit)) := some (.inl (x11, SB (x8 + 1)))
def jz (p0 : List Int) (p1 : List Int) (x7 : List Int) (x8 : Int) (x15 : Bool) : Option ((List Int × Int) ⊕ (List Int ⊕ Unit)) := if x15 then some (.inr (.inr ())) else if decide ((p1.getD x8.toNat 0) < 0) then if x8 < (x7.length : Int) then kZ x8 (x7.set (0 + x8.toNat) 0) else none else if decide ((p1.getD x8.toNat 0) < (p0.getD x8.toNat 0)) then if x8 < (x7.length : Int) then kZ x8 (x7.set (0 + x8.toNat) 1) else none else if x8 < (x7.length : Int) then kZ x8 (x7.set (0 + x8.toNat) 2) else none
def jA (p0 : List Int) (p1 : List Int) (x7 : List Int) (x8 : Int) : Option ((List Int × Int) ⊕ (List Int ⊕ Unit)) := if decide (x8 < (p0.length : Int)) then if 0 ≤ x8 then if x8 < (p0.length : Int) then if x8 < (p1.length : Int) then if decide ((p0.getD x8.toNat 0) < 0) then jz p0 p1 x7 x8 true else if decide ((p0.getD x8.toNat 0) > 1000) then jz p0 p1 x7 x8 true else if decide ((p1.getD x8.toNat 0) < (-1)) then jz p0 p1 x7 x8 true else jz p0 p1 x7 x8 (decide ((p1.getD x8.toNat 0) > 1000)) else none else none else none else some (.inr (.inl x7))
def qC (x25 : List Int) : Option (Int × Int) := aF (lu x25) fun y26 y27 => (some (y26, y27))
def yc : Option (Int × Int) := some (0, 2)
def mZ (p0 : List Int) (p1 : List Int) (x1 : Bool) : Option (Int × Int) := if x1 then some (0, 8) else if 0 ≤ (p0.length : Int) then if (p0.length : Int) ≤ 1099511627776 then cD (loop (fun v : List Int × Int => jA p0 p1 v.1 v.2) ((List.replicate ((p0.length : Int).toNat) (0 : Int)), 0)) (fun t => qC t) (fun t => yc) else none else none
def iF (p0 : List Int) (p1 : List Int) : Option (Int × Int) := if ((p0.length : Int) != (p1.length : Int)) then mZ p0 p1 true else (fO (p0.length : Int)).bind fun y31 => (mZ p0 p1 (!y31))
theorem Ct (p0 : List Int) (p1 : List Int) (r : Int × Int) (h : iF p0 p1 = some r) : CT 23 [vl 1 al p0, vl 1 al p1] [] (.tup [af r.1, af r.2]) [] := by
 refine aw ae 0 Tryz.func23 rfl (fun _ _ _ => ?_)
 unfold iF at h
 refine ah ae [] 2 (seq (seq ?_))
 refine AW.join (ι := Bool) (fun v => ⟨[(0, vl 1 al p0), (1, vl 1 al p1), (20, vb v)], [], 0⟩) (fun v : Bool => mZ p0 p1 v = some r) (fun x1 h => ?_) ?_
 ·unfold mZ at h
  refine QX ?_
  refine Q2 h ?_ ?_ <;> intro c2 h
  ·refine ah ae [(5, af 8), (4, af 0)] 2 (ret (QW ?_))
   apply au h (.tup [af 0, af 8])
  ·refine skip (QX ?_)
   obtain ⟨g3, g4, h⟩ := aJ h
   refine QZ ae [(6, .c (.ref 2 1 0 ((List.replicate ((p0.length : Int).toNat) (0 : Int)).length)))] [2] [(2, .row 3 false 1 (List.replicate ((p0.length : Int).toNat) (0 : Int)).length (al (List.replicate ((p0.length : Int).toNat) (0 : Int))))] 4 (Ss [gM 0 dj 1 8 [.int .i64 0] rfl rfl (p0.length : Int) (p0.length : Int) g3 (Int.le_refl _) g4 (by decide)]) (seq ?_)
   refine ah ae [(26, af 0), (25, af (p0.length : Int)), (24, vl 1 al p0)] 7 (block ?_)
   refine Q4 h (fun v => ⟨[(1, vl 1 al p1), (6, rX 0 1 v.1.length), (24, vl 1 al p0), (25, af (p0.length : Int)), (26, af v.2)], [(0, .row 3 false 1 v.1.length (al v.1))], 1⟩) (fun t => (.exit 0, ⟨[(6, rX 0 1 t.length)], [(0, .row 3 false 1 t.length (al t))], 1⟩)) (fun t => (.ret, ⟨[(4, af 0), (5, af 2)], [], 0⟩)) (ai [(0, 2)]) (fun _ => tv) (fun _ => tv) ?_ (fun x25 h => ?_) (fun t h => ?_)
   ·clear h
    intro v o h
    obtain ⟨x7, x8⟩ := v
    replace h : jA p0 p1 x7 x8 = some o := h
    unfold jA at h
    refine ah ae [(27, vb (decide (x8 < (p0.length : Int))))] 2 (seq ?_)
    refine Q2 h ?_ ?_ <;> intro c10 h
    ·refine skip (QX (seq ?_))
     refine AW.join (ι := List Int) (fun v => ⟨[(1, vl 1 al p1), (6, rX 0 1 v.length), (24, vl 1 al p0), (25, af (p0.length : Int)), (26, af x8)], [(0, .row 3 false 1 v.length (al v))], 1⟩) (fun v : List Int => kZ x8 v = some o) (fun x11 h => ?_) ?_
     ·unfold kZ at h
      refine QX ?_
      refine ba ae [(26, af (SB (x8 + 1)))] 3 ?_
      exact bh h (ai [(0, 0)])
     ·refine block ?_
      obtain ⟨g12, g13, h⟩ := aJ h
      refine aA ae [(8, af (p0.getD x8.toNat 0)), (7, af x8)] 7 [hn, hq g12 g13] ?_
      obtain ⟨g14, h⟩ := aY h
      refine aA ae [(9, af (p1.getD x8.toNat 0))] 12 (Ss [hq g12 g14]) (seq (seq ?_))
      refine AW.join (ι := Bool) (fun v => ⟨[(1, vl 1 al p1), (6, rX 0 1 x7.length), (7, af x8), (8, af (p0.getD x8.toNat 0)), (9, af (p1.getD x8.toNat 0)), (24, vl 1 al p0), (25, af (p0.length : Int)), (26, af x8), (48, vb v)], [(0, .row 3 false 1 x7.length (al x7))], 1⟩) (fun v : Bool => jz p0 p1 x7 x8 v = some o) (fun x15 h => ?_) ?_
      ·unfold jz at h
       refine QX ?_
       refine Q2 h ?_ ?_ <;> intro c16 h
       ·refine ah ae [(5, af 2), (4, af 0)] 3 (ret (QW (QT ?_)))
        refine sQ ?_
        refine QW ?_
        exact aX h rfl (ai [])
       ·refine skip (QX (block ?_))
        refine ah ae [(52, vb (decide ((p1.getD x8.toNat 0) < 0)))] 4 ?_
        refine Q2 h ?_ ?_ <;> intro c17 h
        ·obtain ⟨g18, h⟩ := aY h
         refine QY ae [] [0] [(0, .row 3 false 1 x7.length (al (x7.set (0 + x8.toNat) 0)))] 8 (Ss [hq g12 g18, hset 0 dj x7 (0 + x8.toNat) 0 (n := x7.length) (by have h1 : 0 ≤ x8 := g12; have h2 : x8 < (x7.length : Int) := g18; omega) rfl]) ?_
         refine QU (QU ?_)
         exact jl (x7.set (0 + x8.toNat) 0) h (Conv.trans (cV [(6, .c (.ref 0 1 0 ((x7.set (0 + x8.toNat) 0).length)))] ⟨⟨.c (.ref 0 1 0 x7.length), by kernel_rfl, bU.len (by simp only [R7])⟩, tv⟩) (Conv.trans (eN 0 3 false 1 x7.length ((x7.set (0 + x8.toNat) 0).length) (al (x7.set (0 + x8.toNat) 0)) (by kernel_rfl) (by simp only [R7])) (ai [(0, 0)])))
        ·refine ah ae [(58, vb (decide ((p1.getD x8.toNat 0) < (p0.getD x8.toNat 0))))] 8 ?_
         refine Q2 h ?_ ?_ <;> intro c19 h
         ·obtain ⟨g20, h⟩ := aY h
          refine QY ae [] [0] [(0, .row 3 false 1 x7.length (al (x7.set (0 + x8.toNat) 1)))] 12 (Ss [hq g12 g20, hset 0 dj x7 (0 + x8.toNat) 1 (n := x7.length) (by have h1 : 0 ≤ x8 := g12; have h2 : x8 < (x7.length : Int) := g20; omega) rfl]) ?_
          refine QU (QU ?_)
          exact jl (x7.set (0 + x8.toNat) 1) h (Conv.trans (cV [(6, .c (.ref 0 1 0 ((x7.set (0 + x8.toNat) 1).length)))] ⟨⟨.c (.ref 0 1 0 x7.length), by kernel_rfl, bU.len (by simp only [R7])⟩, tv⟩) (Conv.trans (eN 0 3 false 1 x7.length ((x7.set (0 + x8.toNat) 1).length) (al (x7.set (0 + x8.toNat) 1)) (by kernel_rfl) (by simp only [R7])) (ai [(0, 0)])))
         ·obtain ⟨g21, h⟩ := aY h
          refine QY ae [] [0] [(0, .row 3 false 1 x7.length (al (x7.set (0 + x8.toNat) 2)))] 12 (Ss [hq g12 g21, hset 0 dj x7 (0 + x8.toNat) 2 (n := x7.length) (by have h1 : 0 ≤ x8 := g12; have h2 : x8 < (x7.length : Int) := g21; omega) rfl]) ?_
          refine QU (QU ?_)
          exact jl (x7.set (0 + x8.toNat) 2) h (Conv.trans (cV [(6, .c (.ref 0 1 0 ((x7.set (0 + x8.toNat) 2).length)))] ⟨⟨.c (.ref 0 1 0 x7.length), by kernel_rfl, bU.len (by simp only [R7])⟩, tv⟩) (Conv.trans (eN 0 3 false 1 x7.length ((x7.set (0 + x8.toNat) 2).length) (al (x7.set (0 + x8.toNat) 2)) (by kernel_rfl) (by simp only [R7])) (ai [(0, 0)])))
      ·rcases aI h with ⟨c22, h⟩ | ⟨c22, h⟩
       ·refine ax ae [(48, vb true)] 26 [hn, ht c22] ?_
        exact jl true h (ai [(0, 0)])
       ·rcases aI h with ⟨c23, h⟩ | ⟨c23, h⟩
        ·refine ax ae [(48, vb true)] 26 [hn, hf c22, hn, hn, ht c23] ?_
         exact jl true h (ai [(0, 0)])
        ·rcases aI h with ⟨c24, h⟩ | ⟨c24, h⟩
         ·refine ax ae [(48, vb true)] 26 [hn, hf c22, hn, hn, hf c23, hn, hn, hn, ht c24] ?_
          exact jl true h (ai [(0, 0)])
         ·refine ax ae [(48, vb (decide ((p1.getD x8.toNat 0) > 1000)))] 26 [hn, hf c22, hn, hn, hf c23, hn, hn, hn, hf c24] ?_
          exact jl (decide ((p1.getD x8.toNat 0) > 1000)) h (ai [(0, 0)])
    ·refine exit (QR ?_)
     exact aX h rfl (ai [(0, 0)])
   ·unfold qC at h
    show (_ : XQ) (.exit 0) _
    refine QO (QX ?_)
    obtain ⟨y26, y27, e28, h⟩ := aK h
    refine aA ae [(5, af y27), (4, af y26)] 6 [hn, hg [] [] true 0 (q := (0 + x25.length ≤ x25.length) ∧ (True)) ⟨Ax, tv⟩ (a0 := [vl 1 al x25]) (Iw x25 (y26, y27) e28) ⟨aN.refl _, tv⟩ (fun _ => tv)] (ret ?_)
    apply au h (.tup [af y26, af y27])
   ·replace h : yc = some r := h
    unfold yc at h
    show (_ : XQ) (.ret) _
    refine QT (QW ?_)
    apply au h (.tup [af 0, af 2])
 ·rcases aI h with ⟨c30, h⟩ | ⟨c30, h⟩
  ·refine ax ae [(20, vb true)] 13 (Sv [ht c30]) ?_
   exact jl true h
  ·obtain ⟨y31, e32, h⟩ := ap h
   refine ax ae [(20, vb (!y31))] 12 (Sv [hf c30, hn, hn, hn, hk (uA (p0.length : Int) y31 e32)]) ?_
   exact jl (!y31) h
end
end Go.Proofs.YtfmhbcfklokmaaaGreatDoor
