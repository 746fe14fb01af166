/- Lemmas for the statement TopEncodes: Go functions told as pure functions, and laws about these; texts joined and shortened by a program of mine; no condition. -/
import Derived.Test.YtfmhbcfklokmaaaGreatDoorSQ1
import Derived.Test.YtfmhbcfklokmaaaGreatDoorRows
import Derived.Test.YtfmhbcfklokmaaaGreatDoorSQ2
set_option linter.unusedVariables false
set_option linter.unusedSimpArgs false
set_option linter.defProp false
namespace Go.Proofs.YtfmhbcfklokmaaaGreatDoor
open Vm
open AW (block cond exit ret seq skip)
open _root_.ByteArray (mk)
open IntKind (i64 u64 u32 u8)
set_option maxRecDepth 100000
set_option maxHeartbeats 10000000
theorem cu : Tryz.prog.follows .mixedOrders = true := by kernel_rfl
abbrev kN : C := .t (.v .nilFunc)
abbrev kF (g : Nat) : C := .t (.v (.func (.func g) #[] #[]))
abbrev kE (w : ByteArray) (a b c : Nat) : List C := [cs w, kF a, kF b, kF c]
abbrev xg : List C := [cs ⟨#[]⟩, kN, kN, kN] ++ kE ⟨#[110, 97, 109, 101]⟩ 189 190 191 ++ kE ⟨#[100, 97, 116, 101]⟩ 192 193 195 ++ kE ⟨#[99, 111, 100, 101]⟩ 196 198 200 ++ kE ⟨#[97, 100, 100, 114, 101, 115, 115]⟩ 201 202 191
theorem mD : CT 154 [] [] (.agg xg) [] := by
 refine an ae 0 Tryz.func154 rfl (fun _ _ _ => ?_)
 refine Fs ae [(0, pX 0 4)] [0] [(0, .row 244 false 4 5 (cq [.v (.string ⟨#[]⟩), .v .nilFunc, .v .nilFunc, .v .nilFunc, .v (.string ⟨#[]⟩), .v .nilFunc, .v .nilFunc, .v .nilFunc, .v (.string ⟨#[]⟩), .v .nilFunc, .v .nilFunc, .v .nilFunc, .v (.string ⟨#[]⟩), .v .nilFunc, .v .nilFunc, .v .nilFunc, .v (.string ⟨#[]⟩), .v .nilFunc, .v .nilFunc, .v .nilFunc] 4))] 1 [] ?_
 refine Fs ae [] [0] [(0, .row 244 false 4 5 (cq [.v (.string ⟨#[]⟩), .v .nilFunc, .v .nilFunc, .v .nilFunc, .v (.string ⟨#[110, 97, 109, 101]⟩), .v (.func (.func 189) #[] #[]), .v (.func (.func 190) #[] #[]), .v (.func (.func 191) #[] #[]), .v (.string ⟨#[100, 97, 116, 101]⟩), .v (.func (.func 192) #[] #[]), .v (.func (.func 193) #[] #[]), .v (.func (.func 195) #[] #[]), .v (.string ⟨#[99, 111, 100, 101]⟩), .v (.func (.func 196) #[] #[]), .v (.func (.func 198) #[] #[]), .v (.func (.func 200) #[] #[]), .v (.string ⟨#[97, 100, 100, 114, 101, 115, 115]⟩), .v (.func (.func 201) #[] #[]), .v (.func (.func 202) #[] #[]), .v (.func (.func 191) #[] #[])] 4))] 7 [] (ret ?_)
 exact ⟨_, Conv.refl _ _, .inr rfl, dY.mk [] 0 (out0 := .agg xg) (ps := [0 + 4 < 5]) (by kernel_rfl) ⟨by decide, tv⟩ (by kernel_rfl) (by kernel_rfl)⟩
theorem ru (p0 : aK) (p1 : Int) (hc : dz p0 = some 0) (h0 : 0 ≤ p1) (h1 : p1 < (p0.Fields.length : Int)) (hk : (p0.Fields.getD p1.toNat bq).Kind = 1) : CT 112 [.agg (aJ p0), af p1] [] (.tup [.agg (kE ⟨#[110, 97, 109, 101]⟩ 189 190 191), af 0]) [] := by
 refine an ae 0 Tryz.func112 rfl (fun _ _ _ => ?_)
 refine Fs ae [(2, pX 0 4), (4, pX 1 4)] [0, 1] [(0, .box 33 (aJ p0)), (1, .box 194 [cs ⟨#[]⟩, kN, kN, kN])] 3 [] (seq (ay ae [(6, af 0)] 5 [hn, hl [] [] 0 (Hr p0 0 hc)] ?_))
 refine ah ae [(10, vb false)] 7 ?_
 refine cond (b := false) (by kernel_rfl) (fun e => by cases e) (fun _ => skip (Fp (seq ?_)))
 have g1 : decide (p1 < 0) = false := by simp; omega
 have g2 : decide (p1 ≥ (p0.Fields.length : Int)) = false := by simp; omega
 refine ay ae [(21, vb false)] 16 [hn, hf g1, hn, hn, hn, hn, hn, hf g2] ?_
 refine cond (b := false) (by kernel_rfl) (fun e => by cases e) (fun _ => skip (Fp ?_))
 refine Fv ae cu [[], [], [], [], [], [], [], [], [1]] [(5, af 0)] [(1, .box 194 (kE ⟨#[110, 97, 109, 101]⟩ 189 190 191))] 25 [hl [] [] 0 mD, hn, hn, hn, hq h0 h1, hn, eU 1 hn hk, hq (p := (0 : Int) ≤ 1) (by decide) (q := (1 : Int) < 5) (by decide)] ?_
 refine ret ?_
 exact aW (.inr rfl) [] 0 (.tup [.agg (kE ⟨#[110, 97, 109, 101]⟩ 189 190 191), af 0])
theorem ry (p0 : aK) (p1 : Int) (hc : dz p0 = some 0) (h0 : 0 ≤ p1) (h1 : p1 < (p0.Fields.length : Int)) (hk : (p0.Fields.getD p1.toNat bq).Kind = 2) : CT 112 [.agg (aJ p0), af p1] [] (.tup [.agg (kE ⟨#[100, 97, 116, 101]⟩ 192 193 195), af 0]) [] := by
 refine an ae 0 Tryz.func112 rfl (fun _ _ _ => ?_)
 refine Fs ae [(2, pX 0 4), (4, pX 1 4)] [0, 1] [(0, .box 33 (aJ p0)), (1, .box 194 [cs ⟨#[]⟩, kN, kN, kN])] 3 [] (seq (ay ae [(6, af 0)] 5 [hn, hl [] [] 0 (Hr p0 0 hc)] ?_))
 refine ah ae [(10, vb false)] 7 ?_
 refine cond (b := false) (by kernel_rfl) (fun e => by cases e) (fun _ => skip (Fp (seq ?_)))
 have g1 : decide (p1 < 0) = false := by simp; omega
 have g2 : decide (p1 ≥ (p0.Fields.length : Int)) = false := by simp; omega
 refine ay ae [(21, vb false)] 16 [hn, hf g1, hn, hn, hn, hn, hn, hf g2] ?_
 refine cond (b := false) (by kernel_rfl) (fun e => by cases e) (fun _ => skip (Fp ?_))
 refine Fv ae cu [[], [], [], [], [], [], [], [], [1]] [(5, af 0)] [(1, .box 194 (kE ⟨#[100, 97, 116, 101]⟩ 192 193 195))] 25 [hl [] [] 0 mD, hn, hn, hn, hq h0 h1, hn, eU 2 hn hk, hq (p := (0 : Int) ≤ 2) (by decide) (q := (2 : Int) < 5) (by decide)] ?_
 refine ret ?_
 exact aW (.inr rfl) [] 0 (.tup [.agg (kE ⟨#[100, 97, 116, 101]⟩ 192 193 195), af 0])
theorem rz (p0 : aK) (p1 : Int) (hc : dz p0 = some 0) (h0 : 0 ≤ p1) (h1 : p1 < (p0.Fields.length : Int)) (hk : (p0.Fields.getD p1.toNat bq).Kind = 3) : CT 112 [.agg (aJ p0), af p1] [] (.tup [.agg (kE ⟨#[99, 111, 100, 101]⟩ 196 198 200), af 0]) [] := by
 refine an ae 0 Tryz.func112 rfl (fun _ _ _ => ?_)
 refine Fs ae [(2, pX 0 4), (4, pX 1 4)] [0, 1] [(0, .box 33 (aJ p0)), (1, .box 194 [cs ⟨#[]⟩, kN, kN, kN])] 3 [] (seq (ay ae [(6, af 0)] 5 [hn, hl [] [] 0 (Hr p0 0 hc)] ?_))
 refine ah ae [(10, vb false)] 7 ?_
 refine cond (b := false) (by kernel_rfl) (fun e => by cases e) (fun _ => skip (Fp (seq ?_)))
 have g1 : decide (p1 < 0) = false := by simp; omega
 have g2 : decide (p1 ≥ (p0.Fields.length : Int)) = false := by simp; omega
 refine ay ae [(21, vb false)] 16 [hn, hf g1, hn, hn, hn, hn, hn, hf g2] ?_
 refine cond (b := false) (by kernel_rfl) (fun e => by cases e) (fun _ => skip (Fp ?_))
 refine Fv ae cu [[], [], [], [], [], [], [], [], [1]] [(5, af 0)] [(1, .box 194 (kE ⟨#[99, 111, 100, 101]⟩ 196 198 200))] 25 [hl [] [] 0 mD, hn, hn, hn, hq h0 h1, hn, eU 3 hn hk, hq (p := (0 : Int) ≤ 3) (by decide) (q := (3 : Int) < 5) (by decide)] ?_
 refine ret ?_
 exact aW (.inr rfl) [] 0 (.tup [.agg (kE ⟨#[99, 111, 100, 101]⟩ 196 198 200), af 0])
theorem rA (p0 : aK) (p1 : Int) (hc : dz p0 = some 0) (h0 : 0 ≤ p1) (h1 : p1 < (p0.Fields.length : Int)) (hk : (p0.Fields.getD p1.toNat bq).Kind = 4) : CT 112 [.agg (aJ p0), af p1] [] (.tup [.agg (kE ⟨#[97, 100, 100, 114, 101, 115, 115]⟩ 201 202 191), af 0]) [] := by
 refine an ae 0 Tryz.func112 rfl (fun _ _ _ => ?_)
 refine Fs ae [(2, pX 0 4), (4, pX 1 4)] [0, 1] [(0, .box 33 (aJ p0)), (1, .box 194 [cs ⟨#[]⟩, kN, kN, kN])] 3 [] (seq (ay ae [(6, af 0)] 5 [hn, hl [] [] 0 (Hr p0 0 hc)] ?_))
 refine ah ae [(10, vb false)] 7 ?_
 refine cond (b := false) (by kernel_rfl) (fun e => by cases e) (fun _ => skip (Fp (seq ?_)))
 have g1 : decide (p1 < 0) = false := by simp; omega
 have g2 : decide (p1 ≥ (p0.Fields.length : Int)) = false := by simp; omega
 refine ay ae [(21, vb false)] 16 [hn, hf g1, hn, hn, hn, hn, hn, hf g2] ?_
 refine cond (b := false) (by kernel_rfl) (fun e => by cases e) (fun _ => skip (Fp ?_))
 refine Fv ae cu [[], [], [], [], [], [], [], [], [1]] [(5, af 0)] [(1, .box 194 (kE ⟨#[97, 100, 100, 114, 101, 115, 115]⟩ 201 202 191))] 25 [hl [] [] 0 mD, hn, hn, hn, hq h0 h1, hn, eU 4 hn hk, hq (p := (0 : Int) ≤ 4) (by decide) (q := (4 : Int) < 5) (by decide)] ?_
 refine ret ?_
 exact aW (.inr rfl) [] 0 (.tup [.agg (kE ⟨#[97, 100, 100, 114, 101, 115, 115]⟩ 201 202 191), af 0])
theorem mT {w : ByteArray} {a b c : Nat} (p0 : aK) (p1 : Int) (p2 : ByteArray) (r : ByteArray × Int) (hq : CT 112 [.agg (aJ p0), af p1] [] (.tup [.agg (kE w a b c), af 0]) []) (he : (p2.toList == (mk #[]).toList) = false) (h : cz Tryz.prog a [.agg [cl 1 Rs p0.Rules.Titles, cl 2 bv p0.Rules.Nicknames, cl 2 bv p0.Rules.Streets], vs p2] [] (.tup [vs r.1, af r.2]) []) : CT 68 [.agg (aJ p0), af p1, vs p2] [] (.tup [vs r.1, af r.2]) [] := by
 refine an ae 0 Tryz.func68 rfl (fun _ _ _ => ?_)
 refine Fs ae [(3, pX 0 4)] [0] [(0, .box 33 (aJ p0))] 3 [] ?_
 refine Fs ae [(8, pX 8 4), (9, af 0)] [8] [(8, .box 194 (kE w a b c))] 11 [hn, hn, hl [] [] 0 hq] (seq ?_)
 refine ay ae [(21, vb false)] 17 [hn, hn, hn, hn, hf he] ?_
 refine cond (b := false) (by kernel_rfl) (fun e => by cases e) (fun _ => skip (Fp ?_))
 refine ay ae [(6, vs r.1), (7, af r.2)] 26 [hn, hn, hn, hn, hn, hl [] [] 0 h] (ret ?_)
 exact aW (.inr rfl) [] 0 (.tup [vs r.1, af r.2])
theorem mU {w : ByteArray} {a b c : Nat} (p0 : aK) (p1 : Int) (p2 : ByteArray) (hq : CT 112 [.agg (aJ p0), af p1] [] (.tup [.agg (kE w a b c), af 0]) []) (he : (p2.toList == (mk #[]).toList) = true) : CT 68 [.agg (aJ p0), af p1, vs p2] [] (.tup [vs (mk #[]), af 0]) [] := by
 refine an ae 0 Tryz.func68 rfl (fun _ _ _ => ?_)
 refine Fs ae [(3, pX 0 4)] [0] [(0, .box 33 (aJ p0))] 3 [] ?_
 refine Fs ae [(8, pX 8 4), (9, af 0)] [8] [(8, .box 194 (kE w a b c))] 11 [hn, hn, hl [] [] 0 hq] (seq ?_)
 refine ay ae [(21, vb true)] 17 [hn, hn, hn, hn, ht he] ?_
 refine cond (b := true) (by kernel_rfl) (fun _ => ?_) (fun e => by cases e)
 refine ah ae [(6, vs (mk #[])), (7, af 0)] 20 (ret (Fo ?_))
 exact aW (.inr rfl) [] 0 (.tup [vs (mk #[]), af 0])
theorem mV {w : ByteArray} {a b c : Nat} (p0 : aK) (p1 : Int) (p2 : ByteArray) (r : Bool) (hq : CT 112 [.agg (aJ p0), af p1] [] (.tup [.agg (kE w a b c), af 0]) []) (he : (p2.toList == (mk #[]).toList) = false) (h : cz Tryz.prog b [.agg [cl 1 Rs p0.Rules.Titles, cl 2 bv p0.Rules.Nicknames, cl 2 bv p0.Rules.Streets], vs p2] [] (vb r) []) : CT 121 [.agg (aJ p0), af p1, vs p2] [] (vb r) [] := by
 refine an ae 0 Tryz.func121 rfl (fun _ _ _ => ?_)
 refine Fs ae [(3, pX 0 4)] [0] [(0, .box 33 (aJ p0))] 2 [] ?_
 refine Fs ae [(7, pX 7 4), (8, af 0)] [7] [(7, .box 194 (kE w a b c))] 10 [hn, hn, hl [] [] 0 hq] ?_
 refine ay ae [(6, vb r)] 24 [hn, hn, hn, hn, hf he, hn, hn, hn, hn, hn, hn, hl [] [] 0 h] (ret ?_)
 exact aW (.inr rfl) [] 0 (vb r)
theorem mW {w : ByteArray} {a b c : Nat} (p0 : aK) (p1 : Int) (p2 : ByteArray) (hq : CT 112 [.agg (aJ p0), af p1] [] (.tup [.agg (kE w a b c), af 0]) []) (he : (p2.toList == (mk #[]).toList) = true) : CT 121 [.agg (aJ p0), af p1, vs p2] [] (vb true) [] := by
 refine an ae 0 Tryz.func121 rfl (fun _ _ _ => ?_)
 refine Fs ae [(3, pX 0 4)] [0] [(0, .box 33 (aJ p0))] 2 [] ?_
 refine Fs ae [(7, pX 7 4), (8, af 0)] [7] [(7, .box 194 (kE w a b c))] 10 [hn, hn, hl [] [] 0 hq] ?_
 refine ay ae [(6, vb true)] 25 [hn, hn, hn, hn, ht he] (ret ?_)
 exact aW (.inr rfl) [] 0 (vb true)
noncomputable def o9 (p0 : aK) (p1 : Int) (p2 : ByteArray) : Option (ByteArray × Int) := (dz p0).bind fun e => if (e = 0 ∧ 0 ≤ p1 ∧ p1 < (p0.Fields.length : Int)) then (if (p0.Fields.getD p1.toNat bq).Kind = 1 then (if (p2.toList == (mk #[]).toList) then some (mk #[], 0) else lw p0.Rules p2) else if (p0.Fields.getD p1.toNat bq).Kind = 2 then (if (p2.toList == (mk #[]).toList) then some (mk #[], 0) else qX p0.Rules p2) else if (p0.Fields.getD p1.toNat bq).Kind = 3 then (if (p2.toList == (mk #[]).toList) then some (mk #[], 0) else pq p0.Rules p2) else if (p0.Fields.getD p1.toNat bq).Kind = 4 then (if (p2.toList == (mk #[]).toList) then some (mk #[], 0) else kR p0.Rules p2) else none) else none
theorem xR (p0 : aK) (p1 : Int) (p2 : ByteArray) (r : (ByteArray × Int)) (h : o9 p0 p1 p2 = some r) : CT 68 [.agg (aJ p0), af p1, vs p2] [] (.tup [vs r.1, af r.2]) [] := by
 unfold o9 at h
 obtain ⟨e, hc, h2⟩ := Option.bind_eq_some_iff.1 h
 obtain ⟨⟨e0, h0, h1⟩, h3⟩ := aN h2
 subst e0
 clear h h2
 by_cases k1 : (p0.Fields.getD p1.toNat bq).Kind = 1
 ·rw [if_pos k1] at h3
  have hq := ru p0 p1 hc h0 h1 k1
  rcases aD h3 with ⟨he, h⟩ | ⟨he, h⟩
  ·obtain rfl := am h
   exact mU p0 p1 p2 hq he
  ·exact mT p0 p1 p2 r hq he (tF p0.Rules p2 r h)
 rw [if_neg k1] at h3
 by_cases k2 : (p0.Fields.getD p1.toNat bq).Kind = 2
 ·rw [if_pos k2] at h3
  have hq := ry p0 p1 hc h0 h1 k2
  rcases aD h3 with ⟨he, h⟩ | ⟨he, h⟩
  ·obtain rfl := am h
   exact mU p0 p1 p2 hq he
  ·exact mT p0 p1 p2 r hq he (ze p0.Rules p2 r h)
 rw [if_neg k2] at h3
 by_cases k3 : (p0.Fields.getD p1.toNat bq).Kind = 3
 ·rw [if_pos k3] at h3
  have hq := rz p0 p1 hc h0 h1 k3
  rcases aD h3 with ⟨he, h⟩ | ⟨he, h⟩
  ·obtain rfl := am h
   exact mU p0 p1 p2 hq he
  ·exact mT p0 p1 p2 r hq he (xX p0.Rules p2 r h)
 rw [if_neg k3] at h3
 by_cases k4 : (p0.Fields.getD p1.toNat bq).Kind = 4
 ·rw [if_pos k4] at h3
  have hq := rA p0 p1 hc h0 h1 k4
  rcases aD h3 with ⟨he, h⟩ | ⟨he, h⟩
  ·obtain rfl := am h
   exact mU p0 p1 p2 hq he
  ·exact mT p0 p1 p2 r hq he (tp p0.Rules p2 r h)
 rw [if_neg k4] at h3
 cases h3
noncomputable def jn (p0 : aK) (p1 : Int) (p2 : ByteArray) : Option Bool := (dz p0).bind fun e => if (e = 0 ∧ 0 ≤ p1 ∧ p1 < (p0.Fields.length : Int)) then (if (p0.Fields.getD p1.toNat bq).Kind = 1 then (if (p2.toList == (mk #[]).toList) then some true else qJ p0.Rules p2) else if (p0.Fields.getD p1.toNat bq).Kind = 2 then (if (p2.toList == (mk #[]).toList) then some true else pr p0.Rules p2) else if (p0.Fields.getD p1.toNat bq).Kind = 3 then (if (p2.toList == (mk #[]).toList) then some true else pt p0.Rules p2) else if (p0.Fields.getD p1.toNat bq).Kind = 4 then (if (p2.toList == (mk #[]).toList) then some true else pV p0.Rules p2) else none) else none
theorem tL (p0 : aK) (p1 : Int) (p2 : ByteArray) (r : Bool) (h : jn p0 p1 p2 = some r) : CT 121 [.agg (aJ p0), af p1, vs p2] [] (vb r) [] := by
 unfold jn at h
 obtain ⟨e, hc, h2⟩ := Option.bind_eq_some_iff.1 h
 obtain ⟨⟨e0, h0, h1⟩, h3⟩ := aN h2
 subst e0
 clear h h2
 by_cases k1 : (p0.Fields.getD p1.toNat bq).Kind = 1
 ·rw [if_pos k1] at h3
  have hq := ru p0 p1 hc h0 h1 k1
  rcases aD h3 with ⟨he, h⟩ | ⟨he, h⟩
  ·obtain rfl := am h
   exact mW p0 p1 p2 hq he
  ·exact mV p0 p1 p2 r hq he (yQ p0.Rules p2 r h)
 rw [if_neg k1] at h3
 by_cases k2 : (p0.Fields.getD p1.toNat bq).Kind = 2
 ·rw [if_pos k2] at h3
  have hq := ry p0 p1 hc h0 h1 k2
  rcases aD h3 with ⟨he, h⟩ | ⟨he, h⟩
  ·obtain rfl := am h
   exact mW p0 p1 p2 hq he
  ·exact mV p0 p1 p2 r hq he (xY p0.Rules p2 r h)
 rw [if_neg k2] at h3
 by_cases k3 : (p0.Fields.getD p1.toNat bq).Kind = 3
 ·rw [if_pos k3] at h3
  have hq := rz p0 p1 hc h0 h1 k3
  rcases aD h3 with ⟨he, h⟩ | ⟨he, h⟩
  ·obtain rfl := am h
   exact mW p0 p1 p2 hq he
  ·exact mV p0 p1 p2 r hq he (xZ p0.Rules p2 r h)
 rw [if_neg k3] at h3
 by_cases k4 : (p0.Fields.getD p1.toNat bq).Kind = 4
 ·rw [if_pos k4] at h3
  have hq := rA p0 p1 hc h0 h1 k4
  rcases aD h3 with ⟨he, h⟩ | ⟨he, h⟩
  ·obtain rfl := am h
   exact mW p0 p1 p2 hq he
  ·exact mV p0 p1 p2 r hq he (yh p0.Rules p2 r h)
 rw [if_neg k4] at h3
 cases h3
theorem mE {w : ByteArray} {a b c : Nat} (p0 : aK) (p1 : Int) (p2 : ByteArray) (r : List ByteArray) (hq : CT 112 [.agg (aJ p0), af p1] [] (.tup [.agg (kE w a b c), af 0]) []) (he : (p2.toList == (mk #[]).toList) = false) (hN : jn p0 p1 p2 = some true) (h : cz Tryz.prog c [vs p2] [] (.c (.ref 0 1 0 r.length)) [(0, .row 9 false 1 r.length (Rs r))]) : CT 122 [.agg (aJ p0), af p1, vs p2] [] (.tup [.c (.ref 0 1 0 r.length), af 0]) [(0, .row 9 false 1 r.length (Rs r))] := by
 refine an ae 0 Tryz.func122 rfl (fun _ _ _ => ?_)
 refine Fs ae [(3, pX 0 4)] [0] [(0, .box 33 (aJ p0))] 3 [] ?_
 refine Fs ae [(8, pX 8 4), (9, af 0)] [8] [(8, .box 194 (kE w a b c))] 11 [hn, hn, hl [] [] 0 hq] (seq (block ?_))
 refine ah ae [(16, vb false)] 14 ?_
 refine cond (b := false) (by kernel_rfl) (fun e => by cases e) (fun _ => ?_)
 refine ay ae [(20, vb false)] 19 [hn, hn, hn, hl [] [] 0 (tL p0 p1 p2 true hN)] ?_
 refine cond (b := false) (by kernel_rfl) (fun e => by cases e) (fun _ => ?_)
 refine ay ae [(26, vb false)] 22 [hn, hf he] ?_
 refine cond (b := false) (by kernel_rfl) (fun e => by cases e) (fun _ => skip (Fj (Fp ?_)))
 refine Fs ae [(6, rX 25 1 r.length), (7, af 0)] [25] [(25, .row 9 false 1 r.length (Rs r))] 28 [hn, hn, hn, hl [] [] 1 h] (ret ?_)
 exact aW (.inr rfl) [(0, 25)] 1 (.tup [.c (.ref 25 1 0 r.length), af 0])
noncomputable def qw (p0 : aK) (p1 : Int) (p2 : ByteArray) : Option (List ByteArray × Int) := (dz p0).bind fun e => if (e = 0 ∧ 0 ≤ p1 ∧ p1 < (p0.Fields.length : Int) ∧ jn p0 p1 p2 = some true) then (if (p0.Fields.getD p1.toNat bq).Kind = 1 then (if (p2.toList == (mk #[]).toList) then none else (ms p2).bind fun g => some (g, 0)) else if (p0.Fields.getD p1.toNat bq).Kind = 2 then (if (p2.toList == (mk #[]).toList) then none else (pu p2).bind fun g => some (g, 0)) else if (p0.Fields.getD p1.toNat bq).Kind = 3 then (if (p2.toList == (mk #[]).toList) then none else (pw p2).bind fun g => some (g, 0)) else if (p0.Fields.getD p1.toNat bq).Kind = 4 then (if (p2.toList == (mk #[]).toList) then none else (ms p2).bind fun g => some (g, 0)) else none) else none
theorem yG (p0 : aK) (p1 : Int) (p2 : ByteArray) (r : (List ByteArray × Int)) (h : qw p0 p1 p2 = some r) : CT 122 [.agg (aJ p0), af p1, vs p2] [] (.tup [.c (.ref 0 1 0 r.1.length), af r.2]) [(0, .row 9 false 1 r.1.length (Rs r.1))] := by
 unfold qw at h
 obtain ⟨e, hc, h2⟩ := Option.bind_eq_some_iff.1 h
 obtain ⟨⟨e0, h0, h1, hN⟩, h3⟩ := aN h2
 subst e0
 clear h h2
 by_cases k1 : (p0.Fields.getD p1.toNat bq).Kind = 1
 ·rw [if_pos k1] at h3
  have hq := ru p0 p1 hc h0 h1 k1
  rcases aD h3 with ⟨he, h⟩ | ⟨he, h⟩
  ·cases h
  ·obtain ⟨g, hg, h⟩ := Option.bind_eq_some_iff.1 h
   obtain rfl := am h
   exact mE p0 p1 p2 g hq he hN (uk p2 g hg)
 rw [if_neg k1] at h3
 by_cases k2 : (p0.Fields.getD p1.toNat bq).Kind = 2
 ·rw [if_pos k2] at h3
  have hq := ry p0 p1 hc h0 h1 k2
  rcases aD h3 with ⟨he, h⟩ | ⟨he, h⟩
  ·cases h
  ·obtain ⟨g, hg, h⟩ := Option.bind_eq_some_iff.1 h
   obtain rfl := am h
   exact mE p0 p1 p2 g hq he hN (ya p2 g hg)
 rw [if_neg k2] at h3
 by_cases k3 : (p0.Fields.getD p1.toNat bq).Kind = 3
 ·rw [if_pos k3] at h3
  have hq := rz p0 p1 hc h0 h1 k3
  rcases aD h3 with ⟨he, h⟩ | ⟨he, h⟩
  ·cases h
  ·obtain ⟨g, hg, h⟩ := Option.bind_eq_some_iff.1 h
   obtain rfl := am h
   exact mE p0 p1 p2 g hq he hN (yb p2 g hg)
 rw [if_neg k3] at h3
 by_cases k4 : (p0.Fields.getD p1.toNat bq).Kind = 4
 ·rw [if_pos k4] at h3
  have hq := rA p0 p1 hc h0 h1 k4
  rcases aD h3 with ⟨he, h⟩ | ⟨he, h⟩
  ·cases h
  ·obtain ⟨g, hg, h⟩ := Option.bind_eq_some_iff.1 h
   obtain rfl := am h
   exact mE p0 p1 p2 g hq he hN (uk p2 g hg)
 rw [if_neg k4] at h3
 cases h3
structure aB where
 ID : Int
 Version : Int
 Values : List ByteArray
def bg : aB := ⟨0, 0, ([] : aj)⟩
instance : Inhabited aB := ⟨bg⟩
noncomputable def Jf (p0 : aK) (p3 : List ByteArray) (x12 : Int) (x13 : List ByteArray) : Option ((Int × (List ByteArray)) ⊕ ((List ByteArray) ⊕ Int)) := if (decide (x12 < (p3.length : Int))) then (if 0 ≤ x12 then (if x12 < (p3.length : Int) then (aM (o9 p0 x12 (p3.getD x12.toNat mt)) fun y19 y20 => (if (y20 != 0) then (some (.inr (.inr y20))) else (if x12 < (x13.length : Int) then (some (.inl (i64.wrap (x12 + 1), (x13.set (0 + x12.toNat) y19)))) else none))) else none) else none) else (some (.inr (.inl x13)))
noncomputable def ul (p1 : Int) (p2 : Int) (x24 : List ByteArray) : Option (aB × Int) := some ((⟨p1, p2, x24⟩ : aB), 0)
noncomputable def um (x25 : Int) : Option (aB × Int) := some ((⟨0, 0, ([] : aj)⟩ : aB), x25)
noncomputable def gC (p0 : aK) (p1 : Int) (p2 : Int) (p3 : List ByteArray) : Option (aB × Int) := (dz p0).bind fun y1 => (if (y1 != 0) then (some ((⟨0, 0, ([] : aj)⟩ : aB), y1)) else (if ((p3.length : Int) != (p0.Fields.length : Int)) then (some ((⟨0, 0, ([] : aj)⟩ : aB), 8)) else ((lf p1 p2).bind fun y5 => (if (!y5) then (some ((⟨0, 0, ([] : aj)⟩ : aB), 7)) else (if 0 ≤ (p3.length : Int) then (if (p3.length : Int) ≤ 1099511627776 then (ca (loop (fun v : Int × (List ByteArray) => Jf p0 p3 v.1 v.2) (0, (List.replicate ((p3.length : Int).toNat) (mt : ByteArray)))) (fun t => ul p1 p2 t) (fun t => um t)) else none) else none)))))
theorem lg (p0 : aK) (p1 : Int) (p2 : Int) (p3 : List ByteArray) (r : aB × Int) (h : gC p0 p1 p2 p3 = some r) : CT 27 [.agg (aJ p0), af p1, af p2, vl 1 Rs p3] [] (.tup [.agg [ag r.1.ID, ag r.1.Version, .ref 0 1 0 r.1.Values.length], af r.2]) [(0, .row 9 false 1 r.1.Values.length (Rs r.1.Values))] := by
 refine an ae 0 Tryz.func27 rfl (fun _ _ _ => ?_)
 unfold gC at h
 refine Fs ae [(8, pX 1 3), (4, pX 0 4)] [0, 1] [(1, .box 53 [ag 0, ag 0, ax]), (0, .box 33 (aJ p0))] 3 [] (seq ?_)
 obtain ⟨y1, e2, h⟩ := ak h
 refine ay ae [(10, af y1)] 5 [hn, hk (Hr p0 y1 e2)] ?_
 refine ah ae [(19, vb (y1 != 0))] 7 ?_
 refine Fw h (fun c3 h => ?_) (fun c3 h => ?_)
 ·refine Fs ae [(9, af y1)] [1] [(1, .box 53 [ag 0, ag 0, ax])] 11 [] (ret (Fo ?_))
  obtain rfl := am h
  exact cB (.inr rfl) [(0, 11)] 1 (.tup [.agg [ag 0, ag 0, .ref 11 1 0 (([] : aj).length)], af y1]) (cX (id := 1) (ty0 := 53) (cs := [ag 0, ag 0, ax]) 2 (ty := 9) (sz := 1) (n := ([] : aj).length) (f := Rs ([] : aj)) (by kernel_rfl) (by kernel_rfl) rfl)
 ·refine skip (Fp ?_)
  refine seq (block ?_)
  refine ah ae [(22, vb ((p3.length : Int) != (p0.Fields.length : Int)))] 14 ?_
  refine Fw h (fun c4 h => ?_) (fun c4 h => ?_)
  ·refine Fs ae [(9, af 8)] [1] [(1, .box 53 [ag 0, ag 0, ax])] 17 [] (ret (Fi (Fo ?_)))
   obtain rfl := am h
   exact cB (.inr rfl) [(0, 17)] 1 (.tup [.agg [ag 0, ag 0, .ref 17 1 0 (([] : aj).length)], af 8]) (cX (id := 1) (ty0 := 53) (cs := [ag 0, ag 0, ax]) 2 (ty := 9) (sz := 1) (n := ([] : aj).length) (f := Rs ([] : aj)) (by kernel_rfl) (by kernel_rfl) rfl)
  ·obtain ⟨y5, e6, h⟩ := ak h
   refine ay ae [(30, vb (!y5))] 18 [hn, hn, hk (oG p1 p2 y5 e6)] ?_
   refine Fw h (fun c7 h => ?_) (fun c7 h => ?_)
   ·refine Fs ae [(9, af 7)] [1] [(1, .box 53 [ag 0, ag 0, ax])] 21 [] (ret (Fi (Fo ?_)))
    obtain rfl := am h
    exact cB (.inr rfl) [(0, 21)] 1 (.tup [.agg [ag 0, ag 0, .ref 21 1 0 (([] : aj).length)], af 7]) (cX (id := 1) (ty0 := 53) (cs := [ag 0, ag 0, ax]) 2 (ty := 9) (sz := 1) (n := ([] : aj).length) (f := Rs ([] : aj)) (by kernel_rfl) (by kernel_rfl) rfl)
   ·refine skip (Fj (Fp ?_))
    obtain ⟨g8, g9, h⟩ := aG h
    refine Fs ae [(11, pX 24 3)] [22, 24] [(24, .box 53 [ag p1, ag p2, .ref 22 1 0 ((List.replicate ((p3.length : Int).toNat) (mt : ByteArray)).length)]), (22, .row 9 false 1 (List.replicate ((p3.length : Int).toNat) (mt : ByteArray)).length (Rs (List.replicate ((p3.length : Int).toNat) (mt : ByteArray))))] 26 [hn, hn, hn, hn, j9 mt Es 1 16 [.string ⟨#[]⟩] rfl rfl (p3.length : Int) (p3.length : Int) g8 (Int.le_refl _) g9 (by decide)] (seq ?_)
    refine ah ae [(44, af 0), (43, af (p3.length : Int)), (42, vl 1 Rs p3)] 29 (block ?_)
    refine FA h (fun v => ⟨[(4, pX 0 4), (8, pX 1 3), (11, pX 2 3), (42, vl 1 Rs p3), (43, af (p3.length : Int)), (44, af v.1)], [(0, .box 33 (aJ p0)), (1, .box 53 [ag 0, ag 0, ax]), (2, .box 53 [ag p1, ag p2, .ref 3 1 0 v.2.length]), (3, .row 9 false 1 v.2.length (Rs v.2))], 4⟩) (fun t => (.exit 1, ⟨[(8, pX 0 3), (11, pX 1 3)], [(0, .box 53 [ag 0, ag 0, ax]), (1, .box 53 [ag p1, ag p2, .ref 2 1 0 t.length]), (2, .row 9 false 1 t.length (Rs t))], 3⟩)) (fun t => (.ret, ⟨[(8, pX 0 3), (9, af t)], [(0, .box 53 [ag 0, ag 0, ax])], 1⟩)) (ai [(0, 0), (1, 1), (2, 24), (3, 22)]) (fun _ => tv) (fun _ => tv) ?_ (fun x24 h => ?_) (fun x25 h => ?_)
    ·clear h
     intro v o h
     obtain ⟨x12, x13⟩ := v
     replace h : Jf p0 p3 x12 x13 = some o := h
     unfold Jf at h
     refine ah ae [(45, vb (decide (x12 < (p3.length : Int))))] 5 (seq ?_)
     refine Fw h (fun c16 h => ?_) (fun c16 h => ?_)
     ·refine skip (Fp ?_)
      refine seq (block ?_)
      obtain ⟨g17, g18, h⟩ := aG h
      refine ay ae [(13, vs (p3.getD x12.toNat mt)), (12, af x12)] 10 [hn, hq g17 g18] ?_
      obtain ⟨y19, y20, e21, h⟩ := aO h
      refine ay ae [(15, af y20), (14, vs y19)] 18 [hn, hn, hn, hk (xR p0 x12 (p3.getD x12.toNat mt) (y19, y20) e21)] (seq ?_)
      refine ah ae [(57, vb (y20 != 0))] 20 ?_
      refine Fw h (fun c22 h => ?_) (fun c22 h => ?_)
      ·refine Fs ae [(9, af y20)] [1] [(1, .box 53 [ag 0, ag 0, ax])] 24 [] (ret (Fo ?_))
       refine Fi (Fo ?_)
       exact aU h rfl (ai [(0, 1)])
      ·refine skip (Fp ?_)
       obtain ⟨g23, h⟩ := aN h
       refine AW.rg ae [] [3] [(3, .row 9 false 1 x13.length (Rs (x13.set (0 + x12.toNat) y19)))] 26 [hn, hn, hn, hn, hq g17 g23, hset mt Es x13 (0 + x12.toNat) y19 (n := x13.length) (by have h1 : 0 ≤ x12 := g17; have h2 : x12 < (x13.length : Int) := g23; omega) rfl] ?_
       refine Fj (Fp ?_)
       refine aS ae [(44, af (i64.wrap (x12 + 1)))] 28 ?_
       exact bu h (Conv.trans (ai (S' := ⟨[(44, af (i64.wrap (x12 + 1))), (4, pX 0 4), (8, pX 1 3), (11, pX 2 3), (42, vl 1 Rs p3), (43, af (p3.length : Int))], [(3, .row 9 false 1 x13.length (Rs (x13.set (0 + x12.toNat) y19))), (0, .box 33 (aJ p0)), (1, .box 53 [ag 0, ag 0, ax]), (2, .box 53 [ag p1, ag p2, .ref 3 1 0 x13.length])], 28⟩) [(3, 3), (0, 0), (1, 1), (2, 2)] (by kernel_rfl)) (Conv.trans (rM (S' := ⟨[(44, af (i64.wrap (x12 + 1))), (4, pX 0 4), (8, pX 1 3), (11, pX 2 3), (42, vl 1 Rs p3), (43, af (p3.length : Int))], [(3, .row 9 false 1 (x13.set (0 + x12.toNat) y19).length (Rs (x13.set (0 + x12.toNat) y19))), (0, .box 33 (aJ p0)), (1, .box 53 [ag 0, ag 0, ax]), (2, .box 53 [ag p1, ag p2, .ref 3 1 0 ((x13.set (0 + x12.toNat) y19).length)])], 28⟩) (by simp only [Gd])) (ai [(0, 0), (1, 1), (2, 2), (3, 3)])))
     ·refine exit (Fb ?_)
      exact aU h rfl (ai [(0, 1), (1, 2), (2, 3)])
    ·unfold ul at h
     show (_ : Exit → St → Prop) (.exit 1) _
     refine E6 (Fp ?_)
     refine Fs ae [(9, af 0)] [0] [(0, .box 53 [ag p1, ag p2, .ref 2 1 0 x24.length])] 6 [] (ret ?_)
     obtain rfl := am h
     exact aW (.inr rfl) [(0, 2)] 1 (.tup [.agg [ag p1, ag p2, .ref 2 1 0 x24.length], af 0])
    ·unfold um at h
     show (_ : Exit → St → Prop) (.ret) _
     refine Fi (Fo ?_)
     obtain rfl := am h
     exact cB (.inr rfl) [(0, 1)] 1 (.tup [.agg [ag 0, ag 0, .ref 1 1 0 (([] : aj).length)], af x25]) (cX (id := 0) (ty0 := 53) (cs := [ag 0, ag 0, ax]) 2 (ty := 9) (sz := 1) (n := ([] : aj).length) (f := Rs ([] : aj)) (by kernel_rfl) (by kernel_rfl) rfl)
structure hJ where
 A : Int
 B : Int
def Az : hJ := ⟨0, 0⟩
instance : Inhabited hJ := ⟨Az⟩
noncomputable def iY (x1 : Bool) : Option Bool := some x1
noncomputable def PO (p0 : Int) : Option Bool := if (decide (p0 ≥ 64)) then (if (decide (p0 ≤ 512)) then (iY ((p0.tmod 64) == 0)) else (iY false)) else (iY false)
theorem pa (p0 : Int) (r : Bool) (h : PO p0 = some r) : CT 159 [af p0] [] (vb r) [] := by
 refine an ae 0 Tryz.func159 rfl (fun _ _ _ => ?_)
 unfold PO at h
 refine ah ae [] 1 (seq ?_)
 refine AW.join (ι := Bool) (fun v => ⟨[(2, vb v)], [], 0⟩) (fun v : Bool => iY v = some r) (fun x1 h => ?_) ?_
 ·unfold iY at h
  refine Fp (ret ?_)
  apply al h (vb x1)
 ·rcases aD h with ⟨c2, h⟩ | ⟨c2, h⟩
  ·rcases aD h with ⟨c3, h⟩ | ⟨c3, h⟩
   ·refine au ae [(2, vb ((p0.tmod 64) == 0))] 13 [hn, ht c2, hn, hn, ht c3, hn, hn, hn, ho (p := (64 : Int) ≠ 0) (by decide)] ?_
    exact jl ((p0.tmod 64) == 0) h
   ·refine au ae [(2, vb false)] 13 [hn, ht c2, hn, hn, hf c3] ?_
    exact jl false h
  ·refine au ae [(2, vb false)] 13 [hn, hf c2] ?_
   exact jl false h
def im (x : Int) : List T := [.v (.int .u64 x)]
def bc (xs : List Int) : Nat → Nat → T := be 0 im xs
theorem io : ∀ x, d8 (im x) := fun _ => ⟨tv, tv⟩
structure aP where
 Length : Int
 Words : List Int
def GM : aP := ⟨0, ([] : List Int)⟩
instance : Inhabited aP := ⟨GM⟩
noncomputable def mu (p0 : Int) : Option (aP × Int) := (PO p0).bind fun y1 => (if (!y1) then (some ((⟨0, ([] : List Int)⟩ : aP), 2)) else (if 0 ≤ (i64.wrap (p0.tdiv 64)) then (if (i64.wrap (p0.tdiv 64)) ≤ 1099511627776 then (some ((⟨p0, (List.replicate ((i64.wrap (p0.tdiv 64)).toNat) (0 : Int))⟩ : aP), 0)) else none) else none))
theorem un (p0 : Int) (r : aP × Int) (h : mu p0 = some r) : CT 120 [af p0] [] (.tup [.agg [ag r.1.Length, .ref 0 1 0 r.1.Words.length], af r.2]) [(0, .row 37 false 1 r.1.Words.length (bc r.1.Words))] := by
 refine an ae 0 Tryz.func120 rfl (fun _ _ _ => ?_)
 unfold mu at h
 refine Fs ae [(2, pX 0 2)] [0] [(0, .box 126 [ag 0, ax])] 2 [] (seq ?_)
 obtain ⟨y1, e2, h⟩ := ak h
 refine ay ae [(6, vb (!y1))] 4 [hn, hk (pa p0 y1 e2)] ?_
 refine Fw h (fun c3 h => ?_) (fun c3 h => ?_)
 ·refine Fs ae [(3, af 2)] [0] [(0, .box 126 [ag 0, ax])] 7 [] (ret (Fo ?_))
  obtain rfl := am h
  exact cB (.inr rfl) [(0, 7)] 1 (.tup [.agg [ag 0, .ref 7 1 0 (([] : List Int).length)], af 2]) (cX (id := 0) (ty0 := 126) (cs := [ag 0, ax]) 1 (ty := 37) (sz := 1) (n := ([] : List Int).length) (f := bc ([] : List Int)) (by kernel_rfl) (by kernel_rfl) rfl)
 ·refine skip (Fp ?_)
  obtain ⟨g4, g5, h⟩ := aG h
  refine Fs ae [(3, af 0)] [0, 7] [(0, .box 126 [ag p0, .ref 7 1 0 ((List.replicate ((i64.wrap (p0.tdiv 64)).toNat) (0 : Int)).length)]), (7, .row 37 false 1 (List.replicate ((i64.wrap (p0.tdiv 64)).toNat) (0 : Int)).length (bc (List.replicate ((i64.wrap (p0.tdiv 64)).toNat) (0 : Int))))] 11 [hn, hn, ho (p := (64 : Int) ≠ 0) (by decide), j9 0 im 1 8 [.int .u64 0] rfl rfl (i64.wrap (p0.tdiv 64)) (i64.wrap (p0.tdiv 64)) g4 (Int.le_refl _) g5 (by decide)] (ret ?_)
  obtain rfl := am h
  exact aW (.inr rfl) [(0, 7)] 1 (.tup [.agg [ag p0, .ref 7 1 0 ((List.replicate ((i64.wrap (p0.tdiv 64)).toNat) (0 : Int)).length)], af 0])
noncomputable def Iq (x5 : Bool) : Option Int := if x5 then (some 10) else (some 0)
noncomputable def jv (p0 : aC) : Option Int := aM (mu p0.Length) fun y1 y2 => (if (y2 != 0) then (some 10) else (if (decide (p0.Hashes < 1)) then (Iq true) else (if (decide (p0.Hashes > 16)) then (Iq true) else (if (decide (p0.Salt < (-1))) then (Iq true) else (Iq (decide (p0.Salt ≥ 5)))))))
theorem iZ (p0 : aC) (r : Int) (h : jv p0 = some r) : CT 78 [.agg [ag p0.Length, ag p0.Hashes, ag p0.Salt]] [] (af r) [] := by
 refine an ae 0 Tryz.func78 rfl (fun _ _ _ => ?_)
 unfold jv at h
 refine Fs ae [(1, pX 0 3)] [0] [(0, .box 84 [ag p0.Length, ag p0.Hashes, ag p0.Salt])] 2 [] (seq ?_)
 obtain ⟨y1, y2, e3, h⟩ := aO h
 refine Fs ae [(4, af y2)] [4, 8] [] 11 [hn, hn, hm [] [] 1 (un p0.Length (y1, y2) e3) ⟨bV io _ _ _, tv⟩] ?_
 refine ah ae [(12, vb (y2 != 0))] 13 ?_
 refine Fw h (fun c4 h => ?_) (fun c4 h => ?_)
 ·refine ah ae [(2, af 10)] 14 (ret (Fo ?_))
  apply al h (af 10)
 ·refine skip (Fp ?_)
  refine seq (seq ?_)
  refine AW.join (ι := Bool) (fun v => ⟨[(30, vb v)], [], 0⟩) (fun v : Bool => Iq v = some r) (fun x5 h => ?_) ?_
  ·unfold Iq at h
   refine Fp ?_
   refine Fw h (fun c6 h => ?_) (fun c6 h => ?_)
   ·refine ah ae [(2, af 10)] 1 (ret (Fo ?_))
    apply al h (af 10)
   ·refine skip (Fp ?_)
    refine ah ae [(2, af 0)] 1 (ret ?_)
    apply al h (af 0)
  ·rcases aD h with ⟨c7, h⟩ | ⟨c7, h⟩
   ·refine au ae [(30, vb true)] 31 [hn, hn, ht c7] ?_
    exact jl true h
   ·rcases aD h with ⟨c8, h⟩ | ⟨c8, h⟩
    ·refine au ae [(30, vb true)] 31 [hn, hn, hf c7, hn, hn, hn, ht c8] ?_
     exact jl true h
    ·rcases aD h with ⟨c9, h⟩ | ⟨c9, h⟩
     ·refine au ae [(30, vb true)] 31 [hn, hn, hf c7, hn, hn, hn, hf c8, hn, hn, hn, hn, ht c9] ?_
      exact jl true h
     ·refine au ae [(30, vb (decide (p0.Salt ≥ 5)))] 31 [hn, hn, hf c7, hn, hn, hn, hf c8, hn, hn, hn, hn, hf c9] ?_
      exact jl (decide (p0.Salt ≥ 5)) h
noncomputable def ja (x6 : Int) (x10 : Bool) : Option (Int ⊕ (Unit ⊕ Unit)) := if x10 then (some (.inr (.inr ()))) else (some (.inl (i64.wrap (x6 + 1))))
noncomputable def ub (p1 : List aC) (x6 : Int) : Option (Int ⊕ (Unit ⊕ Unit)) := if (decide (x6 < (p1.length : Int))) then (if 0 ≤ x6 then (if x6 < (p1.length : Int) then ((jv (p1.getD x6.toNat cH)).bind fun y12 => (if (y12 != 0) then (ja x6 true) else (if (decide (((p1.getD x6.toNat cH).Salt) ≥ (p1.length : Int))) then (ja x6 true) else (ja x6 (((p1.getD x6.toNat cH).Salt) == x6))))) else none) else none) else (some (.inr (.inl ())))
noncomputable def py : Option Int := some 0
noncomputable def pz : Option Int := some 10
noncomputable def qx (p0 : aK) (p1 : List aC) : Option Int := (dz p0).bind fun y1 => (if (y1 != 0) then (some y1) else (if ((p1.length : Int) != (p0.Fields.length : Int)) then (some 8) else (ca (loop (fun v : Int => ub p1 v) 0) (fun t => py) (fun t => pz))))
theorem yH (p0 : aK) (p1 : List aC) (r : Int) (h : qx p0 p1 = some r) : CT 36 [.agg (aJ p0), vl 3 cC p1] [] (af r) [] := by
 refine an ae 0 Tryz.func36 rfl (fun _ _ _ => ?_)
 unfold qx at h
 refine Fs ae [(2, pX 0 4)] [0] [(0, .box 33 (aJ p0))] 2 [] (seq ?_)
 obtain ⟨y1, e2, h⟩ := ak h
 refine ay ae [(5, af y1)] 4 [hn, hk (Hr p0 y1 e2)] ?_
 refine ah ae [(11, vb (y1 != 0))] 6 ?_
 refine Fw h (fun c3 h => ?_) (fun c3 h => ?_)
 ·refine ah ae [(4, af y1)] 8 (ret (Fo ?_))
  apply al h (af y1)
 ·refine skip (Fp (seq ?_))
  refine ah ae [(18, vb ((p1.length : Int) != (p0.Fields.length : Int)))] 12 ?_
  refine Fw h (fun c4 h => ?_) (fun c4 h => ?_)
  ·refine ah ae [(4, af 8)] 13 (ret (Fo ?_))
   apply al h (af 8)
  ·refine skip (Fp (seq ?_))
   refine ah ae [(21, af 0), (20, af (p1.length : Int)), (19, vl 3 cC p1)] 15 (block ?_)
   refine FA h (fun v => ⟨[(1, vl 3 cC p1), (19, vl 3 cC p1), (20, af (p1.length : Int)), (21, af v)], [], 0⟩) (fun t => (.exit 0, ⟨[], [], 0⟩)) (fun t => (.ret, ⟨[(4, af 10)], [], 0⟩)) (ai []) (fun _ => tv) (fun _ => tv) ?_ (fun t h => ?_) (fun t h => ?_)
   ·clear h
    intro x6 o h
    unfold ub at h
    refine ah ae [(22, vb (decide (x6 < (p1.length : Int))))] 1 (seq ?_)
    refine Fw h (fun c7 h => ?_) (fun c7 h => ?_)
    ·refine skip (Fp ?_)
     refine seq (block ?_)
     obtain ⟨g8, g9, h⟩ := aG h
     refine Fs ae [(6, af x6), (7, pX 4 3)] [4] [(4, .box 84 [ag ((p1.getD x6.toNat cH).Length), ag ((p1.getD x6.toNat cH).Hashes), ag ((p1.getD x6.toNat cH).Salt)])] 7 [hn, hq g8 g9] (seq ?_)
     refine AW.join (ι := Bool) (fun v => ⟨[(1, vl 3 cC p1), (19, vl 3 cC p1), (20, af (p1.length : Int)), (21, af x6), (41, vb v)], [], 0⟩) (fun v : Bool => ja x6 v = some o) (fun x10 h => ?_) ?_
     ·unfold ja at h
      refine Fp ?_
      refine Fw h (fun c11 h => ?_) (fun c11 h => ?_)
      ·refine ah ae [(4, af 10)] 1 (ret (Fi (Fo ?_)))
       exact aU h rfl (ai [])
      ·refine skip (Fj (Fp ?_))
       refine aS ae [(21, af (i64.wrap (x6 + 1)))] 2 ?_
       exact bu h (ai [])
     ·obtain ⟨y12, e13, h⟩ := ak h
      rcases aD h with ⟨c14, h⟩ | ⟨c14, h⟩
      ·refine au ae [(41, vb true)] 22 [hn, hk (iZ (p1.getD x6.toNat cH) y12 e13), ht c14] ?_
       exact jl true h
      ·rcases aD h with ⟨c15, h⟩ | ⟨c15, h⟩
       ·refine au ae [(41, vb true)] 22 [hn, hk (iZ (p1.getD x6.toNat cH) y12 e13), hf c14, hn, hn, hn, hn, hn, ht c15] ?_
        exact jl true h
       ·refine au ae [(41, vb (((p1.getD x6.toNat cH).Salt) == x6))] 22 [hn, hk (iZ (p1.getD x6.toNat cH) y12 e13), hf c14, hn, hn, hn, hn, hn, hf c15] ?_
        exact jl (((p1.getD x6.toNat cH).Salt) == x6) h (ai [])
    ·refine exit (Fb ?_)
     exact aU h rfl (ai [])
   ·replace h : py = some r := h
    unfold py at h
    show (_ : Exit → St → Prop) (.exit 0) _
    refine E6 (Fp ?_)
    refine ah ae [(4, af 0)] 1 (ret ?_)
    apply al h (af 0)
   ·replace h : pz = some r := h
    unfold pz at h
    show (_ : Exit → St → Prop) (.ret) _
    refine Fi (Fo ?_)
    apply al h (af 10)
noncomputable def uc (p0 : aK) (p1 : aB) (x4 : Int) : Option (Int ⊕ (Unit ⊕ Unit)) := if (decide (x4 < (p1.Values.length : Int))) then (if 0 ≤ x4 then (if x4 < (p1.Values.length : Int) then ((jn p0 x4 (p1.Values.getD x4.toNat mt)).bind fun y8 => (if (!y8) then (some (.inr (.inr ()))) else (some (.inl (i64.wrap (x4 + 1)))))) else none) else none) else (some (.inr (.inl ())))
noncomputable def pA : Option Int := some 0
noncomputable def pB : Option Int := some 7
noncomputable def lh (p0 : aK) (p1 : aB) (x1 : Bool) : Option Int := if x1 then (some 7) else (ca (loop (fun v : Int => uc p0 p1 v) 0) (fun t => pA) (fun t => pB))
noncomputable def PS (p0 : aK) (p1 : aB) : Option Int := (lf p1.ID p1.Version).bind fun y12 => (if (!y12) then (lh p0 p1 true) else (lh p0 p1 ((p1.Values.length : Int) != (p0.Fields.length : Int))))
abbrev bL (x : aB) : List C := [ag x.ID, ag x.Version, cl 1 Rs x.Values]
theorem tY (p0 : aK) (p1 : aB) (r : Int) (h : PS p0 p1 = some r) : CT 79 [.agg (aJ p0), .agg (bL p1)] [] (af r) [] := by
 refine an ae 0 Tryz.func79 rfl (fun _ _ _ => ?_)
 unfold PS at h
 refine Fs ae [(3, pX 1 3), (2, pX 0 4)] [0, 1] [(1, .box 53 (bL p1)), (0, .box 33 (aJ p0))] 3 [] (seq (seq ?_))
 refine AW.join (ι := Bool) (fun v => ⟨[(2, pX 0 4), (3, pX 1 3), (21, vb v)], [(0, .box 33 (aJ p0)), (1, .box 53 (bL p1))], 2⟩) (fun v : Bool => lh p0 p1 v = some r) (fun x1 h => ?_) ?_
 ·unfold lh at h
  refine Fp ?_
  refine Fw h (fun c2 h => ?_) (fun c2 h => ?_)
  ·refine ah ae [(4, af 7)] 3 (ret (Fo ?_))
   apply al h (af 7)
  ·refine skip (Fp (seq ?_))
   refine ah ae [(25, af 0), (24, af (p1.Values.length : Int)), (23, vl 1 Rs p1.Values)] 6 (block ?_)
   refine FA h (fun v => ⟨[(2, pX 0 4), (23, vl 1 Rs p1.Values), (24, af (p1.Values.length : Int)), (25, af v)], [(0, .box 33 (aJ p0))], 1⟩) (fun t => (.exit 0, ⟨[], [], 0⟩)) (fun t => (.ret, ⟨[(4, af 7)], [], 0⟩)) (ai [(0, 0)]) (fun _ => tv) (fun _ => tv) ?_ (fun t h => ?_) (fun t h => ?_)
   ·clear h
    intro x4 o h
    unfold uc at h
    refine ah ae [(26, vb (decide (x4 < (p1.Values.length : Int))))] 2 (seq ?_)
    refine Fw h (fun c5 h => ?_) (fun c5 h => ?_)
    ·refine skip (Fp ?_)
     refine seq (block ?_)
     obtain ⟨g6, g7, h⟩ := aG h
     refine ay ae [(6, vs (p1.Values.getD x4.toNat mt)), (5, af x4)] 7 [hn, hq g6 g7] ?_
     obtain ⟨y8, e9, h⟩ := ak h
     refine ay ae [(34, vb (!y8))] 11 [hn, hn, hn, hk (tL p0 x4 (p1.Values.getD x4.toNat mt) y8 e9)] ?_
     refine Fw h (fun c10 h => ?_) (fun c10 h => ?_)
     ·refine ah ae [(4, af 7)] 12 (ret (Fi (Fo ?_)))
      exact aU h rfl (ai [])
     ·refine skip (Fj (Fp ?_))
      refine aS ae [(25, af (i64.wrap (x4 + 1)))] 13 ?_
      exact bu h (ai [(0, 0)])
    ·refine exit (Fb ?_)
     exact aU h rfl (ai [])
   ·replace h : pA = some r := h
    unfold pA at h
    show (_ : Exit → St → Prop) (.exit 0) _
    refine E6 (Fp ?_)
    refine ah ae [(4, af 0)] 1 (ret ?_)
    apply al h (af 0)
   ·replace h : pB = some r := h
    unfold pB at h
    show (_ : Exit → St → Prop) (.ret) _
    refine Fi (Fo ?_)
    apply al h (af 7)
 ·obtain ⟨y12, e13, h⟩ := ak h
  rcases aD h with ⟨c14, h⟩ | ⟨c14, h⟩
  ·refine au ae [(21, vb true)] 17 [hn, hn, hn, hn, hk (oG p1.ID p1.Version y12 e13), ht c14] ?_
   exact jl true h (ai [(0, 0), (1, 1)])
  ·refine au ae [(21, vb ((p1.Values.length : Int) != (p0.Fields.length : Int)))] 17 [hn, hn, hn, hn, hk (oG p1.ID p1.Version y12 e13), hf c14] ?_
   exact jl ((p1.Values.length : Int) != (p0.Fields.length : Int)) h (ai [(0, 0), (1, 1)])
noncomputable def PT (p0 : aK) (p1 : aB) : Option Int := (dz p0).bind fun y1 => (if (y1 != 0) then (some y1) else ((PS p0 p1).bind fun y4 => (some y4)))
theorem tZ (p0 : aK) (p1 : aB) (r : Int) (h : PT p0 p1 = some r) : CT 54 [.agg (aJ p0), .agg (bL p1)] [] (af r) [] := by
 refine an ae 0 Tryz.func54 rfl (fun _ _ _ => ?_)
 unfold PT at h
 refine Fs ae [(3, pX 1 3), (2, pX 0 4)] [0, 1] [(1, .box 53 (bL p1)), (0, .box 33 (aJ p0))] 3 [] (seq ?_)
 obtain ⟨y1, e2, h⟩ := ak h
 refine ay ae [(5, af y1)] 5 [hn, hk (Hr p0 y1 e2)] ?_
 refine ah ae [(9, vb (y1 != 0))] 7 ?_
 refine Fw h (fun c3 h => ?_) (fun c3 h => ?_)
 ·refine ah ae [(4, af y1)] 9 (ret (Fo ?_))
  apply al h (af y1)
 ·refine skip (Fp ?_)
  obtain ⟨y4, e5, h⟩ := ak h
  refine ay ae [(4, af y4)] 10 [hn, hn, hk (tY p0 p1 y4 e5)] (ret ?_)
  apply al h (af y4)
structure gt where
 field : Int
 salted : Bool
 salt : ByteArray
def yu : gt := ⟨0, false, mt⟩
instance : Inhabited gt := ⟨yu⟩
def jY : ByteArray := mk #[48, 48, 48, 49, 48, 50, 48, 51, 48, 52, 48, 53, 48, 54, 48, 55, 48, 56, 48, 57, 49, 48, 49, 49, 49, 50, 49, 51, 49, 52, 49, 53, 49, 54, 49, 55, 49, 56, 49, 57, 50, 48, 50, 49, 50, 50, 50, 51, 50, 52, 50, 53, 50, 54, 50, 55, 50, 56, 50, 57, 51, 48, 51, 49, 51, 50, 51, 51, 51, 52, 51, 53, 51, 54, 51, 55, 51, 56, 51, 57, 52, 48, 52, 49, 52, 50, 52, 51, 52, 52, 52, 53, 52, 54, 52, 55, 52, 56, 52, 57, 53, 48, 53, 49, 53, 50, 53, 51, 53, 52, 53, 53, 53, 54, 53, 55, 53, 56, 53, 57, 54, 48, 54, 49, 54, 50, 54, 51, 54, 52, 54, 53, 54, 54, 54, 55, 54, 56, 54, 57, 55, 48, 55, 49, 55, 50, 55, 51, 55, 52, 55, 53, 55, 54, 55, 55, 55, 56, 55, 57, 56, 48, 56, 49, 56, 50, 56, 51, 56, 52, 56, 53, 56, 54, 56, 55, 56, 56, 56, 57, 57, 48, 57, 49, 57, 50, 57, 51, 57, 52, 57, 53, 57, 54, 57, 55, 57, 56, 57, 57]
noncomputable def qm (p0 : Int) : Option ByteArray := if (decide (p0 < 10)) then (if 0 ≤ p0 then (if 0 ≤ (i64.wrap (p0 + 1)) then (if p0.toNat ≤ ((i64.wrap (p0 + 1)).toNat) then (if ((i64.wrap (p0 + 1)).toNat) ≤ ((mk #[48, 49, 50, 51, 52, 53, 54, 55, 56, 57, 97, 98, 99, 100, 101, 102, 103, 104, 105, 106, 107, 108, 109, 110, 111, 112, 113, 114, 115, 116, 117, 118, 119, 120, 121, 122]).size) then (some ((mk #[48, 49, 50, 51, 52, 53, 54, 55, 56, 57, 97, 98, 99, 100, 101, 102, 103, 104, 105, 106, 107, 108, 109, 110, 111, 112, 113, 114, 115, 116, 117, 118, 119, 120, 121, 122]).extract p0.toNat ((i64.wrap (p0 + 1)).toNat))) else none) else none) else none) else none) else (if 0 ≤ (i64.wrap (p0 * 2)) then (if 0 ≤ (i64.wrap ((i64.wrap (p0 * 2)) + 2)) then (if ((i64.wrap (p0 * 2)).toNat) ≤ ((i64.wrap ((i64.wrap (p0 * 2)) + 2)).toNat) then (if ((i64.wrap ((i64.wrap (p0 * 2)) + 2)).toNat) ≤ jY.size then (some (jY.extract ((i64.wrap (p0 * 2)).toNat) ((i64.wrap ((i64.wrap (p0 * 2)) + 2)).toNat))) else none) else none) else none) else none)
theorem yw (p0 : Int) (r : ByteArray) (h : qm p0 = some r) : CT 221 [af p0] [] (vs r) [] := by
 refine an ae 0 Tryz.func221 rfl (fun _ _ _ => ?_)
 unfold qm at h
 refine ah ae [] 1 (seq ?_)
 refine ah ae [(4, vb (decide (p0 < 10)))] 3 ?_
 refine Fw h (fun c1 h => ?_) (fun c1 h => ?_)
 ·obtain ⟨g2, g3, h⟩ := aG h
  obtain ⟨g4, g5, h⟩ := aG h
  refine ay ae [(2, vs ((mk #[48, 49, 50, 51, 52, 53, 54, 55, 56, 57, 97, 98, 99, 100, 101, 102, 103, 104, 105, 106, 107, 108, 109, 110, 111, 112, 113, 114, 115, 116, 117, 118, 119, 120, 121, 122]).extract p0.toNat ((i64.wrap (p0 + 1)).toNat)))] 8 [hn, hn, hn, ho (p := (0 ≤ p0) ∧ (0 ≤ (i64.wrap (p0 + 1))) ∧ (p0.toNat ≤ ((i64.wrap (p0 + 1)).toNat)) ∧ (((i64.wrap (p0 + 1)).toNat) ≤ ((mk #[48, 49, 50, 51, 52, 53, 54, 55, 56, 57, 97, 98, 99, 100, 101, 102, 103, 104, 105, 106, 107, 108, 109, 110, 111, 112, 113, 114, 115, 116, 117, 118, 119, 120, 121, 122]).size))) (⟨g2, g3, g4, g5⟩)] (ret (Fo ?_))
  apply al h (vs ((mk #[48, 49, 50, 51, 52, 53, 54, 55, 56, 57, 97, 98, 99, 100, 101, 102, 103, 104, 105, 106, 107, 108, 109, 110, 111, 112, 113, 114, 115, 116, 117, 118, 119, 120, 121, 122]).extract p0.toNat ((i64.wrap (p0 + 1)).toNat)))
 ·refine skip (Fp ?_)
  obtain ⟨g6, g7, h⟩ := aG h
  obtain ⟨g8, g9, h⟩ := aG h
  refine ay ae [(2, vs (jY.extract ((i64.wrap (p0 * 2)).toNat) ((i64.wrap ((i64.wrap (p0 * 2)) + 2)).toNat)))] 10 [hn, hn, hn, hn, hn, ho (p := (0 ≤ (i64.wrap (p0 * 2))) ∧ (0 ≤ (i64.wrap ((i64.wrap (p0 * 2)) + 2))) ∧ (((i64.wrap (p0 * 2)).toNat) ≤ ((i64.wrap ((i64.wrap (p0 * 2)) + 2)).toNat)) ∧ (((i64.wrap ((i64.wrap (p0 * 2)) + 2)).toNat) ≤ jY.size)) (⟨g6, g7, g8, g9⟩)] (ret ?_)
  apply al h (vs (jY.extract ((i64.wrap (p0 * 2)).toNat) ((i64.wrap ((i64.wrap (p0 * 2)) + 2)).toNat)))
noncomputable def ky (x6 : Int) : Option ByteArray := none
noncomputable def kz (p0 : Int) (x2 : Bool) : Option ByteArray := if x2 then ((qm p0).bind fun y4 => (some y4)) else (if (decide (p0 < 0)) then (ky (u64.wrap (0 - (u64.wrap p0)))) else (ky (u64.wrap p0)))
noncomputable def oV (p0 : Int) (p1 : Int) : Option ByteArray := if (p1 == 10) then (if (decide ((0 : Int) ≤ p0)) then (kz p0 (decide (p0 < 100))) else (kz p0 false)) else none
theorem xM (p0 : Int) (p1 : Int) (r : ByteArray) (h : oV p0 p1 = some r) : CT 183 [af p0, af p1] [] (vs r) [] := by
 refine an ae 0 Tryz.func183 rfl (fun _ _ _ => ?_)
 unfold oV at h
 refine ah ae [] 1 (seq ?_)
 refine ah ae [(11, vb (p1 == 10))] 3 ?_
 refine Fw h (fun c1 h => ?_) (fun c1 h => ?_)
 ·refine seq (seq ?_)
  refine AW.join (ι := Bool) (fun v => ⟨[(0, af p0), (17, vb v)], [], 0⟩) (fun v : Bool => kz p0 v = some r) (fun x2 h => ?_) ?_
  ·unfold kz at h
   refine Fp ?_
   refine Fw h (fun c3 h => ?_) (fun c3 h => ?_)
   ·obtain ⟨y4, e5, h⟩ := ak h
    refine ay ae [(4, vs y4)] 2 [hn, hk (yw p0 y4 e5)] (ret (Fo (Fo ?_)))
    apply al h (vs y4)
   ·refine skip (Fp ?_)
    refine Fs ae [(5, pX 0 1)] [0] [(0, .row 295 false 1 24 (bf ([0, 0, 0, 0, 0, 0, 0, 0, 0, 0, 0, 0, 0, 0, 0, 0, 0, 0, 0, 0, 0, 0, 0, 0] : List Int)))] 1 [hr 24 (bf ([0, 0, 0, 0, 0, 0, 0, 0, 0, 0, 0, 0, 0, 0, 0, 0, 0, 0, 0, 0, 0, 0, 0, 0] : List Int)) (p := 24 = 24 ∧ ∀ i, i < 24 → ∀ j, j < 1 → aZ (cq [.v (.int .u8 0), .v (.int .u8 0), .v (.int .u8 0), .v (.int .u8 0), .v (.int .u8 0), .v (.int .u8 0), .v (.int .u8 0), .v (.int .u8 0), .v (.int .u8 0), .v (.int .u8 0), .v (.int .u8 0), .v (.int .u8 0), .v (.int .u8 0), .v (.int .u8 0), .v (.int .u8 0), .v (.int .u8 0), .v (.int .u8 0), .v (.int .u8 0), .v (.int .u8 0), .v (.int .u8 0), .v (.int .u8 0), .v (.int .u8 0), .v (.int .u8 0), .v (.int .u8 0)] 1 i j) (bf ([0, 0, 0, 0, 0, 0, 0, 0, 0, 0, 0, 0, 0, 0, 0, 0, 0, 0, 0, 0, 0, 0, 0, 0] : List Int) i j)) (⟨rfl, fun i hi j hj => match i, hi, j, hj with | 0, _, 0, _ => aZ.refl _ | 1, _, 0, _ => aZ.refl _ | 2, _, 0, _ => aZ.refl _ | 3, _, 0, _ => aZ.refl _ | 4, _, 0, _ => aZ.refl _ | 5, _, 0, _ => aZ.refl _ | 6, _, 0, _ => aZ.refl _ | 7, _, 0, _ => aZ.refl _ | 8, _, 0, _ => aZ.refl _ | 9, _, 0, _ => aZ.refl _ | 10, _, 0, _ => aZ.refl _ | 11, _, 0, _ => aZ.refl _ | 12, _, 0, _ => aZ.refl _ | 13, _, 0, _ => aZ.refl _ | 14, _, 0, _ => aZ.refl _ | 15, _, 0, _ => aZ.refl _ | 16, _, 0, _ => aZ.refl _ | 17, _, 0, _ => aZ.refl _ | 18, _, 0, _ => aZ.refl _ | 19, _, 0, _ => aZ.refl _ | 20, _, 0, _ => aZ.refl _ | 21, _, 0, _ => aZ.refl _ | 22, _, 0, _ => aZ.refl _ | 23, _, 0, _ => aZ.refl _ | _ + 24, h, _, _ => absurd h (by omega) | _, _, _ + 1, h => absurd h (by omega)⟩)] ?_
    refine ah ae [(6, aV (u64.wrap p0))] 4 (seq ?_)
    refine AW.join (ι := Int) (fun v => ⟨[(0, af p0), (5, pX 0 1), (6, aV v)], [(0, .row 295 false 1 24 (bf ([0, 0, 0, 0, 0, 0, 0, 0, 0, 0, 0, 0, 0, 0, 0, 0, 0, 0, 0, 0, 0, 0, 0, 0] : List Int)))], 1⟩) (fun v : Int => ky v = some r) (fun x6 h => ?_) ?_
    ·unfold ky at h
     refine Fp (seq ?_)
     cases h
    ·refine ah ae [(23, vb (decide (p0 < 0)))] 6 ?_
     refine Fw h (fun c7 h => ?_) (fun c7 h => ?_)
     ·refine aS ae [(6, aV (u64.wrap (0 - (u64.wrap p0))))] 9 ?_
      exact jl (u64.wrap (0 - (u64.wrap p0))) h (ai [(0, 0)])
     ·refine skip ?_
      exact jl (u64.wrap p0) h (ai [(0, 0)])
  ·rcases aD h with ⟨c8, h⟩ | ⟨c8, h⟩
   ·refine au ae [(17, vb (decide (p0 < 100)))] 9 [hn, ht c8] ?_
    exact jl (decide (p0 < 100)) h
   ·refine au ae [(17, vb false)] 9 [hn, hf c8] ?_
    exact jl false h
 ·refine skip (Fp (seq ?_))
  cases h
noncomputable def pb (p0 : Int) : Option ByteArray := (oV p0 10).bind fun y1 => (some y1)
theorem xS (p0 : Int) (r : ByteArray) (h : pb p0 = some r) : CT 143 [af p0] [] (vs r) [] := by
 refine an ae 0 Tryz.func143 rfl (fun _ _ _ => ?_)
 unfold pb at h
 refine ah ae [] 1 ?_
 obtain ⟨y1, e2, h⟩ := ak h
 refine ay ae [(2, vs y1)] 3 [hn, hk (xM p0 10 y1 e2)] (ret ?_)
 apply al h (vs y1)
noncomputable def l8 (p0 : Int) : Option ByteArray := (pb p0).bind fun y1 => (some y1)
theorem t7 (p0 : Int) (r : ByteArray) (h : l8 p0 = some r) : CT 106 [af p0] [] (vs r) [] := by
 refine an ae 0 Tryz.func106 rfl (fun _ _ _ => ?_)
 unfold l8 at h
 refine ah ae [] 1 ?_
 obtain ⟨y1, e2, h⟩ := ak h
 refine ay ae [(2, vs y1)] 3 [hn, hk (xS p0 y1 e2)] (ret ?_)
 apply al h (vs y1)
noncomputable def oW (p0 : List Int) (x3 : Int) (x4 : Int) : Option ((Int × Int) ⊕ Int) := if (decide (x4 < (p0.length : Int))) then (if 0 ≤ x4 then (if x4 < (p0.length : Int) then (if 0 ≤ (i64.wrap (8 * x4)) then ((some (GA .u64 x3 (dl .u64 (u64.wrap (p0.getD x4.toNat 0)) (i64.wrap (8 * x4))))).bind fun z10 => (some (.inl (z10, i64.wrap (x4 + 1))))) else none) else none) else none) else (some (.inr x3))
noncomputable def lz (p0 : List Int) : Option Int := (loop (fun v : Int × Int => oW p0 v.1 v.2) (0, 0)).bind fun x12 => (some x12)
theorem tG (p0 : List Int) (r : Int) (h : lz p0 = some r) : CT 181 [vl 1 bf p0] [] (aV r) [] := by
 refine an ae 0 Tryz.func181 rfl (fun _ _ _ => ?_)
 unfold lz at h
 refine ah ae [] 1 ?_
 refine ah ae [(3, aV 0)] 2 (seq ?_)
 refine ah ae [(8, af 0), (7, af (p0.length : Int)), (6, vl 1 bf p0)] 5 (block ?_)
 obtain ⟨x12, l13, h⟩ := ak h
 refine Fy l13 (fun v => ⟨[(3, aV v.1), (6, vl 1 bf p0), (7, af (p0.length : Int)), (8, af v.2)], [], 0⟩) (fun t : Int => (.exit 0, ⟨[(3, aV t)], [], 0⟩)) (ai []) (fun _ => tv) ?_ ?_
 ·clear l13 h
  intro v o h
  obtain ⟨x3, x4⟩ := v
  replace h : oW p0 x3 x4 = some o := h
  unfold oW at h
  refine ah ae [(9, vb (decide (x4 < (p0.length : Int))))] 1 (seq ?_)
  refine Fw h (fun c6 h => ?_) (fun c6 h => ?_)
  ·refine skip (Fp ?_)
   refine seq (block ?_)
   obtain ⟨g7, g8, h⟩ := aG h
   refine ay ae [(5, cK (p0.getD x4.toNat 0)), (4, af x4)] 6 [hn, hq g7 g8] ?_
   obtain ⟨g9, h⟩ := aN h
   obtain ⟨z10, n11, h⟩ := ak h
   replace n11 := am n11
   refine au ae [(3, aV z10)] 14 [hn, hn, hn, hn, hn, ho g9] ?_ (by subst n11; kernel_rfl)
   refine Fj (Fp ?_)
   refine aS ae [(8, af (i64.wrap (x4 + 1)))] 16 ?_
   exact bu h (ai [])
  ·refine exit (Fb ?_)
   exact aU h rfl (ai [])
 ·show (_ : Exit → St → Prop) (.exit 0) _
  refine E6 (Fp ?_)
  refine ah ae [(2, aV x12)] 2 (ret ?_)
  apply al h (aV x12)
structure cN where
 a : Int
 b : Int
 c : Int
 d : Int
def yI : cN := ⟨0, 0, 0, 0⟩
instance : Inhabited cN := ⟨yI⟩
noncomputable def eW (p0 : Int) (p1 : Int) : Option Int := if 0 ≤ (dG .u64 (u64.wrap p1) 63) then (if 0 ≤ (u64.wrap (64 - (dG .u64 (u64.wrap p1) 63))) then ((some (GA .u64 (dl .u64 p0 (dG .u64 (u64.wrap p1) 63)) (bJ .u64 p0 (u64.wrap (64 - (dG .u64 (u64.wrap p1) 63)))))).bind fun z3 => (some z3)) else none) else none
theorem gk (p0 : Int) (p1 : Int) (r : Int) (h : eW p0 p1 = some r) : CT 220 [aV p0, af p1] [] (aV r) [] := by
 refine an ae 0 Tryz.func220 rfl (fun _ _ _ => ?_)
 unfold eW at h
 refine ah ae [] 1 ?_
 refine ah ae [(5, aV (dG .u64 (u64.wrap p1) 63))] 5 ?_
 obtain ⟨g1, g2, h⟩ := aG h
 obtain ⟨z3, n4, h⟩ := ak h
 replace n4 := am n4
 refine ay ae [(4, aV z3)] 14 [hn, hn, ho g1, hn, hn, hn, ho g2] ?_ (by subst n4; kernel_rfl)
 refine ret ?_
 apply al h (aV z3)
noncomputable def od (p1 : Int) (x6 : Int) (x7 : Int) (x8 : Int) (x9 : Int) (x10 : Int) : Option ((Int × Int × Int × Int × Int) ⊕ (Int × Int × Int × Int)) := if (decide (x6 < p1)) then ((eW x8 13).bind fun y16 => ((eW (u64.wrap (x7 + x8)) 32).bind fun y18 => ((eW x10 16).bind fun y20 => ((some (u64.wrap (y18 + (bw .u64 y20 (u64.wrap (x9 + x10)))))).bind fun z22 => ((eW (bw .u64 y20 (u64.wrap (x9 + x10))) 21).bind fun y24 => ((some (u64.wrap ((u64.wrap (x9 + x10)) + (bw .u64 y16 (u64.wrap (x7 + x8)))))).bind fun z26 => ((eW (bw .u64 y16 (u64.wrap (x7 + x8))) 17).bind fun y28 => ((eW z26 32).bind fun y30 => (some (.inl (i64.wrap (x6 + 1), z22, bw .u64 y28 z26, y30, bw .u64 y24 z22))))))))))) else (some (.inr (x7, x8, x9, x10)))
noncomputable def kA (p0 : cN) (p1 : Int) : Option cN := dZ (loop (fun v : Int × Int × Int × Int × Int => od p1 v.1 v.2.1 v.2.2.1 v.2.2.2.1 v.2.2.2.2) (0, p0.a, p0.b, p0.c, p0.d)) fun x32 x33 x34 x35 => (some (⟨x32, x33, x34, x35⟩ : cN))
theorem ta (p0 : cN) (p1 : Int) (r : cN) (h : kA p0 p1 = some r) : CT 182 [.c (.ptr 0 4 0 0), af p1] [(0, .box 266 [aw p0.a, aw p0.b, aw p0.c, aw p0.d])] (.tup []) [(0, .box 266 [aw r.a, aw r.b, aw r.c, aw r.d])] := by
 refine an ae 1 Tryz.func182 rfl (fun _ _ _ => ?_)
 unfold kA at h
 refine ah ae [(5, af 0), (4, af p1)] 3 (block ?_)
 obtain ⟨x32, x33, x34, x35, l36, h⟩ := fJ h
 refine Fy l36 (fun v => ⟨[(0, pX 0 4), (4, af p1), (5, af v.1)], [(0, .box 266 [aw v.2.1, aw v.2.2.1, aw v.2.2.2.1, aw v.2.2.2.2])], 1⟩) (fun t : Int × Int × Int × Int => (.exit 0, ⟨[], [(0, .box 266 [aw t.1, aw t.2.1, aw t.2.2.1, aw t.2.2.2])], 1⟩)) (ai [(0, 0)]) (fun _ => tv) ?_ ?_
 ·clear l36 h
  intro v o h
  obtain ⟨x6, x7, x8, x9, x10⟩ := v
  replace h : od p1 x6 x7 x8 x9 x10 = some o := h
  unfold od at h
  refine ah ae [(6, vb (decide (x6 < p1)))] 2 (seq ?_)
  refine Fw h (fun c15 h => ?_) (fun c15 h => ?_)
  ·refine skip (Fp ?_)
   refine seq (block ?_)
   refine Fv ae cu [[], [], [], [], [], [], [], [], [], [], [], [0]] [] [(0, .box 266 [aw (u64.wrap (x7 + x8)), aw x8, aw x9, aw x10])] 14 [] ?_
   obtain ⟨y16, e17, h⟩ := ak h
   refine Fv ae cu [[], [], [], [], [], [], [], [], [], [], [], [], [], [0]] [] [(0, .box 266 [aw (u64.wrap (x7 + x8)), aw (bw .u64 y16 (u64.wrap (x7 + x8))), aw x9, aw x10])] 27 [hn, hn, hn, hn, hn, hk (gk x8 13 y16 e17)] ?_
   obtain ⟨y18, e19, h⟩ := ak h
   refine Fs ae [] [0] [(0, .box 266 [aw y18, aw (bw .u64 y16 (u64.wrap (x7 + x8))), aw x9, aw x10])] 35 [hn, hn, hn, hn, hn, hk (gk (u64.wrap (x7 + x8)) 32 y18 e19)] ?_
   refine Fv ae cu [[], [], [], [], [], [], [], [], [], [], [], [0]] [] [(0, .box 266 [aw y18, aw (bw .u64 y16 (u64.wrap (x7 + x8))), aw (u64.wrap (x9 + x10)), aw x10])] 47 [] ?_
   obtain ⟨y20, e21, h⟩ := ak h
   refine Fv ae cu [[], [], [], [], [], [], [], [], [], [], [], [], [], [0]] [] [(0, .box 266 [aw y18, aw (bw .u64 y16 (u64.wrap (x7 + x8))), aw (u64.wrap (x9 + x10)), aw (bw .u64 y20 (u64.wrap (x9 + x10)))])] 60 [hn, hn, hn, hn, hn, hk (gk x10 16 y20 e21)] ?_
   obtain ⟨z22, n23, h⟩ := ak h
   replace n23 := am n23
   refine Fv ae cu [[], [], [], [], [], [], [], [], [], [], [], [0]] [] [(0, .box 266 [aw z22, aw (bw .u64 y16 (u64.wrap (x7 + x8))), aw (u64.wrap (x9 + x10)), aw (bw .u64 y20 (u64.wrap (x9 + x10)))])] 72 [] ?_ (by subst n23; kernel_rfl)
   obtain ⟨y24, e25, h⟩ := ak h
   refine Fv ae cu [[], [], [], [], [], [], [], [], [], [], [], [], [], [0]] [] [(0, .box 266 [aw z22, aw (bw .u64 y16 (u64.wrap (x7 + x8))), aw (u64.wrap (x9 + x10)), aw (bw .u64 y24 z22)])] 85 [hn, hn, hn, hn, hn, hk (gk (bw .u64 y20 (u64.wrap (x9 + x10))) 21 y24 e25)] ?_
   obtain ⟨z26, n27, h⟩ := ak h
   replace n27 := am n27
   refine Fv ae cu [[], [], [], [], [], [], [], [], [], [], [], [0]] [] [(0, .box 266 [aw z22, aw (bw .u64 y16 (u64.wrap (x7 + x8))), aw z26, aw (bw .u64 y24 z22)])] 97 [] ?_ (by subst n27; kernel_rfl)
   obtain ⟨y28, e29, h⟩ := ak h
   refine Fv ae cu [[], [], [], [], [], [], [], [], [], [], [], [], [], [0]] [] [(0, .box 266 [aw z22, aw (bw .u64 y28 z26), aw z26, aw (bw .u64 y24 z22)])] 110 [hn, hn, hn, hn, hn, hk (gk (bw .u64 y16 (u64.wrap (x7 + x8))) 17 y28 e29)] ?_
   obtain ⟨y30, e31, h⟩ := ak h
   refine AW.rg ae [] [0] [(0, .box 266 [aw z22, aw (bw .u64 y28 z26), aw y30, aw (bw .u64 y24 z22)])] 118 [hn, hn, hn, hn, hn, hk (gk z26 32 y30 e31)] ?_
   refine Fj (Fp ?_)
   refine aS ae [(5, af (i64.wrap (x6 + 1)))] 120 ?_
   exact bu h (ai [(0, 0)])
  ·refine exit (Fb ?_)
   exact aU h rfl (ai [(0, 0)])
 ·show (_ : Exit → St → Prop) (.exit 0) _
  refine E6 ?_
  obtain rfl := am h
  exact aW (.inl rfl) [(0, 0)] 1 (.tup [])
noncomputable def kL (p0 : cN) (p1 : Int) : Option cN := (kA (⟨p0.a, p0.b, p0.c, bw .u64 p0.d p1⟩ : cN) 2).bind fun y1 => (some (⟨bw .u64 y1.a p1, y1.b, y1.c, y1.d⟩ : cN))
theorem tg (p0 : cN) (p1 : Int) (r : cN) (h : kL p0 p1 = some r) : CT 180 [.c (.ptr 0 4 0 0), aV p1] [(0, .box 266 [aw p0.a, aw p0.b, aw p0.c, aw p0.d])] (.tup []) [(0, .box 266 [aw r.a, aw r.b, aw r.c, aw r.d])] := by
 refine an ae 1 Tryz.func180 rfl (fun _ _ _ => ?_)
 unfold kL at h
 refine Fs ae [] [0] [(0, .box 266 [aw p0.a, aw p0.b, aw p0.c, aw (bw .u64 p0.d p1)])] 10 [] ?_
 obtain ⟨y1, e2, h⟩ := ak h
 refine Fs ae [] [0] [(0, .box 266 [aw y1.a, aw y1.b, aw y1.c, aw y1.d])] 11 [hn, hm [0] [] 0 (ta (⟨p0.a, p0.b, p0.c, bw .u64 p0.d p1⟩ : cN) 2 y1 e2) ⟨rfl, tv⟩] ?_
 refine AW.rg ae [] [0] [(0, .box 266 [aw (bw .u64 y1.a p1), aw y1.b, aw y1.c, aw y1.d])] 20 [] ?_
 obtain rfl := am h
 exact aW (.inl rfl) [(0, 0)] 1 (.tup [])
noncomputable def pY (x6 : List Int) (x7 : Int) (x8 : Int) (x9 : Int) (x10 : Int) : Option (((List Int) × Int × Int × Int × Int) ⊕ ((List Int) × Int × Int × Int × Int)) := if (decide ((x6.length : Int) ≥ 8)) then (if 8 ≤ x6.length then ((lz (x6.take 8)).bind fun y18 => ((kL (⟨x7, x8, x9, x10⟩ : cN) y18).bind fun y20 => (some (.inl (((x6.drop 8).take (x6.length - 8)), y20.a, y20.b, y20.c, y20.d))))) else none) else (some (.inr (x6, x7, x8, x9, x10)))
noncomputable def qK (p0 : hJ) (p1 : List Int) : Option Int := eM (loop (fun v : (List Int) × Int × Int × Int × Int => pY v.1 v.2.1 v.2.2.1 v.2.2.2.1 v.2.2.2.2) (p1, bw .u64 p0.A 8317987319222330741, bw .u64 p0.B 7237128888997146477, bw .u64 p0.A 7816392313619706465, bw .u64 p0.B 8387220255154660723)) fun x22 x23 x24 x25 x26 => ((lz x22).bind fun y27 => ((kL (⟨x23, x24, x25, x26⟩ : cN) (GA .u64 y27 (dl .u64 (u64.wrap (p1.length : Int)) 56))).bind fun y29 => ((kA (⟨y29.a, y29.b, bw .u64 y29.c 255, y29.d⟩ : cN) 4).bind fun y31 => (some (bw .u64 (bw .u64 (bw .u64 y31.a y31.b) y31.c) y31.d)))))
abbrev bp (x : hJ) : List C := [aw x.A, aw x.B]
theorem yR (p0 : hJ) (p1 : List Int) (r : Int) (h : qK p0 p1 = some r) : CT 142 [.agg (bp p0), vl 1 bf p1] [] (aV r) [] := by
 refine an ae 0 Tryz.func142 rfl (fun _ _ _ => ?_)
 unfold qK at h
 refine Fs ae [(2, pX 0 2)] [0] [(0, .box 39 (bp p0))] 2 [] ?_
 refine Fs ae [(5, pX 15 4)] [15] [(15, .box 266 [aw (bw .u64 p0.A 8317987319222330741), aw (bw .u64 p0.B 7237128888997146477), aw (bw .u64 p0.A 7816392313619706465), aw (bw .u64 p0.B 8387220255154660723)])] 17 [] ?_
 refine ay ae [(6, aV (dl .u64 (u64.wrap (p1.length : Int)) 56))] 22 [hn, hn, hn, ho (p := 0 ≤ (56 : Int)) (by decide)] (seq (block ?_))
 obtain ⟨x22, x23, x24, x25, x26, l33, h⟩ := gI h
 refine Fy l33 (fun v => ⟨[(1, vl 1 bf v.1), (5, pX 0 4), (6, aV (dl .u64 (u64.wrap (p1.length : Int)) 56))], [(0, .box 266 [aw v.2.1, aw v.2.2.1, aw v.2.2.2.1, aw v.2.2.2.2])], 1⟩) (fun t : (List Int) × Int × Int × Int × Int => (.exit 0, ⟨[(1, vl 1 bf t.1), (5, pX 0 4), (6, aV (dl .u64 (u64.wrap (p1.length : Int)) 56))], [(0, .box 266 [aw t.2.1, aw t.2.2.1, aw t.2.2.2.1, aw t.2.2.2.2])], 1⟩)) (ai [(0, 15)]) (fun _ => tv) ?_ ?_
 ·clear l33 h
  intro v o h
  obtain ⟨x6, x7, x8, x9, x10⟩ := v
  replace h : pY x6 x7 x8 x9 x10 = some o := h
  unfold pY at h
  refine seq ?_
  refine ah ae [(26, vb (decide ((x6.length : Int) ≥ 8)))] 4 ?_
  refine Fw h (fun c16 h => ?_) (fun c16 h => ?_)
  ·refine skip (Fp ?_)
   refine seq (block ?_)
   obtain ⟨g17, h⟩ := aN h
   obtain ⟨y18, e19, h⟩ := ak h
   obtain ⟨y20, e21, h⟩ := ak h
   refine AW.rg ae [] [0] [(0, .box 266 [aw y20.a, aw y20.b, aw y20.c, aw y20.d])] 6 [hn, ho (p := (True) ∧ (0 ≤ (8 : Int)) ∧ (0 ≤ 8) ∧ (8 ≤ x6.length)) (⟨tv, (by decide), (Nat.zero_le _), g17⟩), hg [] [] true 0 (q := (True) ∧ (True)) ⟨tv, tv⟩ (a0 := [.c (.t (.tree 8 1 (bf x6)))]) (tG (x6.take 8) y18 e19) ⟨aR.c (bO.tree (v8 (by omega))), tv⟩ (fun _ => tv), hm [0] [] 0 (tg (⟨x7, x8, x9, x10⟩ : cN) y18 y20 e21) ⟨rfl, tv⟩] ?_
   refine Fj (Fp ?_)
   refine au ae [(1, .c (.t (.tree (x6.length - 8) 1 (fun i j => bf x6 (8 + i) j))))] 9 [hn, ho (p := (0 ≤ (8 : Int)) ∧ (True) ∧ (8 ≤ x6.length) ∧ (x6.length ≤ x6.length)) (⟨(by decide), tv, g17, (F9 _)⟩)] ?_
   exact bu h (Conv.trans (fK [(1, vl 1 bf ((x6.drop 8).take (x6.length - 8)))] ⟨⟨.c (.t (.tree (x6.length - 8) 1 (fun i j => bf x6 (8 + i) j))), by kernel_rfl, cG.c (E8 (bO.tree (rN (by omega))))⟩, tv⟩) (ai [(0, 0)]))
  ·refine exit (Fb ?_)
   exact aU h rfl (ai [(0, 0)])
 ·show (_ : Exit → St → Prop) (.exit 0) _
  refine E6 (Fp ?_)
  obtain ⟨y27, e28, h⟩ := ak h
  obtain ⟨y29, e30, h⟩ := ak h
  refine Fs ae [] [0] [(0, .box 266 [aw y29.a, aw y29.b, aw y29.c, aw y29.d])] 4 [hn, hk (tG x22 y27 e28), hn, hn, hm [0] [] 0 (tg (⟨x23, x24, x25, x26⟩ : cN) (GA .u64 y27 (dl .u64 (u64.wrap (p1.length : Int)) 56)) y29 e30) ⟨rfl, tv⟩] ?_
  refine Fs ae [] [0] [(0, .box 266 [aw y29.a, aw y29.b, aw (bw .u64 y29.c 255), aw y29.d])] 9 [] ?_
  obtain ⟨y31, e32, h⟩ := ak h
  refine Fs ae [] [0] [(0, .box 266 [aw y31.a, aw y31.b, aw y31.c, aw y31.d])] 9 [hm [0] [] 0 (ta (⟨y29.a, y29.b, bw .u64 y29.c 255, y29.d⟩ : cN) 4 y31 e32) ⟨rfl, tv⟩] ?_
  refine ah ae [(4, aV (bw .u64 (bw .u64 (bw .u64 y31.a y31.b) y31.c) y31.d))] 21 (ret ?_)
  apply al h (aV (bw .u64 (bw .u64 (bw .u64 y31.a y31.b) y31.c) y31.d))
abbrev QF (s : ByteArray) : Int := if (65535 : Int) < (s.size : Int) then 65535 else (s.size : Int)
noncomputable def pc (p1 : List ByteArray) (x3 : List Int) (x4 : Int) : Option (((List Int) × Int) ⊕ (List Int)) := if (decide (x4 < (p1.length : Int))) then (if 0 ≤ x4 then (if x4 < (p1.length : Int) then (if 0 ≤ (QF (p1.getD x4.toNat mt)) then (if ((QF (p1.getD x4.toNat mt)).toNat) ≤ ((p1.getD x4.toNat mt).size) then (if x3.length + ([u8.wrap (bJ .i64 ((((p1.getD x4.toNat mt).extract 0 ((QF (p1.getD x4.toNat mt)).toNat)).size : Nat) : Int) 8), u8.wrap ((((p1.getD x4.toNat mt).extract 0 ((QF (p1.getD x4.toNat mt)).toNat)).size : Nat) : Int)] : List Int).length ≤ 1099511627776 then (if (x3 ++ ([u8.wrap (bJ .i64 ((((p1.getD x4.toNat mt).extract 0 ((QF (p1.getD x4.toNat mt)).toNat)).size : Nat) : Int) 8), u8.wrap ((((p1.getD x4.toNat mt).extract 0 ((QF (p1.getD x4.toNat mt)).toNat)).size : Nat) : Int)] : List Int)).length + ((p1.getD x4.toNat mt).extract 0 ((QF (p1.getD x4.toNat mt)).toNat)).size ≤ 1099511627776 then (some (.inl (((x3 ++ ([u8.wrap (bJ .i64 ((((p1.getD x4.toNat mt).extract 0 ((QF (p1.getD x4.toNat mt)).toNat)).size : Nat) : Int) 8), u8.wrap ((((p1.getD x4.toNat mt).extract 0 ((QF (p1.getD x4.toNat mt)).toNat)).size : Nat) : Int)] : List Int)) ++ (bQ ((p1.getD x4.toNat mt).extract 0 ((QF (p1.getD x4.toNat mt)).toNat)))), i64.wrap (x4 + 1)))) else none) else none) else none) else none) else none) else none) else (some (.inr x3))
noncomputable def fI (p0 : hJ) (p1 : List ByteArray) : Option Int := (loop (fun v : (List Int) × Int => pc p1 v.1 v.2) (([] : List Int), 0)).bind fun x13 => ((qK p0 x13).bind fun y14 => (some y14))
theorem iP (p0 : hJ) (p1 : List ByteArray) (r : Int) (h : fI p0 p1 = some r) : CT 104 [.agg (bp p0), vl 1 Rs p1] [] (aV r) [] := by
 refine an ae 0 Tryz.func104 rfl (fun _ _ _ => ?_)
 unfold fI at h
 refine Fs ae [(2, pX 0 2)] [0] [(0, .box 39 (bp p0))] 2 [] ?_
 refine ah ae [(5, .c (ax))] 3 (seq ?_)
 refine ah ae [(10, af 0), (9, af (p1.length : Int)), (8, vl 1 Rs p1)] 6 (block ?_)
 obtain ⟨x13, l16, h⟩ := ak h
 refine Fy l16 (fun v => ⟨[(2, pX 0 2), (5, rX 1 1 v.1.length), (8, vl 1 Rs p1), (9, af (p1.length : Int)), (10, af v.2)], [(0, .box 39 (bp p0)), (1, .row 5 false 1 v.1.length (bf v.1))], 2⟩) (fun t : List Int => (.exit 0, ⟨[(2, pX 0 2), (5, rX 1 1 t.length)], [(0, .box 39 (bp p0)), (1, .row 5 false 1 t.length (bf t))], 2⟩)) (Conv.trans (cg (t := 5) (ty := 5) (sz := 1) (n := ([] : List Int).length) (f := bf ([] : List Int)) (by kernel_rfl) rfl) (ai [(0, 0), (1, 6)])) (fun _ => tv) ?_ ?_
 ·clear l16 h
  intro v o h
  obtain ⟨x3, x4⟩ := v
  replace h : pc p1 x3 x4 = some o := h
  unfold pc at h
  refine ah ae [(11, vb (decide (x4 < (p1.length : Int))))] 3 (seq ?_)
  refine Fw h (fun c6 h => ?_) (fun c6 h => ?_)
  ·refine skip (Fp ?_)
   refine seq (block ?_)
   obtain ⟨g7, g8, h⟩ := aG h
   refine ay ae [(7, vs (p1.getD x4.toNat mt))] 6 [hq g7 g8] ?_
   obtain ⟨g9, g10, h⟩ := aG h
   refine ay ae [(7, vs ((p1.getD x4.toNat mt).extract 0 ((QF (p1.getD x4.toNat mt)).toNat)))] 12 [hn, hn, hn, hn, ho (p := (True) ∧ (0 ≤ (QF (p1.getD x4.toNat mt))) ∧ (0 ≤ ((QF (p1.getD x4.toNat mt)).toNat)) ∧ (((QF (p1.getD x4.toNat mt)).toNat) ≤ ((p1.getD x4.toNat mt).size))) (⟨tv, g9, (Nat.zero_le _), g10⟩)] ?_
   obtain ⟨g11, h⟩ := aN h
   refine Fs ae [(5, .c (.ref 21 1 0 ((x3 ++ ([u8.wrap (bJ .i64 ((((p1.getD x4.toNat mt).extract 0 ((QF (p1.getD x4.toNat mt)).toNat)).size : Nat) : Int) 8), u8.wrap ((((p1.getD x4.toNat mt).extract 0 ((QF (p1.getD x4.toNat mt)).toNat)).size : Nat) : Int)] : List Int)).length)))] [1, 20, 21] [(21, .row 5 false 1 (x3 ++ ([u8.wrap (bJ .i64 ((((p1.getD x4.toNat mt).extract 0 ((QF (p1.getD x4.toNat mt)).toNat)).size : Nat) : Int) 8), u8.wrap ((((p1.getD x4.toNat mt).extract 0 ((QF (p1.getD x4.toNat mt)).toNat)).size : Nat) : Int)] : List Int)).length (bf (x3 ++ ([u8.wrap (bJ .i64 ((((p1.getD x4.toNat mt).extract 0 ((QF (p1.getD x4.toNat mt)).toNat)).size : Nat) : Int) 8), u8.wrap ((((p1.getD x4.toNat mt).extract 0 ((QF (p1.getD x4.toNat mt)).toNat)).size : Nat) : Int)] : List Int))))] 23 [hn, hn, hn, ho (p := 0 ≤ (8 : Int)) (by decide), hn, hn, hn, hn, bh 0 cU 1 (fun _ => rfl) ([u8.wrap (bJ .i64 ((((p1.getD x4.toNat mt).extract 0 ((QF (p1.getD x4.toNat mt)).toNat)).size : Nat) : Int) 8), u8.wrap ((((p1.getD x4.toNat mt).extract 0 ((QF (p1.getD x4.toNat mt)).toNat)).size : Nat) : Int)] : List Int), bY 0 cU 1 1 x3 ([u8.wrap (bJ .i64 ((((p1.getD x4.toNat mt).extract 0 ((QF (p1.getD x4.toNat mt)).toNat)).size : Nat) : Int) 8), u8.wrap ((((p1.getD x4.toNat mt).extract 0 ((QF (p1.getD x4.toNat mt)).toNat)).size : Nat) : Int)] : List Int) g11 (by decide)] ?_
   obtain ⟨g12, h⟩ := aN h
   refine AW.rg ae [(5, .c (.ref 25 1 0 (((x3 ++ ([u8.wrap (bJ .i64 ((((p1.getD x4.toNat mt).extract 0 ((QF (p1.getD x4.toNat mt)).toNat)).size : Nat) : Int) 8), u8.wrap ((((p1.getD x4.toNat mt).extract 0 ((QF (p1.getD x4.toNat mt)).toNat)).size : Nat) : Int)] : List Int)) ++ (bQ ((p1.getD x4.toNat mt).extract 0 ((QF (p1.getD x4.toNat mt)).toNat)))).length)))] [21, 25] [(25, .row 5 false 1 ((x3 ++ ([u8.wrap (bJ .i64 ((((p1.getD x4.toNat mt).extract 0 ((QF (p1.getD x4.toNat mt)).toNat)).size : Nat) : Int) 8), u8.wrap ((((p1.getD x4.toNat mt).extract 0 ((QF (p1.getD x4.toNat mt)).toNat)).size : Nat) : Int)] : List Int)) ++ (bQ ((p1.getD x4.toNat mt).extract 0 ((QF (p1.getD x4.toNat mt)).toNat)))).length (bf ((x3 ++ ([u8.wrap (bJ .i64 ((((p1.getD x4.toNat mt).extract 0 ((QF (p1.getD x4.toNat mt)).toNat)).size : Nat) : Int) 8), u8.wrap ((((p1.getD x4.toNat mt).extract 0 ((QF (p1.getD x4.toNat mt)).toNat)).size : Nat) : Int)] : List Int)) ++ (bQ ((p1.getD x4.toNat mt).extract 0 ((QF (p1.getD x4.toNat mt)).toNat))))))] 27 [hn, hn, hr (((x3 ++ ([u8.wrap (bJ .i64 ((((p1.getD x4.toNat mt).extract 0 ((QF (p1.getD x4.toNat mt)).toNat)).size : Nat) : Int) 8), u8.wrap ((((p1.getD x4.toNat mt).extract 0 ((QF (p1.getD x4.toNat mt)).toNat)).size : Nat) : Int)] : List Int)) ++ (bQ ((p1.getD x4.toNat mt).extract 0 ((QF (p1.getD x4.toNat mt)).toNat)))).length) (bf ((x3 ++ ([u8.wrap (bJ .i64 ((((p1.getD x4.toNat mt).extract 0 ((QF (p1.getD x4.toNat mt)).toNat)).size : Nat) : Int) 8), u8.wrap ((((p1.getD x4.toNat mt).extract 0 ((QF (p1.getD x4.toNat mt)).toNat)).size : Nat) : Int)] : List Int)) ++ (bQ ((p1.getD x4.toNat mt).extract 0 ((QF (p1.getD x4.toNat mt)).toNat))))) (p := ((x3 ++ ([u8.wrap (bJ .i64 ((((p1.getD x4.toNat mt).extract 0 ((QF (p1.getD x4.toNat mt)).toNat)).size : Nat) : Int) 8), u8.wrap ((((p1.getD x4.toNat mt).extract 0 ((QF (p1.getD x4.toNat mt)).toNat)).size : Nat) : Int)] : List Int)).length = (x3 ++ ([u8.wrap (bJ .i64 ((((p1.getD x4.toNat mt).extract 0 ((QF (p1.getD x4.toNat mt)).toNat)).size : Nat) : Int) 8), u8.wrap ((((p1.getD x4.toNat mt).extract 0 ((QF (p1.getD x4.toNat mt)).toNat)).size : Nat) : Int)] : List Int)).length) ∧ (True) ∧ (((x3 ++ ([u8.wrap (bJ .i64 ((((p1.getD x4.toNat mt).extract 0 ((QF (p1.getD x4.toNat mt)).toNat)).size : Nat) : Int) 8), u8.wrap ((((p1.getD x4.toNat mt).extract 0 ((QF (p1.getD x4.toNat mt)).toNat)).size : Nat) : Int)] : List Int)).length + ((p1.getD x4.toNat mt).extract 0 ((QF (p1.getD x4.toNat mt)).toNat)).size ≤ 1099511627776) ∧ ((1 : Nat) ≤ 128)) ∧ ((x3 ++ ([u8.wrap (bJ .i64 ((((p1.getD x4.toNat mt).extract 0 ((QF (p1.getD x4.toNat mt)).toNat)).size : Nat) : Int) 8), u8.wrap ((((p1.getD x4.toNat mt).extract 0 ((QF (p1.getD x4.toNat mt)).toNat)).size : Nat) : Int)] : List Int)).length + ((p1.getD x4.toNat mt).extract 0 ((QF (p1.getD x4.toNat mt)).toNat)).size = ((x3 ++ ([u8.wrap (bJ .i64 ((((p1.getD x4.toNat mt).extract 0 ((QF (p1.getD x4.toNat mt)).toNat)).size : Nat) : Int) 8), u8.wrap ((((p1.getD x4.toNat mt).extract 0 ((QF (p1.getD x4.toNat mt)).toNat)).size : Nat) : Int)] : List Int)) ++ (bQ ((p1.getD x4.toNat mt).extract 0 ((QF (p1.getD x4.toNat mt)).toNat)))).length ∧ ∀ i, i < ((x3 ++ ([u8.wrap (bJ .i64 ((((p1.getD x4.toNat mt).extract 0 ((QF (p1.getD x4.toNat mt)).toNat)).size : Nat) : Int) 8), u8.wrap ((((p1.getD x4.toNat mt).extract 0 ((QF (p1.getD x4.toNat mt)).toNat)).size : Nat) : Int)] : List Int)) ++ (bQ ((p1.getD x4.toNat mt).extract 0 ((QF (p1.getD x4.toNat mt)).toNat)))).length → ∀ j, j < 1 → aZ ((ck ((x3 ++ ([u8.wrap (bJ .i64 ((((p1.getD x4.toNat mt).extract 0 ((QF (p1.getD x4.toNat mt)).toNat)).size : Nat) : Int) 8), u8.wrap ((((p1.getD x4.toNat mt).extract 0 ((QF (p1.getD x4.toNat mt)).toNat)).size : Nat) : Int)] : List Int)).length) (bf (x3 ++ ([u8.wrap (bJ .i64 ((((p1.getD x4.toNat mt).extract 0 ((QF (p1.getD x4.toNat mt)).toNat)).size : Nat) : Int) 8), u8.wrap ((((p1.getD x4.toNat mt).extract 0 ((QF (p1.getD x4.toNat mt)).toNat)).size : Nat) : Int)] : List Int))) (IT ((p1.getD x4.toNat mt).extract 0 ((QF (p1.getD x4.toNat mt)).toNat)))) i j) (bf ((x3 ++ ([u8.wrap (bJ .i64 ((((p1.getD x4.toNat mt).extract 0 ((QF (p1.getD x4.toNat mt)).toNat)).size : Nat) : Int) 8), u8.wrap ((((p1.getD x4.toNat mt).extract 0 ((QF (p1.getD x4.toNat mt)).toNat)).size : Nat) : Int)] : List Int)) ++ (bQ ((p1.getD x4.toNat mt).extract 0 ((QF (p1.getD x4.toNat mt)).toNat)))) i j))) (⟨rfl, tv, ⟨g12, (by decide)⟩, sQ (r8 rfl (zq _) m8 An)⟩)] ?_
   refine Fj (Fp ?_)
   refine aS ae [(10, af (i64.wrap (x4 + 1)))] 29 ?_
   exact bu h (ai [(0, 0), (1, 25)])
  ·refine exit (Fb ?_)
   exact aU h rfl (ai [(0, 0), (1, 1)])
 ·show (_ : Exit → St → Prop) (.exit 0) _
  refine E6 (Fp ?_)
  obtain ⟨y14, e15, h⟩ := ak h
  refine ay ae [(4, aV y14)] 5 [hn, hn, hg [] [] true 0 (q := ((True) ∧ (True) ∧ (True)) ∧ (0 + x13.length ≤ x13.length) ∧ (True)) ⟨⟨tv, tv, tv⟩, br, tv⟩ (a0 := [.agg (bp p0), vl 1 bf x13]) (yR p0 x13 y14 e15) ⟨aR.refl _, aR.refl _, tv⟩ (fun _ => tv)] (ret ?_)
  apply al h (aV y14)
noncomputable def jf (p0 : hJ) (p1 : ByteArray) : Option hJ := (fI p0 ([p1, (mk #[97])] : aj)).bind fun y1 => ((fI p0 ([p1, (mk #[98])] : aj)).bind fun y3 => (some (⟨y1, y3⟩ : hJ)))
theorem oL (p0 : hJ) (p1 : ByteArray) (r : hJ) (h : jf p0 p1 = some r) : CT 105 [.agg (bp p0), vs p1] [] (.agg (bp r)) [] := by
 refine an ae 0 Tryz.func105 rfl (fun _ _ _ => ?_)
 unfold jf at h
 refine Fs ae [(4, pX 1 2), (2, pX 0 2)] [0, 1] [(1, .box 39 [aw 0, aw 0]), (0, .box 39 (bp p0))] 2 [] ?_
 obtain ⟨y1, e2, h⟩ := ak h
 obtain ⟨y3, e4, h⟩ := ak h
 refine Fv ae cu [[], [], [4], [], [], [], [7], [], [], [1]] [] [(1, .box 39 [aw y1, aw y3])] 10 [hn, hn, bh mt Es 1 (fun _ => rfl) ([p1, (mk #[97])] : aj), hg [] [] true 0 (q := ((True) ∧ (True) ∧ (True)) ∧ (0 + ([p1, (mk #[97])] : aj).length ≤ ([p1, (mk #[97])] : aj).length) ∧ (True)) ⟨⟨tv, tv, tv⟩, br, tv⟩ (a0 := [.agg (bp p0), vl 1 Rs ([p1, (mk #[97])] : aj)]) (iP p0 ([p1, (mk #[97])] : aj) y1 e2) ⟨aR.refl _, aR.refl _, tv⟩ (fun _ => tv), hn, hn, bh mt Es 1 (fun _ => rfl) ([p1, (mk #[98])] : aj), hg [] [] true 0 (q := ((True) ∧ (True) ∧ (True)) ∧ (0 + ([p1, (mk #[98])] : aj).length ≤ ([p1, (mk #[98])] : aj).length) ∧ (True)) ⟨⟨tv, tv, tv⟩, br, tv⟩ (a0 := [.agg (bp p0), vl 1 Rs ([p1, (mk #[98])] : aj)]) (iP p0 ([p1, (mk #[98])] : aj) y3 e4) ⟨aR.refl _, aR.refl _, tv⟩ (fun _ => tv)] ?_
 refine ret ?_
 apply al h (.agg [aw y1, aw y3])
noncomputable def iC (x6 : Int) (x7 : Int) : Option hJ := some (⟨x6, x7⟩ : hJ)
noncomputable def ol (p0 : gt) (p1 : hJ) : Option hJ := (l8 p0.field).bind fun y1 => (if (mk #[102, 105, 101, 108, 100]).size + y1.size ≤ bZ then ((jf p1 ((mk #[102, 105, 101, 108, 100]) ++ y1)).bind fun y4 => (if p0.salted = true then (if (mk #[115, 97, 108, 116, 61]).size + p0.salt.size ≤ bZ then ((jf y4 ((mk #[115, 97, 108, 116, 61]) ++ p0.salt)).bind fun y10 => (iC y10.A y10.B)) else none) else (iC y4.A y4.B))) else none)
theorem xA (p0 : gt) (p1 : hJ) (r : hJ) (h : ol p0 p1 = some r) : CT 124 [.agg [ag p0.field, cb p0.salted, cs p0.salt], .agg (bp p1)] [] (.agg (bp r)) [] := by
 refine an ae 0 Tryz.func124 rfl (fun _ _ _ => ?_)
 unfold ol at h
 refine Fs ae [(4, pX 2 2), (3, pX 1 2), (2, pX 0 3)] [0, 1, 2] [(2, .box 39 [aw 0, aw 0]), (1, .box 39 (bp p1)), (0, .box 205 [ag p0.field, cb p0.salted, cs p0.salt])] 3 [] ?_
 obtain ⟨y1, e2, h⟩ := ak h
 obtain ⟨g3, h⟩ := aN h
 obtain ⟨y4, e5, h⟩ := ak h
 refine Fv ae cu [[], [], [], [], [], [], [1]] [] [(1, .box 39 (bp y4))] 8 [hn, hn, hn, hk (t7 p0.field y1 e2), ho g3, hk (oL p1 ((mk #[102, 105, 101, 108, 100]) ++ y1) y4 e5)] ?_
 refine seq ?_
 refine AW.join (ι := Int × Int) (fun v => ⟨[(3, pX 0 2), (4, pX 1 2)], [(0, .box 39 [aw v.1, aw v.2]), (1, .box 39 [aw 0, aw 0])], 2⟩) (fun v : Int × Int => iC v.1 v.2 = some r) (fun v h => ?_) ?_
 ·obtain ⟨x6, x7⟩ := v
  replace h : iC x6 x7 = some r := h
  unfold iC at h
  refine Fp ?_
  refine Fs ae [] [1] [(1, .box 39 [aw x6, aw x7])] 4 [] (ret ?_)
  apply al h (.agg [aw x6, aw x7])
 ·refine ah ae [(12, vb p0.salted)] 10 ?_
  refine Fw h (fun c8 h => ?_) (fun c8 h => ?_)
  ·obtain ⟨g9, h⟩ := aN h
   obtain ⟨y10, e11, h⟩ := ak h
   refine AW.rg ae [] [1] [(1, .box 39 (bp y10))] 15 [hn, hn, hn, ho g9, hk (oL y4 ((mk #[115, 97, 108, 116, 61]) ++ p0.salt) y10 e11)] ?_
   exact jl (y10.A, y10.B) h (ai [(0, 1), (1, 2)])
  ·refine skip ?_
   exact jl (y4.A, y4.B) h (ai [(0, 1), (1, 2)])
noncomputable def qL (p0 : aC) (p1 : hJ) (p2 : ByteArray) : Option (Int × Int × aC × Int) := (fI p1 ([(mk #[49]), p2] : aj)).bind fun y1 => (if (u64.wrap p0.Length) ≠ 0 then ((fI p1 ([(mk #[50]), p2] : aj)).bind fun y4 => (if (u64.wrap (i64.wrap (p0.Length - 1))) ≠ 0 then ((some (i64.wrap (1 + (i64.wrap (y4.tmod (u64.wrap (i64.wrap (p0.Length - 1)))))))).bind fun z7 => (some (i64.wrap (y1.tmod (u64.wrap p0.Length)), z7, p0, i64.wrap (y1.tmod (u64.wrap p0.Length))))) else none)) else none)
theorem yS (p0 : aC) (p1 : hJ) (p2 : ByteArray) (r : (Int × Int × aC × Int)) (h : qL p0 p1 p2 = some r) : CT 204 [.agg [ag p0.Length, ag p0.Hashes, ag p0.Salt], .agg (bp p1), vs p2] [] (.clo 236 [] [.c (.ptr 0 1 0 0), .c (.ptr 1 1 0 0), .c (.ptr 2 3 0 0), .c (.ptr 3 1 0 0)]) [(0, .box 3 [ag r.1]), (1, .box 3 [ag r.2.1]), (2, .box 84 [ag r.2.2.1.Length, ag r.2.2.1.Hashes, ag r.2.2.1.Salt]), (3, .box 3 [ag r.2.2.2])] := by
 refine an ae 0 Tryz.func204 rfl (fun _ _ _ => ?_)
 unfold qL at h
 refine Fs ae [(4, pX 1 2), (3, pX 0 3)] [0, 1] [(1, .box 39 (bp p1)), (0, .box 84 [ag p0.Length, ag p0.Hashes, ag p0.Salt])] 3 [] ?_
 obtain ⟨y1, e2, h⟩ := ak h
 obtain ⟨g3, h⟩ := aN h
 refine Fv ae cu [[], [], [5], [], [], [], [], [], [], [11], [11]] [(7, pX 11 1)] [(11, .box 3 [ag (i64.wrap (y1.tmod (u64.wrap p0.Length)))])] 13 [hn, hn, bh mt Es 1 (fun _ => rfl) ([(mk #[49]), p2] : aj), hg [] [] true 0 (q := ((True) ∧ (True) ∧ (True)) ∧ (0 + ([(mk #[49]), p2] : aj).length ≤ ([(mk #[49]), p2] : aj).length) ∧ (True)) ⟨⟨tv, tv, tv⟩, br, tv⟩ (a0 := [.agg (bp p1), vl 1 Rs ([(mk #[49]), p2] : aj)]) (iP p1 ([(mk #[49]), p2] : aj) y1 e2) ⟨aR.refl _, aR.refl _, tv⟩ (fun _ => tv), hn, hn, hn, ho g3] ?_
 obtain ⟨y4, e5, h⟩ := ak h
 obtain ⟨g6, h⟩ := aN h
 obtain ⟨z7, n8, h⟩ := ak h
 replace n8 := am n8
 refine Fv ae cu [[], [], [15], [], [], [], [], [], [], [], [], [23], [23]] [(8, pX 23 1)] [(23, .box 3 [ag z7])] 25 [hn, hn, bh mt Es 1 (fun _ => rfl) ([(mk #[50]), p2] : aj), hg [] [] true 0 (q := ((True) ∧ (True) ∧ (True)) ∧ (0 + ([(mk #[50]), p2] : aj).length ≤ ([(mk #[50]), p2] : aj).length) ∧ (True)) ⟨⟨tv, tv, tv⟩, br, tv⟩ (a0 := [.agg (bp p1), vl 1 Rs ([(mk #[50]), p2] : aj)]) (iP p1 ([(mk #[50]), p2] : aj) y4 e5) ⟨aR.refl _, aR.refl _, tv⟩ (fun _ => tv), hn, hn, hn, hn, ho g6] ?_ (by subst n8; kernel_rfl)
 refine Fs ae [(9, pX 26 1)] [26] [(26, .box 3 [ag (i64.wrap (y1.tmod (u64.wrap p0.Length)))])] 28 [] ?_
 refine ah ae [(6, .clo 236 [] [.c (.ptr 26 1 0 0), .c (.ptr 23 1 0 0), .c (.ptr 0 3 0 0), .c (.ptr 11 1 0 0)])] 30 (ret ?_)
 obtain rfl := am h
 exact aW (.inr rfl) [(0, 26), (1, 23), (2, 0), (3, 11)] 4 (.clo 236 [] [.c (.ptr 26 1 0 0), .c (.ptr 23 1 0 0), .c (.ptr 0 3 0 0), .c (.ptr 11 1 0 0)])
noncomputable def pZ (pc0 : Int) (pc1 : Int) (pc2 : aC) (pc3 : Int) : Option (Int × Int × Int × aC × Int) := if pc2.Length ≠ 0 then (some (pc0, ((i64.wrap (pc0 + pc1)).tmod pc2.Length), pc1, pc2, pc0)) else none
theorem yi (pc0 : Int) (pc1 : Int) (pc2 : aC) (pc3 : Int) (r : Int × Int × Int × aC × Int) (h : pZ pc0 pc1 pc2 pc3 = some r) : CT 236 [.c (.ptr 0 1 0 0), .c (.ptr 1 1 0 0), .c (.ptr 2 3 0 0), .c (.ptr 3 1 0 0)] [(0, .box 3 [ag pc0]), (1, .box 3 [ag pc1]), (2, .box 84 [ag pc2.Length, ag pc2.Hashes, ag pc2.Salt]), (3, .box 3 [ag pc3])] (af r.1) [(0, .box 3 [ag r.2.1]), (1, .box 3 [ag r.2.2.1]), (2, .box 84 [ag r.2.2.2.1.Length, ag r.2.2.2.1.Hashes, ag r.2.2.2.1.Salt]), (3, .box 3 [ag r.2.2.2.2])] := by
 refine an ae 4 Tryz.func236 rfl (fun _ _ _ => ?_)
 unfold pZ at h
 refine ah ae [] 5 ?_
 obtain ⟨g1, h⟩ := aN h
 refine Fv ae cu [[], [], [], [], [], [], [], [3], [0]] [] [(0, .box 3 [ag ((i64.wrap (pc0 + pc1)).tmod pc2.Length)]), (3, .box 3 [ag pc0])] 14 [hn, hn, hn, hn, hn, hn, ho g1] ?_
 refine ah ae [(4, af pc0)] 16 (ret ?_)
 obtain rfl := am h
 exact aW (.inr rfl) [(0, 0), (1, 1), (2, 2), (3, 3)] 4 (af pc0)
noncomputable def oM (p0 : aC) (x16 : List Int) (x17 : Int) (x18 : Int) (x19 : Int) (x20 : Int) (x21 : Int) (x22 : Int) (x23 : Int) : Option (((List Int) × Int × Int × Int × Int × Int × Int × Int) ⊕ (List Int)) := if (decide (x17 < ((List.replicate p0.Hashes.toNat (0 : Int)).length : Int))) = true then (eM (pZ x18 x19 (⟨x20, x21, x22⟩ : aC) x23) fun y26 y27 y28 y29 y30 => (if 0 ≤ x17 then (if x17 < (x16.length : Int) then (some (.inl ((x16.set (0 + x17.toNat) y26), i64.wrap (x17 + 1), y27, y28, y29.Length, y29.Hashes, y29.Salt, y30))) else none) else none)) else (some (.inr x16))
noncomputable def Je (p0 : aC) (p1 : hJ) (p2 : ByteArray) : Option ((List Int) × Int) := (jv p0).bind fun y1 => (if (y1 != 0) then (some (([] : List Int), y1)) else (if 0 ≤ p0.Hashes then (if p0.Hashes ≤ 1099511627776 then ((qL p0 p1 p2).bind fun y6 => ((loop (fun v : (List Int) × Int × Int × Int × Int × Int × Int × Int => oM p0 v.1 v.2.1 v.2.2.1 v.2.2.2.1 v.2.2.2.2.1 v.2.2.2.2.2.1 v.2.2.2.2.2.2.1 v.2.2.2.2.2.2.2) ((List.replicate p0.Hashes.toNat (0 : Int)), 0, y6.1, y6.2.1, y6.2.2.1.Length, y6.2.2.1.Hashes, y6.2.2.1.Salt, y6.2.2.2)).bind fun x34 => (some (x34, 0)))) else none) else none))
theorem yc (p0 : aC) (p1 : hJ) (p2 : ByteArray) (r : (List Int) × Int) (h : Je p0 p1 p2 = some r) : CT 160 [.agg [ag p0.Length, ag p0.Hashes, ag p0.Salt], .agg (bp p1), vs p2] [] (.tup [.c (.ref 0 1 0 r.1.length), af r.2]) [(0, .row 3 false 1 r.1.length (aF r.1))] := by
 refine an ae 0 Tryz.func160 rfl (fun _ _ _ => ?_)
 unfold Je at h
 refine Fs ae [(4, pX 1 2), (3, pX 0 3)] [0, 1] [(1, .box 39 (bp p1)), (0, .box 84 [ag p0.Length, ag p0.Hashes, ag p0.Salt])] 4 [] (seq ?_)
 obtain ⟨y1, e2, h⟩ := ak h
 refine ay ae [(8, af y1)] 6 [hn, hk (iZ p0 y1 e2)] ?_
 refine ah ae [(15, vb (y1 != 0))] 8 ?_
 refine Fw h (fun c3 h => ?_) (fun c3 h => ?_)
 ·refine ah ae [(7, af y1), (6, .c (ax))] 11 (ret (Fo ?_))
  obtain rfl := am h
  exact cB (.inr rfl) [(0, 11)] 1 (.tup [.c (.ref 11 1 0 (([] : List Int).length)), af y1]) (cg (t := 6) (ty := 3) (sz := 1) (n := ([] : List Int).length) (f := aF ([] : List Int)) (by kernel_rfl) rfl)
 ·refine skip (Fp ?_)
  obtain ⟨g4, g5, h⟩ := aG h
  obtain ⟨y6, e7, h⟩ := ak h
  refine Fv ae cu [[], [], [10], [], [], [], [14, 15, 16, 17]] [(10, .clo 236 [] [.c (.ptr 14 1 0 0), .c (.ptr 15 1 0 0), .c (.ptr 16 3 0 0), .c (.ptr 17 1 0 0)]), (9, .c (.ref 10 1 0 ((List.replicate p0.Hashes.toNat (0 : Int)).length)))] [(14, .box 3 [ag y6.1]), (15, .box 3 [ag y6.2.1]), (16, .box 84 [ag y6.2.2.1.Length, ag y6.2.2.1.Hashes, ag y6.2.2.1.Salt]), (17, .box 3 [ag y6.2.2.2]), (10, .row 3 false 1 (List.replicate p0.Hashes.toNat (0 : Int)).length (aF (List.replicate p0.Hashes.toNat (0 : Int))))] 20 [hn, hn, j9 0 db 1 8 [.int .i64 0] rfl rfl p0.Hashes p0.Hashes g4 (Int.le_refl _) g5 (by decide), hn, hn, hn, hm [] [] 4 (yS p0 p1 p2 y6 e7) ⟨rfl, rfl, rfl, rfl, tv⟩] ?_
  refine seq ?_
  refine ah ae [(26, af 0), (25, af ((List.replicate p0.Hashes.toNat (0 : Int)).length : Int))] 23 (block ?_)
  obtain ⟨x34, l35, h⟩ := ak h
  refine Fy l35 (fun v => ⟨[(9, rX 0 1 v.1.length), (10, .clo 236 [] [.c (.ptr 1 1 0 0), .c (.ptr 2 1 0 0), .c (.ptr 3 3 0 0), .c (.ptr 4 1 0 0)]), (25, af ((List.replicate p0.Hashes.toNat (0 : Int)).length : Int)), (26, af v.2.1)], [(0, .row 3 false 1 v.1.length (aF v.1)), (1, .box 3 [ag v.2.2.1]), (2, .box 3 [ag v.2.2.2.1]), (3, .box 84 [ag v.2.2.2.2.1, ag v.2.2.2.2.2.1, ag v.2.2.2.2.2.2.1]), (4, .box 3 [ag v.2.2.2.2.2.2.2])], 5⟩) (fun t : List Int => (.exit 0, ⟨[(9, rX 0 1 t.length)], [(0, .row 3 false 1 t.length (aF t))], 1⟩)) (ai [(0, 10), (1, 14), (2, 15), (3, 16), (4, 17)]) (fun _ => tv) ?_ ?_
  ·clear l35 h
   intro v o h
   obtain ⟨x16, x17, x18, x19, x20, x21, x22, x23⟩ := v
   replace h : oM p0 x16 x17 x18 x19 x20 x21 x22 x23 = some o := h
   unfold oM at h
   refine ah ae [(27, vb (decide (x17 < ((List.replicate p0.Hashes.toNat (0 : Int)).length : Int))))] 6 (seq ?_)
   refine Fw h (fun c25 h => ?_) (fun c25 h => ?_)
   ·refine skip (Fp ?_)
    refine seq (block ?_)
    refine ah ae [(11, af x17)] 8 ?_
    obtain ⟨y26, y27, y28, y29, y30, e31, h⟩ := gI h
    obtain ⟨g32, g33, h⟩ := aG h
    refine AW.rg ae [] [0, 1, 2, 3, 4] [(0, .row 3 false 1 x16.length (aF (x16.set (0 + x17.toNat) y26))), (1, .box 3 [ag y27]), (2, .box 3 [ag y28]), (3, .box 84 [ag y29.Length, ag y29.Hashes, ag y29.Salt]), (4, .box 3 [ag y30])] 13 [hn, hn, hn, hm [1, 2, 3, 4] [] 0 (yi x18 x19 (⟨x20, x21, x22⟩ : aC) x23 (y26, y27, y28, y29, y30) e31) ⟨rfl, rfl, rfl, rfl, tv⟩, hq g32 g33, hset 0 db x16 (0 + x17.toNat) y26 (n := x16.length) (by have h1 : 0 ≤ x17 := g32; have h2 : x17 < (x16.length : Int) := g33; omega) rfl] ?_
    refine Fj (Fp ?_)
    refine aS ae [(26, af (i64.wrap (x17 + 1)))] 15 ?_
    exact bu h (Conv.trans (fK [(9, .c (.ref 0 1 0 ((x16.set (0 + x17.toNat) y26).length)))] ⟨⟨.c (.ref 0 1 0 x16.length), by kernel_rfl, cG.len (by simp only [Gd])⟩, tv⟩) (Conv.trans (gJ 0 3 false 1 x16.length ((x16.set (0 + x17.toNat) y26).length) (aF (x16.set (0 + x17.toNat) y26)) (by kernel_rfl) (by simp only [Gd])) (ai [(0, 0), (1, 1), (2, 2), (3, 3), (4, 4)])))
   ·refine exit (Fb ?_)
    exact aU h rfl (ai [(0, 0)])
  ·show (_ : Exit → St → Prop) (.exit 0) _
   refine E6 (Fp ?_)
   refine ah ae [(7, af 0), (6, rX 0 1 x34.length)] 4 (ret ?_)
   obtain rfl := am h
   exact aW (.inr rfl) [(0, 0)] 1 (.tup [.c (.ref 0 1 0 x34.length), af 0])
noncomputable def pD (y16 : List Int) (x21 : Int) (x22 : List Int) : Option ((Int × (List Int)) ⊕ (List Int)) := if (decide (x21 < (y16.length : Int))) then (if 0 ≤ x21 then (if x21 < (y16.length : Int) then (if 0 ≤ (i64.wrap ((y16.getD (0 + x21.toNat) 0).tdiv 64)) then (if (i64.wrap ((y16.getD (0 + x21.toNat) 0).tdiv 64)) < (x22.length : Int) then (if 0 ≤ ((y16.getD (0 + x21.toNat) 0).tmod 64) then (some (.inl (i64.wrap (x21 + 1), (x22.set (0 + (i64.wrap ((y16.getD (0 + x21.toNat) 0).tdiv 64)).toNat) (GA .u64 (x22.getD (0 + (i64.wrap ((y16.getD (0 + x21.toNat) 0).tdiv 64)).toNat) 0) (dl .u64 1 ((y16.getD (0 + x21.toNat) 0).tmod 64))))))) else none) else none) else none) else none) else none) else (some (.inr x22))
noncomputable def pE (p0 : aC) (p1 : hJ) (p2 : List ByteArray) (x10 : Int) (x11 : List Int) : Option ((Int × (List Int)) ⊕ (List Int)) := if (decide (x10 < (p2.length : Int))) then (if 0 ≤ x10 then (if x10 < (p2.length : Int) then (aM (Je p0 p1 (p2.getD x10.toNat mt)) fun y16 y17 => ((loop (fun v : Int × (List Int) => pD y16 v.1 v.2) (0, x11)).bind fun x30 => (some (.inl (i64.wrap (x10 + 1), x30))))) else none) else none) else (some (.inr x11))
noncomputable def qy (p0 : aC) (p1 : hJ) (p2 : List ByteArray) : Option (aP × Int) := (jv p0).bind fun y1 => (if (y1 != 0) then (some ((⟨0, ([] : List Int)⟩ : aP), y1)) else (if (decide ((p2.length : Int) > 80)) then (some ((⟨0, ([] : List Int)⟩ : aP), 1)) else (aM (mu p0.Length) fun y5 y6 => ((loop (fun v : Int × (List Int) => pE p0 p1 p2 v.1 v.2) (0, y5.Words)).bind fun x32 => (some ((⟨y5.Length, x32⟩ : aP), 0))))))
theorem yJ (p0 : aC) (p1 : hJ) (p2 : List ByteArray) (r : aP × Int) (h : qy p0 p1 p2 = some r) : CT 123 [.agg [ag p0.Length, ag p0.Hashes, ag p0.Salt], .agg (bp p1), vl 1 Rs p2] [] (.tup [.agg [ag r.1.Length, .ref 0 1 0 r.1.Words.length], af r.2]) [(0, .row 37 false 1 r.1.Words.length (bc r.1.Words))] := by
 refine an ae 0 Tryz.func123 rfl (fun _ _ _ => ?_)
 unfold qy at h
 refine Fs ae [(6, pX 2 2), (4, pX 1 2), (3, pX 0 3)] [0, 1, 2] [(2, .box 126 [ag 0, ax]), (1, .box 39 (bp p1)), (0, .box 84 [ag p0.Length, ag p0.Hashes, ag p0.Salt])] 4 [] (seq ?_)
 obtain ⟨y1, e2, h⟩ := ak h
 refine ay ae [(8, af y1)] 6 [hn, hk (iZ p0 y1 e2)] ?_
 refine ah ae [(20, vb (y1 != 0))] 8 ?_
 refine Fw h (fun c3 h => ?_) (fun c3 h => ?_)
 ·refine Fs ae [(7, af y1)] [2] [(2, .box 126 [ag 0, ax])] 12 [] (ret (Fo ?_))
  obtain rfl := am h
  exact cB (.inr rfl) [(0, 12)] 1 (.tup [.agg [ag 0, .ref 12 1 0 (([] : List Int).length)], af y1]) (cX (id := 2) (ty0 := 126) (cs := [ag 0, ax]) 1 (ty := 37) (sz := 1) (n := ([] : List Int).length) (f := bc ([] : List Int)) (by kernel_rfl) (by kernel_rfl) rfl)
 ·refine skip (Fp (seq ?_))
  refine ah ae [(25, vb (decide ((p2.length : Int) > 80)))] 11 ?_
  refine Fw h (fun c4 h => ?_) (fun c4 h => ?_)
  ·refine Fs ae [(7, af 1)] [2] [(2, .box 126 [ag 0, ax])] 14 [] (ret (Fo ?_))
   obtain rfl := am h
   exact cB (.inr rfl) [(0, 14)] 1 (.tup [.agg [ag 0, .ref 14 1 0 (([] : List Int).length)], af 1]) (cX (id := 2) (ty0 := 126) (cs := [ag 0, ax]) 1 (ty := 37) (sz := 1) (n := ([] : List Int).length) (f := bc ([] : List Int)) (by kernel_rfl) (by kernel_rfl) rfl)
  ·refine skip (Fp ?_)
   obtain ⟨y5, y6, e7, h⟩ := aO h
   refine Fs ae [(9, pX 17 2)] [13, 17] [(17, .box 126 [ag y5.Length, .ref 13 1 0 y5.Words.length]), (13, .row 37 false 1 y5.Words.length (bc y5.Words))] 20 [hn, hn, hm [] [] 1 (un p0.Length (y5, y6) e7) ⟨bV io _ _ _, tv⟩] (seq ?_)
   refine ah ae [(35, af 0), (34, af (p2.length : Int)), (33, vl 1 Rs p2)] 23 (block ?_)
   obtain ⟨x32, l33, h⟩ := ak h
   refine Fy l33 (fun v => ⟨[(3, pX 0 3), (4, pX 1 2), (6, pX 2 2), (9, pX 3 2), (33, vl 1 Rs p2), (34, af (p2.length : Int)), (35, af v.1)], [(0, .box 84 [ag p0.Length, ag p0.Hashes, ag p0.Salt]), (1, .box 39 (bp p1)), (2, .box 126 [ag 0, ax]), (3, .box 126 [ag y5.Length, .ref 4 1 0 v.2.length]), (4, .row 37 false 1 v.2.length (bc v.2))], 5⟩) (fun t : List Int => (.exit 0, ⟨[(6, pX 0 2), (9, pX 1 2)], [(0, .box 126 [ag 0, ax]), (1, .box 126 [ag y5.Length, .ref 2 1 0 t.length]), (2, .row 37 false 1 t.length (bc t))], 3⟩)) (ai [(0, 0), (1, 1), (2, 2), (3, 17), (4, 13)]) (fun _ => tv) ?_ ?_
   ·clear l33 h
    intro v o h
    obtain ⟨x10, x11⟩ := v
    replace h : pE p0 p1 p2 x10 x11 = some o := h
    unfold pE at h
    refine ah ae [(36, vb (decide (x10 < (p2.length : Int))))] 6 (seq ?_)
    refine Fw h (fun c13 h => ?_) (fun c13 h => ?_)
    ·refine skip (Fp ?_)
     refine seq (block ?_)
     obtain ⟨g14, g15, h⟩ := aG h
     refine ay ae [(12, vs (p2.getD x10.toNat mt))] 9 [hq g14 g15] ?_
     obtain ⟨y16, y17, e18, h⟩ := aO h
     refine Fs ae [(13, rX 12 1 y16.length)] [12] [(12, .row 3 false 1 y16.length (aF y16))] 18 [hn, hn, hn, hm [] [] 1 (yc p0 p1 (p2.getD x10.toNat mt) (y16, y17) e18) ⟨bV xf _ _ _, tv⟩] ?_
     refine ah ae [(48, af 0), (47, af (y16.length : Int)), (46, rX 12 1 y16.length)] 21 (block ?_)
     obtain ⟨x30, l31, h⟩ := ak h
     refine Fy l31 (fun v => ⟨[(3, pX 0 3), (4, pX 1 2), (6, pX 2 2), (9, pX 3 2), (33, vl 1 Rs p2), (34, af (p2.length : Int)), (35, af x10), (46, rX 4 1 y16.length), (47, af (y16.length : Int)), (48, af v.1)], [(0, .box 84 [ag p0.Length, ag p0.Hashes, ag p0.Salt]), (1, .box 39 (bp p1)), (2, .box 126 [ag 0, ax]), (3, .box 126 [ag y5.Length, .ref 5 1 0 v.2.length]), (4, .row 3 false 1 y16.length (aF y16)), (5, .row 37 false 1 v.2.length (bc v.2))], 6⟩) (fun t : List Int => (.exit 2, ⟨[(3, pX 0 3), (4, pX 1 2), (6, pX 2 2), (9, pX 3 2), (33, vl 1 Rs p2), (34, af (p2.length : Int)), (35, af x10)], [(0, .box 84 [ag p0.Length, ag p0.Hashes, ag p0.Salt]), (1, .box 39 (bp p1)), (2, .box 126 [ag 0, ax]), (3, .box 126 [ag y5.Length, .ref 4 1 0 t.length]), (4, .row 37 false 1 t.length (bc t))], 5⟩)) (ai [(0, 0), (1, 1), (2, 2), (3, 3), (4, 12), (5, 4)]) (fun _ => tv) ?_ ?_
     ·clear l31 h
      intro v o h
      obtain ⟨x21, x22⟩ := v
      replace h : pD y16 x21 x22 = some o := h
      unfold pD at h
      refine ah ae [(49, vb (decide (x21 < (y16.length : Int))))] 7 (seq ?_)
      refine Fw h (fun c24 h => ?_) (fun c24 h => ?_)
      ·refine skip (Fp ?_)
       refine seq (block ?_)
       obtain ⟨g25, g26, h⟩ := aG h
       refine ay ae [(16, af (y16.getD (0 + x21.toNat) 0))] 10 [hq g25 g26, ho (p := (0 + x21.toNat) < y16.length) (by have h1 : 0 ≤ x21 := g25; have h2 : x21 < (y16.length : Int) := g26; omega)] ?_
       obtain ⟨g27, g28, h⟩ := aG h
       obtain ⟨g29, h⟩ := aN h
       refine Fu ae cu [[], [], [], [], [], [], [], [], [], [], [], [5]] [] [(5, .row 37 false 1 x22.length (bc (x22.set (0 + (i64.wrap ((y16.getD (0 + x21.toNat) 0).tdiv 64)).toNat) (GA .u64 (x22.getD (0 + (i64.wrap ((y16.getD (0 + x21.toNat) 0).tdiv 64)).toNat) 0) (dl .u64 1 ((y16.getD (0 + x21.toNat) 0).tmod 64))))))] 22 [hn, hn, hn, ho (p := (64 : Int) ≠ 0) (by decide), hq g27 g28, ho (p := (0 + (i64.wrap ((y16.getD (0 + x21.toNat) 0).tdiv 64)).toNat) < x22.length) (by have h1 : 0 ≤ (i64.wrap ((y16.getD (0 + x21.toNat) 0).tdiv 64)) := g27; have h2 : (i64.wrap ((y16.getD (0 + x21.toNat) 0).tdiv 64)) < (x22.length : Int) := g28; omega), hn, ho (p := (64 : Int) ≠ 0) (by decide), ho g29, hn, hq g27 g28, hset 0 im x22 (0 + (i64.wrap ((y16.getD (0 + x21.toNat) 0).tdiv 64)).toNat) (GA .u64 (x22.getD (0 + (i64.wrap ((y16.getD (0 + x21.toNat) 0).tdiv 64)).toNat) 0) (dl .u64 1 ((y16.getD (0 + x21.toNat) 0).tmod 64))) (n := x22.length) (by have h1 : 0 ≤ (i64.wrap ((y16.getD (0 + x21.toNat) 0).tdiv 64)) := g27; have h2 : (i64.wrap ((y16.getD (0 + x21.toNat) 0).tdiv 64)) < (x22.length : Int) := g28; omega) rfl] ?_
       refine Fj (Fp ?_)
       refine aS ae [(48, af (i64.wrap (x21 + 1)))] 24 ?_
       exact bu h (Conv.trans (ai (S' := ⟨[(48, af (i64.wrap (x21 + 1))), (3, pX 0 3), (4, pX 1 2), (6, pX 2 2), (9, pX 3 2), (33, vl 1 Rs p2), (34, af (p2.length : Int)), (35, af x10), (46, rX 4 1 y16.length), (47, af (y16.length : Int))], [(5, .row 37 false 1 x22.length (bc (x22.set (0 + (i64.wrap ((y16.getD (0 + x21.toNat) 0).tdiv 64)).toNat) (GA .u64 (x22.getD (0 + (i64.wrap ((y16.getD (0 + x21.toNat) 0).tdiv 64)).toNat) 0) (dl .u64 1 ((y16.getD (0 + x21.toNat) 0).tmod 64)))))), (0, .box 84 [ag p0.Length, ag p0.Hashes, ag p0.Salt]), (1, .box 39 (bp p1)), (2, .box 126 [ag 0, ax]), (3, .box 126 [ag y5.Length, .ref 5 1 0 x22.length]), (4, .row 3 false 1 y16.length (aF y16))], 24⟩) [(5, 5), (0, 0), (1, 1), (2, 2), (3, 3), (4, 4)] (by kernel_rfl)) (Conv.trans (rM (S' := ⟨[(48, af (i64.wrap (x21 + 1))), (3, pX 0 3), (4, pX 1 2), (6, pX 2 2), (9, pX 3 2), (33, vl 1 Rs p2), (34, af (p2.length : Int)), (35, af x10), (46, rX 4 1 y16.length), (47, af (y16.length : Int))], [(5, .row 37 false 1 (x22.set (0 + (i64.wrap ((y16.getD (0 + x21.toNat) 0).tdiv 64)).toNat) (GA .u64 (x22.getD (0 + (i64.wrap ((y16.getD (0 + x21.toNat) 0).tdiv 64)).toNat) 0) (dl .u64 1 ((y16.getD (0 + x21.toNat) 0).tmod 64)))).length (bc (x22.set (0 + (i64.wrap ((y16.getD (0 + x21.toNat) 0).tdiv 64)).toNat) (GA .u64 (x22.getD (0 + (i64.wrap ((y16.getD (0 + x21.toNat) 0).tdiv 64)).toNat) 0) (dl .u64 1 ((y16.getD (0 + x21.toNat) 0).tmod 64)))))), (0, .box 84 [ag p0.Length, ag p0.Hashes, ag p0.Salt]), (1, .box 39 (bp p1)), (2, .box 126 [ag 0, ax]), (3, .box 126 [ag y5.Length, .ref 5 1 0 ((x22.set (0 + (i64.wrap ((y16.getD (0 + x21.toNat) 0).tdiv 64)).toNat) (GA .u64 (x22.getD (0 + (i64.wrap ((y16.getD (0 + x21.toNat) 0).tdiv 64)).toNat) 0) (dl .u64 1 ((y16.getD (0 + x21.toNat) 0).tmod 64)))).length)]), (4, .row 3 false 1 y16.length (aF y16))], 24⟩) (by simp only [Gd])) (ai [(0, 0), (1, 1), (2, 2), (3, 3), (4, 4), (5, 5)])))
      ·refine exit (Fb ?_)
       exact aU h rfl (ai [(0, 0), (1, 1), (2, 2), (3, 3), (4, 5)])
     ·show (_ : Exit → St → Prop) (.exit 2) _
      refine E6 (Fj (Fp ?_))
      refine aS ae [(35, af (i64.wrap (x10 + 1)))] 7 ?_
      exact bu h (ai [(0, 0), (1, 1), (2, 2), (3, 3), (4, 4)])
    ·refine exit (Fb ?_)
     exact aU h rfl (ai [(0, 2), (1, 3), (2, 4)])
   ·show (_ : Exit → St → Prop) (.exit 0) _
    refine E6 (Fp ?_)
    refine Fs ae [(7, af 0)] [0] [(0, .box 126 [ag y5.Length, .ref 2 1 0 x32.length])] 6 [] (ret ?_)
    obtain rfl := am h
    exact aW (.inr rfl) [(0, 2)] 1 (.tup [.agg [ag y5.Length, .ref 2 1 0 x32.length], af 0])
noncomputable def li (p0 : aK) (p1 : aC) (p2 : hJ) (p3 : aB) (p4 : Int) (x4 : ByteArray) : Option (aP × Int) := aM (qw p0 p4 (p3.Values.getD p4.toNat mt)) fun y5 y6 => (if (y6 != 0) then (some ((⟨0, ([] : List Int)⟩ : aP), y6)) else ((ol (⟨p4, decide (p1.Salt ≥ 0), x4⟩ : gt) p2).bind fun y9 => (aM (qy p1 y9 y5) fun y11 y12 => (some (y11, y12)))))
noncomputable def qz (p0 : aK) (p1 : aC) (p2 : hJ) (p3 : aB) (p4 : Int) : Option (aP × Int) := if 0 ≤ p4 then (if p4 < (p3.Values.length : Int) then (if ((p3.Values.getD p4.toNat mt).toList == (mk #[]).toList) then (some ((⟨0, ([] : List Int)⟩ : aP), 0)) else (if (decide (p1.Salt ≥ 0)) then (if 0 ≤ p1.Salt then (if p1.Salt < (p3.Values.length : Int) then (li p0 p1 p2 p3 p4 (p3.Values.getD p1.Salt.toNat mt)) else none) else none) else (li p0 p1 p2 p3 p4 mt))) else none) else none
theorem yK (p0 : aK) (p1 : aC) (p2 : hJ) (p3 : aB) (p4 : Int) (r : aP × Int) (h : qz p0 p1 p2 p3 p4 = some r) : CT 82 [.agg (aJ p0), .agg [ag p1.Length, ag p1.Hashes, ag p1.Salt], .agg (bp p2), .agg (bL p3), af p4] [] (.tup [.agg [ag r.1.Length, .ref 0 1 0 r.1.Words.length], af r.2]) [(0, .row 37 false 1 r.1.Words.length (bc r.1.Words))] := by
 refine an ae 0 Tryz.func82 rfl (fun _ _ _ => ?_)
 unfold qz at h
 refine Fs ae [(10, pX 4 2), (8, pX 3 3), (7, pX 2 2), (6, pX 1 3), (5, pX 0 4)] [0, 1, 2, 3, 4] [(4, .box 126 [ag 0, ax]), (3, .box 53 (bL p3)), (2, .box 39 (bp p2)), (1, .box 84 [ag p1.Length, ag p1.Hashes, ag p1.Salt]), (0, .box 33 (aJ p0))] 6 [] (seq ?_)
 obtain ⟨g1, g2, h⟩ := aG h
 refine ay ae [(20, vb ((p3.Values.getD p4.toNat mt).toList == (mk #[]).toList))] 12 [hn, hn, hn, hq g1 g2] ?_
 refine Fw h (fun c3 h => ?_) (fun c3 h => ?_)
 ·refine Fs ae [(11, af 0)] [4] [(4, .box 126 [ag 0, ax])] 15 [] (ret (Fo ?_))
  obtain rfl := am h
  exact cB (.inr rfl) [(0, 15)] 1 (.tup [.agg [ag 0, .ref 15 1 0 (([] : List Int).length)], af 0]) (cX (id := 4) (ty0 := 126) (cs := [ag 0, ax]) 1 (ty := 37) (sz := 1) (n := ([] : List Int).length) (f := bc ([] : List Int)) (by kernel_rfl) (by kernel_rfl) rfl)
 ·refine skip (Fp ?_)
  refine Fs ae [(12, pX 17 3)] [17] [(17, .box 205 [ag p4, cb (decide (p1.Salt ≥ 0)), cs mt])] 19 [] (seq ?_)
  refine AW.join (ι := ByteArray) (fun v => ⟨[(4, af p4), (5, pX 0 4), (6, pX 1 3), (7, pX 2 2), (8, pX 3 3), (10, pX 4 2), (12, pX 5 3)], [(0, .box 33 (aJ p0)), (1, .box 84 [ag p1.Length, ag p1.Hashes, ag p1.Salt]), (2, .box 39 (bp p2)), (3, .box 53 (bL p3)), (4, .box 126 [ag 0, ax]), (5, .box 205 [ag p4, cb (decide (p1.Salt ≥ 0)), cs v])], 6⟩) (fun v : ByteArray => li p0 p1 p2 p3 p4 v = some r) (fun x4 h => ?_) ?_
  ·unfold li at h
   refine Fp ?_
   obtain ⟨y5, y6, e7, h⟩ := aO h
   refine Fv ae cu [[], [], [], [], [], [], [], [13]] [(14, af y6), (13, rX 13 1 y5.length)] [(13, .row 9 false 1 y5.length (Rs y5))] 19 [hn, hn, hn, hn, hn, hq g1 g2, hn, hm [] [] 1 (yG p0 p4 (p3.Values.getD p4.toNat mt) (y5, y6) e7) ⟨bV Vs _ _ _, tv⟩] ?_
   refine seq ?_
   refine ah ae [(48, vb (y6 != 0))] 21 ?_
   refine Fw h (fun c8 h => ?_) (fun c8 h => ?_)
   ·refine Fs ae [(11, af y6)] [4] [(4, .box 126 [ag 0, ax])] 25 [] (ret (Fo ?_))
    obtain rfl := am h
    exact cB (.inr rfl) [(0, 25)] 1 (.tup [.agg [ag 0, .ref 25 1 0 (([] : List Int).length)], af y6]) (cX (id := 4) (ty0 := 126) (cs := [ag 0, ax]) 1 (ty := 37) (sz := 1) (n := ([] : List Int).length) (f := bc ([] : List Int)) (by kernel_rfl) (by kernel_rfl) rfl)
   ·refine skip (Fp ?_)
    obtain ⟨y9, e10, h⟩ := ak h
    obtain ⟨y11, y12, e13, h⟩ := aO h
    refine Fv ae cu [[], [], [], [], [], [25], [], [], [4]] [(11, af y12)] [(4, .box 126 [ag y11.Length, .ref 25 1 0 y11.Words.length]), (25, .row 37 false 1 y11.Words.length (bc y11.Words))] 30 [hn, hn, hn, hk (xA (⟨p4, decide (p1.Salt ≥ 0), x4⟩ : gt) p2 y9 e10), hn, hg [] [] true 1 (q := ((True) ∧ (True) ∧ (True) ∧ (True)) ∧ ((True) ∧ (True) ∧ (True)) ∧ (0 + y5.length ≤ y5.length) ∧ (True)) ⟨⟨tv, tv, tv, tv⟩, ⟨tv, tv, tv⟩, br, tv⟩ (a0 := [.agg [ag p1.Length, ag p1.Hashes, ag p1.Salt], .agg (bp y9), vl 1 Rs y5]) (yJ p1 y9 y5 (y11, y12) e13) ⟨aR.refl _, aR.refl _, aR.refl _, tv⟩ (fun _ => ⟨bV io _ _ _, tv⟩)] ?_
    refine ret ?_
    obtain rfl := am h
    exact aW (.inr rfl) [(0, 25)] 1 (.tup [.agg [ag y11.Length, .ref 25 1 0 y11.Words.length], af y12])
  ·refine ah ae [(28, vb (decide (p1.Salt ≥ 0)))] 21 ?_
   refine Fw h (fun c14 h => ?_) (fun c14 h => ?_)
   ·obtain ⟨g15, g16, h⟩ := aG h
    refine AW.rg ae [] [17] [(17, .box 205 [ag p4, cb (decide (p1.Salt ≥ 0)), cs (p3.Values.getD p1.Salt.toNat mt)])] 29 [hn, hn, hn, hn, hq g15 g16] ?_
    exact jl (p3.Values.getD p1.Salt.toNat mt) h (ai [(0, 0), (1, 1), (2, 2), (3, 3), (4, 4), (5, 17)])
   ·refine skip ?_
    exact jl mt h (ai [(0, 0), (1, 1), (2, 2), (3, 3), (4, 4), (5, 17)])
noncomputable def oX (p0 : Int) (p1 : aC) (pc0 : aK) (pc1 : hJ) (pc2 : aB) : Option (aP × Int × aK × hJ × aB) := aM (qz pc0 p1 pc1 pc2 p0) fun y1 y2 => (some (y1, y2, pc0, pc1, pc2))
theorem xN (p0 : Int) (p1 : aC) (pc0 : aK) (pc1 : hJ) (pc2 : aB) (r : aP × Int × aK × hJ × aB) (h : oX p0 p1 pc0 pc1 pc2 = some r) : CT 81 [af p0, .agg [ag p1.Length, ag p1.Hashes, ag p1.Salt], .c (.ptr 0 4 0 0), .c (.ptr 1 2 0 0), .c (.ptr 2 3 0 0)] [(0, .box 33 (aJ pc0)), (1, .box 39 (bp pc1)), (2, .box 53 (bL pc2))] (.tup [.agg [ag r.1.Length, .ref 3 1 0 r.1.Words.length], af r.2.1]) [(0, .box 33 (aJ r.2.2.1)), (1, .box 39 (bp r.2.2.2.1)), (2, .box 53 (bL r.2.2.2.2)), (3, .row 37 false 1 r.1.Words.length (bc r.1.Words))] := by
 refine an ae 3 Tryz.func81 rfl (fun _ _ _ => ?_)
 unfold oX at h
 refine Fs ae [(7, pX 4 2), (6, pX 3 3)] [3, 4] [(4, .box 126 [ag 0, ax]), (3, .box 84 [ag p1.Length, ag p1.Hashes, ag p1.Salt])] 6 [] ?_
 obtain ⟨y1, y2, e3, h⟩ := aO h
 refine Fs ae [(8, af y2)] [4, 11] [(4, .box 126 [ag y1.Length, .ref 11 1 0 y1.Words.length]), (11, .row 37 false 1 y1.Words.length (bc y1.Words))] 16 [hn, hn, hn, hn, hn, hm [] [] 1 (yK pc0 p1 pc1 pc2 p0 (y1, y2) e3) ⟨bV io _ _ _, tv⟩] (ret ?_)
 obtain rfl := am h
 exact aW (.inr rfl) [(0, 0), (1, 1), (2, 2), (3, 11)] 4 (.tup [.agg [ag y1.Length, .ref 11 1 0 y1.Words.length], af y2])
def qM (x : aP) : List T := [.v (.int .i64 x.Length), .tree x.Words.length 1 (bc x.Words)]
def cn (xs : List aP) : Nat → Nat → T := be GM qM xs
noncomputable def nP (p0 : List aC) (x12 : List aP) (x13 : Int) (x14 : List ar) (x15 : List ByteArray) (x16 : List aA) (x17 : List aA) (x18 : Int) (x19 : Int) (x20 : Int) (x21 : Int) (x22 : List ByteArray) : Option (((List aP) × Int × (List ar) × (List ByteArray) × (List aA) × (List aA) × Int × Int × Int × Int × (List ByteArray)) ⊕ (((List aP) × (List ar) × (List ByteArray) × (List aA) × (List aA) × Int × Int × Int × Int × (List ByteArray)) ⊕ (Int × (List ar) × (List ByteArray) × (List aA) × (List aA) × Int × Int × Int × Int × (List ByteArray)))) := if (decide (x13 < (p0.length : Int))) then (if 0 ≤ x13 then (if x13 < (p0.length : Int) then (eM (oX x13 (p0.getD x13.toNat cH) (⟨x14, (⟨x15, x16, x17⟩ : aY)⟩ : aK) (⟨x18, x19⟩ : hJ) (⟨x20, x21, x22⟩ : aB)) fun y46 y47 y48 y49 y50 => (if (y47 != 0) then (some (.inr (.inr (y47, y48.Fields, y48.Rules.Titles, y48.Rules.Nicknames, y48.Rules.Streets, y49.A, y49.B, y50.ID, y50.Version, y50.Values)))) else (if x12.length + ([y46] : List aP).length ≤ 1099511627776 then (some (.inl ((x12 ++ ([y46] : List aP)), i64.wrap (x13 + 1), y48.Fields, y48.Rules.Titles, y48.Rules.Nicknames, y48.Rules.Streets, y49.A, y49.B, y50.ID, y50.Version, y50.Values))) else none))) else none) else none) else (some (.inr (.inl (x12, x14, x15, x16, x17, x18, x19, x20, x21, x22))))
noncomputable def nQ (x54 : List aP) (x55 : List ar) (x56 : List ByteArray) (x57 : List aA) (x58 : List aA) (x59 : Int) (x60 : Int) (x61 : Int) (x62 : Int) (x63 : List ByteArray) : Option ((List aP) × Int × aK × hJ × aB) := some (x54, 0, (⟨x55, (⟨x56, x57, x58⟩ : aY)⟩ : aK), (⟨x59, x60⟩ : hJ), (⟨x61, x62, x63⟩ : aB))
noncomputable def nR (x64 : Int) (x65 : List ar) (x66 : List ByteArray) (x67 : List aA) (x68 : List aA) (x69 : Int) (x70 : Int) (x71 : Int) (x72 : Int) (x73 : List ByteArray) : Option ((List aP) × Int × aK × hJ × aB) := some (([] : List aP), x64, (⟨x65, (⟨x66, x67, x68⟩ : aY)⟩ : aK), (⟨x69, x70⟩ : hJ), (⟨x71, x72, x73⟩ : aB))
noncomputable def nV (p0 : List aC) (p1d0 : aK) (p1d1 : hJ) (p1d2 : aB) : Option ((List aP) × Int × aK × hJ × aB) := ca (loop (fun v : (List aP) × Int × (List ar) × (List ByteArray) × (List aA) × (List aA) × Int × Int × Int × Int × (List ByteArray) => nP p0 v.1 v.2.1 v.2.2.1 v.2.2.2.1 v.2.2.2.2.1 v.2.2.2.2.2.1 v.2.2.2.2.2.2.1 v.2.2.2.2.2.2.2.1 v.2.2.2.2.2.2.2.2.1 v.2.2.2.2.2.2.2.2.2.1 v.2.2.2.2.2.2.2.2.2.2) (([] : List aP), 0, p1d0.Fields, p1d0.Rules.Titles, p1d0.Rules.Nicknames, p1d0.Rules.Streets, p1d1.A, p1d1.B, p1d2.ID, p1d2.Version, p1d2.Values)) (fun t => nQ t.1 t.2.1 t.2.2.1 t.2.2.2.1 t.2.2.2.2.1 t.2.2.2.2.2.1 t.2.2.2.2.2.2.1 t.2.2.2.2.2.2.2.1 t.2.2.2.2.2.2.2.2.1 t.2.2.2.2.2.2.2.2.2) (fun t => nR t.1 t.2.1 t.2.2.1 t.2.2.2.1 t.2.2.2.2.1 t.2.2.2.2.2.1 t.2.2.2.2.2.2.1 t.2.2.2.2.2.2.2.1 t.2.2.2.2.2.2.2.2.1 t.2.2.2.2.2.2.2.2.2)
theorem xt (p0 : List aC) (p1d0 : aK) (p1d1 : hJ) (p1d2 : aB) (r : (List aP) × Int × aK × hJ × aB) (h : nV p0 p1d0 p1d1 p1d2 = some r) : CT 80 [vl 3 cC p0, .clo 81 [] [.c (.ptr 0 4 0 0), .c (.ptr 1 2 0 0), .c (.ptr 2 3 0 0)]] [(0, .box 33 (aJ p1d0)), (1, .box 39 (bp p1d1)), (2, .box 53 (bL p1d2))] (.tup [.c (.ref 3 2 0 r.1.length), af r.2.1]) [(0, .box 33 (aJ r.2.2.1)), (1, .box 39 (bp r.2.2.2.1)), (2, .box 53 (bL r.2.2.2.2)), (3, .row 126 false 2 r.1.length (cn r.1))] := by
 refine an ae 3 Tryz.func80 rfl (fun _ _ _ => ?_)
 unfold nV at h
 refine ah ae [] 5 ?_
 refine ah ae [(6, .c (ax))] 6 (seq ?_)
 refine ah ae [(13, af 0), (12, af (p0.length : Int)), (11, vl 3 cC p0)] 9 (block ?_)
 refine FA h (fun v => ⟨[(1, .clo 81 [] [.c (.ptr 0 4 0 0), .c (.ptr 1 2 0 0), .c (.ptr 2 3 0 0)]), (6, rX 3 2 v.1.length), (11, vl 3 cC p0), (12, af (p0.length : Int)), (13, af v.2.1)], [(0, .box 33 [cl 2 cw v.2.2.1, cl 1 Rs v.2.2.2.1, cl 2 bv v.2.2.2.2.1, cl 2 bv v.2.2.2.2.2.1]), (1, .box 39 [aw v.2.2.2.2.2.2.1, aw v.2.2.2.2.2.2.2.1]), (2, .box 53 [ag v.2.2.2.2.2.2.2.2.1, ag v.2.2.2.2.2.2.2.2.2.1, cl 1 Rs v.2.2.2.2.2.2.2.2.2.2]), (3, .row 126 false 2 v.1.length (cn v.1))], 4⟩) (fun t => (.exit 0, ⟨[(6, rX 3 2 t.1.length)], [(0, .box 33 [cl 2 cw t.2.1, cl 1 Rs t.2.2.1, cl 2 bv t.2.2.2.1, cl 2 bv t.2.2.2.2.1]), (1, .box 39 [aw t.2.2.2.2.2.1, aw t.2.2.2.2.2.2.1]), (2, .box 53 [ag t.2.2.2.2.2.2.2.1, ag t.2.2.2.2.2.2.2.2.1, cl 1 Rs t.2.2.2.2.2.2.2.2.2]), (3, .row 126 false 2 t.1.length (cn t.1))], 4⟩)) (fun t => (.ret, ⟨[(4, .c (ax)), (5, af t.1)], [(0, .box 33 [cl 2 cw t.2.1, cl 1 Rs t.2.2.1, cl 2 bv t.2.2.2.1, cl 2 bv t.2.2.2.2.1]), (1, .box 39 [aw t.2.2.2.2.2.1, aw t.2.2.2.2.2.2.1]), (2, .box 53 [ag t.2.2.2.2.2.2.2.1, ag t.2.2.2.2.2.2.2.2.1, cl 1 Rs t.2.2.2.2.2.2.2.2.2])], 3⟩)) (Conv.trans (cg (t := 6) (ty := 126) (sz := 2) (n := ([] : List aP).length) (f := cn ([] : List aP)) (by kernel_rfl) rfl) (ai [(0, 0), (1, 1), (2, 2), (3, 9)])) (fun _ => tv) (fun _ => tv) ?_ (fun t h => ?_) (fun t h => ?_)
 ·clear h
  intro v o h
  obtain ⟨x12, x13, x14, x15, x16, x17, x18, x19, x20, x21, x22⟩ := v
  replace h : nP p0 x12 x13 x14 x15 x16 x17 x18 x19 x20 x21 x22 = some o := h
  unfold nP at h
  refine ah ae [(14, vb (decide (x13 < (p0.length : Int))))] 5 (seq ?_)
  refine Fw h (fun c43 h => ?_) (fun c43 h => ?_)
  ·refine skip (Fp ?_)
   refine seq (block ?_)
   obtain ⟨g44, g45, h⟩ := aG h
   refine Fs ae [(7, af x13), (8, pX 8 3)] [8] [(8, .box 84 [ag ((p0.getD x13.toNat cH).Length), ag ((p0.getD x13.toNat cH).Hashes), ag ((p0.getD x13.toNat cH).Salt)])] 11 [hn, hq g44 g45] ?_
   obtain ⟨y46, y47, y48, y49, y50, e51, h⟩ := gI h
   refine Fs ae [(10, af y47), (9, pX 18 2)] [0, 1, 2, 14, 18] [(18, .box 126 [ag y46.Length, .ref 14 1 0 y46.Words.length]), (0, .box 33 (aJ y48)), (1, .box 39 (bp y49)), (2, .box 53 (bL y50)), (14, .row 37 false 1 y46.Words.length (bc y46.Words))] 21 [hn, hn, hn, hl [0, 1, 2] [] 1 (xN x13 (p0.getD x13.toNat cH) (⟨x14, (⟨x15, x16, x17⟩ : aY)⟩ : aK) (⟨x18, x19⟩ : hJ) (⟨x20, x21, x22⟩ : aB) (y46, y47, y48, y49, y50) e51)] (seq ?_)
   refine ah ae [(26, vb (y47 != 0))] 23 ?_
   refine Fw h (fun c52 h => ?_) (fun c52 h => ?_)
   ·refine ah ae [(5, af y47), (4, .c (ax))] 26 (ret (Fo ?_))
    refine Fi (Fo ?_)
    exact aU h rfl (ai [(0, 0), (1, 1), (2, 2)])
   ·refine skip (Fp ?_)
    refine AW.pre (Conv.trans (Iw 14 37 1 y46.Words.length (bc y46.Words) (by kernel_rfl)) (mN (id := 18) (ty := 126) (cs := [ag y46.Length, .ref 14 1 0 y46.Words.length]) (ds := [ag y46.Length, cl 1 bc y46.Words]) (by kernel_rfl) ⟨cf.refl _ _, cf.ref (ty := 37) (f := bc y46.Words) (by kernel_rfl) br, tv⟩)) ?_
    obtain ⟨g53, h⟩ := aN h
    refine AW.rg ae [(6, .c (.ref 26 2 0 ((x12 ++ ([y46] : List aP)).length)))] [3, 25, 26] [(26, .row 126 false 2 (x12 ++ ([y46] : List aP)).length (cn (x12 ++ ([y46] : List aP))))] 28 [hn, hn, bh GM qM 2 (fun _ => rfl) ([y46] : List aP), bY GM qM 2 32 x12 ([y46] : List aP) g53 (by decide)] ?_
    refine Fj (Fp ?_)
    refine aS ae [(13, af (i64.wrap (x13 + 1)))] 30 ?_
    exact bu h (ai [(0, 0), (1, 1), (2, 2), (3, 26)])
  ·refine exit (Fb ?_)
   exact aU h rfl (ai [(0, 0), (1, 1), (2, 2), (3, 3)])
 ·obtain ⟨x54, x55, x56, x57, x58, x59, x60, x61, x62, x63⟩ := t
  replace h : nQ x54 x55 x56 x57 x58 x59 x60 x61 x62 x63 = some r := h
  unfold nQ at h
  show (_ : Exit → St → Prop) (.exit 0) _
  refine E6 (Fp ?_)
  refine ah ae [(5, af 0), (4, rX 3 2 x54.length)] 7 (ret ?_)
  obtain rfl := am h
  exact aW (.inr rfl) [(0, 0), (1, 1), (2, 2), (3, 3)] 4 (.tup [.c (.ref 3 2 0 x54.length), af 0])
 ·obtain ⟨x64, x65, x66, x67, x68, x69, x70, x71, x72, x73⟩ := t
  replace h : nR x64 x65 x66 x67 x68 x69 x70 x71 x72 x73 = some r := h
  unfold nR at h
  show (_ : Exit → St → Prop) (.ret) _
  refine Fi (Fo ?_)
  obtain rfl := am h
  exact cB (.inr rfl) [(0, 0), (1, 1), (2, 2), (3, 3)] 4 (.tup [.c (.ref 3 2 0 (([] : List aP).length)), af x64]) (cg (t := 4) (ty := 126) (sz := 2) (n := ([] : List aP).length) (f := cn ([] : List aP)) (by kernel_rfl) rfl)
structure cW where
 ID : Int
 Version : Int
 Fields : List aP
def zf : cW := ⟨0, 0, ([] : List aP)⟩
instance : Inhabited cW := ⟨zf⟩
noncomputable def p5 (p0 : aK) (p1 : List aC) (p2 : hJ) (p3 : aB) : Option (cW × Int) := eM (nV p1 p0 p2 p3) fun y1 y2 y3 y4 y5 => (if (y2 != 0) then (some ((⟨0, 0, ([] : List aP)⟩ : cW), y2)) else (some ((⟨y5.ID, y5.Version, y1⟩ : cW), 0)))
theorem yj (p0 : aK) (p1 : List aC) (p2 : hJ) (p3 : aB) (r : cW × Int) (h : p5 p0 p1 p2 p3 = some r) : CT 40 [.agg (aJ p0), vl 3 cC p1, .agg (bp p2), .agg (bL p3)] [] (.tup [.agg [ag r.1.ID, ag r.1.Version, .ref 0 2 0 r.1.Fields.length], af r.2]) [(0, .row 126 false 2 r.1.Fields.length (cn r.1.Fields))] := by
 refine an ae 0 Tryz.func40 rfl (fun _ _ _ => ?_)
 unfold p5 at h
 refine Fs ae [(8, pX 3 3), (7, pX 2 3), (6, pX 1 2), (4, pX 0 4)] [0, 1, 2, 3] [(3, .box 70 [ag 0, ag 0, ax]), (2, .box 53 (bL p3)), (1, .box 39 (bp p2)), (0, .box 33 (aJ p0))] 5 [] ?_
 obtain ⟨y1, y2, y3, y4, y5, e6, h⟩ := gI h
 refine Fs ae [(11, af y2), (10, rX 7 2 y1.length)] [0, 1, 2, 7] [(2, .box 53 (bL y5)), (7, .row 126 false 2 y1.length (cn y1))] 13 [hn, hn, hl [0, 1, 2] [] 1 (xt p1 p0 p2 p3 (y1, y2, y3, y4, y5) e6)] (seq ?_)
 refine ah ae [(19, vb (y2 != 0))] 15 ?_
 refine Fw h (fun c7 h => ?_) (fun c7 h => ?_)
 ·refine Fs ae [(9, af y2)] [3] [(3, .box 70 [ag 0, ag 0, ax])] 19 [] (ret (Fo ?_))
  obtain rfl := am h
  exact cB (.inr rfl) [(0, 19)] 1 (.tup [.agg [ag 0, ag 0, .ref 19 2 0 (([] : List aP).length)], af y2]) (cX (id := 3) (ty0 := 70) (cs := [ag 0, ag 0, ax]) 2 (ty := 126) (sz := 2) (n := ([] : List aP).length) (f := cn ([] : List aP)) (by kernel_rfl) (by kernel_rfl) rfl)
 ·refine skip (Fp ?_)
  refine Fs ae [(9, af 0)] [3] [(3, .box 70 [ag y5.ID, ag y5.Version, .ref 7 2 0 y1.length])] 23 [] (ret ?_)
  obtain rfl := am h
  exact aW (.inr rfl) [(0, 7)] 1 (.tup [.agg [ag y5.ID, ag y5.Version, .ref 7 2 0 y1.length], af 0])
noncomputable def lM (p0 : aK) (p1 : List aC) (p2 : hJ) (p3 : aB) : Option (cW × Int) := (qx p0 p1).bind fun y1 => (if (y1 != 0) then (some ((⟨0, 0, ([] : List aP)⟩ : cW), y1)) else ((PT p0 p3).bind fun y4 => (if (y4 != 0) then (some ((⟨0, 0, ([] : List aP)⟩ : cW), y4)) else (aM (p5 p0 p1 p2 p3) fun y7 y8 => (some (y7, y8))))))
theorem tM (p0 : aK) (p1 : List aC) (p2 : hJ) (p3 : aB) (r : cW × Int) (h : lM p0 p1 p2 p3 = some r) : CT 21 [.agg (aJ p0), vl 3 cC p1, .agg (bp p2), .agg (bL p3)] [] (.tup [.agg [ag r.1.ID, ag r.1.Version, .ref 0 2 0 r.1.Fields.length], af r.2]) [(0, .row 126 false 2 r.1.Fields.length (cn r.1.Fields))] := by
 refine an ae 0 Tryz.func21 rfl (fun _ _ _ => ?_)
 unfold lM at h
 refine Fs ae [(8, pX 3 3), (7, pX 2 3), (6, pX 1 2), (4, pX 0 4)] [0, 1, 2, 3] [(3, .box 70 [ag 0, ag 0, ax]), (2, .box 53 (bL p3)), (1, .box 39 (bp p2)), (0, .box 33 (aJ p0))] 5 [] (seq ?_)
 obtain ⟨y1, e2, h⟩ := ak h
 refine ay ae [(10, af y1)] 8 [hn, hn, hk (yH p0 p1 y1 e2)] ?_
 refine ah ae [(16, vb (y1 != 0))] 10 ?_
 refine Fw h (fun c3 h => ?_) (fun c3 h => ?_)
 ·refine Fs ae [(9, af y1)] [3] [(3, .box 70 [ag 0, ag 0, ax])] 14 [] (ret (Fo ?_))
  obtain rfl := am h
  exact cB (.inr rfl) [(0, 14)] 1 (.tup [.agg [ag 0, ag 0, .ref 14 2 0 (([] : List aP).length)], af y1]) (cX (id := 3) (ty0 := 70) (cs := [ag 0, ag 0, ax]) 2 (ty := 126) (sz := 2) (n := ([] : List aP).length) (f := cn ([] : List aP)) (by kernel_rfl) (by kernel_rfl) rfl)
 ·refine skip (Fp (seq ?_))
  obtain ⟨y4, e5, h⟩ := ak h
  refine ay ae [(11, af y4)] 13 [hn, hn, hk (tZ p0 p3 y4 e5)] ?_
  refine ah ae [(23, vb (y4 != 0))] 15 ?_
  refine Fw h (fun c6 h => ?_) (fun c6 h => ?_)
  ·refine Fs ae [(9, af y4)] [3] [(3, .box 70 [ag 0, ag 0, ax])] 19 [] (ret (Fo ?_))
   obtain rfl := am h
   exact cB (.inr rfl) [(0, 19)] 1 (.tup [.agg [ag 0, ag 0, .ref 19 2 0 (([] : List aP).length)], af y4]) (cX (id := 3) (ty0 := 70) (cs := [ag 0, ag 0, ax]) 2 (ty := 126) (sz := 2) (n := ([] : List aP).length) (f := cn ([] : List aP)) (by kernel_rfl) (by kernel_rfl) rfl)
  ·refine skip (Fp ?_)
   obtain ⟨y7, y8, e9, h⟩ := aO h
   refine Fs ae [(9, af y8)] [3, 19] [(3, .box 70 [ag y7.ID, ag y7.Version, .ref 19 2 0 y7.Fields.length]), (19, .row 126 false 2 y7.Fields.length (cn y7.Fields))] 24 [hn, hn, hn, hn, hl [] [] 1 (yj p0 p1 p2 p3 (y7, y8) e9)] (ret ?_)
   obtain rfl := am h
   exact aW (.inr rfl) [(0, 19)] 1 (.tup [.agg [ag y7.ID, ag y7.Version, .ref 19 2 0 y7.Fields.length], af y8])
noncomputable def kB (x1 : Bool) : Option Bool := some x1
noncomputable def HL (p0 : Int) : Option Bool := if (decide (p0 ≥ 1)) then (kB (decide (p0 ≤ 5))) else (kB false)
theorem ko (p0 : Int) (r : Bool) (h : HL p0 = some r) : CT 55 [af p0] [] (vb r) [] := by
 refine an ae 0 Tryz.func55 rfl (fun _ _ _ => ?_)
 unfold HL at h
 refine ah ae [] 1 (seq ?_)
 refine AW.join (ι := Bool) (fun v => ⟨[(2, vb v)], [], 0⟩) (fun v : Bool => kB v = some r) (fun x1 h => ?_) ?_
 ·unfold kB at h
  refine Fp (ret ?_)
  apply al h (vb x1)
 ·rcases aD h with ⟨c2, h⟩ | ⟨c2, h⟩
  ·refine au ae [(2, vb (decide (p0 ≤ 5)))] 8 [hn, ht c2] ?_
   exact jl (decide (p0 ≤ 5)) h
  ·refine au ae [(2, vb false)] 8 [hn, hf c2] ?_
   exact jl false h
noncomputable def lj (x1 : Bool) : Option Bool := some x1
noncomputable def js (p0 : aP) : Option Bool := (PO p0.Length).bind fun y2 => (if y2 then (lj ((p0.Words.length : Int) == (i64.wrap (p0.Length.tdiv 64)))) else (lj false))
theorem gu (p0 : aP) (r : Bool) (h : js p0 = some r) : CT 129 [.agg [ag p0.Length, cl 1 bc p0.Words]] [] (vb r) [] := by
 refine an ae 0 Tryz.func129 rfl (fun _ _ _ => ?_)
 unfold js at h
 refine Fs ae [(1, pX 0 2)] [0] [(0, .box 126 [ag p0.Length, cl 1 bc p0.Words])] 2 [] (seq ?_)
 refine AW.join (ι := Bool) (fun v => ⟨[(2, vb v)], [], 0⟩) (fun v : Bool => lj v = some r) (fun x1 h => ?_) ?_
 ·unfold lj at h
  refine Fp (ret ?_)
  apply al h (vb x1)
 ·obtain ⟨y2, e3, h⟩ := ak h
  rcases aD h with ⟨c4, hs⟩ | ⟨c4, hs⟩
  ·clear h; subst c4; have h := hs; clear hs
   refine au ae [(2, vb ((p0.Words.length : Int) == (i64.wrap (p0.Length.tdiv 64))))] 14 [hn, hn, hk (pa p0.Length true e3), hn, hn, hn, hn, hn, hn, ho (p := (64 : Int) ≠ 0) (by decide)] ?_
   exact jl ((p0.Words.length : Int) == (i64.wrap (p0.Length.tdiv 64))) h (ai [])
  ·clear h; subst c4; have h := hs; clear hs
   refine au ae [(2, vb false)] 14 [hn, hn, hk (pa p0.Length false e3)] ?_
   exact jl false h
noncomputable def qn (p0 : Int) (p1 : Int) : Option Int := some (dG .u64 p0 p1)
theorem yx (p0 : Int) (p1 : Int) (r : Int) (h : qn p0 p1 = some r) : CT 138 [aV p0, aV p1] [] (aV r) [] := by
 refine an ae 0 Tryz.func138 rfl (fun _ _ _ => ?_)
 unfold qn at h
 refine ah ae [] 1 ?_
 refine ah ae [(4, aV (dG .u64 p0 p1))] 5 (ret ?_)
 apply al h (aV (dG .u64 p0 p1))
noncomputable def nW (p0 : aP) (p1 : aP) (x7 : Int) (x8 : List Int) : Option ((Int × (List Int)) ⊕ (List Int)) := if (decide (x7 < (p0.Words.length : Int))) then (if 0 ≤ x7 then (if x7 < (p0.Words.length : Int) then (if x7 < (p1.Words.length : Int) then ((qn (p0.Words.getD x7.toNat 0) (p1.Words.getD x7.toNat 0)).bind fun y14 => (if x7 < (x8.length : Int) then (some (.inl (i64.wrap (x7 + 1), (x8.set (0 + x7.toNat) y14)))) else none)) else none) else none) else none) else (some (.inr x8))
noncomputable def iw (p0 : aP) (p1 : aP) (x1 : Bool) : Option (aP × Int) := if x1 then (some ((⟨0, ([] : List Int)⟩ : aP), 8)) else (if 0 ≤ (p0.Words.length : Int) then (if (p0.Words.length : Int) ≤ 1099511627776 then ((loop (fun v : Int × (List Int) => nW p0 p1 v.1 v.2) (0, (List.replicate ((p0.Words.length : Int).toNat) (0 : Int)))).bind fun x17 => (some ((⟨p0.Length, x17⟩ : aP), 0))) else none) else none)
noncomputable def nZ (p0 : aP) (p1 : aP) : Option (aP × Int) := (js p0).bind fun y19 => (if (!y19) then (iw p0 p1 true) else ((js p1).bind fun y22 => (if (!y22) then (iw p0 p1 true) else (iw p0 p1 (p0.Length != p1.Length)))))
theorem xw (p0 : aP) (p1 : aP) (r : aP × Int) (h : nZ p0 p1 = some r) : CT 137 [.agg [ag p0.Length, cl 1 bc p0.Words], .agg [ag p1.Length, cl 1 bc p1.Words], .c (.t (.v (.func (.func 138) #[] #[])))] [] (.tup [.agg [ag r.1.Length, .ref 0 1 0 r.1.Words.length], af r.2]) [(0, .row 37 false 1 r.1.Words.length (bc r.1.Words))] := by
 refine an ae 0 Tryz.func137 rfl (fun _ _ _ => ?_)
 unfold nZ at h
 refine Fs ae [(6, pX 2 2), (4, pX 1 2), (3, pX 0 2)] [0, 1, 2] [(2, .box 126 [ag 0, ax]), (1, .box 126 [ag p1.Length, cl 1 bc p1.Words]), (0, .box 126 [ag p0.Length, cl 1 bc p0.Words])] 4 [] (seq (seq ?_))
 refine AW.join (ι := Bool) (fun v => ⟨[(2, .c (.t (.v (.func (.func 138) #[] #[])))), (3, pX 0 2), (4, pX 1 2), (6, pX 2 2), (25, vb v)], [(0, .box 126 [ag p0.Length, cl 1 bc p0.Words]), (1, .box 126 [ag p1.Length, cl 1 bc p1.Words]), (2, .box 126 [ag 0, ax])], 3⟩) (fun v : Bool => iw p0 p1 v = some r) (fun x1 h => ?_) ?_
 ·unfold iw at h
  refine Fp ?_
  refine Fw h (fun c2 h => ?_) (fun c2 h => ?_)
  ·refine Fs ae [(7, af 8)] [2] [(2, .box 126 [ag 0, ax])] 6 [] (ret (Fo ?_))
   obtain rfl := am h
   exact cB (.inr rfl) [(0, 6)] 1 (.tup [.agg [ag 0, .ref 6 1 0 (([] : List Int).length)], af 8]) (cX (id := 2) (ty0 := 126) (cs := [ag 0, ax]) 1 (ty := 37) (sz := 1) (n := ([] : List Int).length) (f := bc ([] : List Int)) (by kernel_rfl) (by kernel_rfl) rfl)
  ·refine skip (Fp ?_)
   obtain ⟨g3, g4, h⟩ := aG h
   refine Fv ae cu [[], [], [], [], [], [8], [], [10], [10]] [(8, pX 10 2)] [(10, .box 126 [ag p0.Length, .ref 8 1 0 ((List.replicate ((p0.Words.length : Int).toNat) (0 : Int)).length)]), (8, .row 37 false 1 (List.replicate ((p0.Words.length : Int).toNat) (0 : Int)).length (bc (List.replicate ((p0.Words.length : Int).toNat) (0 : Int))))] 12 [hn, hn, hn, hn, hn, j9 0 im 1 8 [.int .u64 0] rfl rfl (p0.Words.length : Int) (p0.Words.length : Int) g3 (Int.le_refl _) g4 (by decide)] ?_
   refine seq ?_
   refine ah ae [(37, af 0), (36, af (p0.Words.length : Int)), (35, vl 1 bc p0.Words)] 16 (block ?_)
   obtain ⟨x17, l18, h⟩ := ak h
   refine Fy l18 (fun v => ⟨[(2, .c (.t (.v (.func (.func 138) #[] #[])))), (4, pX 0 2), (6, pX 1 2), (8, pX 2 2), (35, vl 1 bc p0.Words), (36, af (p0.Words.length : Int)), (37, af v.1)], [(0, .box 126 [ag p1.Length, cl 1 bc p1.Words]), (1, .box 126 [ag 0, ax]), (2, .box 126 [ag p0.Length, .ref 3 1 0 v.2.length]), (3, .row 37 false 1 v.2.length (bc v.2))], 4⟩) (fun t : List Int => (.exit 0, ⟨[(6, pX 0 2), (8, pX 1 2)], [(0, .box 126 [ag 0, ax]), (1, .box 126 [ag p0.Length, .ref 2 1 0 t.length]), (2, .row 37 false 1 t.length (bc t))], 3⟩)) (ai [(0, 1), (1, 2), (2, 10), (3, 8)]) (fun _ => tv) ?_ ?_
   ·clear l18 h
    intro v o h
    obtain ⟨x7, x8⟩ := v
    replace h : nW p0 p1 x7 x8 = some o := h
    unfold nW at h
    refine ah ae [(38, vb (decide (x7 < (p0.Words.length : Int))))] 5 (seq ?_)
    refine Fw h (fun c10 h => ?_) (fun c10 h => ?_)
    ·refine skip (Fp ?_)
     refine seq (block ?_)
     obtain ⟨g11, g12, h⟩ := aG h
     refine ay ae [(10, aV (p0.Words.getD x7.toNat 0)), (9, af x7)] 10 [hn, hq g11 g12] ?_
     obtain ⟨g13, h⟩ := aN h
     obtain ⟨y14, e15, h⟩ := ak h
     obtain ⟨g16, h⟩ := aN h
     refine Fu ae cu [[], [], [], [], [], [], [], [], [], [], [], [], [3]] [] [(3, .row 37 false 1 x8.length (bc (x8.set (0 + x7.toNat) y14)))] 22 [hn, hn, hn, hn, hn, hn, hn, hn, hq g11 g13, hn, hk (yx (p0.Words.getD x7.toNat 0) (p1.Words.getD x7.toNat 0) y14 e15), hq g11 g16, hset 0 im x8 (0 + x7.toNat) y14 (n := x8.length) (by have h1 : 0 ≤ x7 := g11; have h2 : x7 < (x8.length : Int) := g16; omega) rfl] ?_
     refine Fj (Fp ?_)
     refine aS ae [(37, af (i64.wrap (x7 + 1)))] 24 ?_
     exact bu h (Conv.trans (ai (S' := ⟨[(37, af (i64.wrap (x7 + 1))), (2, .c (.t (.v (.func (.func 138) #[] #[])))), (4, pX 0 2), (6, pX 1 2), (8, pX 2 2), (35, vl 1 bc p0.Words), (36, af (p0.Words.length : Int))], [(3, .row 37 false 1 x8.length (bc (x8.set (0 + x7.toNat) y14))), (0, .box 126 [ag p1.Length, cl 1 bc p1.Words]), (1, .box 126 [ag 0, ax]), (2, .box 126 [ag p0.Length, .ref 3 1 0 x8.length])], 24⟩) [(3, 3), (0, 0), (1, 1), (2, 2)] (by kernel_rfl)) (Conv.trans (rM (S' := ⟨[(37, af (i64.wrap (x7 + 1))), (2, .c (.t (.v (.func (.func 138) #[] #[])))), (4, pX 0 2), (6, pX 1 2), (8, pX 2 2), (35, vl 1 bc p0.Words), (36, af (p0.Words.length : Int))], [(3, .row 37 false 1 (x8.set (0 + x7.toNat) y14).length (bc (x8.set (0 + x7.toNat) y14))), (0, .box 126 [ag p1.Length, cl 1 bc p1.Words]), (1, .box 126 [ag 0, ax]), (2, .box 126 [ag p0.Length, .ref 3 1 0 ((x8.set (0 + x7.toNat) y14).length)])], 24⟩) (by simp only [Gd])) (ai [(0, 0), (1, 1), (2, 2), (3, 3)])))
    ·refine exit (Fb ?_)
     exact aU h rfl (ai [(0, 1), (1, 2), (2, 3)])
   ·show (_ : Exit → St → Prop) (.exit 0) _
    refine E6 (Fp ?_)
    refine Fs ae [(7, af 0)] [0] [(0, .box 126 [ag p0.Length, .ref 2 1 0 x17.length])] 6 [] (ret ?_)
    obtain rfl := am h
    exact aW (.inr rfl) [(0, 2)] 1 (.tup [.agg [ag p0.Length, .ref 2 1 0 x17.length], af 0])
 ·obtain ⟨y19, e20, h⟩ := ak h
  rcases aD h with ⟨c21, h⟩ | ⟨c21, h⟩
  ·refine au ae [(25, vb true)] 18 [hn, hk (gu p0 y19 e20), ht c21] ?_
   exact jl true h (ai [(0, 0), (1, 1), (2, 2)])
  ·obtain ⟨y22, e23, h⟩ := ak h
   rcases aD h with ⟨c24, h⟩ | ⟨c24, h⟩
   ·refine au ae [(25, vb true)] 17 [hn, hk (gu p0 y19 e20), hf c21, hn, hn, hk (gu p1 y22 e23), ht c24] ?_
    exact jl true h (ai [(0, 0), (1, 1), (2, 2)])
   ·refine au ae [(25, vb (p0.Length != p1.Length))] 17 [hn, hk (gu p0 y19 e20), hf c21, hn, hn, hk (gu p1 y22 e23), hf c24] ?_
    exact jl (p0.Length != p1.Length) h (ai [(0, 0), (1, 1), (2, 2)])
noncomputable def qY (p0 : aP) (p1 : aP) : Option (aP × Int) := aM (nZ p0 p1) fun y1 y2 => (some (y1, y2))
theorem zg (p0 : aP) (p1 : aP) (r : aP × Int) (h : qY p0 p1 = some r) : CT 100 [.agg [ag p0.Length, cl 1 bc p0.Words], .agg [ag p1.Length, cl 1 bc p1.Words]] [] (.tup [.agg [ag r.1.Length, .ref 0 1 0 r.1.Words.length], af r.2]) [(0, .row 37 false 1 r.1.Words.length (bc r.1.Words))] := by
 refine an ae 0 Tryz.func100 rfl (fun _ _ _ => ?_)
 unfold qY at h
 refine Fs ae [(4, pX 2 2), (3, pX 1 2), (2, pX 0 2)] [0, 1, 2] [(2, .box 126 [ag 0, ax]), (1, .box 126 [ag p1.Length, cl 1 bc p1.Words]), (0, .box 126 [ag p0.Length, cl 1 bc p0.Words])] 4 [] ?_
 obtain ⟨y1, y2, e3, h⟩ := aO h
 refine Fs ae [(5, af y2)] [2, 6] [(2, .box 126 [ag y1.Length, .ref 6 1 0 y1.Words.length]), (6, .row 37 false 1 y1.Words.length (bc y1.Words))] 11 [hn, hn, hm [] [] 1 (xw p0 p1 (y1, y2) e3) ⟨bV io _ _ _, tv⟩] (ret ?_)
 obtain rfl := am h
 exact aW (.inr rfl) [(0, 6)] 1 (.tup [.agg [ag y1.Length, .ref 6 1 0 y1.Words.length], af y2])
noncomputable def pd (p0 : Int) : Option Int := (some (u64.wrap ((dG .u64 (bJ .u64 p0 1) 6148914691236517205) + (dG .u64 p0 6148914691236517205)))).bind fun z1 => ((some (u64.wrap ((dG .u64 (bJ .u64 z1 2) 3689348814741910323) + (dG .u64 z1 3689348814741910323)))).bind fun z3 => ((some (dG .u64 (u64.wrap ((bJ .u64 z3 4) + z3)) 1085102592571150095)).bind fun z5 => ((some (u64.wrap ((u64.wrap (z5 + (bJ .u64 z5 8))) + (bJ .u64 (u64.wrap (z5 + (bJ .u64 z5 8))) 16)))).bind fun z7 => ((some (dG .i64 (i64.wrap (u64.wrap (z7 + (bJ .u64 z7 32)))) 127)).bind fun z9 => (some z9)))))
theorem xT (p0 : Int) (r : Int) (h : pd p0 = some r) : CT 139 [aV p0] [] (af r) [] := by
 refine an ae 0 Tryz.func139 rfl (fun _ _ _ => ?_)
 unfold pd at h
 refine ah ae [] 1 ?_
 obtain ⟨z1, n2, h⟩ := ak h
 replace n2 := am n2
 refine ay ae [(0, aV z1)] 8 [hn, ho (p := 0 ≤ (1 : Int)) (by decide)] ?_ (by subst n2; kernel_rfl)
 obtain ⟨z3, n4, h⟩ := ak h
 replace n4 := am n4
 refine ay ae [(0, aV z3)] 15 [hn, ho (p := 0 ≤ (2 : Int)) (by decide)] ?_ (by subst n4; kernel_rfl)
 obtain ⟨z5, n6, h⟩ := ak h
 replace n6 := am n6
 refine ay ae [(0, aV z5)] 21 [hn, ho (p := 0 ≤ (4 : Int)) (by decide)] ?_ (by subst n6; kernel_rfl)
 refine ay ae [(0, aV (u64.wrap (z5 + (bJ .u64 z5 8))))] 26 [hn, hn, ho (p := 0 ≤ (8 : Int)) (by decide)] ?_
 obtain ⟨z7, n8, h⟩ := ak h
 replace n8 := am n8
 refine ay ae [(0, aV z7)] 31 [hn, hn, ho (p := 0 ≤ (16 : Int)) (by decide)] ?_ (by subst n8; kernel_rfl)
 refine ay ae [(0, aV (u64.wrap (z7 + (bJ .u64 z7 32))))] 36 [hn, hn, ho (p := 0 ≤ (32 : Int)) (by decide)] ?_
 obtain ⟨z9, n10, h⟩ := ak h
 replace n10 := am n10
 refine ah ae [(2, af z9)] 40 ?_ (by subst n10; kernel_rfl)
 refine ret ?_
 apply al h (af z9)
noncomputable def pF (p0 : aP) (x6 : Int) (x7 : Int) : Option ((Int × Int) ⊕ Int) := if (decide (x7 < (p0.Words.length : Int))) then (if 0 ≤ x7 then (if x7 < (p0.Words.length : Int) then ((pd (p0.Words.getD x7.toNat 0)).bind fun y12 => (some (.inl (i64.wrap (x6 + y12), i64.wrap (x7 + 1))))) else none) else none) else (some (.inr x6))
noncomputable def jt (p0 : aP) : Option Int := (js p0).bind fun y1 => (if (!y1) then (some 0) else ((loop (fun v : Int × Int => pF p0 v.1 v.2) (0, 0)).bind fun x14 => (some x14)))
theorem pe (p0 : aP) (r : Int) (h : jt p0 = some r) : CT 101 [.agg [ag p0.Length, cl 1 bc p0.Words]] [] (af r) [] := by
 refine an ae 0 Tryz.func101 rfl (fun _ _ _ => ?_)
 unfold jt at h
 refine Fs ae [(1, pX 0 2)] [0] [(0, .box 126 [ag p0.Length, cl 1 bc p0.Words])] 2 [] (seq ?_)
 obtain ⟨y1, e2, h⟩ := ak h
 refine ay ae [(8, vb (!y1))] 4 [hn, hk (gu p0 y1 e2)] ?_
 refine Fw h (fun c3 h => ?_) (fun c3 h => ?_)
 ·refine ah ae [(2, af 0)] 5 (ret (Fo ?_))
  apply al h (af 0)
 ·refine skip (Fp ?_)
  refine ah ae [(3, af 0)] 5 (seq ?_)
  refine ah ae [(12, af 0), (11, af (p0.Words.length : Int)), (10, vl 1 bc p0.Words)] 9 (block ?_)
  obtain ⟨x14, l15, h⟩ := ak h
  refine Fy l15 (fun v => ⟨[(3, af v.1), (10, vl 1 bc p0.Words), (11, af (p0.Words.length : Int)), (12, af v.2)], [], 0⟩) (fun t : Int => (.exit 0, ⟨[(3, af t)], [], 0⟩)) (ai []) (fun _ => tv) ?_ ?_
  ·clear l15 h
   intro v o h
   obtain ⟨x6, x7⟩ := v
   replace h : pF p0 x6 x7 = some o := h
   unfold pF at h
   refine ah ae [(13, vb (decide (x7 < (p0.Words.length : Int))))] 1 (seq ?_)
   refine Fw h (fun c9 h => ?_) (fun c9 h => ?_)
   ·refine skip (Fp ?_)
    refine seq (block ?_)
    obtain ⟨g10, g11, h⟩ := aG h
    refine ay ae [(5, aV (p0.Words.getD x7.toNat 0))] 4 [hq g10 g11] ?_
    obtain ⟨y12, e13, h⟩ := ak h
    refine au ae [(3, af (i64.wrap (x6 + y12)))] 8 [hn, hn, hk (xT (p0.Words.getD x7.toNat 0) y12 e13)] ?_
    refine Fj (Fp ?_)
    refine aS ae [(12, af (i64.wrap (x7 + 1)))] 10 ?_
    exact bu h (ai [])
   ·refine exit (Fb ?_)
    exact aU h rfl (ai [])
  ·show (_ : Exit → St → Prop) (.exit 0) _
   refine E6 (Fp ?_)
   refine ah ae [(2, af x14)] 2 (ret ?_)
   apply al h (af x14)
noncomputable def pG (p0 : aP) (p1 : aP) : Option Int := aM (qY p0 p1) fun y1 y2 => (if (y2 != 0) then (some (-1)) else ((jt p0).bind fun y5 => ((jt p1).bind fun y7 => (if ((i64.wrap (y5 + y7)) == 0) then (some 0) else ((jt y1).bind fun y10 => (if (i64.wrap (2 * (i64.wrap (y5 + y7)))) ≠ 0 then ((some (i64.wrap ((i64.wrap ((i64.wrap (4000 * y10)) + (i64.wrap (y5 + y7)))).tdiv (i64.wrap (2 * (i64.wrap (y5 + y7))))))).bind fun z13 => (some z13)) else none))))))
theorem yd (p0 : aP) (p1 : aP) (r : Int) (h : pG p0 p1 = some r) : CT 56 [.agg [ag p0.Length, cl 1 bc p0.Words], .agg [ag p1.Length, cl 1 bc p1.Words]] [] (af r) [] := by
 refine an ae 0 Tryz.func56 rfl (fun _ _ _ => ?_)
 unfold pG at h
 refine Fs ae [(3, pX 1 2), (2, pX 0 2)] [0, 1] [(1, .box 126 [ag p1.Length, cl 1 bc p1.Words]), (0, .box 126 [ag p0.Length, cl 1 bc p0.Words])] 3 [] ?_
 obtain ⟨y1, y2, e3, h⟩ := aO h
 refine Fs ae [(6, af y2), (5, pX 9 2)] [5, 9] [(9, .box 126 [ag y1.Length, .ref 5 1 0 y1.Words.length]), (5, .row 37 false 1 y1.Words.length (bc y1.Words))] 12 [hn, hn, hm [] [] 1 (zg p0 p1 (y1, y2) e3) ⟨bV io _ _ _, tv⟩] (seq ?_)
 refine ah ae [(15, vb (y2 != 0))] 14 ?_
 refine Fw h (fun c4 h => ?_) (fun c4 h => ?_)
 ·refine ah ae [(4, af (-1))] 15 (ret (Fo ?_))
  apply al h (af (-1))
 ·refine skip (Fp ?_)
  obtain ⟨y5, e6, h⟩ := ak h
  obtain ⟨y7, e8, h⟩ := ak h
  refine Fv ae cu [] [(7, af (i64.wrap (y5 + y7)))] [] 18 [hn, hk (pe p0 y5 e6), hn, hk (pe p1 y7 e8)] ?_
  refine seq ?_
  refine ah ae [(22, vb ((i64.wrap (y5 + y7)) == 0))] 20 ?_
  refine Fw h (fun c9 h => ?_) (fun c9 h => ?_)
  ·refine ah ae [(4, af 0)] 21 (ret (Fo ?_))
   apply al h (af 0)
  ·refine skip (Fp ?_)
   obtain ⟨y10, e11, h⟩ := ak h
   obtain ⟨g12, h⟩ := aN h
   obtain ⟨z13, n14, h⟩ := ak h
   replace n14 := am n14
   refine ay ae [(4, af z13)] 28 [hn, hg [] [] true 0 (q := ((True) ∧ (0 + y1.Words.length ≤ y1.Words.length) ∧ (True)) ∧ (True)) ⟨⟨tv, br, tv⟩, tv⟩ (a0 := [.agg [ag y1.Length, cl 1 bc y1.Words]]) (pe y1 y10 e11) ⟨aR.refl _, tv⟩ (fun _ => tv), hn, hn, hn, hn, hn, ho g12] ?_ (by subst n14; kernel_rfl)
   refine ret ?_
   apply al h (af z13)
noncomputable def om (p0 : cW) (p1 : cW) (x5 : List Int) (x6 : Int) : Option (((List Int) × Int) ⊕ (List Int)) := if (decide (x6 < (p0.Fields.length : Int))) then (if 0 ≤ x6 then (if x6 < (p0.Fields.length : Int) then (if x6 < (p1.Fields.length : Int) then ((pG (p0.Fields.getD x6.toNat GM) (p1.Fields.getD x6.toNat GM)).bind fun y12 => (if x5.length + ([y12] : List Int).length ≤ 1099511627776 then (some (.inl ((x5 ++ ([y12] : List Int)), i64.wrap (x6 + 1)))) else none)) else none) else none) else none) else (some (.inr x5))
noncomputable def kr (p0 : cW) (p1 : cW) (x1 : Bool) : Option ((List Int) × Int) := if x1 then (some (([] : List Int), 8)) else ((loop (fun v : (List Int) × Int => om p0 p1 v.1 v.2) (([] : List Int), 0)).bind fun x15 => (some (x15, 0)))
noncomputable def oN (p0 : cW) (p1 : cW) : Option ((List Int) × Int) := if ((p0.Fields.length : Int) != (p1.Fields.length : Int)) then (kr p0 p1 true) else ((HL (p0.Fields.length : Int)).bind fun y18 => (kr p0 p1 (!y18)))
theorem xE (p0 : cW) (p1 : cW) (r : (List Int) × Int) (h : oN p0 p1 = some r) : CT 22 [.agg [ag p0.ID, ag p0.Version, cl 2 cn p0.Fields], .agg [ag p1.ID, ag p1.Version, cl 2 cn p1.Fields]] [] (.tup [.c (.ref 0 1 0 r.1.length), af r.2]) [(0, .row 3 false 1 r.1.length (aF r.1))] := by
 refine an ae 0 Tryz.func22 rfl (fun _ _ _ => ?_)
 unfold oN at h
 refine Fs ae [(3, pX 1 3), (2, pX 0 3)] [0, 1] [(1, .box 70 [ag p1.ID, ag p1.Version, cl 2 cn p1.Fields]), (0, .box 70 [ag p0.ID, ag p0.Version, cl 2 cn p0.Fields])] 4 [] (seq (seq ?_))
 refine AW.join (ι := Bool) (fun v => ⟨[(2, pX 0 3), (3, pX 1 3), (22, vb v)], [(0, .box 70 [ag p0.ID, ag p0.Version, cl 2 cn p0.Fields]), (1, .box 70 [ag p1.ID, ag p1.Version, cl 2 cn p1.Fields])], 2⟩) (fun v : Bool => kr p0 p1 v = some r) (fun x1 h => ?_) ?_
 ·unfold kr at h
  refine Fp ?_
  refine Fw h (fun c2 h => ?_) (fun c2 h => ?_)
  ·refine ah ae [(5, af 8), (4, .c (ax))] 4 (ret (Fo ?_))
   obtain rfl := am h
   exact cB (.inr rfl) [(0, 4)] 1 (.tup [.c (.ref 4 1 0 (([] : List Int).length)), af 8]) (cg (t := 4) (ty := 3) (sz := 1) (n := ([] : List Int).length) (f := aF ([] : List Int)) (by kernel_rfl) rfl)
  ·refine skip (Fp ?_)
   refine ah ae [(6, .c (ax))] 3 (seq ?_)
   refine ah ae [(26, af 0), (25, af (p0.Fields.length : Int)), (24, vl 2 cn p0.Fields)] 7 (block ?_)
   obtain ⟨x15, l16, h⟩ := ak h
   refine Fy l16 (fun v => ⟨[(3, pX 0 3), (6, rX 1 1 v.1.length), (24, vl 2 cn p0.Fields), (25, af (p0.Fields.length : Int)), (26, af v.2)], [(0, .box 70 [ag p1.ID, ag p1.Version, cl 2 cn p1.Fields]), (1, .row 3 false 1 v.1.length (aF v.1))], 2⟩) (fun t : List Int => (.exit 0, ⟨[(6, rX 0 1 t.length)], [(0, .row 3 false 1 t.length (aF t))], 1⟩)) (Conv.trans (cg (t := 6) (ty := 3) (sz := 1) (n := ([] : List Int).length) (f := aF ([] : List Int)) (by kernel_rfl) rfl) (ai [(0, 1), (1, 7)])) (fun _ => tv) ?_ ?_
   ·clear l16 h
    intro v o h
    obtain ⟨x5, x6⟩ := v
    replace h : om p0 p1 x5 x6 = some o := h
    unfold om at h
    refine ah ae [(27, vb (decide (x6 < (p0.Fields.length : Int))))] 3 (seq ?_)
    refine Fw h (fun c8 h => ?_) (fun c8 h => ?_)
    ·refine skip (Fp ?_)
     refine seq (block ?_)
     obtain ⟨g9, g10, h⟩ := aG h
     refine Fs ae [(7, af x6), (8, pX 6 2)] [6] [(6, .box 126 [ag ((p0.Fields.getD x6.toNat GM).Length), cl 1 bc ((p0.Fields.getD x6.toNat GM).Words)])] 9 [hn, hq g9 g10] ?_
     obtain ⟨g11, h⟩ := aN h
     obtain ⟨y12, e13, h⟩ := ak h
     obtain ⟨g14, h⟩ := aN h
     refine Fu ae cu [[], [], [], [], [], [], [], [], [16], [17, 1]] [(6, .c (.ref 17 1 0 ((x5 ++ ([y12] : List Int)).length)))] [(17, .row 3 false 1 (x5 ++ ([y12] : List Int)).length (aF (x5 ++ ([y12] : List Int))))] 19 [hn, hn, hn, hn, hn, hq g9 g11, hn, hk (yd (p0.Fields.getD x6.toNat GM) (p1.Fields.getD x6.toNat GM) y12 e13), bh 0 db 1 (fun _ => rfl) ([y12] : List Int), bY 0 db 1 8 x5 ([y12] : List Int) g14 (by decide)] ?_
     refine Fj (Fp ?_)
     refine aS ae [(26, af (i64.wrap (x6 + 1)))] 21 ?_
     exact bu h (ai [(0, 0), (1, 17)])
    ·refine exit (Fb ?_)
     exact aU h rfl (ai [(0, 1)])
   ·show (_ : Exit → St → Prop) (.exit 0) _
    refine E6 (Fp ?_)
    refine ah ae [(5, af 0), (4, rX 0 1 x15.length)] 4 (ret ?_)
    obtain rfl := am h
    exact aW (.inr rfl) [(0, 0)] 1 (.tup [.c (.ref 0 1 0 x15.length), af 0])
 ·rcases aD h with ⟨c17, h⟩ | ⟨c17, h⟩
  ·refine au ae [(22, vb true)] 18 [hn, hn, hn, hn, hn, hn, ht c17] ?_
   exact jl true h (ai [(0, 0), (1, 1)])
  ·obtain ⟨y18, e19, h⟩ := ak h
   refine au ae [(22, vb (!y18))] 17 [hn, hn, hn, hn, hn, hn, hf c17, hn, hn, hn, hn, hk (ko (p0.Fields.length : Int) y18 e19)] ?_
   exact jl (!y18) h (ai [(0, 0), (1, 1)])
noncomputable def iQ : Option (List Int) := some ([1, 3, 9, 27, 81, 243] : List Int)
theorem oo (r : List Int) (h : iQ = some r) : CT 58 [] [] (.agg [ag (r.getD 0 0), ag (r.getD 1 0), ag (r.getD 2 0), ag (r.getD 3 0), ag (r.getD 4 0), ag (r.getD 5 0)]) [] := by
 refine an ae 0 Tryz.func58 rfl (fun _ _ _ => ?_)
 unfold iQ at h
 refine Fs ae [(0, pX 0 1)] [0] [(0, .row 129 false 1 6 (aF ([0, 0, 0, 0, 0, 0] : List Int)))] 1 [hr 6 (aF ([0, 0, 0, 0, 0, 0] : List Int)) (p := 6 = 6 ∧ ∀ i, i < 6 → ∀ j, j < 1 → aZ (cq [.v (.int .i64 0), .v (.int .i64 0), .v (.int .i64 0), .v (.int .i64 0), .v (.int .i64 0), .v (.int .i64 0)] 1 i j) (aF ([0, 0, 0, 0, 0, 0] : List Int) i j)) (⟨rfl, fun i hi j hj => match i, hi, j, hj with | 0, _, 0, _ => aZ.refl _ | 1, _, 0, _ => aZ.refl _ | 2, _, 0, _ => aZ.refl _ | 3, _, 0, _ => aZ.refl _ | 4, _, 0, _ => aZ.refl _ | 5, _, 0, _ => aZ.refl _ | _ + 6, h, _, _ => absurd h (by omega) | _, _, _ + 1, h => absurd h (by omega)⟩)] ?_
 refine Fs ae [] [0] [(0, .row 129 false 1 6 (aF ([1, 3, 9, 27, 81, 243] : List Int)))] 3 [hn, hr 6 (aF ([1, 3, 9, 27, 81, 243] : List Int)) (p := 6 = 6 ∧ ∀ i, i < 6 → ∀ j, j < 1 → aZ (cq [.v (.int .i64 1), .v (.int .i64 3), .v (.int .i64 9), .v (.int .i64 27), .v (.int .i64 81), .v (.int .i64 243)] 1 i j) (aF ([1, 3, 9, 27, 81, 243] : List Int) i j)) (⟨rfl, fun i hi j hj => match i, hi, j, hj with | 0, _, 0, _ => aZ.refl _ | 1, _, 0, _ => aZ.refl _ | 2, _, 0, _ => aZ.refl _ | 3, _, 0, _ => aZ.refl _ | 4, _, 0, _ => aZ.refl _ | 5, _, 0, _ => aZ.refl _ | _ + 6, h, _, _ => absurd h (by omega) | _, _, _ + 1, h => absurd h (by omega)⟩)] (ret ?_)
 obtain rfl := am h
 exact ⟨_, Conv.refl _ _, .inr rfl, dY.mk [] 0 (out0 := .agg [ag (([1, 3, 9, 27, 81, 243] : List Int).getD 0 0), ag (([1, 3, 9, 27, 81, 243] : List Int).getD 1 0), ag (([1, 3, 9, 27, 81, 243] : List Int).getD 2 0), ag (([1, 3, 9, 27, 81, 243] : List Int).getD 3 0), ag (([1, 3, 9, 27, 81, 243] : List Int).getD 4 0), ag (([1, 3, 9, 27, 81, 243] : List Int).getD 5 0)]) (ps := [0 + 5 < 6]) (by kernel_rfl) ⟨(by decide), tv⟩ (by kernel_rfl) (by kernel_rfl)⟩
noncomputable def kC (p0 : List Int) (x6 : Int) (x7 : Int) (x12 : Bool) : Option ((Int × Int) ⊕ (Int ⊕ Unit)) := if x12 then (some (.inr (.inr ()))) else ((iQ).bind fun y14 => (if x7 < ((6 : Nat) : Int) then ((some (i64.wrap (x6 + (i64.wrap ((p0.getD x7.toNat 0) * (y14.getD x7.toNat 0)))))).bind fun z17 => (some (.inl (z17, i64.wrap (x7 + 1))))) else none))
noncomputable def oC (p0 : List Int) (x6 : Int) (x7 : Int) : Option ((Int × Int) ⊕ (Int ⊕ Unit)) := if (decide (x7 < (p0.length : Int))) then (if 0 ≤ x7 then (if x7 < (p0.length : Int) then (if (decide ((p0.getD x7.toNat 0) < 0)) then (kC p0 x6 x7 true) else (kC p0 x6 x7 (decide ((p0.getD x7.toNat 0) ≥ 3)))) else none) else none) else (some (.inr (.inl x6)))
noncomputable def tu (x20 : Int) : Option (Int × Int) := some (x20, 0)
noncomputable def oD : Option (Int × Int) := some (0, 2)
noncomputable def oY (p0 : List Int) : Option (Int × Int) := (HL (p0.length : Int)).bind fun y1 => (if (!y1) then (some (0, 8)) else (ca (loop (fun v : Int × Int => oC p0 v.1 v.2) (0, 0)) (fun t => tu t) (fun t => oD)))
theorem xO (p0 : List Int) (r : Int × Int) (h : oY p0 = some r) : CT 57 [vl 1 aF p0] [] (.tup [af r.1, af r.2]) [] := by
 refine an ae 0 Tryz.func57 rfl (fun _ _ _ => ?_)
 unfold oY at h
 refine ah ae [] 2 (seq ?_)
 obtain ⟨y1, e2, h⟩ := ak h
 refine ay ae [(10, vb (!y1))] 5 [hn, hn, hk (ko (p0.length : Int) y1 e2)] ?_
 refine Fw h (fun c3 h => ?_) (fun c3 h => ?_)
 ·refine ah ae [(3, af 8), (2, af 0)] 7 (ret (Fo ?_))
  apply al h (.tup [af 0, af 8])
 ·refine skip (Fp ?_)
  refine ah ae [(4, af 0)] 6 (seq ?_)
  refine ah ae [(13, af 0), (12, af (p0.length : Int)), (11, vl 1 aF p0)] 9 (block ?_)
  refine FA h (fun v => ⟨[(4, af v.1), (11, vl 1 aF p0), (12, af (p0.length : Int)), (13, af v.2)], [], 0⟩) (fun t => (.exit 0, ⟨[(4, af t)], [], 0⟩)) (fun t => (.ret, ⟨[(2, af 0), (3, af 2)], [], 0⟩)) (ai []) (fun _ => tv) (fun _ => tv) ?_ (fun x20 h => ?_) (fun t h => ?_)
  ·clear h
   intro v o h
   obtain ⟨x6, x7⟩ := v
   replace h : oC p0 x6 x7 = some o := h
   unfold oC at h
   refine ah ae [(14, vb (decide (x7 < (p0.length : Int))))] 1 (seq ?_)
   refine Fw h (fun c9 h => ?_) (fun c9 h => ?_)
   ·refine skip (Fp ?_)
    refine seq (block ?_)
    obtain ⟨g10, g11, h⟩ := aG h
    refine ay ae [(6, af (p0.getD x7.toNat 0)), (5, af x7)] 6 [hn, hq g10 g11] (seq (seq ?_))
    refine AW.join (ι := Bool) (fun v => ⟨[(4, af x6), (5, af x7), (6, af (p0.getD x7.toNat 0)), (11, vl 1 aF p0), (12, af (p0.length : Int)), (13, af x7), (23, vb v)], [], 0⟩) (fun v : Bool => kC p0 x6 x7 v = some o) (fun x12 h => ?_) ?_
    ·unfold kC at h
     refine Fp ?_
     refine Fw h (fun c13 h => ?_) (fun c13 h => ?_)
     ·refine ah ae [(3, af 2), (2, af 0)] 2 (ret (Fo ?_))
      refine Fi (Fo ?_)
      exact aU h rfl (ai [])
     ·refine skip (Fp ?_)
      obtain ⟨y14, e15, h⟩ := ak h
      obtain ⟨g16, h⟩ := aN h
      obtain ⟨z17, n18, h⟩ := ak h
      replace n18 := am n18
      refine au ae [(4, af z17)] 7 [hn, hn, hk (oo y14 e15), hn, hr 6 (aF y14) (p := ((0 ≤ x7) ∧ (x7 < ((6 : Nat) : Int))) ∧ (6 = 6 ∧ ∀ i, i < 6 → ∀ j, j < 1 → cq [.v (.int .i64 (y14.getD 0 0)), .v (.int .i64 (y14.getD 1 0)), .v (.int .i64 (y14.getD 2 0)), .v (.int .i64 (y14.getD 3 0)), .v (.int .i64 (y14.getD 4 0)), .v (.int .i64 (y14.getD 5 0))] 1 i j = aF y14 i j)) (⟨⟨g10, g16⟩, ⟨rfl, fun i hi j hj => match i, hi, j, hj with | 0, _, 0, _ => rfl | 1, _, 0, _ => rfl | 2, _, 0, _ => rfl | 3, _, 0, _ => rfl | 4, _, 0, _ => rfl | 5, _, 0, _ => rfl | _ + 6, h, _, _ => absurd h (by omega) | _, _, _ + 1, h => absurd h (by omega)⟩⟩)] ?_ (by subst n18; kernel_rfl)
      refine Fj (Fp ?_)
      refine aS ae [(13, af (i64.wrap (x7 + 1)))] 9 ?_
      exact bu h (ai [])
    ·rcases aD h with ⟨c19, h⟩ | ⟨c19, h⟩
     ·refine au ae [(23, vb true)] 12 [hn, ht c19] ?_
      exact jl true h
     ·refine au ae [(23, vb (decide ((p0.getD x7.toNat 0) ≥ 3)))] 12 [hn, hf c19] ?_
      exact jl (decide ((p0.getD x7.toNat 0) ≥ 3)) h (ai [])
   ·refine exit (Fb ?_)
    exact aU h rfl (ai [])
  ·unfold tu at h
   show (_ : Exit → St → Prop) (.exit 0) _
   refine E6 (Fp ?_)
   refine ah ae [(3, af 0), (2, af x20)] 3 (ret ?_)
   apply al h (.tup [af x20, af 0])
  ·replace h : oD = some r := h
   unfold oD at h
   show (_ : Exit → St → Prop) (.ret) _
   refine Fi (Fo ?_)
   apply al h (.tup [af 0, af 2])
noncomputable def iE (x8 : Int) (x11 : List Int) : Option (((List Int) × Int) ⊕ ((List Int) ⊕ Unit)) := some (.inl (x11, i64.wrap (x8 + 1)))
noncomputable def gl (p0 : List Int) (p1 : List Int) (x7 : List Int) (x8 : Int) (x15 : Bool) : Option (((List Int) × Int) ⊕ ((List Int) ⊕ Unit)) := if x15 then (some (.inr (.inr ()))) else (if (decide ((p1.getD x8.toNat 0) < 0)) then (if x8 < (x7.length : Int) then (iE x8 (x7.set (0 + x8.toNat) 0)) else none) else (if (decide ((p1.getD x8.toNat 0) < (p0.getD x8.toNat 0))) then (if x8 < (x7.length : Int) then (iE x8 (x7.set (0 + x8.toNat) 1)) else none) else (if x8 < (x7.length : Int) then (iE x8 (x7.set (0 + x8.toNat) 2)) else none)))
noncomputable def oq (p0 : List Int) (p1 : List Int) (x7 : List Int) (x8 : Int) : Option (((List Int) × Int) ⊕ ((List Int) ⊕ Unit)) := if (decide (x8 < (p0.length : Int))) then (if 0 ≤ x8 then (if x8 < (p0.length : Int) then (if x8 < (p1.length : Int) then (if (decide ((p0.getD x8.toNat 0) < 0)) then (gl p0 p1 x7 x8 true) else (if (decide ((p0.getD x8.toNat 0) > 1000)) then (gl p0 p1 x7 x8 true) else (if (decide ((p1.getD x8.toNat 0) < (-1))) then (gl p0 p1 x7 x8 true) else (gl p0 p1 x7 x8 (decide ((p1.getD x8.toNat 0) > 1000)))))) else none) else none) else none) else (some (.inr (.inl x7)))
noncomputable def tq (x25 : List Int) : Option (Int × Int) := aM (oY x25) fun y26 y27 => (some (y26, y27))
noncomputable def ot : Option (Int × Int) := some (0, 2)
noncomputable def ku (p0 : List Int) (p1 : List Int) (x1 : Bool) : Option (Int × Int) := if x1 then (some (0, 8)) else (if 0 ≤ (p0.length : Int) then (if (p0.length : Int) ≤ 1099511627776 then (ca (loop (fun v : (List Int) × Int => oq p0 p1 v.1 v.2) ((List.replicate ((p0.length : Int).toNat) (0 : Int)), 0)) (fun t => tq t) (fun t => ot)) else none) else none)
noncomputable def oO (p0 : List Int) (p1 : List Int) : Option (Int × Int) := if ((p0.length : Int) != (p1.length : Int)) then (ku p0 p1 true) else ((HL (p0.length : Int)).bind fun y31 => (ku p0 p1 (!y31)))
theorem xF (p0 : List Int) (p1 : List Int) (r : Int × Int) (h : oO p0 p1 = some r) : CT 23 [vl 1 aF p0, vl 1 aF p1] [] (.tup [af r.1, af r.2]) [] := by
 refine an ae 0 Tryz.func23 rfl (fun _ _ _ => ?_)
 unfold oO at h
 refine ah ae [] 2 (seq (seq ?_))
 refine AW.join (ι := Bool) (fun v => ⟨[(0, vl 1 aF p0), (1, vl 1 aF p1), (20, vb v)], [], 0⟩) (fun v : Bool => ku p0 p1 v = some r) (fun x1 h => ?_) ?_
 ·unfold ku at h
  refine Fp ?_
  refine Fw h (fun c2 h => ?_) (fun c2 h => ?_)
  ·refine ah ae [(5, af 8), (4, af 0)] 2 (ret (Fo ?_))
   apply al h (.tup [af 0, af 8])
  ·refine skip (Fp ?_)
   obtain ⟨g3, g4, h⟩ := aG h
   refine Fs ae [(6, .c (.ref 2 1 0 ((List.replicate ((p0.length : Int).toNat) (0 : Int)).length)))] [2] [(2, .row 3 false 1 (List.replicate ((p0.length : Int).toNat) (0 : Int)).length (aF (List.replicate ((p0.length : Int).toNat) (0 : Int))))] 4 [hn, hn, j9 0 db 1 8 [.int .i64 0] rfl rfl (p0.length : Int) (p0.length : Int) g3 (Int.le_refl _) g4 (by decide)] (seq ?_)
   refine ah ae [(26, af 0), (25, af (p0.length : Int)), (24, vl 1 aF p0)] 7 (block ?_)
   refine FA h (fun v => ⟨[(1, vl 1 aF p1), (6, rX 0 1 v.1.length), (24, vl 1 aF p0), (25, af (p0.length : Int)), (26, af v.2)], [(0, .row 3 false 1 v.1.length (aF v.1))], 1⟩) (fun t => (.exit 0, ⟨[(6, rX 0 1 t.length)], [(0, .row 3 false 1 t.length (aF t))], 1⟩)) (fun t => (.ret, ⟨[(4, af 0), (5, af 2)], [], 0⟩)) (ai [(0, 2)]) (fun _ => tv) (fun _ => tv) ?_ (fun x25 h => ?_) (fun t h => ?_)
   ·clear h
    intro v o h
    obtain ⟨x7, x8⟩ := v
    replace h : oq p0 p1 x7 x8 = some o := h
    unfold oq at h
    refine ah ae [(27, vb (decide (x8 < (p0.length : Int))))] 2 (seq ?_)
    refine Fw h (fun c10 h => ?_) (fun c10 h => ?_)
    ·refine skip (Fp (seq ?_))
     refine AW.join (ι := List Int) (fun v => ⟨[(1, vl 1 aF p1), (6, rX 0 1 v.length), (24, vl 1 aF p0), (25, af (p0.length : Int)), (26, af x8)], [(0, .row 3 false 1 v.length (aF v))], 1⟩) (fun v : List Int => iE x8 v = some o) (fun x11 h => ?_) ?_
     ·unfold iE at h
      refine Fp ?_
      refine aS ae [(26, af (i64.wrap (x8 + 1)))] 3 ?_
      exact bu h (ai [(0, 0)])
     ·refine block ?_
      obtain ⟨g12, g13, h⟩ := aG h
      refine ay ae [(8, af (p0.getD x8.toNat 0)), (7, af x8)] 7 [hn, hq g12 g13] ?_
      obtain ⟨g14, h⟩ := aN h
      refine ay ae [(9, af (p1.getD x8.toNat 0))] 12 [hn, hn, hq g12 g14] (seq (seq ?_))
      refine AW.join (ι := Bool) (fun v => ⟨[(1, vl 1 aF p1), (6, rX 0 1 x7.length), (7, af x8), (8, af (p0.getD x8.toNat 0)), (9, af (p1.getD x8.toNat 0)), (24, vl 1 aF p0), (25, af (p0.length : Int)), (26, af x8), (48, vb v)], [(0, .row 3 false 1 x7.length (aF x7))], 1⟩) (fun v : Bool => gl p0 p1 x7 x8 v = some o) (fun x15 h => ?_) ?_
      ·unfold gl at h
       refine Fp ?_
       refine Fw h (fun c16 h => ?_) (fun c16 h => ?_)
       ·refine ah ae [(5, af 2), (4, af 0)] 3 (ret (Fo (Fi ?_)))
        refine jy ?_
        refine Fo ?_
        exact aU h rfl (ai [])
       ·refine skip (Fp (block ?_))
        refine ah ae [(52, vb (decide ((p1.getD x8.toNat 0) < 0)))] 4 ?_
        refine Fw h (fun c17 h => ?_) (fun c17 h => ?_)
        ·obtain ⟨g18, h⟩ := aN h
         refine AW.rg ae [] [0] [(0, .row 3 false 1 x7.length (aF (x7.set (0 + x8.toNat) 0)))] 8 [hn, hn, hq g12 g18, hset 0 db x7 (0 + x8.toNat) 0 (n := x7.length) (by have h1 : 0 ≤ x8 := g12; have h2 : x8 < (x7.length : Int) := g18; omega) rfl] ?_
         refine Fj (Fj ?_)
         exact jl (x7.set (0 + x8.toNat) 0) h (Conv.trans (fK [(6, .c (.ref 0 1 0 ((x7.set (0 + x8.toNat) 0).length)))] ⟨⟨.c (.ref 0 1 0 x7.length), by kernel_rfl, cG.len (by simp only [Gd])⟩, tv⟩) (Conv.trans (gJ 0 3 false 1 x7.length ((x7.set (0 + x8.toNat) 0).length) (aF (x7.set (0 + x8.toNat) 0)) (by kernel_rfl) (by simp only [Gd])) (ai [(0, 0)])))
        ·refine ah ae [(58, vb (decide ((p1.getD x8.toNat 0) < (p0.getD x8.toNat 0))))] 8 ?_
         refine Fw h (fun c19 h => ?_) (fun c19 h => ?_)
         ·obtain ⟨g20, h⟩ := aN h
          refine AW.rg ae [] [0] [(0, .row 3 false 1 x7.length (aF (x7.set (0 + x8.toNat) 1)))] 12 [hn, hn, hq g12 g20, hset 0 db x7 (0 + x8.toNat) 1 (n := x7.length) (by have h1 : 0 ≤ x8 := g12; have h2 : x8 < (x7.length : Int) := g20; omega) rfl] ?_
          refine Fj (Fj ?_)
          exact jl (x7.set (0 + x8.toNat) 1) h (Conv.trans (fK [(6, .c (.ref 0 1 0 ((x7.set (0 + x8.toNat) 1).length)))] ⟨⟨.c (.ref 0 1 0 x7.length), by kernel_rfl, cG.len (by simp only [Gd])⟩, tv⟩) (Conv.trans (gJ 0 3 false 1 x7.length ((x7.set (0 + x8.toNat) 1).length) (aF (x7.set (0 + x8.toNat) 1)) (by kernel_rfl) (by simp only [Gd])) (ai [(0, 0)])))
         ·obtain ⟨g21, h⟩ := aN h
          refine AW.rg ae [] [0] [(0, .row 3 false 1 x7.length (aF (x7.set (0 + x8.toNat) 2)))] 12 [hn, hn, hq g12 g21, hset 0 db x7 (0 + x8.toNat) 2 (n := x7.length) (by have h1 : 0 ≤ x8 := g12; have h2 : x8 < (x7.length : Int) := g21; omega) rfl] ?_
          refine Fj (Fj ?_)
          exact jl (x7.set (0 + x8.toNat) 2) h (Conv.trans (fK [(6, .c (.ref 0 1 0 ((x7.set (0 + x8.toNat) 2).length)))] ⟨⟨.c (.ref 0 1 0 x7.length), by kernel_rfl, cG.len (by simp only [Gd])⟩, tv⟩) (Conv.trans (gJ 0 3 false 1 x7.length ((x7.set (0 + x8.toNat) 2).length) (aF (x7.set (0 + x8.toNat) 2)) (by kernel_rfl) (by simp only [Gd])) (ai [(0, 0)])))
      ·rcases aD h with ⟨c22, h⟩ | ⟨c22, h⟩
       ·refine au ae [(48, vb true)] 26 [hn, ht c22] ?_
        exact jl true h (ai [(0, 0)])
       ·rcases aD h with ⟨c23, h⟩ | ⟨c23, h⟩
        ·refine au ae [(48, vb true)] 26 [hn, hf c22, hn, hn, ht c23] ?_
         exact jl true h (ai [(0, 0)])
        ·rcases aD h with ⟨c24, h⟩ | ⟨c24, h⟩
         ·refine au ae [(48, vb true)] 26 [hn, hf c22, hn, hn, hf c23, hn, hn, hn, ht c24] ?_
          exact jl true h (ai [(0, 0)])
         ·refine au ae [(48, vb (decide ((p1.getD x8.toNat 0) > 1000)))] 26 [hn, hf c22, hn, hn, hf c23, hn, hn, hn, hf c24] ?_
          exact jl (decide ((p1.getD x8.toNat 0) > 1000)) h (ai [(0, 0)])
    ·refine exit (Fb ?_)
     exact aU h rfl (ai [(0, 0)])
   ·unfold tq at h
    show (_ : Exit → St → Prop) (.exit 0) _
    refine E6 (Fp ?_)
    obtain ⟨y26, y27, e28, h⟩ := aO h
    refine ay ae [(5, af y27), (4, af y26)] 6 [hn, hg [] [] true 0 (q := (0 + x25.length ≤ x25.length) ∧ (True)) ⟨br, tv⟩ (a0 := [vl 1 aF x25]) (xO x25 (y26, y27) e28) ⟨aR.refl _, tv⟩ (fun _ => tv)] (ret ?_)
    apply al h (.tup [af y26, af y27])
   ·replace h : ot = some r := h
    unfold ot at h
    show (_ : Exit → St → Prop) (.ret) _
    refine Fi (Fo ?_)
    apply al h (.tup [af 0, af 2])
 ·rcases aD h with ⟨c30, h⟩ | ⟨c30, h⟩
  ·refine au ae [(20, vb true)] 13 [hn, hn, hn, hn, ht c30] ?_
   exact jl true h
  ·obtain ⟨y31, e32, h⟩ := ak h
   refine au ae [(20, vb (!y31))] 12 [hn, hn, hn, hn, hf c30, hn, hn, hn, hk (ko (p0.length : Int) y31 e32)] ?_
   exact jl (!y31) h
end Go.Proofs.YtfmhbcfklokmaaaGreatDoor
