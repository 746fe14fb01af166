/- Lemmas for the statement TopEstimates: Go functions told as pure functions, and laws about these; texts joined and shortened by a program of mine; no condition. -/
import Derived.Test.YtfmhbcfklokmaaaGreatDoorSR1
import Derived.Test.YtfmhbcfklokmaaaGreatDoorRows
import Derived.Test.YtfmhbcfklokmaaaGreatDoorSR3
set_option linter.unusedVariables false
set_option linter.unusedSimpArgs false
set_option linter.defProp false
namespace Go.Proofs.YtfmhbcfklokmaaaGreatDoor
open Vm
open AW (block exit ret seq skip)
open _root_.ByteArray (mk)
open IntKind (i64 u64 u32 u8)
set_option maxRecDepth 100000
set_option maxHeartbeats 10000000
noncomputable section
theorem gj : Tryz.prog.follows .mixedOrders = true := by kernel_rfl
def fP (x19 : Bool) : Option Bool := some x19
noncomputable def oE : Option Bool := aF (fU (⟨([(⟨(mk #[103, 105, 118, 101, 110]), 1⟩ : aC), (⟨(mk #[98, 105, 114, 116, 104]), 2⟩ : aC)] : List aC), (⟨[(mk #[100, 114])], ([] : List aE), ([] : List aE)⟩ : aW)⟩ : aS) 1 1 [(mk #[68, 114, 46, 32, 65, 110, 110]), (mk #[50, 48, 48, 48, 45, 48, 50, 45, 48, 51])]) fun y1 y2 => (aF (fU (⟨([(⟨(mk #[103, 105, 118, 101, 110]), 1⟩ : aC), (⟨(mk #[98, 105, 114, 116, 104]), 2⟩ : aC)] : List aC), (⟨[(mk #[100, 114])], ([] : List aE), ([] : List aE)⟩ : aW)⟩ : aS) 8 2 [(mk #[65, 78, 78]), (mk #[48, 51, 46, 48, 50, 46, 50, 48, 48, 48])]) fun y4 y5 => (aF (gq (⟨([(⟨(mk #[103, 105, 118, 101, 110]), 1⟩ : aC), (⟨(mk #[98, 105, 114, 116, 104]), 2⟩ : aC)] : List aC), (⟨[(mk #[100, 114])], ([] : List aE), ([] : List aE)⟩ : aW)⟩ : aS) ([(⟨64, 2, (-1)⟩ : aD), (⟨128, 3, 0⟩ : aD)] : List aD) (⟨5, 0⟩ : bd) y1) fun y7 y8 => (aF (gq (⟨([(⟨(mk #[103, 105, 118, 101, 110]), 1⟩ : aC), (⟨(mk #[98, 105, 114, 116, 104]), 2⟩ : aC)] : List aC), (⟨[(mk #[100, 114])], ([] : List aE), ([] : List aE)⟩ : aW)⟩ : aS) ([(⟨64, 2, (-1)⟩ : aD), (⟨128, 3, 0⟩ : aD)] : List aD) (⟨5, 0⟩ : bd) y4) fun y10 y11 => (aF (gm y7 y10) fun y13 y14 => (aF (iF ([800, 800] : List Int) y13) fun y16 y17 => (if (y2 == 0) then if (y5 == 0) then if (y8 == 0) then if (y11 == 0) then if (y14 == 0) then if (y17 == 0) then if ((y13.length : Int) == 2) then if (0 : Int) < (y13.length : Int) then if ((y13.getD (0 + 0) 0) == 1000) then if (y16 == 8) then (eB (⟨([(⟨(mk #[103, 105, 118, 101, 110]), 1⟩ : aC), (⟨(mk #[98, 105, 114, 116, 104]), 2⟩ : aC)] : List aC), (⟨[(mk #[100, 114])], ([] : List aE), ([] : List aE)⟩ : aW)⟩ : aS)).bind fun y30 => (fP (y30 == 0)) else fP false else fP false else none else fP false else fP false else fP false else fP false else fP false else fP false else fP false))))))
theorem yr (r : Bool) (h : oE = some r) : CT 5 [] [] (vb r) [] := by
 refine aw ae 0 Tryz.func5 rfl (fun _ _ _ => ?_)
 unfold oE at h
 refine ah ae [] 1 ?_
 refine QZ ae [(1, pX 7 4)] [1, 5, 7] [(7, .box 33 [.ref 5 2 0 (([(⟨(mk #[103, 105, 118, 101, 110]), 1⟩ : aC), (⟨(mk #[98, 105, 114, 116, 104]), 2⟩ : aC)] : List aC).length), .ref 1 1 0 ([(mk #[100, 114])].length), ar, ar]), (5, .row 82 false 2 ([(⟨(mk #[103, 105, 118, 101, 110]), 1⟩ : aC), (⟨(mk #[98, 105, 114, 116, 104]), 2⟩ : aC)] : List aC).length (cZ ([(⟨(mk #[103, 105, 118, 101, 110]), 1⟩ : aC), (⟨(mk #[98, 105, 114, 116, 104]), 2⟩ : aC)] : List aC))), (1, .row 9 false 1 [(mk #[100, 114])].length (Rs [(mk #[100, 114])]))] 9 [bB mt Es 1 (fun _ => rfl) [(mk #[100, 114])], hn, hn, hn, bB bD vz 2 (fun _ => rfl) ([(⟨(mk #[103, 105, 118, 101, 110]), 1⟩ : aC), (⟨(mk #[98, 105, 114, 116, 104]), 2⟩ : aC)] : List aC)] ?_
 refine QZ ae [(2, .c (.ref 11 3 0 (([(⟨64, 2, (-1)⟩ : aD), (⟨128, 3, 0⟩ : aD)] : List aD).length)))] [11] [(11, .row 84 false 3 ([(⟨64, 2, (-1)⟩ : aD), (⟨128, 3, 0⟩ : aD)] : List aD).length (cA ([(⟨64, 2, (-1)⟩ : aD), (⟨128, 3, 0⟩ : aD)] : List aD)))] 13 (Ss [bB dk uO 3 (fun _ => rfl) ([(⟨64, 2, (-1)⟩ : aD), (⟨128, 3, 0⟩ : aD)] : List aD)]) ?_
 obtain ⟨y1, y2, e3, h⟩ := aK h
 refine QZ ae [(4, af y2), (3, pX 19 3)] [14, 15, 19] [(19, .box 53 [ag y1.ID, ag y1.Version, .ref 15 1 0 y1.Values.length]), (15, .row 9 false 1 y1.Values.length (Rs y1.Values))] 22 [hn, bB mt Es 1 (fun _ => rfl) [(mk #[68, 114, 46, 32, 65, 110, 110]), (mk #[50, 48, 48, 48, 45, 48, 50, 45, 48, 51])], hg [] [] true 1 (q := ((0 + ([(⟨(mk #[103, 105, 118, 101, 110]), 1⟩ : aC), (⟨(mk #[98, 105, 114, 116, 104]), 2⟩ : aC)] : List aC).length ≤ ([(⟨(mk #[103, 105, 118, 101, 110]), 1⟩ : aC), (⟨(mk #[98, 105, 114, 116, 104]), 2⟩ : aC)] : List aC).length) ∧ (0 + [(mk #[100, 114])].length ≤ [(mk #[100, 114])].length) ∧ (True) ∧ (True) ∧ (True)) ∧ (True) ∧ (True) ∧ (0 + [(mk #[68, 114, 46, 32, 65, 110, 110]), (mk #[50, 48, 48, 48, 45, 48, 50, 45, 48, 51])].length ≤ [(mk #[68, 114, 46, 32, 65, 110, 110]), (mk #[50, 48, 48, 48, 45, 48, 50, 45, 48, 51])].length) ∧ (True)) ⟨⟨Ax, Ax, tv, tv, tv⟩, tv, tv, Ax, tv⟩ (a0 := [.agg [cl 2 cZ ([(⟨(mk #[103, 105, 118, 101, 110]), 1⟩ : aC), (⟨(mk #[98, 105, 114, 116, 104]), 2⟩ : aC)] : List aC), cl 1 Rs [(mk #[100, 114])], ar, ar], af 1, af 1, vl 1 Rs [(mk #[68, 114, 46, 32, 65, 110, 110]), (mk #[50, 48, 48, 48, 45, 48, 50, 45, 48, 51])]]) (u7 (⟨([(⟨(mk #[103, 105, 118, 101, 110]), 1⟩ : aC), (⟨(mk #[98, 105, 114, 116, 104]), 2⟩ : aC)] : List aC), (⟨[(mk #[100, 114])], ([] : List aE), ([] : List aE)⟩ : aW)⟩ : aS) 1 1 [(mk #[68, 114, 46, 32, 65, 110, 110]), (mk #[50, 48, 48, 48, 45, 48, 50, 45, 48, 51])] (y1, y2) e3) ⟨aN.agg ⟨cu.refl _, cu.refl _, cu.nil rfl, cu.nil rfl, tv⟩, aN.refl _, aN.refl _, aN.refl _, tv⟩ (fun _ => ⟨bS Vs _ _ _, tv⟩)] ?_
 obtain ⟨y4, y5, e6, h⟩ := aK h
 refine QZ ae [(6, af y5), (5, pX 28 3)] [23, 24, 28] [(28, .box 53 [ag y4.ID, ag y4.Version, .ref 24 1 0 y4.Values.length]), (24, .row 9 false 1 y4.Values.length (Rs y4.Values))] 31 [hn, bB mt Es 1 (fun _ => rfl) [(mk #[65, 78, 78]), (mk #[48, 51, 46, 48, 50, 46, 50, 48, 48, 48])], hg [] [] true 1 (q := ((0 + ([(⟨(mk #[103, 105, 118, 101, 110]), 1⟩ : aC), (⟨(mk #[98, 105, 114, 116, 104]), 2⟩ : aC)] : List aC).length ≤ ([(⟨(mk #[103, 105, 118, 101, 110]), 1⟩ : aC), (⟨(mk #[98, 105, 114, 116, 104]), 2⟩ : aC)] : List aC).length) ∧ (0 + [(mk #[100, 114])].length ≤ [(mk #[100, 114])].length) ∧ (True) ∧ (True) ∧ (True)) ∧ (True) ∧ (True) ∧ (0 + [(mk #[65, 78, 78]), (mk #[48, 51, 46, 48, 50, 46, 50, 48, 48, 48])].length ≤ [(mk #[65, 78, 78]), (mk #[48, 51, 46, 48, 50, 46, 50, 48, 48, 48])].length) ∧ (True)) ⟨⟨Ax, Ax, tv, tv, tv⟩, tv, tv, Ax, tv⟩ (a0 := [.agg [cl 2 cZ ([(⟨(mk #[103, 105, 118, 101, 110]), 1⟩ : aC), (⟨(mk #[98, 105, 114, 116, 104]), 2⟩ : aC)] : List aC), cl 1 Rs [(mk #[100, 114])], ar, ar], af 8, af 2, vl 1 Rs [(mk #[65, 78, 78]), (mk #[48, 51, 46, 48, 50, 46, 50, 48, 48, 48])]]) (u7 (⟨([(⟨(mk #[103, 105, 118, 101, 110]), 1⟩ : aC), (⟨(mk #[98, 105, 114, 116, 104]), 2⟩ : aC)] : List aC), (⟨[(mk #[100, 114])], ([] : List aE), ([] : List aE)⟩ : aW)⟩ : aS) 8 2 [(mk #[65, 78, 78]), (mk #[48, 51, 46, 48, 50, 46, 50, 48, 48, 48])] (y4, y5) e6) ⟨aN.agg ⟨cu.refl _, cu.refl _, cu.nil rfl, cu.nil rfl, tv⟩, aN.refl _, aN.refl _, aN.refl _, tv⟩ (fun _ => ⟨bS Vs _ _ _, tv⟩)] ?_
 obtain ⟨y7, y8, e9, h⟩ := aK h
 refine QZ ae [(8, af y8), (7, pX 39 3)] [1, 5, 11, 15, 35, 39] [(39, .box 70 [ag y7.ID, ag y7.Version, .ref 35 2 0 y7.Fields.length]), (35, .row 126 false 2 y7.Fields.length (bR y7.Fields)), (5, .row 82 true 2 ([(⟨(mk #[103, 105, 118, 101, 110]), 1⟩ : aC), (⟨(mk #[98, 105, 114, 116, 104]), 2⟩ : aC)] : List aC).length (cZ ([(⟨(mk #[103, 105, 118, 101, 110]), 1⟩ : aC), (⟨(mk #[98, 105, 114, 116, 104]), 2⟩ : aC)] : List aC))), (1, .row 9 true 1 [(mk #[100, 114])].length (Rs [(mk #[100, 114])])), (11, .row 84 true 3 ([(⟨64, 2, (-1)⟩ : aD), (⟨128, 3, 0⟩ : aD)] : List aD).length (cA ([(⟨64, 2, (-1)⟩ : aD), (⟨128, 3, 0⟩ : aD)] : List aD)))] 42 (Sv [hg [] [5, 1, 11, 15] false 1 (q := ((0 + ([(⟨(mk #[103, 105, 118, 101, 110]), 1⟩ : aC), (⟨(mk #[98, 105, 114, 116, 104]), 2⟩ : aC)] : List aC).length ≤ ([(⟨(mk #[103, 105, 118, 101, 110]), 1⟩ : aC), (⟨(mk #[98, 105, 114, 116, 104]), 2⟩ : aC)] : List aC).length) ∧ (0 + [(mk #[100, 114])].length ≤ [(mk #[100, 114])].length) ∧ (True) ∧ (True) ∧ (True)) ∧ (0 + ([(⟨64, 2, (-1)⟩ : aD), (⟨128, 3, 0⟩ : aD)] : List aD).length ≤ ([(⟨64, 2, (-1)⟩ : aD), (⟨128, 3, 0⟩ : aD)] : List aD).length) ∧ ((True) ∧ (True) ∧ (True)) ∧ ((True) ∧ (True) ∧ (0 + y1.Values.length ≤ y1.Values.length) ∧ (True)) ∧ (True)) ⟨⟨Ax, Ax, tv, tv, tv⟩, Ax, ⟨tv, tv, tv⟩, ⟨tv, tv, Ax, tv⟩, tv⟩ (a0 := [.agg [cl 2 cZ ([(⟨(mk #[103, 105, 118, 101, 110]), 1⟩ : aC), (⟨(mk #[98, 105, 114, 116, 104]), 2⟩ : aC)] : List aC), cl 1 Rs [(mk #[100, 114])], ar, ar], vl 3 cA ([(⟨64, 2, (-1)⟩ : aD), (⟨128, 3, 0⟩ : aD)] : List aD), .agg [aH 5, aH 0], .agg (dE y1)]) (CW (⟨([(⟨(mk #[103, 105, 118, 101, 110]), 1⟩ : aC), (⟨(mk #[98, 105, 114, 116, 104]), 2⟩ : aC)] : List aC), (⟨[(mk #[100, 114])], ([] : List aE), ([] : List aE)⟩ : aW)⟩ : aS) ([(⟨64, 2, (-1)⟩ : aD), (⟨128, 3, 0⟩ : aD)] : List aD) (⟨5, 0⟩ : bd) y1 (y7, y8) e9) ⟨aN.agg ⟨cu.refl _, cu.refl _, cu.nil rfl, cu.nil rfl, tv⟩, aN.refl _, aN.refl _, aN.refl _, tv⟩ (fun h => by cases h)]) ?_
 obtain ⟨y10, y11, e12, h⟩ := aK h
 refine QZ ae [(10, af y11), (9, pX 50 3)] [24, 46, 50] [(50, .box 70 [ag y10.ID, ag y10.Version, .ref 46 2 0 y10.Fields.length]), (46, .row 126 false 2 y10.Fields.length (bR y10.Fields))] 53 (Sv [hg [] [24] false 1 (q := ((0 + ([(⟨(mk #[103, 105, 118, 101, 110]), 1⟩ : aC), (⟨(mk #[98, 105, 114, 116, 104]), 2⟩ : aC)] : List aC).length ≤ ([(⟨(mk #[103, 105, 118, 101, 110]), 1⟩ : aC), (⟨(mk #[98, 105, 114, 116, 104]), 2⟩ : aC)] : List aC).length) ∧ (0 + [(mk #[100, 114])].length ≤ [(mk #[100, 114])].length) ∧ (True) ∧ (True) ∧ (True)) ∧ (0 + ([(⟨64, 2, (-1)⟩ : aD), (⟨128, 3, 0⟩ : aD)] : List aD).length ≤ ([(⟨64, 2, (-1)⟩ : aD), (⟨128, 3, 0⟩ : aD)] : List aD).length) ∧ ((True) ∧ (True) ∧ (True)) ∧ ((True) ∧ (True) ∧ (0 + y4.Values.length ≤ y4.Values.length) ∧ (True)) ∧ (True)) ⟨⟨Ax, Ax, tv, tv, tv⟩, Ax, ⟨tv, tv, tv⟩, ⟨tv, tv, Ax, tv⟩, tv⟩ (a0 := [.agg [cl 2 cZ ([(⟨(mk #[103, 105, 118, 101, 110]), 1⟩ : aC), (⟨(mk #[98, 105, 114, 116, 104]), 2⟩ : aC)] : List aC), cl 1 Rs [(mk #[100, 114])], ar, ar], vl 3 cA ([(⟨64, 2, (-1)⟩ : aD), (⟨128, 3, 0⟩ : aD)] : List aD), .agg [aH 5, aH 0], .agg (dE y4)]) (CW (⟨([(⟨(mk #[103, 105, 118, 101, 110]), 1⟩ : aC), (⟨(mk #[98, 105, 114, 116, 104]), 2⟩ : aC)] : List aC), (⟨[(mk #[100, 114])], ([] : List aE), ([] : List aE)⟩ : aW)⟩ : aS) ([(⟨64, 2, (-1)⟩ : aD), (⟨128, 3, 0⟩ : aD)] : List aD) (⟨5, 0⟩ : bd) y4 (y10, y11) e12) ⟨aN.agg ⟨cu.refl _, cu.refl _, cu.nil rfl, cu.nil rfl, tv⟩, aN.refl _, aN.refl _, aN.refl _, tv⟩ (fun h => by cases h)]) ?_
 obtain ⟨y13, y14, e15, h⟩ := aK h
 refine QZ ae [(12, af y14), (11, rX 55 1 y13.length)] [55] [(55, .row 3 false 1 y13.length (al y13))] 61 (Ss [hg [] [] true 1 (q := ((True) ∧ (True) ∧ (0 + y7.Fields.length ≤ y7.Fields.length) ∧ (True)) ∧ ((True) ∧ (True) ∧ (0 + y10.Fields.length ≤ y10.Fields.length) ∧ (True)) ∧ (True)) ⟨⟨tv, tv, Ax, tv⟩, ⟨tv, tv, Ax, tv⟩, tv⟩ (a0 := [.agg [ag y7.ID, ag y7.Version, cl 2 bR y7.Fields], .agg [ag y10.ID, ag y10.Version, cl 2 bR y10.Fields]]) (Cs y7 y10 (y13, y14) e15) ⟨aN.refl _, aN.refl _, tv⟩ (fun _ => ⟨bS fb _ _ _, tv⟩)]) ?_
 obtain ⟨y16, y17, e18, h⟩ := aK h
 refine QZ ae [(14, af y17), (13, af y16)] [61] [] 68 [bB 0 dj 1 (fun _ => rfl) ([800, 800] : List Int), hn, hg [] [] true 0 (q := (0 + ([800, 800] : List Int).length ≤ ([800, 800] : List Int).length) ∧ (0 + y13.length ≤ y13.length) ∧ (True)) ⟨Ax, Ax, tv⟩ (a0 := [vl 1 al ([800, 800] : List Int), vl 1 al y13]) (Ct ([800, 800] : List Int) y13 (y16, y17) e18) ⟨aN.refl _, aN.refl _, tv⟩ (fun _ => tv)] (seq ?_)
 refine AW.join (ι := Bool) (fun v => ⟨[(0, vb v)], [], 0⟩) (fun v : Bool => fP v = some r) (fun x19 h => ?_) ?_
 ·unfold fP at h
  refine QX (ret ?_)
  apply au h (vb x19)
 ·rcases aI h with ⟨c20, h⟩ | ⟨c20, h⟩
  ·rcases aI h with ⟨c21, h⟩ | ⟨c21, h⟩
   ·rcases aI h with ⟨c22, h⟩ | ⟨c22, h⟩
    ·rcases aI h with ⟨c23, h⟩ | ⟨c23, h⟩
     ·rcases aI h with ⟨c24, h⟩ | ⟨c24, h⟩
      ·rcases aI h with ⟨c25, h⟩ | ⟨c25, h⟩
       ·rcases aI h with ⟨c26, h⟩ | ⟨c26, h⟩
        ·obtain ⟨g27, h⟩ := aY h
         rcases aI h with ⟨c28, h⟩ | ⟨c28, h⟩
         ·rcases aI h with ⟨c29, h⟩ | ⟨c29, h⟩
          ·obtain ⟨y30, e31, h⟩ := ap h
           refine ax ae [(0, vb (y30 == 0))] 110 [hn, ht c20, hn, hn, ht c21, hn, hn, hn, ht c22, hn, hn, hn, ht c23, hn, hn, hn, ht c24, hn, hn, hn, ht c25, hn, hn, hn, hn, ht c26, hn, hn, hn, ho (p := (0 ≤ (0 : Int)) ∧ ((0 : Int) < (y13.length : Int))) (⟨(by decide), g27⟩), ho (p := (0 + 0) < y13.length) (by have h1 : 0 ≤ (0 : Int) := (by decide); have h2 : (0 : Int) < (y13.length : Int) := g27; omega), ht c28, hn, hn, hn, ht c29, hn, hn, hn, hg [] [] true 0 (q := ((0 + ([(⟨(mk #[103, 105, 118, 101, 110]), 1⟩ : aC), (⟨(mk #[98, 105, 114, 116, 104]), 2⟩ : aC)] : List aC).length ≤ ([(⟨(mk #[103, 105, 118, 101, 110]), 1⟩ : aC), (⟨(mk #[98, 105, 114, 116, 104]), 2⟩ : aC)] : List aC).length) ∧ (0 + [(mk #[100, 114])].length ≤ [(mk #[100, 114])].length) ∧ (True) ∧ (True) ∧ (True)) ∧ (True)) ⟨⟨Ax, Ax, tv, tv, tv⟩, tv⟩ (a0 := [.agg [cl 2 cZ ([(⟨(mk #[103, 105, 118, 101, 110]), 1⟩ : aC), (⟨(mk #[98, 105, 114, 116, 104]), 2⟩ : aC)] : List aC), cl 1 Rs [(mk #[100, 114])], ar, ar]]) (iK (⟨([(⟨(mk #[103, 105, 118, 101, 110]), 1⟩ : aC), (⟨(mk #[98, 105, 114, 116, 104]), 2⟩ : aC)] : List aC), (⟨[(mk #[100, 114])], ([] : List aE), ([] : List aE)⟩ : aW)⟩ : aS) y30 e31) ⟨aN.agg ⟨cu.refl _, cu.refl _, cu.nil rfl, cu.nil rfl, tv⟩, tv⟩ (fun _ => tv)] ?_
           exact jl (y30 == 0) h
          ·refine ax ae [(0, vb false)] 111 [hn, ht c20, hn, hn, ht c21, hn, hn, hn, ht c22, hn, hn, hn, ht c23, hn, hn, hn, ht c24, hn, hn, hn, ht c25, hn, hn, hn, hn, ht c26, hn, hn, hn, ho (p := (0 ≤ (0 : Int)) ∧ ((0 : Int) < (y13.length : Int))) (⟨(by decide), g27⟩), ho (p := (0 + 0) < y13.length) (by have h1 : 0 ≤ (0 : Int) := (by decide); have h2 : (0 : Int) < (y13.length : Int) := g27; omega), ht c28, hn, hn, hn, hf c29] ?_
           exact jl false h
         ·refine ax ae [(0, vb false)] 111 [hn, ht c20, hn, hn, ht c21, hn, hn, hn, ht c22, hn, hn, hn, ht c23, hn, hn, hn, ht c24, hn, hn, hn, ht c25, hn, hn, hn, hn, ht c26, hn, hn, hn, ho (p := (0 ≤ (0 : Int)) ∧ ((0 : Int) < (y13.length : Int))) (⟨(by decide), g27⟩), ho (p := (0 + 0) < y13.length) (by have h1 : 0 ≤ (0 : Int) := (by decide); have h2 : (0 : Int) < (y13.length : Int) := g27; omega), hf c28] ?_
          exact jl false h
        ·refine ax ae [(0, vb false)] 111 [hn, ht c20, hn, hn, ht c21, hn, hn, hn, ht c22, hn, hn, hn, ht c23, hn, hn, hn, ht c24, hn, hn, hn, ht c25, hn, hn, hn, hn, hf c26] ?_
         exact jl false h
       ·refine ax ae [(0, vb false)] 111 [hn, ht c20, hn, hn, ht c21, hn, hn, hn, ht c22, hn, hn, hn, ht c23, hn, hn, hn, ht c24, hn, hn, hn, hf c25] ?_
        exact jl false h
      ·refine ax ae [(0, vb false)] 111 [hn, ht c20, hn, hn, ht c21, hn, hn, hn, ht c22, hn, hn, hn, ht c23, hn, hn, hn, hf c24] ?_
       exact jl false h
     ·refine ax ae [(0, vb false)] 111 [hn, ht c20, hn, hn, ht c21, hn, hn, hn, ht c22, hn, hn, hn, hf c23] ?_
      exact jl false h
    ·refine ax ae [(0, vb false)] 111 [hn, ht c20, hn, hn, ht c21, hn, hn, hn, hf c22] ?_
     exact jl false h
   ·refine ax ae [(0, vb false)] 111 [hn, ht c20, hn, hn, hf c21] ?_
    exact jl false h
  ·refine ax ae [(0, vb false)] 111 [hn, hf c20] ?_
   exact jl false h
def vH (p0 : List Int) : Option Bool := some (decide ((p0.length : Int) ≤ 400))
theorem JB (p0 : List Int) (r : Bool) (h : vH p0 = some r) : CT 6 [vl 1 al p0] [] (vb r) [] := by
 refine aw ae 0 Tryz.func6 rfl (fun _ _ _ => ?_)
 unfold vH at h
 refine ah ae [] 1 ?_
 refine ah ae [(2, vb (decide ((p0.length : Int) ≤ 400)))] 5 (ret ?_)
 apply au h (vb (decide ((p0.length : Int) ≤ 400)))
structure aP where
 list : List Int
 at_ : Int
 state : Int
def Im : aP := ⟨([] : List Int), 0, 0⟩
instance : Inhabited aP := ⟨Im⟩
def vI (p0 : List Int) : Option aP := some (⟨p0, 0, 11400714819323198485⟩ : aP)
abbrev br (x : aP) : List C := [cl 1 al x.list, ag x.at_, aH x.state]
abbrev cR (n : Nat) (l : List Int) (a s : Int) : aQ := .box n [cl 1 al l, ag a, aH s]
theorem JC (p0 : List Int) (r : aP) (h : vI p0 = some r) : CT 7 [vl 1 al p0] [] (.c (.ptr 0 3 0 0)) [(0, .box 89 (br r))] := by
 refine aw ae 0 Tryz.func7 rfl (fun _ _ _ => ?_)
 unfold vI at h
 refine ah ae [] 1 ?_
 refine QZ ae [(2, pX 3 3)] [3] [(3, cR 89 p0 0 11400714819323198485)] 5 [] (ret ?_)
 obtain rfl := ay h
 exact be (.inr rfl) [(0, 3)] 1 (.c (.ptr 3 3 0 0))
def ll (p0 : aP) (x1 : Int) (x2 : Int) : Option (Int × aP) := (some (u64.wrap ((u64.wrap ((u64.wrap (p0.state + x1)) * 6364136223846793005)) + 1442695040888963407))).bind fun z3 => ((some (u64.wrap ((bq .u64 z3 (a7 .u64 z3 33)) * 18397679294719823053))).bind fun z5 => (some (bq .u64 z5 (a7 .u64 z5 29), (⟨p0.list, x2, z3⟩ : aP))))
def lw (p0 : aP) : Option (Int × aP) := if decide (p0.at_ < (p0.list.length : Int)) then if 0 ≤ p0.at_ then if p0.at_ < (p0.list.length : Int) then ll p0 (u64.wrap (p0.list.getD p0.at_.toNat 0)) (SB (p0.at_ + 1)) else none else none else ll p0 0 p0.at_
theorem yd (p0 : aP) (r : Int × aP) (h : lw p0 = some r) : CT 32 [.c (.ptr 0 3 0 0)] [(0, .box 89 (br p0))] (a6 r.1) [(0, .box 89 (br r.2))] := by
 refine aw ae 1 Tryz.func32 rfl (fun _ _ _ => ?_)
 unfold lw at h
 refine ah ae [] 2 ?_
 refine ah ae [(3, a6 0)] 3 (seq ?_)
 refine AW.join (ι := Int × Int) (fun v => ⟨[(0, pX 0 3), (3, a6 v.1)], [(0, cR 89 p0.list v.2 p0.state)], 1⟩) (fun v : Int × Int => ll p0 v.1 v.2 = some r) (fun v h => ?_) ?_
 ·obtain ⟨x1, x2⟩ := v
  replace h : ll p0 x1 x2 = some r := h
  unfold ll at h
  refine QX ?_
  obtain ⟨z3, n4, h⟩ := ap h
  replace n4 := ay n4
  refine QZ ae [] [0] [(0, cR 89 p0.list x2 z3)] 13 [] ?_ (by subst n4; kernel_rfl)
  refine Q1 ae gj [] [(4, a6 (bq .u64 z3 (a7 .u64 z3 33)))] [] 24 (Sz [ho (p := 0 ≤ (33 : Int)) (by decide)]) ?_
  obtain ⟨z5, n6, h⟩ := ap h
  replace n6 := ay n6
  refine ah ae [(4, a6 z5)] 27 ?_ (by subst n6; kernel_rfl)
  refine aA ae [(2, a6 (bq .u64 z5 (a7 .u64 z5 29)))] 32 (Ss [ho (p := 0 ≤ (29 : Int)) (by decide)]) (ret ?_)
  obtain rfl := ay h
  exact be (.inr rfl) [(0, 0)] 1 (a6 (bq .u64 z5 (a7 .u64 z5 29)))
 ·refine Q1 ae gj [] [(14, vb (decide (p0.at_ < (p0.list.length : Int))))] [] 13 [] ?_
  refine Q2 h ?_ ?_ <;> intro c7 h
  ·obtain ⟨g8, g9, h⟩ := aJ h
   refine Q1 ae gj [] [(3, a6 (u64.wrap (p0.list.getD p0.at_.toNat 0)))] [] 25 (Sz [hq g8 g9]) ?_
   refine QY ae [] [0] [(0, cR 89 p0.list (SB (p0.at_ + 1)) p0.state)] 33 [] ?_
   exact jl (u64.wrap (p0.list.getD p0.at_.toNat 0), SB (p0.at_ + 1)) h (ai [(0, 0)])
  ·refine skip ?_
   exact jl (0, p0.at_) h (ai [(0, 0)])
def dz (p0 : aP) (p1 : Int) : Option (Int × aP) := if decide (p1 < 1) then some (0, p0) else aF (lw p0) fun y2 y3 => (if p1 ≠ 0 then some (((SB (a7 .u64 y2 1)).tmod p1), y3) else none)
theorem dS (p0 : aP) (p1 : Int) (r : Int × aP) (h : dz p0 p1 = some r) : CT 30 [.c (.ptr 0 3 0 0), af p1] [(0, .box 89 (br p0))] (af r.1) [(0, .box 89 (br r.2))] := by
 refine aw ae 1 Tryz.func30 rfl (fun _ _ _ => ?_)
 unfold dz at h
 refine ah ae [] 2 (seq ?_)
 refine ah ae [(6, vb (decide (p1 < 1)))] 4 ?_
 refine Q2 h ?_ ?_ <;> intro c1 h
 ·refine ah ae [(4, af 0)] 5 (ret (QW ?_))
  obtain rfl := ay h
  exact be (.inr rfl) [(0, 0)] 1 (af 0)
 ·refine skip (QX ?_)
  obtain ⟨y2, y3, e4, h⟩ := aK h
  obtain ⟨g5, h⟩ := aY h
  refine QZ ae [(4, af ((SB (a7 .u64 y2 1)).tmod p1))] [0] [(0, .box 89 (br y3))] 10 [hn, hl [0] [] 0 (yd p0 (y2, y3) e4), ho (p := 0 ≤ (1 : Int)) (by decide), hn, hn, ho g5] (ret ?_)
  obtain rfl := ay h
  exact be (.inr rfl) [(0, 0)] 1 (af ((SB (a7 .u64 y2 1)).tmod p1))
def eQ (p0 : aP) (p1 : Int) : Option (Bool × aP) := aF (dz p0 p1) fun y1 y2 => (some ((y1 == 0), y2))
theorem fN (p0 : aP) (p1 : Int) (r : Bool × aP) (h : eQ p0 p1 = some r) : CT 31 [.c (.ptr 0 3 0 0), af p1] [(0, .box 89 (br p0))] (vb r.1) [(0, .box 89 (br r.2))] := by
 refine aw ae 1 Tryz.func31 rfl (fun _ _ _ => ?_)
 unfold eQ at h
 refine ah ae [] 2 ?_
 obtain ⟨y1, y2, e3, h⟩ := aK h
 refine QZ ae [(4, vb (y1 == 0))] [0] [(0, .box 89 (br y2))] 6 (Ss [hl [0] [] 0 (dS p0 p1 (y1, y2) e3)]) (ret ?_)
 obtain rfl := ay h
 exact be (.inr rfl) [(0, 0)] 1 (vb (y1 == 0))
noncomputable def m6 (x4 : List ByteArray) (x8 : List aE) (x9 : List Int) (x10 : Int) (x11 : Int) (x12 : List aE) : Option (aW × aP) := some ((⟨x4, x8, x12⟩ : aW), (⟨x9, x10, x11⟩ : aP))
noncomputable def k8 (x4 : List ByteArray) (x5 : List Int) (x6 : Int) (x7 : Int) (x8 : List aE) : Option (aW × aP) := aF (eQ (⟨x5, x6, x7⟩ : aP) 2) fun y13 y14 => (if y13 then m6 x4 x8 y14.list y14.at_ y14.state ([(⟨(mk #[114, 100]), (mk #[114, 111, 97, 100])⟩ : aE), (⟨(mk #[115, 116]), (mk #[115, 116, 114, 101, 101, 116])⟩ : aE)] : List aE) else m6 x4 x8 y14.list y14.at_ y14.state ([] : List aE))
noncomputable def k9 (x1 : List Int) (x2 : Int) (x3 : Int) (x4 : List ByteArray) : Option (aW × aP) := aF (eQ (⟨x1, x2, x3⟩ : aP) 2) fun y17 y18 => (if y17 then k8 x4 y18.list y18.at_ y18.state ([(⟨(mk #[97, 110, 110, 97]), (mk #[97, 110, 110])⟩ : aE), (⟨(mk #[98, 111, 98]), (mk #[114, 111, 98, 101, 114, 116])⟩ : aE)] : List aE) else k8 x4 y18.list y18.at_ y18.state ([] : List aE))
noncomputable def qI (p0 : aP) : Option (aW × aP) := aF (eQ p0 2) fun y21 y22 => (if y21 then k9 y22.list y22.at_ y22.state [(mk #[100, 114]), (mk #[118, 97, 110])] else k9 y22.list y22.at_ y22.state ([] : am))
theorem Io (p0 : aP) (r : aW × aP) (h : qI p0 = some r) : CT 29 [.c (.ptr 0 3 0 0)] [(0, .box 89 (br p0))] (.agg [.ref 1 1 0 r.1.Titles.length, .ref 2 2 0 r.1.Nicknames.length, .ref 3 2 0 r.1.Streets.length]) [(0, .box 89 (br r.2)), (1, .row 9 false 1 r.1.Titles.length (Rs r.1.Titles)), (2, .row 149 false 2 r.1.Nicknames.length (bA r.1.Nicknames)), (3, .row 149 false 2 r.1.Streets.length (bA r.1.Streets))] := by
 refine aw ae 1 Tryz.func29 rfl (fun _ _ _ => ?_)
 unfold qI at h
 refine QZ ae [(2, pX 1 3)] [1] [(1, .box 31 [ar, ar, ar])] 2 [] ?_
 refine QZ ae [(3, pX 2 3)] [2] [(2, .box 31 [ar, ar, ar])] 3 [] (seq ?_)
 refine AW.join (ι := (List Int) × Int × Int × (List ByteArray)) (fun v => ⟨[(0, pX 0 3), (2, pX 1 3), (3, pX 2 3)], [(0, cR 89 v.1 v.2.1 v.2.2.1), (1, .box 31 [ar, ar, ar]), (2, .box 31 [.ref 3 1 0 v.2.2.2.length, ar, ar]), (3, .row 9 false 1 v.2.2.2.length (Rs v.2.2.2))], 4⟩) (fun v : (List Int) × Int × Int × (List ByteArray) => k9 v.1 v.2.1 v.2.2.1 v.2.2.2 = some r) (fun v h => ?_) ?_
 ·obtain ⟨x1, x2, x3, x4⟩ := v
  replace h : k9 x1 x2 x3 x4 = some r := h
  unfold k9 at h
  refine QX (seq ?_)
  refine AW.join (ι := (List Int) × Int × Int × (List aE)) (fun v => ⟨[(0, pX 0 3), (2, pX 1 3), (3, pX 2 3)], [(0, cR 89 v.1 v.2.1 v.2.2.1), (1, .box 31 [ar, ar, ar]), (2, .box 31 [.ref 3 1 0 x4.length, .ref 4 2 0 v.2.2.2.length, ar]), (3, .row 9 false 1 x4.length (Rs x4)), (4, .row 149 false 2 v.2.2.2.length (bA v.2.2.2))], 5⟩) (fun v : (List Int) × Int × Int × (List aE) => k8 x4 v.1 v.2.1 v.2.2.1 v.2.2.2 = some r) (fun v h => ?_) ?_
  ·obtain ⟨x5, x6, x7, x8⟩ := v
   replace h : k8 x4 x5 x6 x7 x8 = some r := h
   unfold k8 at h
   refine QX (seq ?_)
   refine AW.join (ι := (List Int) × Int × Int × (List aE)) (fun v => ⟨[(2, pX 1 3), (3, pX 2 3)], [(0, cR 89 v.1 v.2.1 v.2.2.1), (1, .box 31 [ar, ar, ar]), (2, .box 31 [.ref 3 1 0 x4.length, .ref 4 2 0 x8.length, .ref 5 2 0 v.2.2.2.length]), (3, .row 9 false 1 x4.length (Rs x4)), (4, .row 149 false 2 x8.length (bA x8)), (5, .row 149 false 2 v.2.2.2.length (bA v.2.2.2))], 6⟩) (fun v : (List Int) × Int × Int × (List aE) => m6 x4 x8 v.1 v.2.1 v.2.2.1 v.2.2.2 = some r) (fun v h => ?_) ?_
   ·obtain ⟨x9, x10, x11, x12⟩ := v
    replace h : m6 x4 x8 x9 x10 x11 x12 = some r := h
    unfold m6 at h
    refine QX ?_
    refine QZ ae [] [1] [(1, .box 31 [.ref 3 1 0 x4.length, .ref 4 2 0 x8.length, .ref 5 2 0 x12.length])] 8 [] (ret ?_)
    obtain rfl := ay h
    exact be (.inr rfl) [(0, 0), (1, 3), (2, 4), (3, 5)] 4 (.agg [.ref 3 1 0 x4.length, .ref 4 2 0 x8.length, .ref 5 2 0 x12.length])
   ·obtain ⟨y13, y14, e15, h⟩ := aK h
    refine QZ ae [(15, vb y13)] [0] [(0, .box 89 (br y14))] 6 [hn, hl [0] [] 0 (fN (⟨x5, x6, x7⟩ : aP) 2 (y13, y14) e15)] ?_
    refine Q2 h ?_ ?_ <;> intro c16 h
    ·refine QY ae [] [2, 8] [(2, .box 31 [.ref 3 1 0 x4.length, .ref 4 2 0 x8.length, .ref 8 2 0 (([(⟨(mk #[114, 100]), (mk #[114, 111, 97, 100])⟩ : aE), (⟨(mk #[115, 116]), (mk #[115, 116, 114, 101, 101, 116])⟩ : aE)] : List aE).length)]), (8, .row 149 false 2 ([(⟨(mk #[114, 100]), (mk #[114, 111, 97, 100])⟩ : aE), (⟨(mk #[115, 116]), (mk #[115, 116, 114, 101, 101, 116])⟩ : aE)] : List aE).length (bA ([(⟨(mk #[114, 100]), (mk #[114, 111, 97, 100])⟩ : aE), (⟨(mk #[115, 116]), (mk #[115, 116, 114, 101, 101, 116])⟩ : aE)] : List aE)))] 11 (Ss [bB bT ze 2 (fun _ => rfl) ([(⟨(mk #[114, 100]), (mk #[114, 111, 97, 100])⟩ : aE), (⟨(mk #[115, 116]), (mk #[115, 116, 114, 101, 101, 116])⟩ : aE)] : List aE)]) ?_
     exact jl (y14.list, y14.at_, y14.state, ([(⟨(mk #[114, 100]), (mk #[114, 111, 97, 100])⟩ : aE), (⟨(mk #[115, 116]), (mk #[115, 116, 114, 101, 101, 116])⟩ : aE)] : List aE)) h (ai [(0, 0), (1, 1), (2, 2), (3, 3), (4, 4), (5, 8)])
    ·refine skip ?_
     exact jl (y14.list, y14.at_, y14.state, ([] : List aE)) h (Conv.trans (dr (id := 2) (ty0 := 31) (cs := [.ref 3 1 0 x4.length, .ref 4 2 0 x8.length, ar]) 2 (ty := 149) (sz := 2) (n := ([] : List aE).length) (f := bA ([] : List aE)) (by kernel_rfl) (by kernel_rfl) rfl) (ai [(0, 0), (1, 1), (2, 2), (3, 3), (4, 4), (5, 6)]))
  ·obtain ⟨y17, y18, e19, h⟩ := aK h
   refine QZ ae [(9, vb y17)] [0] [(0, .box 89 (br y18))] 5 [hn, hl [0] [] 0 (fN (⟨x1, x2, x3⟩ : aP) 2 (y17, y18) e19)] ?_
   refine Q2 h ?_ ?_ <;> intro c20 h
   ·refine QY ae [] [2, 7] [(2, .box 31 [.ref 3 1 0 x4.length, .ref 7 2 0 (([(⟨(mk #[97, 110, 110, 97]), (mk #[97, 110, 110])⟩ : aE), (⟨(mk #[98, 111, 98]), (mk #[114, 111, 98, 101, 114, 116])⟩ : aE)] : List aE).length), ar]), (7, .row 149 false 2 ([(⟨(mk #[97, 110, 110, 97]), (mk #[97, 110, 110])⟩ : aE), (⟨(mk #[98, 111, 98]), (mk #[114, 111, 98, 101, 114, 116])⟩ : aE)] : List aE).length (bA ([(⟨(mk #[97, 110, 110, 97]), (mk #[97, 110, 110])⟩ : aE), (⟨(mk #[98, 111, 98]), (mk #[114, 111, 98, 101, 114, 116])⟩ : aE)] : List aE)))] 10 (Ss [bB bT ze 2 (fun _ => rfl) ([(⟨(mk #[97, 110, 110, 97]), (mk #[97, 110, 110])⟩ : aE), (⟨(mk #[98, 111, 98]), (mk #[114, 111, 98, 101, 114, 116])⟩ : aE)] : List aE)]) ?_
    exact jl (y18.list, y18.at_, y18.state, ([(⟨(mk #[97, 110, 110, 97]), (mk #[97, 110, 110])⟩ : aE), (⟨(mk #[98, 111, 98]), (mk #[114, 111, 98, 101, 114, 116])⟩ : aE)] : List aE)) h (ai [(0, 0), (1, 1), (2, 2), (3, 3), (4, 7)])
   ·refine skip ?_
    exact jl (y18.list, y18.at_, y18.state, ([] : List aE)) h (Conv.trans (dr (id := 2) (ty0 := 31) (cs := [.ref 3 1 0 x4.length, ar, ar]) 1 (ty := 149) (sz := 2) (n := ([] : List aE).length) (f := bA ([] : List aE)) (by kernel_rfl) (by kernel_rfl) rfl) (ai [(0, 0), (1, 1), (2, 2), (3, 3), (4, 5)]))
 ·obtain ⟨y21, y22, e23, h⟩ := aK h
  refine QZ ae [(5, vb y21)] [0] [(0, .box 89 (br y22))] 4 [hn, hl [0] [] 0 (fN p0 2 (y21, y22) e23)] ?_
  refine Q2 h ?_ ?_ <;> intro c24 h
  ·refine QY ae [] [2, 4] [(2, .box 31 [.ref 4 1 0 ([(mk #[100, 114]), (mk #[118, 97, 110])].length), ar, ar]), (4, .row 9 false 1 [(mk #[100, 114]), (mk #[118, 97, 110])].length (Rs [(mk #[100, 114]), (mk #[118, 97, 110])]))] 7 [bB mt Es 1 (fun _ => rfl) [(mk #[100, 114]), (mk #[118, 97, 110])]] ?_
   exact jl (y22.list, y22.at_, y22.state, [(mk #[100, 114]), (mk #[118, 97, 110])]) h (ai [(0, 0), (1, 1), (2, 2), (3, 4)])
  ·refine skip ?_
   exact jl (y22.list, y22.at_, y22.state, ([] : am)) h (Conv.trans (dr (id := 2) (ty0 := 31) (cs := [ar, ar, ar]) 0 (ty := 9) (sz := 1) (n := ([] : am).length) (f := Rs ([] : am)) (by kernel_rfl) (by kernel_rfl) rfl) (ai [(0, 0), (1, 1), (2, 2), (3, 4)]))
noncomputable def kV (x12 : Int) (x16 : List aC) (x24 : Int) (x25 : List Int) (x26 : Int) (x27 : Int) : Option ((Int × List Int × Int × Int × List aC) ⊕ (List Int × Int × Int × List aC)) := if x12 < ([(mk #[102, 97, 109, 105, 108, 121]), (mk #[103, 105, 118, 101, 110]), (mk #[98, 105, 114, 116, 104]), (mk #[115, 116, 114, 101, 101, 116]), (mk #[99, 111, 100, 101])].length : Int) then (if x16.length + ([(⟨([(mk #[102, 97, 109, 105, 108, 121]), (mk #[103, 105, 118, 101, 110]), (mk #[98, 105, 114, 116, 104]), (mk #[115, 116, 114, 101, 101, 116]), (mk #[99, 111, 100, 101])].getD (0 + x12.toNat) mt), x24⟩ : aC)] : List aC).length ≤ 1099511627776 then (some (.inl (SB (x12 + 1), x25, x26, x27, (x16 ++ ([(⟨([(mk #[102, 97, 109, 105, 108, 121]), (mk #[103, 105, 118, 101, 110]), (mk #[98, 105, 114, 116, 104]), (mk #[115, 116, 114, 101, 101, 116]), (mk #[99, 111, 100, 101])].getD (0 + x12.toNat) mt), x24⟩ : aC)] : List aC))))) else none) else none
def mW (y4 : Int) (x12 : Int) (x13 : List Int) (x14 : Int) (x15 : Int) (x16 : List aC) : Option ((Int × List Int × Int × Int × List aC) ⊕ (List Int × Int × Int × List aC)) := if decide (x12 < (SB (1 + y4))) then if 0 ≤ x12 then if x12 < (([1, 1, 2, 4, 3] : List Int).length : Int) then aF (eQ (⟨x13, x14, x15⟩ : aP) 4) fun y30 y31 => (if y30 then aF (dz y31 4) fun y34 y35 => (kV x12 x16 (SB (1 + y34)) y35.list y35.at_ y35.state) else kV x12 x16 (([1, 1, 2, 4, 3] : List Int).getD (0 + x12.toNat) 0) y31.list y31.at_ y31.state) else none else none else some (.inr (x13, x14, x15, x16))
def qF (p0 : aP) : Option (aS × aP) := aF (qI p0) fun y1 y2 => (aF (dz y2 4) fun y4 y5 => (mz (loop (fun v : Int × List Int × Int × Int × List aC => mW y4 v.1 v.2.1 v.2.2.1 v.2.2.2.1 v.2.2.2.2) (0, y5.list, y5.at_, y5.state, ([] : List aC))) fun x37 x38 x39 x40 => (some ((⟨x40, y1⟩ : aS), (⟨x37, x38, x39⟩ : aP)))))
theorem Ii (p0 : aP) (r : aS × aP) (h : qF p0 = some r) : CT 8 [.c (.ptr 0 3 0 0)] [(0, .box 89 (br p0))] (.agg [.ref 1 2 0 r.1.Fields.length, .ref 2 1 0 r.1.Rules.Titles.length, .ref 3 2 0 r.1.Rules.Nicknames.length, .ref 4 2 0 r.1.Rules.Streets.length]) [(0, .box 89 (br r.2)), (1, .row 82 false 2 r.1.Fields.length (cZ r.1.Fields)), (2, .row 9 false 1 r.1.Rules.Titles.length (Rs r.1.Rules.Titles)), (3, .row 149 false 2 r.1.Rules.Nicknames.length (bA r.1.Rules.Nicknames)), (4, .row 149 false 2 r.1.Rules.Streets.length (bA r.1.Rules.Streets))] := by
 refine aw ae 1 Tryz.func8 rfl (fun _ _ _ => ?_)
 unfold qF at h
 refine QZ ae [(2, pX 1 4)] [1] [(1, .box 33 [ar, ar, ar, ar])] 2 [] ?_
 obtain ⟨y1, y2, e3, h⟩ := aK h
 refine QZ ae [(3, pX 7 4)] [0, 3, 4, 5, 7] [(7, .box 33 [ar, .ref 3 1 0 y1.Titles.length, .ref 4 2 0 y1.Nicknames.length, .ref 5 2 0 y1.Streets.length]), (0, .box 89 (br y2)), (3, .row 9 false 1 y1.Titles.length (Rs y1.Titles)), (4, .row 149 false 2 y1.Nicknames.length (bA y1.Nicknames)), (5, .row 149 false 2 y1.Streets.length (bA y1.Streets))] 9 [hn, hl [0] [] 3 (Io p0 (y1, y2) e3)] ?_
 refine QZ ae [(4, .c (.ref 9 1 0 ([(mk #[102, 97, 109, 105, 108, 121]), (mk #[103, 105, 118, 101, 110]), (mk #[98, 105, 114, 116, 104]), (mk #[115, 116, 114, 101, 101, 116]), (mk #[99, 111, 100, 101])].length)))] [9] [(9, .row 9 false 1 [(mk #[102, 97, 109, 105, 108, 121]), (mk #[103, 105, 118, 101, 110]), (mk #[98, 105, 114, 116, 104]), (mk #[115, 116, 114, 101, 101, 116]), (mk #[99, 111, 100, 101])].length (Rs [(mk #[102, 97, 109, 105, 108, 121]), (mk #[103, 105, 118, 101, 110]), (mk #[98, 105, 114, 116, 104]), (mk #[115, 116, 114, 101, 101, 116]), (mk #[99, 111, 100, 101])]))] 11 [bB mt Es 1 (fun _ => rfl) [(mk #[102, 97, 109, 105, 108, 121]), (mk #[103, 105, 118, 101, 110]), (mk #[98, 105, 114, 116, 104]), (mk #[115, 116, 114, 101, 101, 116]), (mk #[99, 111, 100, 101])]] ?_
 obtain ⟨y4, y5, e6, h⟩ := aK h
 refine QZ ae [(5, af (SB (1 + y4)))] [0] [(0, .box 89 (br y5))] 14 [hn, hl [0] [] 0 (dS y2 4 (y4, y5) e6)] (seq ?_)
 refine ah ae [(6, af 0)] 15 (block ?_)
 obtain ⟨x37, x38, x39, x40, l41, h⟩ := sM h
 refine Q3 l41 (fun v => ⟨[(0, pX 0 3), (2, pX 1 4), (3, pX 2 4), (4, .c (.ref 3 1 0 ([(mk #[102, 97, 109, 105, 108, 121]), (mk #[103, 105, 118, 101, 110]), (mk #[98, 105, 114, 116, 104]), (mk #[115, 116, 114, 101, 101, 116]), (mk #[99, 111, 100, 101])].length))), (5, af (SB (1 + y4))), (6, af v.1)], [(0, cR 89 v.2.1 v.2.2.1 v.2.2.2.1), (1, .box 33 [ar, ar, ar, ar]), (2, .box 33 [.ref 4 2 0 v.2.2.2.2.length, .ref 5 1 0 y1.Titles.length, .ref 6 2 0 y1.Nicknames.length, .ref 7 2 0 y1.Streets.length]), (3, .row 9 false 1 [(mk #[102, 97, 109, 105, 108, 121]), (mk #[103, 105, 118, 101, 110]), (mk #[98, 105, 114, 116, 104]), (mk #[115, 116, 114, 101, 101, 116]), (mk #[99, 111, 100, 101])].length (Rs [(mk #[102, 97, 109, 105, 108, 121]), (mk #[103, 105, 118, 101, 110]), (mk #[98, 105, 114, 116, 104]), (mk #[115, 116, 114, 101, 101, 116]), (mk #[99, 111, 100, 101])])), (4, .row 82 false 2 v.2.2.2.2.length (cZ v.2.2.2.2)), (5, .row 9 false 1 y1.Titles.length (Rs y1.Titles)), (6, .row 149 false 2 y1.Nicknames.length (bA y1.Nicknames)), (7, .row 149 false 2 y1.Streets.length (bA y1.Streets))], 8⟩) (fun t : (List Int) × Int × Int × (List aC) => (.exit 0, ⟨[(2, pX 1 4), (3, pX 2 4)], [(0, cR 89 t.1 t.2.1 t.2.2.1), (1, .box 33 [ar, ar, ar, ar]), (2, .box 33 [.ref 3 2 0 t.2.2.2.length, .ref 4 1 0 y1.Titles.length, .ref 5 2 0 y1.Nicknames.length, .ref 6 2 0 y1.Streets.length]), (3, .row 82 false 2 t.2.2.2.length (cZ t.2.2.2)), (4, .row 9 false 1 y1.Titles.length (Rs y1.Titles)), (5, .row 149 false 2 y1.Nicknames.length (bA y1.Nicknames)), (6, .row 149 false 2 y1.Streets.length (bA y1.Streets))], 7⟩)) (Conv.trans (dr (id := 7) (ty0 := 33) (cs := [ar, .ref 3 1 0 y1.Titles.length, .ref 4 2 0 y1.Nicknames.length, .ref 5 2 0 y1.Streets.length]) 0 (ty := 82) (sz := 2) (n := ([] : List aC).length) (f := cZ ([] : List aC)) (by kernel_rfl) (by kernel_rfl) rfl) (ai [(0, 0), (1, 1), (2, 7), (3, 9), (4, 15), (5, 3), (6, 4), (7, 5)])) (fun _ => tv) ?_ ?_
 ·clear l41 h
  intro v o h
  obtain ⟨x12, x13, x14, x15, x16⟩ := v
  replace h : mW y4 x12 x13 x14 x15 x16 = some o := h
  unfold mW at h
  refine seq ?_
  refine ah ae [(17, vb (decide (x12 < (SB (1 + y4)))))] 11 ?_
  refine Q2 h ?_ ?_ <;> intro c21 h
  ·refine skip (QX ?_)
   refine seq (block ?_)
   obtain ⟨g22, g23, h⟩ := aJ h
   refine QZ ae [(7, af (([1, 1, 2, 4, 3] : List Int).getD (0 + x12.toNat) 0))] [11] [] 16 [bB 0 dj 1 (fun _ => rfl) ([1, 1, 2, 4, 3] : List Int), hn, hq g22 g23, ho (p := (0 + x12.toNat) < ([1, 1, 2, 4, 3] : List Int).length) (by have h1 : 0 ≤ x12 := g22; have h2 : x12 < (([1, 1, 2, 4, 3] : List Int).length : Int) := g23; omega)] (seq ?_)
   refine AW.join (ι := Int × (List Int) × Int × Int) (fun v => ⟨[(0, pX 0 3), (2, pX 1 4), (3, pX 2 4), (4, .c (.ref 3 1 0 ([(mk #[102, 97, 109, 105, 108, 121]), (mk #[103, 105, 118, 101, 110]), (mk #[98, 105, 114, 116, 104]), (mk #[115, 116, 114, 101, 101, 116]), (mk #[99, 111, 100, 101])].length))), (5, af (SB (1 + y4))), (6, af x12), (7, af v.1)], [(0, cR 89 v.2.1 v.2.2.1 v.2.2.2), (1, .box 33 [ar, ar, ar, ar]), (2, .box 33 [.ref 4 2 0 x16.length, .ref 5 1 0 y1.Titles.length, .ref 6 2 0 y1.Nicknames.length, .ref 7 2 0 y1.Streets.length]), (3, .row 9 false 1 [(mk #[102, 97, 109, 105, 108, 121]), (mk #[103, 105, 118, 101, 110]), (mk #[98, 105, 114, 116, 104]), (mk #[115, 116, 114, 101, 101, 116]), (mk #[99, 111, 100, 101])].length (Rs [(mk #[102, 97, 109, 105, 108, 121]), (mk #[103, 105, 118, 101, 110]), (mk #[98, 105, 114, 116, 104]), (mk #[115, 116, 114, 101, 101, 116]), (mk #[99, 111, 100, 101])])), (4, .row 82 false 2 x16.length (cZ x16)), (5, .row 9 false 1 y1.Titles.length (Rs y1.Titles)), (6, .row 149 false 2 y1.Nicknames.length (bA y1.Nicknames)), (7, .row 149 false 2 y1.Streets.length (bA y1.Streets))], 8⟩) (fun v : Int × (List Int) × Int × Int => kV x12 x16 v.1 v.2.1 v.2.2.1 v.2.2.2 = some o) (fun v h => ?_) ?_
   ·obtain ⟨x24, x25, x26, x27⟩ := v
    replace h : kV x12 x16 x24 x25 x26 x27 = some o := h
    unfold kV at h
    refine QX ?_
    obtain ⟨g28, g29, h⟩ := aJ h
    refine Q0 ae gj [[], [], [], [], [], [], [], [], [16], [17, 4], [], [2]] [] [(2, .box 33 [.ref 17 2 0 ((x16 ++ ([(⟨([(mk #[102, 97, 109, 105, 108, 121]), (mk #[103, 105, 118, 101, 110]), (mk #[98, 105, 114, 116, 104]), (mk #[115, 116, 114, 101, 101, 116]), (mk #[99, 111, 100, 101])].getD (0 + x12.toNat) mt), x24⟩ : aC)] : List aC)).length), .ref 5 1 0 y1.Titles.length, .ref 6 2 0 y1.Nicknames.length, .ref 7 2 0 y1.Streets.length]), (17, .row 82 false 2 (x16 ++ ([(⟨([(mk #[102, 97, 109, 105, 108, 121]), (mk #[103, 105, 118, 101, 110]), (mk #[98, 105, 114, 116, 104]), (mk #[115, 116, 114, 101, 101, 116]), (mk #[99, 111, 100, 101])].getD (0 + x12.toNat) mt), x24⟩ : aC)] : List aC)).length (cZ (x16 ++ ([(⟨([(mk #[102, 97, 109, 105, 108, 121]), (mk #[103, 105, 118, 101, 110]), (mk #[98, 105, 114, 116, 104]), (mk #[115, 116, 114, 101, 101, 116]), (mk #[99, 111, 100, 101])].getD (0 + x12.toNat) mt), x24⟩ : aC)] : List aC))))] 20 (Sv [hq g22 g28, ho (p := (0 + x12.toNat) < [(mk #[102, 97, 109, 105, 108, 121]), (mk #[103, 105, 118, 101, 110]), (mk #[98, 105, 114, 116, 104]), (mk #[115, 116, 114, 101, 101, 116]), (mk #[99, 111, 100, 101])].length) (by have h1 : 0 ≤ x12 := g22; have h2 : x12 < ([(mk #[102, 97, 109, 105, 108, 121]), (mk #[103, 105, 118, 101, 110]), (mk #[98, 105, 114, 116, 104]), (mk #[115, 116, 114, 101, 101, 116]), (mk #[99, 111, 100, 101])].length : Int) := g28; omega), hn, hn, bB bD vz 2 (fun _ => rfl) ([(⟨([(mk #[102, 97, 109, 105, 108, 121]), (mk #[103, 105, 118, 101, 110]), (mk #[98, 105, 114, 116, 104]), (mk #[115, 116, 114, 101, 101, 116]), (mk #[99, 111, 100, 101])].getD (0 + x12.toNat) mt), x24⟩ : aC)] : List aC), cP bD vz 2 24 x16 ([(⟨([(mk #[102, 97, 109, 105, 108, 121]), (mk #[103, 105, 118, 101, 110]), (mk #[98, 105, 114, 116, 104]), (mk #[115, 116, 114, 101, 101, 116]), (mk #[99, 111, 100, 101])].getD (0 + x12.toNat) mt), x24⟩ : aC)] : List aC) g29 (by decide)]) ?_
    refine QU (QX ?_)
    refine ba ae [(6, af (SB (x12 + 1)))] 23 ?_
    exact bh h (ai [(0, 0), (1, 1), (2, 2), (3, 3), (4, 17), (5, 5), (6, 6), (7, 7)])
   ·obtain ⟨y30, y31, e32, h⟩ := aK h
    refine QZ ae [(25, vb y30)] [0] [(0, .box 89 (br y31))] 17 [hn, hl [0] [] 0 (fN (⟨x13, x14, x15⟩ : aP) 4 (y30, y31) e32)] ?_
    refine Q2 h ?_ ?_ <;> intro c33 h
    ·obtain ⟨y34, y35, e36, h⟩ := aK h
     refine QY ae [(7, af (SB (1 + y34)))] [0] [(0, .box 89 (br y35))] 20 [hn, hl [0] [] 0 (dS y31 4 (y34, y35) e36)] ?_
     exact jl (SB (1 + y34), y35.list, y35.at_, y35.state) h (ai [(0, 0), (1, 1), (2, 2), (3, 3), (4, 4), (5, 5), (6, 6), (7, 7)])
    ·refine skip ?_
     exact jl ((([1, 1, 2, 4, 3] : List Int).getD (0 + x12.toNat) 0), y31.list, y31.at_, y31.state) h (ai [(0, 0), (1, 1), (2, 2), (3, 3), (4, 4), (5, 5), (6, 6), (7, 7)])
  ·refine exit (QR ?_)
   exact aX h rfl (ai [(0, 0), (1, 1), (2, 2), (3, 4), (4, 5), (5, 6), (6, 7)])
 ·show (_ : XQ) (.exit 0) _
  refine QO (QX ?_)
  refine QZ ae [] [1] [(1, .box 33 [.ref 3 2 0 x40.length, .ref 4 1 0 y1.Titles.length, .ref 5 2 0 y1.Nicknames.length, .ref 6 2 0 y1.Streets.length])] 9 [] (ret ?_)
  obtain rfl := ay h
  exact be (.inr rfl) [(0, 0), (1, 3), (2, 4), (3, 5), (4, 6)] 5 (.agg [.ref 3 2 0 x40.length, .ref 4 1 0 y1.Titles.length, .ref 5 2 0 y1.Nicknames.length, .ref 6 2 0 y1.Streets.length])
def kT (x6 : List aD) (x7 : Int) (y16 : Int) (y19 : Int) (x22 : List Int) (x23 : Int) (x24 : Int) (x25 : Int) : Option ((List aD × Int × List Int × Int × Int) ⊕ (List aD × List Int × Int × Int)) := if x6.length + ([(⟨SB (64 * (SB (1 + y16))), SB (1 + y19), x25⟩ : aD)] : List aD).length ≤ 1099511627776 then (some (.inl ((x6 ++ ([(⟨SB (64 * (SB (1 + y16))), SB (1 + y19), x25⟩ : aD)] : List aD)), SB (x7 + 1), x22, x23, x24))) else none
def kU (p1 : Int) (x6 : List aD) (x7 : Int) (y16 : Int) (y19 : Int) (x27 : Bool) (x28 : List Int) (x29 : Int) (x30 : Int) : Option ((List aD × Int × List Int × Int × Int) ⊕ (List aD × List Int × Int × Int)) := if x27 then if p1 ≠ 0 then kT x6 x7 y16 y19 x28 x29 x30 ((SB (x7 + 1)).tmod p1) else none else kT x6 x7 y16 y19 x28 x29 x30 (-1)
def mT (p1 : Int) (x6 : List aD) (x7 : Int) (x8 : List Int) (x9 : Int) (x10 : Int) : Option ((List aD × Int × List Int × Int × Int) ⊕ (List aD × List Int × Int × Int)) := if decide (x7 < p1) then aF (dz (⟨x8, x9, x10⟩ : aP) 3) fun y16 y17 => (aF (dz y17 6) fun y19 y20 => (if decide (p1 > 1) then aF (eQ y20 3) fun y34 y35 => (kU p1 x6 x7 y16 y19 y34 y35.list y35.at_ y35.state) else kU p1 x6 x7 y16 y19 false y20.list y20.at_ y20.state)) else some (.inr (x6, x8, x9, x10))
def qz (p0 : aP) (p1 : Int) : Option (List aD × aP) := mz (loop (fun v : List aD × Int × List Int × Int × Int => mT p1 v.1 v.2.1 v.2.2.1 v.2.2.2.1 v.2.2.2.2) (([] : List aD), 0, p0.list, p0.at_, p0.state)) fun x37 x38 x39 x40 => (some (x37, (⟨x38, x39, x40⟩ : aP)))
theorem Ia (p0 : aP) (p1 : Int) (r : (List aD) × aP) (h : qz p0 p1 = some r) : CT 9 [.c (.ptr 0 3 0 0), af p1] [(0, .box 89 (br p0))] (.c (.ref 1 3 0 r.1.length)) [(0, .box 89 (br r.2)), (1, .row 84 false 3 r.1.length (cA r.1))] := by
 refine aw ae 1 Tryz.func9 rfl (fun _ _ _ => ?_)
 unfold qz at h
 refine ah ae [] 2 ?_
 refine ah ae [(5, .c (ar))] 3 (seq ?_)
 refine ah ae [(6, af 0)] 4 (block ?_)
 obtain ⟨x37, x38, x39, x40, l41, h⟩ := sM h
 refine Q3 l41 (fun v => ⟨[(0, pX 0 3), (1, af p1), (5, rX 1 3 v.1.length), (6, af v.2.1)], [(0, cR 89 v.2.2.1 v.2.2.2.1 v.2.2.2.2), (1, .row 84 false 3 v.1.length (cA v.1))], 2⟩) (fun t : (List aD) × (List Int) × Int × Int => (.exit 0, ⟨[(5, rX 1 3 t.1.length)], [(0, cR 89 t.2.1 t.2.2.1 t.2.2.2), (1, .row 84 false 3 t.1.length (cA t.1))], 2⟩)) (Conv.trans (cG (t := 5) (ty := 84) (sz := 3) (n := ([] : List aD).length) (f := cA ([] : List aD)) (by kernel_rfl) rfl) (ai [(0, 0), (1, 4)])) (fun _ => tv) ?_ ?_
 ·clear l41 h
  intro v o h
  obtain ⟨x6, x7, x8, x9, x10⟩ := v
  replace h : mT p1 x6 x7 x8 x9 x10 = some o := h
  unfold mT at h
  refine seq ?_
  refine ah ae [(10, vb (decide (x7 < p1)))] 5 ?_
  refine Q2 h ?_ ?_ <;> intro c15 h
  ·refine skip (QX ?_)
   refine seq (block ?_)
   obtain ⟨y16, y17, e18, h⟩ := aK h
   obtain ⟨y19, y20, e21, h⟩ := aK h
   refine QZ ae [(7, pX 11 3)] [0, 11] [(11, .box 84 [ag (SB (64 * (SB (1 + y16)))), ag (SB (1 + y19)), ag (-1)]), (0, .box 89 (br y20))] 13 [hn, hl [0] [] 0 (dS (⟨x8, x9, x10⟩ : aP) 3 (y16, y17) e18), hn, hn, hn, hl [0] [] 0 (dS y17 6 (y19, y20) e21)] (seq ?_)
   refine AW.join (ι := (List Int) × Int × Int × Int) (fun v => ⟨[(0, pX 0 3), (1, af p1), (5, rX 1 3 x6.length), (6, af x7), (7, pX 2 3)], [(0, cR 89 v.1 v.2.1 v.2.2.1), (1, .row 84 false 3 x6.length (cA x6)), (2, .box 84 [ag (SB (64 * (SB (1 + y16)))), ag (SB (1 + y19)), ag v.2.2.2])], 3⟩) (fun v : (List Int) × Int × Int × Int => kT x6 x7 y16 y19 v.1 v.2.1 v.2.2.1 v.2.2.2 = some o) (fun v h => ?_) ?_
   ·obtain ⟨x22, x23, x24, x25⟩ := v
    replace h : kT x6 x7 y16 y19 x22 x23 x24 x25 = some o := h
    unfold kT at h
    refine QX ?_
    obtain ⟨g26, h⟩ := aY h
    refine QY ae [(5, .c (.ref 6 3 0 ((x6 ++ ([(⟨SB (64 * (SB (1 + y16))), SB (1 + y19), x25⟩ : aD)] : List aD)).length)))] [1, 5, 6] [(6, .row 84 false 3 (x6 ++ ([(⟨SB (64 * (SB (1 + y16))), SB (1 + y19), x25⟩ : aD)] : List aD)).length (cA (x6 ++ ([(⟨SB (64 * (SB (1 + y16))), SB (1 + y19), x25⟩ : aD)] : List aD))))] 8 (Ss [bB dk uO 3 (fun _ => rfl) ([(⟨SB (64 * (SB (1 + y16))), SB (1 + y19), x25⟩ : aD)] : List aD), cP dk uO 3 24 x6 ([(⟨SB (64 * (SB (1 + y16))), SB (1 + y19), x25⟩ : aD)] : List aD) g26 (by decide)]) ?_
    refine QU (QX ?_)
    refine ba ae [(6, af (SB (x7 + 1)))] 11 ?_
    exact bh h (ai [(0, 0), (1, 6)])
   ·refine seq ?_
    refine AW.join (ι := Bool × (List Int) × Int × Int) (fun v => ⟨[(0, pX 0 3), (1, af p1), (5, rX 1 3 x6.length), (6, af x7), (7, pX 2 3), (26, vb v.1)], [(0, cR 89 v.2.1 v.2.2.1 v.2.2.2), (1, .row 84 false 3 x6.length (cA x6)), (2, .box 84 [ag (SB (64 * (SB (1 + y16)))), ag (SB (1 + y19)), ag (-1)])], 3⟩) (fun v : Bool × (List Int) × Int × Int => kU p1 x6 x7 y16 y19 v.1 v.2.1 v.2.2.1 v.2.2.2 = some o) (fun v h => ?_) ?_
    ·obtain ⟨x27, x28, x29, x30⟩ := v
     replace h : kU p1 x6 x7 y16 y19 x27 x28 x29 x30 = some o := h
     unfold kU at h
     refine QX ?_
     refine Q2 h ?_ ?_ <;> intro c31 h
     ·obtain ⟨g32, h⟩ := aY h
      refine QY ae [] [2] [(2, .box 84 [ag (SB (64 * (SB (1 + y16)))), ag (SB (1 + y19)), ag ((SB (x7 + 1)).tmod p1)])] 9 (Su [ho g32]) ?_
      exact jl (x28, x29, x30, ((SB (x7 + 1)).tmod p1)) h (ai [(0, 0), (1, 1), (2, 2)])
     ·refine skip ?_
      exact jl (x28, x29, x30, (-1)) h (ai [(0, 0), (1, 1), (2, 2)])
    ·rcases aI h with ⟨c33, h⟩ | ⟨c33, h⟩
     ·obtain ⟨y34, y35, e36, h⟩ := aK h
      refine QY ae [(26, vb y34)] [0] [(0, .box 89 (br y35))] 18 [hn, ht c33, hn, hn, hl [0] [] 0 (fN y20 3 (y34, y35) e36)] ?_
      exact jl (y34, y35.list, y35.at_, y35.state) h (ai [(0, 0), (1, 1), (2, 11)])
     ·refine ax ae [(26, vb false)] 19 [hn, hf c33] ?_
      exact jl (false, y20.list, y20.at_, y20.state) h (ai [(0, 0), (1, 1), (2, 11)])
  ·refine exit (QR ?_)
   exact aX h rfl (ai [(0, 0), (1, 1)])
 ·show (_ : XQ) (.exit 0) _
  refine QO (QX ?_)
  refine ah ae [(4, rX 1 3 x37.length)] 4 (ret ?_)
  obtain rfl := ay h
  exact be (.inr rfl) [(0, 0), (1, 1)] 2 (.c (.ref 1 3 0 x37.length))
def qZ (p0 : aP) : Option (bd × aP) := aF (lw p0) fun y1 y2 => (aF (lw y2) fun y4 y5 => (some ((⟨y1, y4⟩ : bd), y5)))
theorem IC (p0 : aP) (r : bd × aP) (h : qZ p0 = some r) : CT 10 [.c (.ptr 0 3 0 0)] [(0, .box 89 (br p0))] (.agg (bN r.1)) [(0, .box 89 (br r.2))] := by
 refine aw ae 1 Tryz.func10 rfl (fun _ _ _ => ?_)
 unfold qZ at h
 refine QZ ae [(2, pX 1 2)] [1] [(1, .box 39 [aH 0, aH 0])] 2 [] ?_
 obtain ⟨y1, y2, e3, h⟩ := aK h
 obtain ⟨y4, y5, e6, h⟩ := aK h
 refine QZ ae [] [0, 1] [(1, .box 39 [aH y1, aH y4]), (0, .box 89 (br y5))] 6 [hn, hl [0] [] 0 (yd p0 (y1, y2) e3), hn, hl [0] [] 0 (yd y2 (y4, y5) e6)] (ret ?_)
 obtain rfl := ay h
 exact be (.inr rfl) [(0, 0)] 1 (.agg [aH y1, aH y4])
structure bW where
 Prior : Int
 Match : List Int
 Random : List Int
def KJ : bW := ⟨0, ([] : List Int), ([] : List Int)⟩
instance : Inhabited bW := ⟨KJ⟩
def lc (x10 : Int) (x22 : List Int) (x23 : Int) (x24 : Int) (x25 : List Int) (x26 : List Int) : Option ((Int × List Int × Int × Int × List Int × List Int) ⊕ (List Int × Int × Int × List Int × List Int)) := some (.inl (SB (x10 + 1), x22, x23, x24, x25, x26))
def m7 (p1 : Int) (x10 : Int) (x11 : List Int) (x12 : Int) (x13 : Int) (x14 : List Int) (x15 : List Int) : Option ((Int × List Int × Int × Int × List Int × List Int) ⊕ (List Int × Int × Int × List Int × List Int)) := if decide (x10 < p1) then (aF (dz (⟨x11, x12, x13⟩ : aP) 32768) fun y27 y28 => (if x14.length + ([SB (32768 + y27)] : List Int).length ≤ 1099511627776 then (aF (dz y28 32768) fun y31 y32 => (if x15.length + ([SB (1 + y31)] : List Int).length ≤ 1099511627776 then (aF (eQ y32 6) fun y35 y36 => (if y35 then (aF (dz y36 2) fun y39 y40 => (if 0 ≤ y39 then (if y39 < (([1, 65535] : List Int).length : Int) then (if 0 ≤ x10 then (if x10 < (((x14 ++ ([SB (32768 + y27)] : List Int)).length : Nat) : Int) then lc x10 y40.list y40.at_ y40.state ((x14 ++ ([SB (32768 + y27)] : List Int)).set (0 + x10.toNat) (([1, 65535] : List Int).getD (0 + y39.toNat) 0)) (x15 ++ ([SB (1 + y31)] : List Int)) else none) else none) else none) else none)) else lc x10 y36.list y36.at_ y36.state (x14 ++ ([SB (32768 + y27)] : List Int)) (x15 ++ ([SB (1 + y31)] : List Int)))) else none)) else none)) else some (.inr (x11, x12, x13, x14, x15))
def qJ (p0 : aP) (p1 : Int) : Option (bW × aP) := aF (dz p0 65535) fun y1 y2 => (fJ (loop (fun v : Int × List Int × Int × Int × List Int × List Int => m7 p1 v.1 v.2.1 v.2.2.1 v.2.2.2.1 v.2.2.2.2.1 v.2.2.2.2.2) (0, y2.list, y2.at_, y2.state, ([] : List Int), ([] : List Int))) fun x46 x47 x48 x49 x50 => (some ((⟨SB (1 + y1), x49, x50⟩ : bW), (⟨x46, x47, x48⟩ : aP))))
theorem Ip (p0 : aP) (p1 : Int) (r : bW × aP) (h : qJ p0 p1 = some r) : CT 11 [.c (.ptr 0 3 0 0), af p1] [(0, .box 89 (br p0))] (.agg [ag r.1.Prior, .ref 1 1 0 r.1.Match.length, .ref 2 1 0 r.1.Random.length]) [(0, .box 89 (br r.2)), (1, .row 3 false 1 r.1.Match.length (al r.1.Match)), (2, .row 3 false 1 r.1.Random.length (al r.1.Random))] := by
 refine aw ae 1 Tryz.func11 rfl (fun _ _ _ => ?_)
 unfold qJ at h
 refine QZ ae [(4, pX 1 3)] [1] [(1, .box 42 [ag 0, ar, ar])] 2 [] ?_
 obtain ⟨y1, y2, e3, h⟩ := aK h
 refine QZ ae [(5, pX 5 3)] [0, 5] [(5, .box 42 [ag (SB (1 + y1)), ar, ar]), (0, .box 89 (br y2))] 7 [hn, hl [0] [] 0 (dS p0 65535 (y1, y2) e3)] (seq ?_)
 refine ah ae [(6, af 0)] 8 (block ?_)
 obtain ⟨x46, x47, x48, x49, x50, l51, h⟩ := gZ h
 refine Q3 l51 (fun v => ⟨[(0, pX 0 3), (1, af p1), (4, pX 1 3), (5, pX 2 3), (6, af v.1)], [(0, cR 89 v.2.1 v.2.2.1 v.2.2.2.1), (1, .box 42 [ag 0, ar, ar]), (2, .box 42 [ag (SB (1 + y1)), .ref 3 1 0 v.2.2.2.2.1.length, .ref 4 1 0 v.2.2.2.2.2.length]), (3, .row 3 false 1 v.2.2.2.2.1.length (al v.2.2.2.2.1)), (4, .row 3 false 1 v.2.2.2.2.2.length (al v.2.2.2.2.2))], 5⟩) (fun t : (List Int) × Int × Int × (List Int) × (List Int) => (.exit 0, ⟨[(4, pX 1 3), (5, pX 2 3)], [(0, cR 89 t.1 t.2.1 t.2.2.1), (1, .box 42 [ag 0, ar, ar]), (2, .box 42 [ag (SB (1 + y1)), .ref 3 1 0 t.2.2.2.1.length, .ref 4 1 0 t.2.2.2.2.length]), (3, .row 3 false 1 t.2.2.2.1.length (al t.2.2.2.1)), (4, .row 3 false 1 t.2.2.2.2.length (al t.2.2.2.2))], 5⟩)) (Conv.trans (dr (id := 5) (ty0 := 42) (cs := [ag (SB (1 + y1)), ar, ar]) 1 (ty := 3) (sz := 1) (n := ([] : List Int).length) (f := al ([] : List Int)) (by kernel_rfl) (by kernel_rfl) rfl) (Conv.trans (dr (id := 5) (ty0 := 42) (cs := [ag (SB (1 + y1)), .ref 8 1 0 (([] : List Int).length), ar]) 2 (ty := 3) (sz := 1) (n := ([] : List Int).length) (f := al ([] : List Int)) (by kernel_rfl) (by kernel_rfl) rfl) (ai [(0, 0), (1, 1), (2, 5), (3, 8), (4, 9)]))) (fun _ => tv) ?_ ?_
 ·clear l51 h
  intro v o h
  obtain ⟨x10, x11, x12, x13, x14, x15⟩ := v
  replace h : m7 p1 x10 x11 x12 x13 x14 x15 = some o := h
  unfold m7 at h
  refine seq ?_
  refine ah ae [(13, vb (decide (x10 < p1)))] 8 ?_
  refine Q2 h ?_ ?_ <;> intro c21 h
  ·refine skip (QX (seq ?_))
   refine AW.join (ι := (List Int) × Int × Int × (List Int) × (List Int)) (fun v => ⟨[(0, pX 0 3), (1, af p1), (4, pX 1 3), (5, pX 2 3), (6, af x10)], [(0, cR 89 v.1 v.2.1 v.2.2.1), (1, .box 42 [ag 0, ar, ar]), (2, .box 42 [ag (SB (1 + y1)), .ref 3 1 0 v.2.2.2.1.length, .ref 4 1 0 v.2.2.2.2.length]), (3, .row 3 false 1 v.2.2.2.1.length (al v.2.2.2.1)), (4, .row 3 false 1 v.2.2.2.2.length (al v.2.2.2.2))], 5⟩) (fun v : (List Int) × Int × Int × (List Int) × (List Int) => lc x10 v.1 v.2.1 v.2.2.1 v.2.2.2.1 v.2.2.2.2 = some o) (fun v h => ?_) ?_
   ·obtain ⟨x22, x23, x24, x25, x26⟩ := v
    replace h : lc x10 x22 x23 x24 x25 x26 = some o := h
    unfold lc at h
    refine QX ?_
    refine ba ae [(6, af (SB (x10 + 1)))] 8 ?_
    exact bh h (ai [(0, 0), (1, 1), (2, 2), (3, 3), (4, 4)])
   ·refine block ?_
    obtain ⟨y27, y28, e29, h⟩ := aK h
    obtain ⟨g30, h⟩ := aY h
    refine Q1 ae gj [[], [], [], [0], [], [12], [13, 3], [], [2]] [] [(2, .box 42 [ag (SB (1 + y1)), .ref 13 1 0 ((x14 ++ ([SB (32768 + y27)] : List Int)).length), .ref 4 1 0 x15.length]), (13, .row 3 false 1 (x14 ++ ([SB (32768 + y27)] : List Int)).length (al (x14 ++ ([SB (32768 + y27)] : List Int)))), (0, .box 89 (br y28))] 16 (Su [hl [0] [] 0 (dS (⟨x11, x12, x13⟩ : aP) 32768 (y27, y28) e29), hn, bB 0 dj 1 (fun _ => rfl) ([SB (32768 + y27)] : List Int), cP 0 dj 1 8 x14 ([SB (32768 + y27)] : List Int) g30 (by decide)]) ?_
    obtain ⟨y31, y32, e33, h⟩ := aK h
    obtain ⟨g34, h⟩ := aY h
    refine Q1 ae gj [[], [], [], [0], [], [20], [21, 4], [], [2]] [] [(2, .box 42 [ag (SB (1 + y1)), .ref 13 1 0 ((x14 ++ ([SB (32768 + y27)] : List Int)).length), .ref 21 1 0 ((x15 ++ ([SB (1 + y31)] : List Int)).length)]), (21, .row 3 false 1 (x15 ++ ([SB (1 + y31)] : List Int)).length (al (x15 ++ ([SB (1 + y31)] : List Int)))), (0, .box 89 (br y32))] 24 (Su [hl [0] [] 0 (dS y28 32768 (y31, y32) e33), hn, bB 0 dj 1 (fun _ => rfl) ([SB (1 + y31)] : List Int), cP 0 dj 1 8 x15 ([SB (1 + y31)] : List Int) g34 (by decide)]) ?_
    obtain ⟨y35, y36, e37, h⟩ := aK h
    refine QZ ae [(33, vb y35)] [0] [(0, .box 89 (br y36))] 25 [hn, hl [0] [] 0 (fN y32 6 (y35, y36) e37)] ?_
    refine Q2 h ?_ ?_ <;> intro c38 h
    ·obtain ⟨y39, y40, e41, h⟩ := aK h
     obtain ⟨g42, g43, h⟩ := aJ h
     obtain ⟨g44, g45, h⟩ := aJ h
     refine Q0 ae gj [[], [], [], [28], [], [0], [], [], [], [13]] [] [(13, .row 3 false 1 (x14 ++ ([SB (32768 + y27)] : List Int)).length (al ((x14 ++ ([SB (32768 + y27)] : List Int)).set (0 + x10.toNat) (([1, 65535] : List Int).getD (0 + y39.toNat) 0)))), (0, .box 89 (br y40))] 34 (Su [bB 0 dj 1 (fun _ => rfl) ([1, 65535] : List Int), hn, hl [0] [] 0 (dS y36 2 (y39, y40) e41), hq g42 g43, ho (p := (0 + y39.toNat) < ([1, 65535] : List Int).length) (by have h1 : 0 ≤ y39 := g42; have h2 : y39 < (([1, 65535] : List Int).length : Int) := g43; omega), hq g44 g45, hset 0 dj (x14 ++ ([SB (32768 + y27)] : List Int)) (0 + x10.toNat) (([1, 65535] : List Int).getD (0 + y39.toNat) 0) (n := (x14 ++ ([SB (32768 + y27)] : List Int)).length) (by have h1 : 0 ≤ x10 := g44; have h2 : x10 < (((x14 ++ ([SB (32768 + y27)] : List Int)).length : Nat) : Int) := g45; omega) rfl]) ?_
     refine QU ?_
     exact jl (y40.list, y40.at_, y40.state, ((x14 ++ ([SB (32768 + y27)] : List Int)).set (0 + x10.toNat) (([1, 65535] : List Int).getD (0 + y39.toNat) 0)), (x15 ++ ([SB (1 + y31)] : List Int))) h (Conv.trans (ai (S' := ⟨[(0, pX 0 3), (1, af p1), (4, pX 1 3), (5, pX 2 3), (6, af x10)], [(13, .row 3 false 1 (x14 ++ ([SB (32768 + y27)] : List Int)).length (al ((x14 ++ ([SB (32768 + y27)] : List Int)).set (0 + x10.toNat) (([1, 65535] : List Int).getD (0 + y39.toNat) 0)))), (0, .box 89 (br y40)), (2, .box 42 [ag (SB (1 + y1)), .ref 13 1 0 ((x14 ++ ([SB (32768 + y27)] : List Int)).length), .ref 21 1 0 ((x15 ++ ([SB (1 + y31)] : List Int)).length)]), (21, .row 3 false 1 (x15 ++ ([SB (1 + y31)] : List Int)).length (al (x15 ++ ([SB (1 + y31)] : List Int)))), (1, .box 42 [ag 0, ar, ar])], 34⟩) [(13, 13), (0, 0), (2, 2), (21, 21), (1, 1)] (by kernel_rfl)) (Conv.trans (tc (S' := ⟨[(0, pX 0 3), (1, af p1), (4, pX 1 3), (5, pX 2 3), (6, af x10)], [(13, .row 3 false 1 ((x14 ++ ([SB (32768 + y27)] : List Int)).set (0 + x10.toNat) (([1, 65535] : List Int).getD (0 + y39.toNat) 0)).length (al ((x14 ++ ([SB (32768 + y27)] : List Int)).set (0 + x10.toNat) (([1, 65535] : List Int).getD (0 + y39.toNat) 0)))), (0, .box 89 (br y40)), (2, .box 42 [ag (SB (1 + y1)), .ref 13 1 0 (((x14 ++ ([SB (32768 + y27)] : List Int)).set (0 + x10.toNat) (([1, 65535] : List Int).getD (0 + y39.toNat) 0)).length), .ref 21 1 0 ((x15 ++ ([SB (1 + y31)] : List Int)).length)]), (21, .row 3 false 1 (x15 ++ ([SB (1 + y31)] : List Int)).length (al (x15 ++ ([SB (1 + y31)] : List Int)))), (1, .box 42 [ag 0, ar, ar])], 34⟩) (by simp only [R7])) (ai [(0, 0), (1, 1), (2, 2), (3, 13), (4, 21)])))
    ·refine skip (QU ?_)
     exact jl (y36.list, y36.at_, y36.state, (x14 ++ ([SB (32768 + y27)] : List Int)), (x15 ++ ([SB (1 + y31)] : List Int))) h (ai [(0, 0), (1, 1), (2, 2), (3, 13), (4, 21)])
  ·refine exit (QR ?_)
   exact aX h rfl (ai [(0, 0), (1, 1), (2, 2), (3, 3), (4, 4)])
 ·show (_ : XQ) (.exit 0) _
  refine QO (QX ?_)
  refine QZ ae [] [1] [(1, .box 42 [ag (SB (1 + y1)), .ref 3 1 0 x49.length, .ref 4 1 0 x50.length])] 7 [] (ret ?_)
  obtain rfl := ay h
  exact be (.inr rfl) [(0, 0), (1, 3), (2, 4)] 3 (.agg [ag (SB (1 + y1)), .ref 3 1 0 x49.length, .ref 4 1 0 x50.length])
noncomputable def rZ : Option (List ByteArray) := some [(mk #[114, 111, 98, 101, 114, 116]), (mk #[98, 111, 98]), (mk #[97, 110, 110]), (mk #[97, 110, 110, 97]), (mk #[114, 117, 112, 101, 114, 116]), (mk #[109, 97, 114, 105, 97]), (mk #[112, 101, 116, 101, 114]), (mk #[100, 114]), (mk #[106, 111]), (mk #[97, 115, 104, 99, 114, 97, 102, 116]), (mk #[108, 105])]
theorem CX (r : List ByteArray) (h : rZ = some r) : CT 73 [] [] (.c (.ref 0 1 0 r.length)) [(0, .row 9 false 1 r.length (Rs r))] := by
 refine aw ae 0 Tryz.func73 rfl (fun _ _ _ => ?_)
 unfold rZ at h
 refine ah ae [] 1 ?_
 refine QZ ae [(0, .c (.ref 1 1 0 ([(mk #[114, 111, 98, 101, 114, 116]), (mk #[98, 111, 98]), (mk #[97, 110, 110]), (mk #[97, 110, 110, 97]), (mk #[114, 117, 112, 101, 114, 116]), (mk #[109, 97, 114, 105, 97]), (mk #[112, 101, 116, 101, 114]), (mk #[100, 114]), (mk #[106, 111]), (mk #[97, 115, 104, 99, 114, 97, 102, 116]), (mk #[108, 105])].length)))] [1] [(1, .row 9 false 1 [(mk #[114, 111, 98, 101, 114, 116]), (mk #[98, 111, 98]), (mk #[97, 110, 110]), (mk #[97, 110, 110, 97]), (mk #[114, 117, 112, 101, 114, 116]), (mk #[109, 97, 114, 105, 97]), (mk #[112, 101, 116, 101, 114]), (mk #[100, 114]), (mk #[106, 111]), (mk #[97, 115, 104, 99, 114, 97, 102, 116]), (mk #[108, 105])].length (Rs [(mk #[114, 111, 98, 101, 114, 116]), (mk #[98, 111, 98]), (mk #[97, 110, 110]), (mk #[97, 110, 110, 97]), (mk #[114, 117, 112, 101, 114, 116]), (mk #[109, 97, 114, 105, 97]), (mk #[112, 101, 116, 101, 114]), (mk #[100, 114]), (mk #[106, 111]), (mk #[97, 115, 104, 99, 114, 97, 102, 116]), (mk #[108, 105])]))] 3 [bB mt Es 1 (fun _ => rfl) [(mk #[114, 111, 98, 101, 114, 116]), (mk #[98, 111, 98]), (mk #[97, 110, 110]), (mk #[97, 110, 110, 97]), (mk #[114, 117, 112, 101, 114, 116]), (mk #[109, 97, 114, 105, 97]), (mk #[112, 101, 116, 101, 114]), (mk #[100, 114]), (mk #[106, 111]), (mk #[97, 115, 104, 99, 114, 97, 102, 116]), (mk #[108, 105])]] (ret ?_)
 obtain rfl := ay h
 exact be (.inr rfl) [(0, 1)] 1 (.c (.ref 1 1 0 ([(mk #[114, 111, 98, 101, 114, 116]), (mk #[98, 111, 98]), (mk #[97, 110, 110]), (mk #[97, 110, 110, 97]), (mk #[114, 117, 112, 101, 114, 116]), (mk #[109, 97, 114, 105, 97]), (mk #[112, 101, 116, 101, 114]), (mk #[100, 114]), (mk #[106, 111]), (mk #[97, 115, 104, 99, 114, 97, 102, 116]), (mk #[108, 105])].length)))
noncomputable def rL : Option (List ByteArray) := some [(mk #[115, 109, 105, 116, 104]), (mk #[115, 99, 104, 109, 105, 100, 116]), (mk #[109, 105, 108, 108, 101, 114]), (mk #[111, 110, 101, 105, 108, 108]), (mk #[115, 116, 114, 97, 117, 115, 115]), (mk #[118, 97, 110]), (mk #[109, 97, 105, 110]), (mk #[115, 116]), (mk #[115, 116, 114, 101, 101, 116]), (mk #[114, 100]), (mk #[112, 97, 114, 107])]
theorem CK (r : List ByteArray) (h : rL = some r) : CT 74 [] [] (.c (.ref 0 1 0 r.length)) [(0, .row 9 false 1 r.length (Rs r))] := by
 refine aw ae 0 Tryz.func74 rfl (fun _ _ _ => ?_)
 unfold rL at h
 refine ah ae [] 1 ?_
 refine QZ ae [(0, .c (.ref 1 1 0 ([(mk #[115, 109, 105, 116, 104]), (mk #[115, 99, 104, 109, 105, 100, 116]), (mk #[109, 105, 108, 108, 101, 114]), (mk #[111, 110, 101, 105, 108, 108]), (mk #[115, 116, 114, 97, 117, 115, 115]), (mk #[118, 97, 110]), (mk #[109, 97, 105, 110]), (mk #[115, 116]), (mk #[115, 116, 114, 101, 101, 116]), (mk #[114, 100]), (mk #[112, 97, 114, 107])].length)))] [1] [(1, .row 9 false 1 [(mk #[115, 109, 105, 116, 104]), (mk #[115, 99, 104, 109, 105, 100, 116]), (mk #[109, 105, 108, 108, 101, 114]), (mk #[111, 110, 101, 105, 108, 108]), (mk #[115, 116, 114, 97, 117, 115, 115]), (mk #[118, 97, 110]), (mk #[109, 97, 105, 110]), (mk #[115, 116]), (mk #[115, 116, 114, 101, 101, 116]), (mk #[114, 100]), (mk #[112, 97, 114, 107])].length (Rs [(mk #[115, 109, 105, 116, 104]), (mk #[115, 99, 104, 109, 105, 100, 116]), (mk #[109, 105, 108, 108, 101, 114]), (mk #[111, 110, 101, 105, 108, 108]), (mk #[115, 116, 114, 97, 117, 115, 115]), (mk #[118, 97, 110]), (mk #[109, 97, 105, 110]), (mk #[115, 116]), (mk #[115, 116, 114, 101, 101, 116]), (mk #[114, 100]), (mk #[112, 97, 114, 107])]))] 3 [bB mt Es 1 (fun _ => rfl) [(mk #[115, 109, 105, 116, 104]), (mk #[115, 99, 104, 109, 105, 100, 116]), (mk #[109, 105, 108, 108, 101, 114]), (mk #[111, 110, 101, 105, 108, 108]), (mk #[115, 116, 114, 97, 117, 115, 115]), (mk #[118, 97, 110]), (mk #[109, 97, 105, 110]), (mk #[115, 116]), (mk #[115, 116, 114, 101, 101, 116]), (mk #[114, 100]), (mk #[112, 97, 114, 107])]] (ret ?_)
 obtain rfl := ay h
 exact be (.inr rfl) [(0, 1)] 1 (.c (.ref 1 1 0 ([(mk #[115, 109, 105, 116, 104]), (mk #[115, 99, 104, 109, 105, 100, 116]), (mk #[109, 105, 108, 108, 101, 114]), (mk #[111, 110, 101, 105, 108, 108]), (mk #[115, 116, 114, 97, 117, 115, 115]), (mk #[118, 97, 110]), (mk #[109, 97, 105, 110]), (mk #[115, 116]), (mk #[115, 116, 114, 101, 101, 116]), (mk #[114, 100]), (mk #[112, 97, 114, 107])].length)))
noncomputable def m8 (x13 : ByteArray) (x14 : Int) (x15 : List Int) (x16 : Int) (x17 : Int) : Option ((ByteArray × Int × List Int × Int × Int) ⊕ (ByteArray × List Int × Int × Int)) := if decide (x14 > 0) then aF (dz (⟨x15, x16, x17⟩ : aP) 26) fun y23 y24 => (if x13.size + (Vm.strOf ([u8.wrap (SB (97 + y23))] : List Int)).size ≤ ce then some (.inl ((x13 ++ (Vm.strOf ([u8.wrap (SB (97 + y23))] : List Int))), SB (x14 - 1), y24.list, y24.at_, y24.state)) else none) else some (.inr (x13, x15, x16, x17))
noncomputable def lr (p0 : aP) : Option (ByteArray × aP) := aF (eQ p0 6) fun y1 y2 => (if y1 then aF (dz y2 5) fun y5 y6 => (mz (loop (fun v : ByteArray × Int × List Int × Int × Int => m8 v.1 v.2.1 v.2.2.1 v.2.2.2.1 v.2.2.2.2) ((mk #[]), SB (1 + y5), y6.list, y6.at_, y6.state)) fun x27 x28 x29 x30 => (some (x27, (⟨x28, x29, x30⟩ : aP)))) else aF (eQ y2 2) fun y32 y33 => (if y32 then (rZ).bind fun y36 => ((rZ).bind fun y38 => (aF (dz y33 (y38.length : Int)) fun y40 y41 => (if 0 ≤ y40 then if y40 < (y36.length : Int) then some ((y36.getD (0 + y40.toNat) mt), y41) else none else none))) else (rL).bind fun y45 => ((rL).bind fun y47 => (aF (dz y33 (y47.length : Int)) fun y49 y50 => (if 0 ≤ y49 then if y49 < (y45.length : Int) then some ((y45.getD (0 + y49.toNat) mt), y50) else none else none)))))
theorem ya (p0 : aP) (r : ByteArray × aP) (h : lr p0 = some r) : CT 33 [.c (.ptr 0 3 0 0)] [(0, .box 89 (br p0))] (vs r.1) [(0, .box 89 (br r.2))] := by
 refine aw ae 1 Tryz.func33 rfl (fun _ _ _ => ?_)
 unfold lr at h
 refine ah ae [] 2 (seq ?_)
 obtain ⟨y1, y2, e3, h⟩ := aK h
 refine QZ ae [(6, vb y1)] [0] [(0, .box 89 (br y2))] 3 [hn, hl [0] [] 0 (fN p0 6 (y1, y2) e3)] ?_
 refine Q2 h ?_ ?_ <;> intro c4 h
 ·refine ah ae [(3, vs (mk #[]))] 4 (seq ?_)
  obtain ⟨y5, y6, e7, h⟩ := aK h
  refine QZ ae [(4, af (SB (1 + y5)))] [0] [(0, .box 89 (br y6))] 7 [hn, hl [0] [] 0 (dS y2 5 (y5, y6) e7)] (block ?_)
  obtain ⟨x27, x28, x29, x30, l31, h⟩ := sM h
  refine Q3 l31 (fun v => ⟨[(0, pX 0 3), (3, vs v.1), (4, af v.2.1)], [(0, cR 89 v.2.2.1 v.2.2.2.1 v.2.2.2.2)], 1⟩) (fun t : ByteArray × (List Int) × Int × Int => (.exit 0, ⟨[(3, vs t.1)], [(0, cR 89 t.2.1 t.2.2.1 t.2.2.2)], 1⟩)) (ai [(0, 0)]) (fun _ => tv) ?_ ?_
  ·clear l31 h
   intro v o h
   obtain ⟨x13, x14, x15, x16, x17⟩ := v
   replace h : m8 x13 x14 x15 x16 x17 = some o := h
   unfold m8 at h
   refine seq ?_
   refine ah ae [(11, vb (decide (x14 > 0)))] 3 ?_
   refine Q2 h ?_ ?_ <;> intro c22 h
   ·refine skip (QX ?_)
    refine seq (block ?_)
    obtain ⟨y23, y24, e25, h⟩ := aK h
    obtain ⟨g26, h⟩ := aY h
    refine QY ae [(3, vs (x13 ++ (Vm.strOf ([u8.wrap (SB (97 + y23))] : List Int))))] [0, 7] [(0, .box 89 (br y24))] 11 (Ss [hl [0] [] 0 (dS (⟨x15, x16, x17⟩ : aP) 26 (y23, y24) e25), hn, hn, bB 0 fB 1 (fun _ => rfl) ([u8.wrap (SB (97 + y23))] : List Int), hi (fun i => ([u8.wrap (SB (97 + y23))] : List Int).getD i 0) (p := (0 + ([u8.wrap (SB (97 + y23))] : List Int).length ≤ ([u8.wrap (SB (97 + y23))] : List Int).length) ∧ ∀ i, i < ([u8.wrap (SB (97 + y23))] : List Int).length → (fun i j => bQ ([u8.wrap (SB (97 + y23))] : List Int) (0 + i) j) i 0 = .v (.int .u8 (([u8.wrap (SB (97 + y23))] : List Int).getD i 0))) (⟨Ax, fun i _ => by simp only [R9] <;> rfl⟩), ho g26]) ?_
    refine QU (QX ?_)
    refine ba ae [(4, af (SB (x14 - 1)))] 14 ?_
    exact bh h (ai [(0, 0)])
   ·refine exit (QR ?_)
    exact aX h rfl (ai [(0, 0)])
  ·show (_ : XQ) (.exit 0) _
   refine QO (QX ?_)
   refine ah ae [(2, vs x27)] 3 (ret (QW ?_))
   obtain rfl := ay h
   exact be (.inr rfl) [(0, 0)] 1 (vs x27)
 ·refine skip (QX (seq ?_))
  obtain ⟨y32, y33, e34, h⟩ := aK h
  refine QZ ae [(24, vb y32)] [0] [(0, .box 89 (br y33))] 4 [hn, hl [0] [] 0 (fN y2 2 (y32, y33) e34)] ?_
  refine Q2 h ?_ ?_ <;> intro c35 h
  ·obtain ⟨y36, e37, h⟩ := ap h
   obtain ⟨y38, e39, h⟩ := ap h
   obtain ⟨y40, y41, e42, h⟩ := aK h
   obtain ⟨g43, g44, h⟩ := aJ h
   refine QZ ae [(2, vs (y36.getD (0 + y40.toNat) mt))] [0, 4, 6] [(0, .box 89 (br y41))] 11 [hm [] [] 1 (CX y36 e37) ⟨bS Vs _ _ _, tv⟩, hn, hm [] [] 1 (CX y38 e39) ⟨bS Vs _ _ _, tv⟩, hn, hl [0] [] 0 (dS y33 (y38.length : Int) (y40, y41) e42), hq g43 g44, ho (p := (0 + y40.toNat) < y36.length) (by have h1 : 0 ≤ y40 := g43; have h2 : y40 < (y36.length : Int) := g44; omega)] (ret (QW ?_))
   obtain rfl := ay h
   exact be (.inr rfl) [(0, 0)] 1 (vs (y36.getD (0 + y40.toNat) mt))
  ·refine skip (QX ?_)
   obtain ⟨y45, e46, h⟩ := ap h
   obtain ⟨y47, e48, h⟩ := ap h
   obtain ⟨y49, y50, e51, h⟩ := aK h
   obtain ⟨g52, g53, h⟩ := aJ h
   refine QZ ae [(2, vs (y45.getD (0 + y49.toNat) mt))] [0, 4, 6] [(0, .box 89 (br y50))] 11 [hm [] [] 1 (CK y45 e46) ⟨bS Vs _ _ _, tv⟩, hn, hm [] [] 1 (CK y47 e48) ⟨bS Vs _ _ _, tv⟩, hn, hl [0] [] 0 (dS y33 (y47.length : Int) (y49, y50) e51), hq g52 g53, ho (p := (0 + y49.toNat) < y45.length) (by have h1 : 0 ≤ y49 := g52; have h2 : y49 < (y45.length : Int) := g53; omega)] (ret ?_)
   obtain rfl := ay h
   exact be (.inr rfl) [(0, 0)] 1 (vs (y45.getD (0 + y49.toNat) mt))
noncomputable def lx (p0 : aP) (p1 : List ByteArray) : Option (ByteArray × aP) := aF (dz p0 (p1.length : Int)) fun y1 y2 => (if 0 ≤ y1 then if y1 < (p1.length : Int) then some ((p1.getD y1.toNat mt), y2) else none else none)
theorem ye (p0 : aP) (p1 : List ByteArray) (r : ByteArray × aP) (h : lx p0 p1 = some r) : CT 75 [.c (.ptr 0 3 0 0), vl 1 Rs p1] [(0, .box 89 (br p0))] (vs r.1) [(0, .box 89 (br r.2))] := by
 refine aw ae 1 Tryz.func75 rfl (fun _ _ _ => ?_)
 unfold lx at h
 refine ah ae [] 2 ?_
 obtain ⟨y1, y2, e3, h⟩ := aK h
 obtain ⟨g4, g5, h⟩ := aJ h
 refine QZ ae [(4, vs (p1.getD y1.toNat mt))] [0] [(0, .box 89 (br y2))] 9 (Sv [hl [0] [] 0 (dS p0 (p1.length : Int) (y1, y2) e3), hq g4 g5]) (ret ?_)
 obtain rfl := ay h
 exact be (.inr rfl) [(0, 0)] 1 (vs (p1.getD y1.toNat mt))
noncomputable def jB (x10 : Int) (x19 : ByteArray) (x20 : List Int) (x21 : Int) (x22 : Int) : Option ((ByteArray × Int × List Int × Int × Int) ⊕ (ByteArray × List Int × Int × Int)) := some (.inl (x19, SB (x10 + 1), x20, x21, x22))
noncomputable def jC (x9 : ByteArray) (x10 : Int) (x25 : Int) (x30 : Bool) (x31 : List Int) (x32 : Int) (x33 : Int) : Option ((ByteArray × Int × List Int × Int × Int) ⊕ (ByteArray × List Int × Int × Int)) := if x30 then if (x9 ++ (Vm.strOf [x25])).size + (mk #[39]).size ≤ ce then jB x10 ((x9 ++ (Vm.strOf [x25])) ++ (mk #[39])) x31 x32 x33 else none else jB x10 (x9 ++ (Vm.strOf [x25])) x31 x32 x33
noncomputable def lf (p1 : ByteArray) (x9 : ByteArray) (x10 : Int) (x25 : Int) (x26 : List Int) (x27 : Int) (x28 : Int) : Option ((ByteArray × Int × List Int × Int × Int) ⊕ (ByteArray × List Int × Int × Int)) := if x9.size + (Vm.strOf [x25]).size ≤ ce then (aF (eQ (⟨x26, x27, x28⟩ : aP) 20) fun y36 y37 => (if y36 then (if decide ((SB (x10 + 1)) < (p1.size : Int)) then (if 0 ≤ (SB (x10 + 1)) then (if (SB (x10 + 1)) < (p1.size : Int) then (jC x9 x10 x25 (((p1.data.toList.getD ((SB (x10 + 1)).toNat) 0).toNat : Int) != 32) y37.list y37.at_ y37.state) else none) else none) else jC x9 x10 x25 false y37.list y37.at_ y37.state) else jC x9 x10 x25 false y37.list y37.at_ y37.state)) else none
noncomputable def lg (p1 : ByteArray) (x9 : ByteArray) (x10 : Int) (x48 : Bool) (x49 : List Int) (x50 : Int) (x51 : Int) : Option ((ByteArray × Int × List Int × Int × Int) ⊕ (ByteArray × List Int × Int × Int)) := if x48 then (some (u8.wrap (((p1.data.toList.getD x10.toNat 0).toNat : Int) - 32))).bind fun z53 => (lf p1 x9 x10 z53 x49 x50 x51) else lf p1 x9 x10 ((p1.data.toList.getD x10.toNat 0).toNat : Int) x49 x50 x51
noncomputable def lh (p1 : ByteArray) (x9 : ByteArray) (x10 : Int) (x11 : List Int) (x12 : Int) (x13 : Int) : Option ((ByteArray × Int × List Int × Int × Int) ⊕ (ByteArray × List Int × Int × Int)) := if decide (x10 < (p1.size : Int)) then if 0 ≤ x10 then if x10 < (p1.size : Int) then if (((p1.data.toList.getD x10.toNat 0).toNat : Int) == 32) then aF (lx (⟨x11, x12, x13⟩ : aP) [(mk #[32]), (mk #[45]), (mk #[44, 32]), (mk #[46]), (mk #[32, 32]), (mk #[47])]) fun y44 y45 => (if x9.size + y44.size ≤ ce then jB x10 (x9 ++ y44) y45.list y45.at_ y45.state else none) else if decide (((p1.data.toList.getD x10.toNat 0).toNat : Int) ≥ 97) then if decide (((p1.data.toList.getD x10.toNat 0).toNat : Int) ≤ 122) then aF (eQ (⟨x11, x12, x13⟩ : aP) 3) fun y57 y58 => (lg p1 x9 x10 y57 y58.list y58.at_ y58.state) else lg p1 x9 x10 false x11 x12 x13 else lg p1 x9 x10 false x11 x12 x13 else none else none else some (.inr (x9, x11, x12, x13))
noncomputable def qK (p0 : aP) (p1 : ByteArray) : Option (ByteArray × aP) := aF (lx p0 [(mk #[]), (mk #[]), (mk #[32]), (mk #[45])]) fun y1 y2 => (mz (loop (fun v : ByteArray × Int × List Int × Int × Int => lh p1 v.1 v.2.1 v.2.2.1 v.2.2.2.1 v.2.2.2.2) (y1, 0, y2.list, y2.at_, y2.state)) fun x60 x61 x62 x63 => (aF (lx (⟨x61, x62, x63⟩ : aP) [(mk #[]), (mk #[]), (mk #[32]), (mk #[46])]) fun y64 y65 => (if x60.size + y64.size ≤ ce then some ((x60 ++ y64), y65) else none)))
theorem Iq (p0 : aP) (p1 : ByteArray) (r : ByteArray × aP) (h : qK p0 p1 = some r) : CT 34 [.c (.ptr 0 3 0 0), vs p1] [(0, .box 89 (br p0))] (vs r.1) [(0, .box 89 (br r.2))] := by
 refine aw ae 1 Tryz.func34 rfl (fun _ _ _ => ?_)
 unfold qK at h
 refine ah ae [] 2 ?_
 obtain ⟨y1, y2, e3, h⟩ := aK h
 refine QZ ae [(5, vs y1)] [0, 3] [(0, .box 89 (br y2))] 5 [hn, bB mt Es 1 (fun _ => rfl) [(mk #[]), (mk #[]), (mk #[32]), (mk #[45])], hg [0] [3] false 0 (q := (True) ∧ (0 + [(mk #[]), (mk #[]), (mk #[32]), (mk #[45])].length ≤ [(mk #[]), (mk #[]), (mk #[32]), (mk #[45])].length) ∧ (True)) ⟨tv, Ax, tv⟩ (a0 := [.c (.ptr 0 3 0 0), vl 1 Rs [(mk #[]), (mk #[]), (mk #[32]), (mk #[45])]]) (ye p0 [(mk #[]), (mk #[]), (mk #[32]), (mk #[45])] (y1, y2) e3) ⟨aN.refl _, aN.refl _, tv⟩ (fun h => by cases h)] (seq ?_)
 refine ah ae [(6, af 0)] 6 (block ?_)
 obtain ⟨x60, x61, x62, x63, l68, h⟩ := sM h
 refine Q3 l68 (fun v => ⟨[(0, pX 0 3), (1, vs p1), (5, vs v.1), (6, af v.2.1)], [(0, cR 89 v.2.2.1 v.2.2.2.1 v.2.2.2.2)], 1⟩) (fun t : ByteArray × (List Int) × Int × Int => (.exit 0, ⟨[(0, pX 0 3), (5, vs t.1)], [(0, cR 89 t.2.1 t.2.2.1 t.2.2.2)], 1⟩)) (ai [(0, 0)]) (fun _ => tv) ?_ ?_
 ·clear l68 h
  intro v o h
  obtain ⟨x9, x10, x11, x12, x13⟩ := v
  replace h : lh p1 x9 x10 x11 x12 x13 = some o := h
  unfold lh at h
  refine seq ?_
  refine ah ae [(14, vb (decide (x10 < (p1.size : Int))))] 5 ?_
  refine Q2 h ?_ ?_ <;> intro c18 h
  ·refine skip (QX (seq ?_))
   refine AW.join (ι := ByteArray × (List Int) × Int × Int) (fun v => ⟨[(0, pX 0 3), (1, vs p1), (5, vs v.1), (6, af x10)], [(0, cR 89 v.2.1 v.2.2.1 v.2.2.2)], 1⟩) (fun v : ByteArray × (List Int) × Int × Int => jB x10 v.1 v.2.1 v.2.2.1 v.2.2.2 = some o) (fun v h => ?_) ?_
   ·obtain ⟨x19, x20, x21, x22⟩ := v
    replace h : jB x10 x19 x20 x21 x22 = some o := h
    unfold jB at h
    refine QX ?_
    refine ba ae [(6, af (SB (x10 + 1)))] 4 ?_
    exact bh h (ai [(0, 0)])
   ·refine block ?_
    obtain ⟨g23, g24, h⟩ := aJ h
    refine aA ae [(7, jv ((p1.data.toList.getD x10.toNat 0).toNat : Int))] 9 (Ss [hq g23 g24]) (seq ?_)
    refine AW.join (ι := Int × (List Int) × Int × Int) (fun v => ⟨[(0, pX 0 3), (1, vs p1), (5, vs x9), (6, af x10), (7, jv v.1)], [(0, cR 89 v.2.1 v.2.2.1 v.2.2.2)], 1⟩) (fun v : Int × (List Int) × Int × Int => lf p1 x9 x10 v.1 v.2.1 v.2.2.1 v.2.2.2 = some o) (fun v h => ?_) ?_
    ·obtain ⟨x25, x26, x27, x28⟩ := v
     replace h : lf p1 x9 x10 x25 x26 x27 x28 = some o := h
     unfold lf at h
     refine QX ?_
     obtain ⟨g29, h⟩ := aY h
     refine QZ ae [(5, vs (x9 ++ (Vm.strOf [x25])))] [3] [] 7 (Ss [bB 0 fB 1 (fun _ => rfl) [x25], hi (fun i => [x25].getD i 0) (p := (0 + [x25].length ≤ [x25].length) ∧ ∀ i, i < [x25].length → (fun i j => bQ [x25] (0 + i) j) i 0 = .v (.int .u8 ([x25].getD i 0))) (⟨Ax, fun i _ => by simp only [R9] <;> rfl⟩), ho g29]) (seq ?_)
     refine AW.join (ι := Bool × (List Int) × Int × Int) (fun v => ⟨[(0, pX 0 3), (1, vs p1), (5, vs (x9 ++ (Vm.strOf [x25]))), (6, af x10), (61, vb v.1)], [(0, cR 89 v.2.1 v.2.2.1 v.2.2.2)], 1⟩) (fun v : Bool × (List Int) × Int × Int => jC x9 x10 x25 v.1 v.2.1 v.2.2.1 v.2.2.2 = some o) (fun v h => ?_) ?_
     ·obtain ⟨x30, x31, x32, x33⟩ := v
      replace h : jC x9 x10 x25 x30 x31 x32 x33 = some o := h
      unfold jC at h
      refine QX ?_
      refine Q2 h ?_ ?_ <;> intro c34 h
      ·obtain ⟨g35, h⟩ := aY h
       refine ax ae [(5, vs ((x9 ++ (Vm.strOf [x25])) ++ (mk #[39])))] 4 [hn, ho g35] ?_
       refine QU ?_
       exact jl (((x9 ++ (Vm.strOf [x25])) ++ (mk #[39])), x31, x32, x33) h (ai [(0, 0)])
      ·refine skip (QU ?_)
       exact jl ((x9 ++ (Vm.strOf [x25])), x31, x32, x33) h (ai [(0, 0)])
     ·obtain ⟨y36, y37, e38, h⟩ := aK h
      rcases aI h with ⟨c39, hs⟩ | ⟨c39, hs⟩
      ·clear h; subst c39; have h := hs; clear hs
       rcases aI h with ⟨c40, h⟩ | ⟨c40, h⟩
       ·obtain ⟨g41, g42, h⟩ := aJ h
        refine QY ae [(61, vb (((p1.data.toList.getD ((SB (x10 + 1)).toNat) 0).toNat : Int) != 32))] [0] [(0, .box 89 (br y37))] 22 [hn, hl [0] [] 0 (fN (⟨x26, x27, x28⟩ : aP) 20 (true, y37) e38), hn, hn, hn, hn, hn, ht c40, hn, hn, hn, hn, hn, hq g41 g42] ?_
        exact jl ((((p1.data.toList.getD ((SB (x10 + 1)).toNat) 0).toNat : Int) != 32), y37.list, y37.at_, y37.state) h (ai [(0, 0)])
       ·refine QY ae [(61, vb false)] [0] [(0, .box 89 (br y37))] 22 [hn, hl [0] [] 0 (fN (⟨x26, x27, x28⟩ : aP) 20 (true, y37) e38), hn, hn, hn, hn, hn, hf c40] ?_
        exact jl (false, y37.list, y37.at_, y37.state) h (ai [(0, 0)])
      ·clear h; subst c39; have h := hs; clear hs
       refine QY ae [(61, vb false)] [0] [(0, .box 89 (br y37))] 22 [hn, hl [0] [] 0 (fN (⟨x26, x27, x28⟩ : aP) 20 (false, y37) e38)] ?_
       exact jl (false, y37.list, y37.at_, y37.state) h (ai [(0, 0)])
    ·refine block ?_
     refine ah ae [(20, vb (((p1.data.toList.getD x10.toNat 0).toNat : Int) == 32))] 12 ?_
     refine Q2 h ?_ ?_ <;> intro c43 h
     ·obtain ⟨y44, y45, e46, h⟩ := aK h
      obtain ⟨g47, h⟩ := aY h
      refine QZ ae [(5, vs (x9 ++ y44))] [0, 14] [(0, .box 89 (br y45))] 17 (Ss [bB mt Es 1 (fun _ => rfl) [(mk #[32]), (mk #[45]), (mk #[44, 32]), (mk #[46]), (mk #[32, 32]), (mk #[47])], hg [0] [14] false 0 (q := (True) ∧ (0 + [(mk #[32]), (mk #[45]), (mk #[44, 32]), (mk #[46]), (mk #[32, 32]), (mk #[47])].length ≤ [(mk #[32]), (mk #[45]), (mk #[44, 32]), (mk #[46]), (mk #[32, 32]), (mk #[47])].length) ∧ (True)) ⟨tv, Ax, tv⟩ (a0 := [.c (.ptr 0 3 0 0), vl 1 Rs [(mk #[32]), (mk #[45]), (mk #[44, 32]), (mk #[46]), (mk #[32, 32]), (mk #[47])]]) (ye (⟨x11, x12, x13⟩ : aP) [(mk #[32]), (mk #[45]), (mk #[44, 32]), (mk #[46]), (mk #[32, 32]), (mk #[47])] (y44, y45) e46) ⟨aN.refl _, aN.refl _, tv⟩ (fun h => by cases h), ho g47]) ?_
      refine exit (QP (by kernel_rfl) ?_)
      refine Et ?_
      refine QR (QO ?_)
      exact jl ((x9 ++ y44), y45.list, y45.at_, y45.state) h (ai [(0, 0)])
     ·refine seq ?_
      refine AW.join (ι := Bool × (List Int) × Int × Int) (fun v => ⟨[(0, pX 0 3), (1, vs p1), (5, vs x9), (6, af x10), (7, jv ((p1.data.toList.getD x10.toNat 0).toNat : Int)), (28, vb v.1)], [(0, cR 89 v.2.1 v.2.2.1 v.2.2.2)], 1⟩) (fun v : Bool × (List Int) × Int × Int => lg p1 x9 x10 v.1 v.2.1 v.2.2.1 v.2.2.2 = some o) (fun v h => ?_) ?_
      ·obtain ⟨x48, x49, x50, x51⟩ := v
       replace h : lg p1 x9 x10 x48 x49 x50 x51 = some o := h
       unfold lg at h
       refine QX ?_
       refine Q2 h ?_ ?_ <;> intro c52 h
       ·obtain ⟨z53, n54, h⟩ := ap h
        replace n54 := ay n54
        refine ba ae [(7, jv z53)] 4 ?_ (by subst n54; kernel_rfl)
        refine QU ?_
        exact jl (z53, x49, x50, x51) h (ai [(0, 0)])
       ·refine skip (QU ?_)
        exact jl (((p1.data.toList.getD x10.toNat 0).toNat : Int), x49, x50, x51) h (ai [(0, 0)])
      ·rcases aI h with ⟨c55, h⟩ | ⟨c55, h⟩
       ·rcases aI h with ⟨c56, h⟩ | ⟨c56, h⟩
        ·obtain ⟨y57, y58, e59, h⟩ := aK h
         refine QY ae [(28, vb y57)] [0] [(0, .box 89 (br y58))] 22 [hn, ht c55, hn, hn, ht c56, hn, hn, hn, hl [0] [] 0 (fN (⟨x11, x12, x13⟩ : aP) 3 (y57, y58) e59)] ?_
         exact jl (y57, y58.list, y58.at_, y58.state) h (ai [(0, 0)])
        ·refine ax ae [(28, vb false)] 23 [hn, ht c55, hn, hn, hf c56] ?_
         exact jl (false, x11, x12, x13) h (ai [(0, 0)])
       ·refine ax ae [(28, vb false)] 23 [hn, hf c55] ?_
        exact jl (false, x11, x12, x13) h (ai [(0, 0)])
  ·refine exit (QR ?_)
   exact aX h rfl (ai [(0, 0)])
 ·show (_ : XQ) (.exit 0) _
  refine QO (QX ?_)
  obtain ⟨y64, y65, e66, h⟩ := aK h
  obtain ⟨g67, h⟩ := aY h
  refine QZ ae [(4, vs (x60 ++ y64))] [0, 3] [(0, .box 89 (br y65))] 6 (Ss [bB mt Es 1 (fun _ => rfl) [(mk #[]), (mk #[]), (mk #[32]), (mk #[46])], hg [0] [3] false 0 (q := (True) ∧ (0 + [(mk #[]), (mk #[]), (mk #[32]), (mk #[46])].length ≤ [(mk #[]), (mk #[]), (mk #[32]), (mk #[46])].length) ∧ (True)) ⟨tv, Ax, tv⟩ (a0 := [.c (.ptr 0 3 0 0), vl 1 Rs [(mk #[]), (mk #[]), (mk #[32]), (mk #[46])]]) (ye (⟨x61, x62, x63⟩ : aP) [(mk #[]), (mk #[]), (mk #[32]), (mk #[46])] (y64, y65) e66) ⟨aN.refl _, aN.refl _, tv⟩ (fun h => by cases h), ho g67]) (ret ?_)
  obtain rfl := ay h
  exact be (.inr rfl) [(0, 0)] 1 (vs (x60 ++ y64))
noncomputable def jT (p0 : Int) : Option ByteArray := some (Vm.strOf ([u8.wrap (SB (48 + ((SB (p0.tdiv 10)).tmod 10))), u8.wrap (SB (48 + (p0.tmod 10)))] : List Int))
theorem ve (p0 : Int) (r : ByteArray) (h : jT p0 = some r) : CT 76 [af p0] [] (vs r) [] := by
 refine aw ae 0 Tryz.func76 rfl (fun _ _ _ => ?_)
 unfold jT at h
 refine ah ae [] 1 ?_
 refine QZ ae [(2, vs (Vm.strOf ([u8.wrap (SB (48 + ((SB (p0.tdiv 10)).tmod 10))), u8.wrap (SB (48 + (p0.tmod 10)))] : List Int)))] [10] [] 13 [hn, ho (p := (10 : Int) ≠ 0) (by decide), ho (p := (10 : Int) ≠ 0) (by decide), hn, hn, hn, ho (p := (10 : Int) ≠ 0) (by decide), hn, hn, bB 0 fB 1 (fun _ => rfl) ([u8.wrap (SB (48 + ((SB (p0.tdiv 10)).tmod 10))), u8.wrap (SB (48 + (p0.tmod 10)))] : List Int), hi (fun i => ([u8.wrap (SB (48 + ((SB (p0.tdiv 10)).tmod 10))), u8.wrap (SB (48 + (p0.tmod 10)))] : List Int).getD i 0) (p := (0 + ([u8.wrap (SB (48 + ((SB (p0.tdiv 10)).tmod 10))), u8.wrap (SB (48 + (p0.tmod 10)))] : List Int).length ≤ ([u8.wrap (SB (48 + ((SB (p0.tdiv 10)).tmod 10))), u8.wrap (SB (48 + (p0.tmod 10)))] : List Int).length) ∧ ∀ i, i < ([u8.wrap (SB (48 + ((SB (p0.tdiv 10)).tmod 10))), u8.wrap (SB (48 + (p0.tmod 10)))] : List Int).length → (fun i j => bQ ([u8.wrap (SB (48 + ((SB (p0.tdiv 10)).tmod 10))), u8.wrap (SB (48 + (p0.tmod 10)))] : List Int) (0 + i) j) i 0 = .v (.int .u8 (([u8.wrap (SB (48 + ((SB (p0.tdiv 10)).tmod 10))), u8.wrap (SB (48 + (p0.tmod 10)))] : List Int).getD i 0))) (⟨Ax, fun i _ => by simp only [R9] <;> rfl⟩)] (ret ?_)
 apply au h (vs (Vm.strOf ([u8.wrap (SB (48 + ((SB (p0.tdiv 10)).tmod 10))), u8.wrap (SB (48 + (p0.tmod 10)))] : List Int)))
def sJ (p0 : Int) (p1 : Int) : Option Int := if decide (p1 < 1) then some 0 else if p1 ≠ 0 then some ((SB ((p0.tmod p1) + p1)).tmod p1) else none
theorem JD (p0 : Int) (p1 : Int) (r : Int) (h : sJ p0 p1 = some r) : CT 77 [af p0, af p1] [] (af r) [] := by
 refine aw ae 0 Tryz.func77 rfl (fun _ _ _ => ?_)
 unfold sJ at h
 refine ah ae [] 1 (seq ?_)
 refine ah ae [(6, vb (decide (p1 < 1)))] 3 ?_
 refine Q2 h ?_ ?_ <;> intro c1 h
 ·refine ah ae [(4, af 0)] 4 (ret (QW ?_))
  apply au h (af 0)
 ·refine skip (QX ?_)
  obtain ⟨g2, h⟩ := aY h
  refine aA ae [(4, af ((SB ((p0.tmod p1) + p1)).tmod p1))] 11 (Ss [ho g2, hn, hn, hn, ho g2]) (ret ?_)
  apply au h (af ((SB ((p0.tmod p1) + p1)).tmod p1))
noncomputable def nK (p0 : cI) (p1 : Int) : Option ByteArray := (jT (SB (p0.Year.tdiv 100))).bind fun y1 => ((jT (p0.Year.tmod 100)).bind fun y3 => (if y1.size + y3.size ≤ ce then (jT p0.Month).bind fun y6 => ((jT p0.Day).bind fun y8 => ((sJ p1 3).bind fun y10 => (if (y10 == 0) then if (y1 ++ y3).size + (mk #[45]).size ≤ ce then if ((y1 ++ y3) ++ (mk #[45])).size + y6.size ≤ ce then if (((y1 ++ y3) ++ (mk #[45])) ++ y6).size + (mk #[45]).size ≤ ce then if ((((y1 ++ y3) ++ (mk #[45])) ++ y6) ++ (mk #[45])).size + y8.size ≤ ce then some (((((y1 ++ y3) ++ (mk #[45])) ++ y6) ++ (mk #[45])) ++ y8) else none else none else none else none else if (y10 == 1) then if y8.size + (mk #[46]).size ≤ ce then if (y8 ++ (mk #[46])).size + y6.size ≤ ce then if ((y8 ++ (mk #[46])) ++ y6).size + (mk #[46]).size ≤ ce then if (((y8 ++ (mk #[46])) ++ y6) ++ (mk #[46])).size + (y1 ++ y3).size ≤ ce then some ((((y8 ++ (mk #[46])) ++ y6) ++ (mk #[46])) ++ (y1 ++ y3)) else none else none else none else none else if y6.size + (mk #[47]).size ≤ ce then if (y6 ++ (mk #[47])).size + y8.size ≤ ce then if ((y6 ++ (mk #[47])) ++ y8).size + (mk #[47]).size ≤ ce then if (((y6 ++ (mk #[47])) ++ y8) ++ (mk #[47])).size + (y1 ++ y3).size ≤ ce then some ((((y6 ++ (mk #[47])) ++ y8) ++ (mk #[47])) ++ (y1 ++ y3)) else none else none else none else none))) else none))
theorem CB (p0 : cI) (p1 : Int) (r : ByteArray) (h : nK p0 p1 = some r) : CT 35 [.agg [ag p0.Year, ag p0.Month, ag p0.Day], af p1] [] (vs r) [] := by
 refine aw ae 0 Tryz.func35 rfl (fun _ _ _ => ?_)
 unfold nK at h
 refine QZ ae [(2, pX 0 3)] [0] [(0, .box 97 [ag p0.Year, ag p0.Month, ag p0.Day])] 2 [] ?_
 obtain ⟨y1, e2, h⟩ := ap h
 obtain ⟨y3, e4, h⟩ := ap h
 obtain ⟨g5, h⟩ := aY h
 obtain ⟨y6, e7, h⟩ := ap h
 obtain ⟨y8, e9, h⟩ := ap h
 refine Q1 ae gj [] [(7, vs y8), (6, vs y6), (5, vs (y1 ++ y3))] [] 16 (Ss [ho (p := (100 : Int) ≠ 0) (by decide), hk (ve (SB (p0.Year.tdiv 100)) y1 e2), hn, hn, ho (p := (100 : Int) ≠ 0) (by decide), hk (ve (p0.Year.tmod 100) y3 e4), ho g5, hn, hn, hk (ve p0.Month y6 e7), hn, hn, hk (ve p0.Day y8 e9)]) ?_
 refine seq ?_
 obtain ⟨y10, e11, h⟩ := ap h
 refine aA ae [(24, af y10)] 17 [hn, hk (JD p1 3 y10 e11)] (block ?_)
 refine ah ae [(25, vb (y10 == 0))] 19 ?_
 refine Q2 h ?_ ?_ <;> intro c12 h
 ·obtain ⟨g13, g14, h⟩ := aJ h
  obtain ⟨g15, g16, h⟩ := aJ h
  refine aA ae [(4, vs (((((y1 ++ y3) ++ (mk #[45])) ++ y6) ++ (mk #[45])) ++ y8))] 27 [hn, ho g13, hn, ho g14, ho g15, hn, ho g16] (ret (QT (QW ?_)))
  apply au h (vs (((((y1 ++ y3) ++ (mk #[45])) ++ y6) ++ (mk #[45])) ++ y8))
 ·refine ah ae [(34, vb (y10 == 1))] 21 ?_
  refine Q2 h ?_ ?_ <;> intro c17 h
  ·obtain ⟨g18, g19, h⟩ := aJ h
   obtain ⟨g20, g21, h⟩ := aJ h
   refine aA ae [(4, vs ((((y8 ++ (mk #[46])) ++ y6) ++ (mk #[46])) ++ (y1 ++ y3)))] 29 [hn, ho g18, hn, ho g19, ho g20, hn, ho g21] (ret (QT (QW ?_)))
   apply au h (vs ((((y8 ++ (mk #[46])) ++ y6) ++ (mk #[46])) ++ (y1 ++ y3)))
  ·refine skip (QU (QX ?_))
   obtain ⟨g22, g23, h⟩ := aJ h
   obtain ⟨g24, g25, h⟩ := aJ h
   refine aA ae [(4, vs ((((y6 ++ (mk #[47])) ++ y8) ++ (mk #[47])) ++ (y1 ++ y3)))] 29 [hn, ho g22, hn, ho g23, ho g24, hn, ho g25] (ret ?_)
   apply au h (vs ((((y6 ++ (mk #[47])) ++ y8) ++ (mk #[47])) ++ (y1 ++ y3)))
def r9 (x : aL) : List T := [.v (.int .i64 x.ID), .v (.int .i64 x.Version), .tree x.Values.length 1 (Rs x.Values)]
def bF (xs : List aL) : Nat → Nat → T := bJ bL r9 xs
def nq (x12 : Int) (x22 : List aL) (x23 : List aL) (x24 : List Int) (x25 : Int) (x26 : Int) : Option ((List aL × List aL × Int × List Int × Int × Int) ⊕ (List aL × List aL × List Int × Int × Int)) := some (.inl (x22, x23, SB (x12 - 1), x24, x25, x26))
noncomputable def iJ (x35 : Int) (x45 : List ByteArray) (x46 : List ByteArray) (x47 : List Int) (x48 : Int) (x49 : Int) : Option ((List ByteArray × List ByteArray × Int × List Int × Int × Int) ⊕ (List ByteArray × List ByteArray × List Int × Int × Int)) := some (.inl (x45, x46, SB (x35 + 1), x47, x48, x49))
noncomputable def ly (p1 : aS) (x33 : List ByteArray) (x34 : List ByteArray) (x35 : Int) (x36 : List Int) (x37 : Int) (x38 : Int) : Option ((List ByteArray × List ByteArray × Int × List Int × Int × Int) ⊕ (List ByteArray × List ByteArray × List Int × Int × Int)) := if decide (x35 < (p1.Fields.length : Int)) then if 0 ≤ x35 then if x35 < (p1.Fields.length : Int) then if (((p1.Fields.getD x35.toNat bD).Kind) == 1) then aF (lr (⟨x36, x37, x38⟩ : aP)) fun y53 y54 => (if y53.size + (mk #[32]).size ≤ ce then aF (lr y54) fun y57 y58 => (if (y53 ++ (mk #[32])).size + y57.size ≤ ce then if x33.length + ([((y53 ++ (mk #[32])) ++ y57)] : am).length ≤ 1099511627776 then aF (qK y58 ((y53 ++ (mk #[32])) ++ y57)) fun y62 y63 => (if x34.length + ([y62] : am).length ≤ 1099511627776 then iJ x35 (x33 ++ ([((y53 ++ (mk #[32])) ++ y57)] : am)) (x34 ++ ([y62] : am)) y63.list y63.at_ y63.state else none) else none else none) else none) else if (((p1.Fields.getD x35.toNat bD).Kind) == 2) then aF (dz (⟨x36, x37, x38⟩ : aP) 20) fun y67 y68 => (aF (dz y68 12) fun y70 y71 => (aF (dz y71 28) fun y73 y74 => (aF (dz y74 3) fun y76 y77 => ((nK (⟨SB (1980 + y67), SB (1 + y70), SB (1 + y73)⟩ : cI) y76).bind fun y79 => (if x33.length + ([y79] : am).length ≤ 1099511627776 then aF (dz y77 3) fun y82 y83 => ((nK (⟨SB (1980 + y67), SB (1 + y70), SB (1 + y73)⟩ : cI) y82).bind fun y85 => (if x34.length + ([y85] : am).length ≤ 1099511627776 then iJ x35 (x33 ++ ([y79] : am)) (x34 ++ ([y85] : am)) y83.list y83.at_ y83.state else none)) else none))))) else if (((p1.Fields.getD x35.toNat bD).Kind) == 4) then aF (lr (⟨x36, x37, x38⟩ : aP)) fun y89 y90 => (if y89.size + (mk #[32, 49, 50]).size ≤ ce then if x33.length + ([(y89 ++ (mk #[32, 49, 50]))] : am).length ≤ 1099511627776 then if (mk #[49, 50, 44, 32]).size + y89.size ≤ ce then if x34.length + ([((mk #[49, 50, 44, 32]) ++ y89)] : am).length ≤ 1099511627776 then iJ x35 (x33 ++ ([(y89 ++ (mk #[32, 49, 50]))] : am)) (x34 ++ ([((mk #[49, 50, 44, 32]) ++ y89)] : am)) y90.list y90.at_ y90.state else none else none else none else none) else if x33.length + [(mk #[97, 98, 32, 49, 50])].length ≤ 1099511627776 then if x34.length + [(mk #[65, 45, 66, 49, 50])].length ≤ 1099511627776 then iJ x35 (x33 ++ [(mk #[97, 98, 32, 49, 50])]) (x34 ++ [(mk #[65, 45, 66, 49, 50])]) x36 x37 x38 else none else none else none else none else some (.inr (x33, x34, x36, x37, x38))
def qU (x10 : List aL) (x11 : List aL) (x12 : Int) (x100 : List Int) (x101 : Int) (x102 : Int) (y103 : aL) (y106 : aL) (x109 : Bool) : Option ((List aL × List aL × Int × List Int × Int × Int) ⊕ (List aL × List aL × List Int × Int × Int)) := if x109 then if x10.length + [y103].length ≤ 1099511627776 then if x11.length + [y106].length ≤ 1099511627776 then nq x12 (x10 ++ [y103]) (x11 ++ [y106]) x100 x101 x102 else none else none else nq x12 x10 x11 x100 x101 x102
noncomputable def nr (p1 : aS) (x10 : List aL) (x11 : List aL) (x12 : Int) (x13 : List Int) (x14 : Int) (x15 : Int) : Option ((List aL × List aL × Int × List Int × Int × Int) ⊕ (List aL × List aL × List Int × Int × Int)) := if decide (x12 > 0) then fJ (loop (fun v : List ByteArray × List ByteArray × Int × List Int × Int × Int => ly p1 v.1 v.2.1 v.2.2.1 v.2.2.2.1 v.2.2.2.2.1 v.2.2.2.2.2) (([] : am), ([] : am), 0, x13, x14, x15)) fun x98 x99 x100 x101 x102 => (aF (fU p1 (SB (1 + (x10.length : Int))) 1 x98) fun y103 y104 => (aF (fU p1 (SB (100 + (x11.length : Int))) 3 x99) fun y106 y107 => (if (y104 == 0) then qU x10 x11 x12 x100 x101 x102 y103 y106 (y107 == 0) else qU x10 x11 x12 x100 x101 x102 y103 y106 false))) else some (.inr (x10, x11, x13, x14, x15))
def rM (p0 : aP) (p1 : aS) (p2 : Int) : Option (List aL × List aL × aP) := aF (dz p0 p2) fun y1 y2 => (fJ (loop (fun v : List aL × List aL × Int × List Int × Int × Int => nr p1 v.1 v.2.1 v.2.2.1 v.2.2.2.1 v.2.2.2.2.1 v.2.2.2.2.2) (([] : List aL), ([] : List aL), SB (1 + y1), y2.list, y2.at_, y2.state)) fun x115 x116 x117 x118 x119 => (some (x115, x116, (⟨x117, x118, x119⟩ : aP))))
theorem IW (p0 : aP) (p1 : aS) (p2 : Int) (r : (List aL) × (List aL) × aP) (h : rM p0 p1 p2 = some r) : CT 12 [.c (.ptr 0 3 0 0), .agg (bf p1), af p2] [(0, .box 89 (br p0))] (.tup [.c (.ref 1 3 0 r.1.length), .c (.ref 2 3 0 r.2.1.length)]) [(0, .box 89 (br r.2.2)), (1, .row 53 false 3 r.1.length (bF r.1)), (2, .row 53 false 3 r.2.1.length (bF r.2.1))] := by
 refine aw ae 1 Tryz.func12 rfl (fun _ _ _ => ?_)
 unfold rM at h
 refine QZ ae [(4, pX 1 4)] [1] [(1, .box 33 (bf p1))] 4 [] ?_
 refine ah ae [(9, .c (ar)), (8, .c (ar))] 6 (seq ?_)
 obtain ⟨y1, y2, e3, h⟩ := aK h
 refine QZ ae [(10, af (SB (1 + y1)))] [0] [(0, .box 89 (br y2))] 10 (Ss [hl [0] [] 0 (dS p0 p2 (y1, y2) e3)]) (block ?_)
 obtain ⟨x115, x116, x117, x118, x119, l120, h⟩ := gZ h
 refine Q3 l120 (fun v => ⟨[(0, pX 0 3), (4, pX 1 4), (8, rX 2 3 v.1.length), (9, rX 3 3 v.2.1.length), (10, af v.2.2.1)], [(0, cR 89 v.2.2.2.1 v.2.2.2.2.1 v.2.2.2.2.2), (1, .box 33 (bf p1)), (2, .row 53 false 3 v.1.length (bF v.1)), (3, .row 53 false 3 v.2.1.length (bF v.2.1))], 4⟩) (fun t : (List aL) × (List aL) × (List Int) × Int × Int => (.exit 0, ⟨[(8, rX 1 3 t.1.length), (9, rX 2 3 t.2.1.length)], [(0, cR 89 t.2.2.1 t.2.2.2.1 t.2.2.2.2), (1, .row 53 false 3 t.1.length (bF t.1)), (2, .row 53 false 3 t.2.1.length (bF t.2.1))], 3⟩)) (Conv.trans (cG (t := 8) (ty := 53) (sz := 3) (n := ([] : List aL).length) (f := bF ([] : List aL)) (by kernel_rfl) rfl) (Conv.trans (cG (t := 9) (ty := 53) (sz := 3) (n := ([] : List aL).length) (f := bF ([] : List aL)) (by kernel_rfl) rfl) (ai [(0, 0), (1, 1), (2, 10), (3, 11)]))) (fun _ => tv) ?_ ?_
 ·clear l120 h
  intro v o h
  obtain ⟨x10, x11, x12, x13, x14, x15⟩ := v
  replace h : nr p1 x10 x11 x12 x13 x14 x15 = some o := h
  unfold nr at h
  refine seq ?_
  refine ah ae [(26, vb (decide (x12 > 0)))] 6 ?_
  refine Q2 h ?_ ?_ <;> intro c21 h
  ·refine skip (QX (seq ?_))
   refine AW.join (ι := (List aL) × (List aL) × (List Int) × Int × Int) (fun v => ⟨[(0, pX 0 3), (4, pX 1 4), (8, rX 2 3 v.1.length), (9, rX 3 3 v.2.1.length), (10, af x12)], [(0, cR 89 v.2.2.1 v.2.2.2.1 v.2.2.2.2), (1, .box 33 (bf p1)), (2, .row 53 false 3 v.1.length (bF v.1)), (3, .row 53 false 3 v.2.1.length (bF v.2.1))], 4⟩) (fun v : (List aL) × (List aL) × (List Int) × Int × Int => nq x12 v.1 v.2.1 v.2.2.1 v.2.2.2.1 v.2.2.2.2 = some o) (fun v h => ?_) ?_
   ·obtain ⟨x22, x23, x24, x25, x26⟩ := v
    replace h : nq x12 x22 x23 x24 x25 x26 = some o := h
    unfold nq at h
    refine QX ?_
    refine ba ae [(10, af (SB (x12 - 1)))] 7 ?_
    exact bh h (ai [(0, 0), (1, 1), (2, 2), (3, 3)])
   ·refine block ?_
    refine ah ae [(12, .c (ar)), (11, .c (ar))] 8 (seq ?_)
    refine ah ae [(32, af 0), (31, af (p1.Fields.length : Int))] 12 (block ?_)
    obtain ⟨x98, x99, x100, x101, x102, l114, h⟩ := gZ h
    refine Q3 l114 (fun v => ⟨[(0, pX 0 3), (4, pX 1 4), (8, rX 2 3 x10.length), (9, rX 3 3 x11.length), (10, af x12), (11, rX 4 1 v.1.length), (12, rX 5 1 v.2.1.length), (31, af (p1.Fields.length : Int)), (32, af v.2.2.1)], [(0, cR 89 v.2.2.2.1 v.2.2.2.2.1 v.2.2.2.2.2), (1, .box 33 (bf p1)), (2, .row 53 false 3 x10.length (bF x10)), (3, .row 53 false 3 x11.length (bF x11)), (4, .row 9 false 1 v.1.length (Rs v.1)), (5, .row 9 false 1 v.2.1.length (Rs v.2.1))], 6⟩) (fun t : (List ByteArray) × (List ByteArray) × (List Int) × Int × Int => (.exit 2, ⟨[(0, pX 0 3), (4, pX 1 4), (8, rX 2 3 x10.length), (9, rX 3 3 x11.length), (10, af x12), (11, rX 4 1 t.1.length), (12, rX 5 1 t.2.1.length)], [(0, cR 89 t.2.2.1 t.2.2.2.1 t.2.2.2.2), (1, .box 33 (bf p1)), (2, .row 53 false 3 x10.length (bF x10)), (3, .row 53 false 3 x11.length (bF x11)), (4, .row 9 false 1 t.1.length (Rs t.1)), (5, .row 9 false 1 t.2.1.length (Rs t.2.1))], 6⟩)) (Conv.trans (cG (t := 11) (ty := 9) (sz := 1) (n := ([] : am).length) (f := Rs ([] : am)) (by kernel_rfl) rfl) (Conv.trans (cG (t := 12) (ty := 9) (sz := 1) (n := ([] : am).length) (f := Rs ([] : am)) (by kernel_rfl) rfl) (ai [(0, 0), (1, 1), (2, 2), (3, 3), (4, 12), (5, 13)]))) (fun _ => tv) ?_ ?_
    ·clear l114 h
     intro v o h
     obtain ⟨x33, x34, x35, x36, x37, x38⟩ := v
     replace h : ly p1 x33 x34 x35 x36 x37 x38 = some o := h
     unfold ly at h
     refine ah ae [(33, vb (decide (x35 < (p1.Fields.length : Int))))] 7 (seq ?_)
     refine Q2 h ?_ ?_ <;> intro c44 h
     ·refine skip (QX (seq ?_))
      refine AW.join (ι := (List ByteArray) × (List ByteArray) × (List Int) × Int × Int) (fun v => ⟨[(0, pX 0 3), (4, pX 1 4), (8, rX 2 3 x10.length), (9, rX 3 3 x11.length), (10, af x12), (11, rX 4 1 v.1.length), (12, rX 5 1 v.2.1.length), (31, af (p1.Fields.length : Int)), (32, af x35)], [(0, cR 89 v.2.2.1 v.2.2.2.1 v.2.2.2.2), (1, .box 33 (bf p1)), (2, .row 53 false 3 x10.length (bF x10)), (3, .row 53 false 3 x11.length (bF x11)), (4, .row 9 false 1 v.1.length (Rs v.1)), (5, .row 9 false 1 v.2.1.length (Rs v.2.1))], 6⟩) (fun v : (List ByteArray) × (List ByteArray) × (List Int) × Int × Int => iJ x35 v.1 v.2.1 v.2.2.1 v.2.2.2.1 v.2.2.2.2 = some o) (fun v h => ?_) ?_
      ·obtain ⟨x45, x46, x47, x48, x49⟩ := v
       replace h : iJ x35 x45 x46 x47 x48 x49 = some o := h
       unfold iJ at h
       refine QX ?_
       refine ba ae [(32, af (SB (x35 + 1)))] 8 ?_
       exact bh h (ai [(0, 0), (1, 1), (2, 2), (3, 3), (4, 4), (5, 5)])
      ·refine block ?_
       refine ah ae [(13, af x35)] 9 ?_
       obtain ⟨g50, g51, h⟩ := aJ h
       refine aA ae [(40, af ((p1.Fields.getD x35.toNat bD).Kind))] 15 (Su [hq g50 g51]) (block ?_)
       refine ah ae [(47, vb (((p1.Fields.getD x35.toNat bD).Kind) == 1))] 17 ?_
       refine Q2 h ?_ ?_ <;> intro c52 h
       ·obtain ⟨y53, y54, e55, h⟩ := aK h
        obtain ⟨g56, h⟩ := aY h
        obtain ⟨y57, y58, e59, h⟩ := aK h
        obtain ⟨g60, h⟩ := aY h
        refine QZ ae [(14, vs ((y53 ++ (mk #[32])) ++ y57))] [0] [(0, .box 89 (br y58))] 22 [hn, hl [0] [] 0 (ya (⟨x36, x37, x38⟩ : aP) (y53, y54) e55), ho g56, hn, hl [0] [] 0 (ya y54 (y57, y58) e59), ho g60] ?_
        obtain ⟨g61, h⟩ := aY h
        obtain ⟨y62, y63, e64, h⟩ := aK h
        obtain ⟨g65, h⟩ := aY h
        refine QY ae [(12, .c (.ref 30 1 0 ((x34 ++ ([y62] : am)).length))), (11, .c (.ref 25 1 0 ((x33 ++ ([((y53 ++ (mk #[32])) ++ y57)] : am)).length)))] [0, 4, 5, 24, 25, 29, 30] [(30, .row 9 false 1 (x34 ++ ([y62] : am)).length (Rs (x34 ++ ([y62] : am)))), (0, .box 89 (br y63)), (25, .row 9 false 1 (x33 ++ ([((y53 ++ (mk #[32])) ++ y57)] : am)).length (Rs (x33 ++ ([((y53 ++ (mk #[32])) ++ y57)] : am))))] 33 (Ss [bB mt Es 1 (fun _ => rfl) ([((y53 ++ (mk #[32])) ++ y57)] : am), cP mt Es 1 16 x33 ([((y53 ++ (mk #[32])) ++ y57)] : am) g61 (by decide), hn, hn, hn, hl [0] [] 0 (Iq y58 ((y53 ++ (mk #[32])) ++ y57) (y62, y63) e64), bB mt Es 1 (fun _ => rfl) ([y62] : am), cP mt Es 1 16 x34 ([y62] : am) g65 (by decide)]) ?_
        refine QU (QU ?_)
        exact jl ((x33 ++ ([((y53 ++ (mk #[32])) ++ y57)] : am)), (x34 ++ ([y62] : am)), y63.list, y63.at_, y63.state) h (ai [(0, 0), (1, 1), (2, 2), (3, 3), (4, 25), (5, 30)])
       ·refine ah ae [(65, vb (((p1.Fields.getD x35.toNat bD).Kind) == 2))] 19 ?_
        refine Q2 h ?_ ?_ <;> intro c66 h
        ·obtain ⟨y67, y68, e69, h⟩ := aK h
         obtain ⟨y70, y71, e72, h⟩ := aK h
         obtain ⟨y73, y74, e75, h⟩ := aK h
         refine QZ ae [(15, pX 26 3)] [0, 26] [(26, .box 97 [ag (SB (1980 + y67)), ag (SB (1 + y70)), ag (SB (1 + y73))]), (0, .box 89 (br y74))] 28 [hn, hl [0] [] 0 (dS (⟨x36, x37, x38⟩ : aP) 20 (y67, y68) e69), hn, hn, hl [0] [] 0 (dS y68 12 (y70, y71) e72), hn, hn, hl [0] [] 0 (dS y71 28 (y73, y74) e75)] ?_
         obtain ⟨y76, y77, e78, h⟩ := aK h
         obtain ⟨y79, e80, h⟩ := ap h
         obtain ⟨g81, h⟩ := aY h
         obtain ⟨y82, y83, e84, h⟩ := aK h
         obtain ⟨y85, e86, h⟩ := ap h
         obtain ⟨g87, h⟩ := aY h
         refine Q0 ae gj [[], [], [], [0], [], [31], [32, 4], [], [], [], [0], [], [36], [37, 5]] [(12, .c (.ref 37 1 0 ((x34 ++ ([y85] : am)).length))), (11, .c (.ref 32 1 0 ((x33 ++ ([y79] : am)).length)))] [(37, .row 9 false 1 (x34 ++ ([y85] : am)).length (Rs (x34 ++ ([y85] : am)))), (0, .box 89 (br y83)), (32, .row 9 false 1 (x33 ++ ([y79] : am)).length (Rs (x33 ++ ([y79] : am))))] 40 (Su [hl [0] [] 0 (dS y74 3 (y76, y77) e78), hk (CB (⟨SB (1980 + y67), SB (1 + y70), SB (1 + y73)⟩ : cI) y76 y79 e80), bB mt Es 1 (fun _ => rfl) ([y79] : am), cP mt Es 1 16 x33 ([y79] : am) g81 (by decide), hn, hn, hn, hl [0] [] 0 (dS y77 3 (y82, y83) e84), hk (CB (⟨SB (1980 + y67), SB (1 + y70), SB (1 + y73)⟩ : cI) y82 y85 e86), bB mt Es 1 (fun _ => rfl) ([y85] : am), cP mt Es 1 16 x34 ([y85] : am) g87 (by decide)]) ?_
         refine QU (QU ?_)
         exact jl ((x33 ++ ([y79] : am)), (x34 ++ ([y85] : am)), y83.list, y83.at_, y83.state) h (ai [(0, 0), (1, 1), (2, 2), (3, 3), (4, 32), (5, 37)])
        ·refine ah ae [(91, vb (((p1.Fields.getD x35.toNat bD).Kind) == 4))] 21 ?_
         refine Q2 h ?_ ?_ <;> intro c88 h
         ·obtain ⟨y89, y90, e91, h⟩ := aK h
          refine QZ ae [(16, vs y89)] [0] [(0, .box 89 (br y90))] 23 [hn, hl [0] [] 0 (ya (⟨x36, x37, x38⟩ : aP) (y89, y90) e91)] ?_
          obtain ⟨g92, g93, h⟩ := aJ h
          obtain ⟨g94, g95, h⟩ := aJ h
          refine QY ae [(12, .c (.ref 32 1 0 ((x34 ++ ([((mk #[49, 50, 44, 32]) ++ y89)] : am)).length))), (11, .c (.ref 27 1 0 ((x33 ++ ([(y89 ++ (mk #[32, 49, 50]))] : am)).length)))] [4, 5, 26, 27, 31, 32] [(32, .row 9 false 1 (x34 ++ ([((mk #[49, 50, 44, 32]) ++ y89)] : am)).length (Rs (x34 ++ ([((mk #[49, 50, 44, 32]) ++ y89)] : am)))), (27, .row 9 false 1 (x33 ++ ([(y89 ++ (mk #[32, 49, 50]))] : am)).length (Rs (x33 ++ ([(y89 ++ (mk #[32, 49, 50]))] : am))))] 35 (Ss [ho g92, bB mt Es 1 (fun _ => rfl) ([(y89 ++ (mk #[32, 49, 50]))] : am), cP mt Es 1 16 x33 ([(y89 ++ (mk #[32, 49, 50]))] : am) g93 (by decide), hn, hn, ho g94, bB mt Es 1 (fun _ => rfl) ([((mk #[49, 50, 44, 32]) ++ y89)] : am), cP mt Es 1 16 x34 ([((mk #[49, 50, 44, 32]) ++ y89)] : am) g95 (by decide)]) ?_
          refine QU (QU ?_)
          exact jl ((x33 ++ ([(y89 ++ (mk #[32, 49, 50]))] : am)), (x34 ++ ([((mk #[49, 50, 44, 32]) ++ y89)] : am)), y90.list, y90.at_, y90.state) h (ai [(0, 0), (1, 1), (2, 2), (3, 3), (4, 27), (5, 32)])
         ·obtain ⟨g96, g97, h⟩ := aJ h
          refine QY ae [(12, .c (.ref 26 1 0 ((x34 ++ [(mk #[65, 45, 66, 49, 50])]).length))), (11, .c (.ref 23 1 0 ((x33 ++ [(mk #[97, 98, 32, 49, 50])]).length)))] [4, 5, 22, 23, 25, 26] [(26, .row 9 false 1 (x34 ++ [(mk #[65, 45, 66, 49, 50])]).length (Rs (x34 ++ [(mk #[65, 45, 66, 49, 50])]))), (23, .row 9 false 1 (x33 ++ [(mk #[97, 98, 32, 49, 50])]).length (Rs (x33 ++ [(mk #[97, 98, 32, 49, 50])])))] 29 [hn, bB mt Es 1 (fun _ => rfl) [(mk #[97, 98, 32, 49, 50])], cP mt Es 1 16 x33 [(mk #[97, 98, 32, 49, 50])] g96 (by decide), hn, bB mt Es 1 (fun _ => rfl) [(mk #[65, 45, 66, 49, 50])], cP mt Es 1 16 x34 [(mk #[65, 45, 66, 49, 50])] g97 (by decide)] ?_
          refine QU (QU ?_)
          exact jl ((x33 ++ [(mk #[97, 98, 32, 49, 50])]), (x34 ++ [(mk #[65, 45, 66, 49, 50])]), x36, x37, x38) h (ai [(0, 0), (1, 1), (2, 2), (3, 3), (4, 23), (5, 26)])
     ·refine exit (QR ?_)
      exact aX h rfl (ai [(0, 0), (1, 1), (2, 2), (3, 3), (4, 4), (5, 5)])
    ·show (_ : XQ) (.exit 2) _
     refine QO (QX ?_)
     obtain ⟨y103, y104, e105, h⟩ := aK h
     refine QZ ae [(18, af y104), (17, pX 15 3)] [11, 15] [(15, .box 53 [ag y103.ID, ag y103.Version, .ref 11 1 0 y103.Values.length]), (11, .row 9 false 1 y103.Values.length (Rs y103.Values))] 18 (Sw [hg [] [] true 1 (q := ((True) ∧ (True) ∧ (True) ∧ (True) ∧ (True)) ∧ (True) ∧ (True) ∧ (0 + x98.length ≤ x98.length) ∧ (True)) ⟨⟨tv, tv, tv, tv, tv⟩, tv, tv, Ax, tv⟩ (a0 := [.agg (bf p1), af (SB (1 + (x10.length : Int))), af 1, vl 1 Rs x98]) (u7 p1 (SB (1 + (x10.length : Int))) 1 x98 (y103, y104) e105) ⟨aN.refl _, aN.refl _, aN.refl _, aN.refl _, tv⟩ (fun _ => ⟨bS Vs _ _ _, tv⟩)]) ?_
     obtain ⟨y106, y107, e108, h⟩ := aK h
     refine QZ ae [(20, af y107), (19, pX 27 3)] [23, 27] [(27, .box 53 [ag y106.ID, ag y106.Version, .ref 23 1 0 y106.Values.length]), (23, .row 9 false 1 y106.Values.length (Rs y106.Values))] 30 (Sw [hg [] [] true 1 (q := ((True) ∧ (True) ∧ (True) ∧ (True) ∧ (True)) ∧ (True) ∧ (True) ∧ (0 + x99.length ≤ x99.length) ∧ (True)) ⟨⟨tv, tv, tv, tv, tv⟩, tv, tv, Ax, tv⟩ (a0 := [.agg (bf p1), af (SB (100 + (x11.length : Int))), af 3, vl 1 Rs x99]) (u7 p1 (SB (100 + (x11.length : Int))) 3 x99 (y106, y107) e108) ⟨aN.refl _, aN.refl _, aN.refl _, aN.refl _, tv⟩ (fun _ => ⟨bS Vs _ _ _, tv⟩)]) (seq ?_)
     refine AW.join (ι := Bool) (fun v => ⟨[(0, pX 0 3), (4, pX 1 4), (8, rX 2 3 x10.length), (9, rX 3 3 x11.length), (10, af x12), (17, pX 4 3), (19, pX 5 3), (129, vb v)], [(0, cR 89 x100 x101 x102), (1, .box 33 (bf p1)), (2, .row 53 false 3 x10.length (bF x10)), (3, .row 53 false 3 x11.length (bF x11)), (4, .box 53 [ag y103.ID, ag y103.Version, .ref 6 1 0 y103.Values.length]), (5, .box 53 [ag y106.ID, ag y106.Version, .ref 7 1 0 y106.Values.length]), (6, .row 9 false 1 y103.Values.length (Rs y103.Values)), (7, .row 9 false 1 y106.Values.length (Rs y106.Values))], 8⟩) (fun v : Bool => qU x10 x11 x12 x100 x101 x102 y103 y106 v = some o) (fun x109 h => ?_) ?_
     ·unfold qU at h
      refine QX ?_
      refine Q2 h ?_ ?_ <;> intro c110 h
      ·refine AW.pre (Conv.trans (qf 6 9 1 y103.Values.length (Rs y103.Values) (by kernel_rfl)) (fV (id := 4) (ty := 53) (cs := [ag y103.ID, ag y103.Version, .ref 6 1 0 y103.Values.length]) (ds := (dE y103)) (by kernel_rfl) ⟨bv.refl _ _, bv.refl _ _, bv.ref (ty := 9) (f := Rs y103.Values) (by kernel_rfl) Ax, tv⟩)) ?_
       obtain ⟨g111, h⟩ := aY h
       refine AW.pre (Conv.trans (qf 7 9 1 y106.Values.length (Rs y106.Values) (by kernel_rfl)) (fV (id := 5) (ty := 53) (cs := [ag y106.ID, ag y106.Version, .ref 7 1 0 y106.Values.length]) (ds := (dE y106)) (by kernel_rfl) ⟨bv.refl _ _, bv.refl _ _, bv.ref (ty := 9) (f := Rs y106.Values) (by kernel_rfl) Ax, tv⟩)) ?_
       obtain ⟨g112, h⟩ := aY h
       refine Q0 ae gj [[], [], [10], [11, 2], [], [], [14], [15, 3]] [(9, .c (.ref 15 3 0 ((x11 ++ [y106]).length))), (8, .c (.ref 11 3 0 ((x10 ++ [y103]).length)))] [(15, .row 53 false 3 (x11 ++ [y106]).length (bF (x11 ++ [y106]))), (11, .row 53 false 3 (x10 ++ [y103]).length (bF (x10 ++ [y103])))] 18 (Ss [bB bL r9 3 (fun _ => rfl) [y103], cP bL r9 3 40 x10 [y103] g111 (by decide), hn, hn, bB bL r9 3 (fun _ => rfl) [y106], cP bL r9 3 40 x11 [y106] g112 (by decide)]) ?_
       refine QU ?_
       exact jl ((x10 ++ [y103]), (x11 ++ [y106]), x100, x101, x102) h (ai [(0, 0), (1, 1), (2, 11), (3, 15)])
      ·refine skip (QU ?_)
       exact jl (x10, x11, x100, x101, x102) h (ai [(0, 0), (1, 1), (2, 2), (3, 3)])
     ·rcases aI h with ⟨c113, h⟩ | ⟨c113, h⟩
      ·refine ax ae [(129, vb (y107 == 0))] 36 [hn, ht c113] ?_
       exact jl (y107 == 0) h (ai [(0, 0), (1, 1), (2, 2), (3, 3), (4, 15), (5, 27), (6, 11), (7, 23)])
      ·refine ax ae [(129, vb false)] 36 [hn, hf c113] ?_
       exact jl false h (ai [(0, 0), (1, 1), (2, 2), (3, 3), (4, 15), (5, 27), (6, 11), (7, 23)])
  ·refine exit (QR ?_)
   exact aX h rfl (ai [(0, 0), (1, 2), (2, 3)])
 ·show (_ : XQ) (.exit 0) _
  refine QO (QX ?_)
  refine ah ae [(7, rX 2 3 x116.length), (6, rX 1 3 x115.length)] 7 (ret ?_)
  obtain rfl := ay h
  exact be (.inr rfl) [(0, 0), (1, 1), (2, 2)] 3 (.tup [.c (.ref 1 3 0 x115.length), .c (.ref 2 3 0 x116.length)])
def sa (x6 : Int) (x14 : Bool) : Option (Int ⊕ (Unit ⊕ Int)) := if x14 then some (.inr (.inr 12)) else some (.inl (SB (x6 + 1)))
def vu (p0 : aS) (p1 : List aL) (x6 : Int) : Option (Int ⊕ (Unit ⊕ Int)) := if decide (x6 < (p1.length : Int)) then if 0 ≤ x6 then if x6 < (p1.length : Int) then (oD p0 (p1.getD x6.toNat bL)).bind fun y11 => (if (y11 != 0) then some (.inr (.inr y11)) else if decide (x6 > 0) then if 0 ≤ (SB (x6 - 1)) then if (SB (x6 - 1)) < (p1.length : Int) then sa x6 (decide (((p1.getD ((SB (x6 - 1)).toNat) bL).ID) ≥ ((p1.getD x6.toNat bL).ID))) else none else none else sa x6 false) else none else none else some (.inr (.inl ()))
def yU : Option Int := some 0
def DJ (x19 : Int) : Option Int := some x19
def sO (p0 : aS) (p1 : List aL) : Option Int := (eB p0).bind fun y1 => (if (y1 != 0) then some y1 else if decide ((p1.length : Int) > 64) then some 1 else cD (loop (fun v : Int => vu p0 p1 v) 0) (fun t => yU) (fun t => DJ t))
theorem JR (p0 : aS) (p1 : List aL) (r : Int) (h : sO p0 p1 = some r) : CT 37 [.agg (bf p0), vl 3 bF p1] [] (af r) [] := by
 refine aw ae 0 Tryz.func37 rfl (fun _ _ _ => ?_)
 unfold sO at h
 refine QZ ae [(2, pX 0 4)] [0] [(0, .box 33 (bf p0))] 2 [] (seq ?_)
 obtain ⟨y1, e2, h⟩ := ap h
 refine aA ae [(5, af y1)] 4 [hn, hk (iK p0 y1 e2)] ?_
 refine ah ae [(12, vb (y1 != 0))] 6 ?_
 refine Q2 h ?_ ?_ <;> intro c3 h
 ·refine ah ae [(4, af y1)] 8 (ret (QW ?_))
  apply au h (af y1)
 ·refine skip (QX (seq ?_))
  refine ah ae [(16, vb (decide ((p1.length : Int) > 64)))] 9 ?_
  refine Q2 h ?_ ?_ <;> intro c4 h
  ·refine ah ae [(4, af 1)] 10 (ret (QW ?_))
   apply au h (af 1)
  ·refine skip (QX (seq ?_))
   refine ah ae [(19, af 0), (18, af (p1.length : Int)), (17, vl 3 bF p1)] 12 (block ?_)
   refine Q4 h (fun v => ⟨[(1, vl 3 bF p1), (2, pX 0 4), (17, vl 3 bF p1), (18, af (p1.length : Int)), (19, af v)], [(0, .box 33 (bf p0))], 1⟩) (fun t => (.exit 0, ⟨[], [], 0⟩)) (fun t => (.ret, ⟨[(4, af t)], [], 0⟩)) (ai [(0, 0)]) (fun _ => tv) (fun _ => tv) ?_ (fun t h => ?_) (fun x19 h => ?_)
   ·clear h
    intro x6 o h
    unfold vu at h
    refine ah ae [(20, vb (decide (x6 < (p1.length : Int))))] 2 (seq ?_)
    refine Q2 h ?_ ?_ <;> intro c8 h
    ·refine skip (QX ?_)
     refine seq (block ?_)
     obtain ⟨g9, g10, h⟩ := aJ h
     refine QZ ae [(6, af x6), (7, pX 5 3)] [5] [(5, .box 53 [ag ((p1.getD x6.toNat bL).ID), ag ((p1.getD x6.toNat bL).Version), cl 1 Rs ((p1.getD x6.toNat bL).Values)])] 8 [hn, hq g9 g10] (seq ?_)
     obtain ⟨y11, e12, h⟩ := ap h
     refine aA ae [(8, af y11)] 11 (Ss [hk (C9 p0 (p1.getD x6.toNat bL) y11 e12)]) ?_
     refine ah ae [(28, vb (y11 != 0))] 13 ?_
     refine Q2 h ?_ ?_ <;> intro c13 h
     ·refine ah ae [(4, af y11)] 15 (ret (QW ?_))
      refine QT (QW ?_)
      exact aX h rfl (ai [])
     ·refine skip (QX (seq ?_))
      refine AW.join (ι := Bool) (fun v => ⟨[(1, vl 3 bF p1), (2, pX 0 4), (17, vl 3 bF p1), (18, af (p1.length : Int)), (19, af x6), (42, vb v)], [(0, .box 33 (bf p0))], 1⟩) (fun v : Bool => sa x6 v = some o) (fun x14 h => ?_) ?_
      ·unfold sa at h
       refine QX ?_
       refine Q2 h ?_ ?_ <;> intro c15 h
       ·refine ah ae [(4, af 12)] 2 (ret (QT (QW ?_)))
        exact aX h rfl (ai [])
       ·refine skip (QU (QX ?_))
        refine ba ae [(19, af (SB (x6 + 1)))] 3 ?_
        exact bh h (ai [(0, 0)])
      ·rcases aI h with ⟨c16, h⟩ | ⟨c16, h⟩
       ·obtain ⟨g17, g18, h⟩ := aJ h
        refine Q0 ae gj [] [(42, vb (decide (((p1.getD ((SB (x6 - 1)).toNat) bL).ID) ≥ ((p1.getD x6.toNat bL).ID))))] [] 26 [hn, ht c16, hn, hn, hn, hn, hq g17 g18] ?_
        exact jl (decide (((p1.getD ((SB (x6 - 1)).toNat) bL).ID) ≥ ((p1.getD x6.toNat bL).ID))) h (ai [(0, 0)])
       ·refine Q0 ae gj [] [(42, vb false)] [] 26 [hn, hf c16] ?_
        exact jl false h (ai [(0, 0)])
    ·refine exit (QR ?_)
     exact aX h rfl (ai [])
   ·replace h : yU = some r := h
    unfold yU at h
    show (_ : XQ) (.exit 0) _
    refine QO (QX ?_)
    refine ah ae [(4, af 0)] 1 (ret ?_)
    apply au h (af 0)
   ·unfold DJ at h
    show (_ : XQ) (.ret) _
    refine QT (QW ?_)
    apply au h (af x19)
def sb (p0 : Int) (p1 : aL) (pc0 : aS) (pc1 : List aD) (pc2 : bd) : Option (aB × Int × aS × List aD × bd) := aF (oc pc0 pc1 pc2 p1) fun y1 y2 => (some (y1, y2, pc0, pc1, pc2))
theorem I8 (p0 : Int) (p1 : aL) (pc0 : aS) (pc1 : List aD) (pc2 : bd) (r : aB × Int × aS × (List aD) × bd) (h : sb p0 p1 pc0 pc1 pc2 = some r) : CT 39 [af p0, .agg (dE p1), .c (.ptr 0 4 0 0), .c (.ptr 1 1 0 0), .c (.ptr 2 2 0 0)] [(0, .box 33 (bf pc0)), (1, .box 35 [cl 3 cA pc1]), (2, .box 39 (bN pc2))] (.tup [.agg [ag r.1.ID, ag r.1.Version, .ref 3 2 0 r.1.Fields.length], af r.2.1]) [(0, .box 33 (bf r.2.2.1)), (1, .box 35 [cl 3 cA r.2.2.2.1]), (2, .box 39 (bN r.2.2.2.2)), (3, .row 126 false 2 r.1.Fields.length (bR r.1.Fields))] := by
 refine aw ae 3 Tryz.func39 rfl (fun _ _ _ => ?_)
 unfold sb at h
 refine QZ ae [(7, pX 4 3), (6, pX 3 3)] [3, 4] [(4, .box 70 [ag 0, ag 0, ar]), (3, .box 53 (dE p1))] 6 [] ?_
 obtain ⟨y1, y2, e3, h⟩ := aK h
 refine QZ ae [(8, af y2)] [4, 10] [(4, .box 70 [ag y1.ID, ag y1.Version, .ref 10 2 0 y1.Fields.length]), (10, .row 126 false 2 y1.Fields.length (bR y1.Fields))] 15 (Sv [hl [] [] 1 (CJ pc0 pc1 pc2 p1 (y1, y2) e3)]) (ret ?_)
 obtain rfl := ay h
 exact be (.inr rfl) [(0, 0), (1, 1), (2, 2), (3, 10)] 4 (.tup [.agg [ag y1.ID, ag y1.Version, .ref 10 2 0 y1.Fields.length], af y2])
def yL (x : aB) : List T := [.v (.int .i64 x.ID), .v (.int .i64 x.Version), .tree x.Fields.length 2 (bR x.Fields)]
def bC (xs : List aB) : Nat → Nat → T := bJ bu yL xs
noncomputable def mO (p0 : List aL) (x10 : List aB) (x11 : Int) (x12 : List aC) (x13 : List ByteArray) (x14 : List aE) (x15 : List aE) (x16 : List aD) (x17 : Int) (x18 : Int) : Option ((List aB × Int × List aC × List ByteArray × List aE × List aE × List aD × Int × Int) ⊕ ((List aB × List aC × List ByteArray × List aE × List aE × List aD × Int × Int) ⊕ (Int × List aC × List ByteArray × List aE × List aE × List aD × Int × Int))) := if decide (x11 < (p0.length : Int)) then if 0 ≤ x11 then if x11 < (p0.length : Int) then fJ (sb x11 (p0.getD x11.toNat bL) (⟨x12, (⟨x13, x14, x15⟩ : aW)⟩ : aS) x16 (⟨x17, x18⟩ : bd)) fun y38 y39 y40 y41 y42 => (if (y39 != 0) then some (.inr (.inr (y39, y40.Fields, y40.Rules.Titles, y40.Rules.Nicknames, y40.Rules.Streets, y41, y42.A, y42.B))) else if x10.length + [y38].length ≤ 1099511627776 then some (.inl ((x10 ++ [y38]), SB (x11 + 1), y40.Fields, y40.Rules.Titles, y40.Rules.Nicknames, y40.Rules.Streets, y41, y42.A, y42.B)) else none) else none else none else some (.inr (.inl (x10, x12, x13, x14, x15, x16, x17, x18)))
noncomputable def xR (x46 : List aB) (x47 : List aC) (x48 : List ByteArray) (x49 : List aE) (x50 : List aE) (x51 : List aD) (x52 : Int) (x53 : Int) : Option (List aB × Int × aS × List aD × bd) := some (x46, 0, (⟨x47, (⟨x48, x49, x50⟩ : aW)⟩ : aS), x51, (⟨x52, x53⟩ : bd))
noncomputable def xS (x54 : Int) (x55 : List aC) (x56 : List ByteArray) (x57 : List aE) (x58 : List aE) (x59 : List aD) (x60 : Int) (x61 : Int) : Option (List aB × Int × aS × List aD × bd) := some (([] : List aB), x54, (⟨x55, (⟨x56, x57, x58⟩ : aW)⟩ : aS), x59, (⟨x60, x61⟩ : bd))
noncomputable def ut (p0 : List aL) (p1d0 : aS) (p1d1 : List aD) (p1d2 : bd) : Option (List aB × Int × aS × List aD × bd) := cD (loop (fun v : List aB × Int × List aC × List ByteArray × List aE × List aE × List aD × Int × Int => mO p0 v.1 v.2.1 v.2.2.1 v.2.2.2.1 v.2.2.2.2.1 v.2.2.2.2.2.1 v.2.2.2.2.2.2.1 v.2.2.2.2.2.2.2.1 v.2.2.2.2.2.2.2.2) (([] : List aB), 0, p1d0.Fields, p1d0.Rules.Titles, p1d0.Rules.Nicknames, p1d0.Rules.Streets, p1d1, p1d2.A, p1d2.B)) (fun t => xR t.1 t.2.1 t.2.2.1 t.2.2.2.1 t.2.2.2.2.1 t.2.2.2.2.2.1 t.2.2.2.2.2.2.1 t.2.2.2.2.2.2.2) (fun t => xS t.1 t.2.1 t.2.2.1 t.2.2.2.1 t.2.2.2.2.1 t.2.2.2.2.2.1 t.2.2.2.2.2.2.1 t.2.2.2.2.2.2.2)
theorem HZ (p0 : List aL) (p1d0 : aS) (p1d1 : List aD) (p1d2 : bd) (r : (List aB) × Int × aS × (List aD) × bd) (h : ut p0 p1d0 p1d1 p1d2 = some r) : CT 38 [vl 3 bF p0, .clo 39 [] [.c (.ptr 0 4 0 0), .c (.ptr 1 1 0 0), .c (.ptr 2 2 0 0)]] [(0, .box 33 (bf p1d0)), (1, .box 35 [cl 3 cA p1d1]), (2, .box 39 (bN p1d2))] (.tup [.c (.ref 3 3 0 r.1.length), af r.2.1]) [(0, .box 33 (bf r.2.2.1)), (1, .box 35 [cl 3 cA r.2.2.2.1]), (2, .box 39 (bN r.2.2.2.2)), (3, .row 70 false 3 r.1.length (bC r.1))] := by
 refine aw ae 3 Tryz.func38 rfl (fun _ _ _ => ?_)
 unfold ut at h
 refine ah ae [] 5 ?_
 refine ah ae [(6, .c (ar))] 6 (seq ?_)
 refine ah ae [(13, af 0), (12, af (p0.length : Int)), (11, vl 3 bF p0)] 9 (block ?_)
 refine Q4 h (fun v => ⟨[(1, .clo 39 [] [.c (.ptr 0 4 0 0), .c (.ptr 1 1 0 0), .c (.ptr 2 2 0 0)]), (6, rX 3 3 v.1.length), (11, vl 3 bF p0), (12, af (p0.length : Int)), (13, af v.2.1)], [(0, .box 33 [cl 2 cZ v.2.2.1, cl 1 Rs v.2.2.2.1, cl 2 bA v.2.2.2.2.1, cl 2 bA v.2.2.2.2.2.1]), (1, .box 35 [cl 3 cA v.2.2.2.2.2.2.1]), (2, .box 39 [aH v.2.2.2.2.2.2.2.1, aH v.2.2.2.2.2.2.2.2]), (3, .row 70 false 3 v.1.length (bC v.1))], 4⟩) (fun t => (.exit 0, ⟨[(6, rX 3 3 t.1.length)], [(0, .box 33 [cl 2 cZ t.2.1, cl 1 Rs t.2.2.1, cl 2 bA t.2.2.2.1, cl 2 bA t.2.2.2.2.1]), (1, .box 35 [cl 3 cA t.2.2.2.2.2.1]), (2, .box 39 [aH t.2.2.2.2.2.2.1, aH t.2.2.2.2.2.2.2]), (3, .row 70 false 3 t.1.length (bC t.1))], 4⟩)) (fun t => (.ret, ⟨[(4, .c (ar)), (5, af t.1)], [(0, .box 33 [cl 2 cZ t.2.1, cl 1 Rs t.2.2.1, cl 2 bA t.2.2.2.1, cl 2 bA t.2.2.2.2.1]), (1, .box 35 [cl 3 cA t.2.2.2.2.2.1]), (2, .box 39 [aH t.2.2.2.2.2.2.1, aH t.2.2.2.2.2.2.2])], 3⟩)) (Conv.trans (cG (t := 6) (ty := 70) (sz := 3) (n := ([] : List aB).length) (f := bC ([] : List aB)) (by kernel_rfl) rfl) (ai [(0, 0), (1, 1), (2, 2), (3, 9)])) (fun _ => tv) (fun _ => tv) ?_ (fun t h => ?_) (fun t h => ?_)
 ·clear h
  intro v o h
  obtain ⟨x10, x11, x12, x13, x14, x15, x16, x17, x18⟩ := v
  replace h : mO p0 x10 x11 x12 x13 x14 x15 x16 x17 x18 = some o := h
  unfold mO at h
  refine ah ae [(14, vb (decide (x11 < (p0.length : Int))))] 5 (seq ?_)
  refine Q2 h ?_ ?_ <;> intro c35 h
  ·refine skip (QX ?_)
   refine seq (block ?_)
   obtain ⟨g36, g37, h⟩ := aJ h
   refine QZ ae [(7, af x11), (8, pX 8 3)] [8] [(8, .box 53 [ag ((p0.getD x11.toNat bL).ID), ag ((p0.getD x11.toNat bL).Version), cl 1 Rs ((p0.getD x11.toNat bL).Values)])] 11 [hn, hq g36 g37] ?_
   obtain ⟨y38, y39, y40, y41, y42, e43, h⟩ := gZ h
   refine QZ ae [(10, af y39), (9, pX 18 3)] [0, 1, 2, 14, 18] [(18, .box 70 [ag y38.ID, ag y38.Version, .ref 14 2 0 y38.Fields.length]), (0, .box 33 (bf y40)), (1, .box 35 [cl 3 cA y41]), (2, .box 39 (bN y42)), (14, .row 126 false 2 y38.Fields.length (bR y38.Fields))] 21 (Su [hl [0, 1, 2] [] 1 (I8 x11 (p0.getD x11.toNat bL) (⟨x12, (⟨x13, x14, x15⟩ : aW)⟩ : aS) x16 (⟨x17, x18⟩ : bd) (y38, y39, y40, y41, y42) e43)]) (seq ?_)
   refine ah ae [(26, vb (y39 != 0))] 23 ?_
   refine Q2 h ?_ ?_ <;> intro c44 h
   ·refine ah ae [(5, af y39), (4, .c (ar))] 26 (ret (QW ?_))
    refine QT (QW ?_)
    exact aX h rfl (ai [(0, 0), (1, 1), (2, 2)])
   ·refine skip (QX ?_)
    refine AW.pre (Conv.trans (qf 14 126 2 y38.Fields.length (bR y38.Fields) (by kernel_rfl)) (fV (id := 18) (ty := 70) (cs := [ag y38.ID, ag y38.Version, .ref 14 2 0 y38.Fields.length]) (ds := [ag y38.ID, ag y38.Version, cl 2 bR y38.Fields]) (by kernel_rfl) ⟨bv.refl _ _, bv.refl _ _, bv.ref (ty := 126) (f := bR y38.Fields) (by kernel_rfl) Ax, tv⟩)) ?_
    obtain ⟨g45, h⟩ := aY h
    refine QY ae [(6, .c (.ref 26 3 0 ((x10 ++ [y38]).length)))] [3, 25, 26] [(26, .row 70 false 3 (x10 ++ [y38]).length (bC (x10 ++ [y38])))] 28 (Ss [bB bu yL 3 (fun _ => rfl) [y38], cP bu yL 3 40 x10 [y38] g45 (by decide)]) ?_
    refine QU (QX ?_)
    refine ba ae [(13, af (SB (x11 + 1)))] 30 ?_
    exact bh h (ai [(0, 0), (1, 1), (2, 2), (3, 26)])
  ·refine exit (QR ?_)
   exact aX h rfl (ai [(0, 0), (1, 1), (2, 2), (3, 3)])
 ·obtain ⟨x46, x47, x48, x49, x50, x51, x52, x53⟩ := t
  replace h : xR x46 x47 x48 x49 x50 x51 x52 x53 = some r := h
  unfold xR at h
  show (_ : XQ) (.exit 0) _
  refine QO (QX ?_)
  refine ah ae [(5, af 0), (4, rX 3 3 x46.length)] 7 (ret ?_)
  obtain rfl := ay h
  exact be (.inr rfl) [(0, 0), (1, 1), (2, 2), (3, 3)] 4 (.tup [.c (.ref 3 3 0 x46.length), af 0])
 ·obtain ⟨x54, x55, x56, x57, x58, x59, x60, x61⟩ := t
  replace h : xS x54 x55 x56 x57 x58 x59 x60 x61 = some r := h
  unfold xS at h
  show (_ : XQ) (.ret) _
  refine QT (QW ?_)
  obtain rfl := ay h
  exact b6 (.inr rfl) [(0, 0), (1, 1), (2, 2), (3, 3)] 4 (.tup [.c (.ref 3 3 0 (([] : List aB).length)), af x54]) (cG (t := 4) (ty := 70) (sz := 3) (n := ([] : List aB).length) (f := bC ([] : List aB)) (by kernel_rfl) rfl)
def oX (p0 : aS) (p1 : List aD) (p2 : bd) (p3 : List aL) : Option (List aB × Int) := (oC p0 p1).bind fun y1 => (if (y1 != 0) then some (([] : List aB), y1) else (sO p0 p3).bind fun y4 => (if (y4 != 0) then some (([] : List aB), y4) else fJ (ut p3 p0 p1 p2) fun y7 y8 y9 y10 y11 => (some (y7, y8))))
theorem Dy (p0 : aS) (p1 : List aD) (p2 : bd) (p3 : List aL) (r : (List aB) × Int) (h : oX p0 p1 p2 p3 = some r) : CT 13 [.agg (bf p0), vl 3 cA p1, .agg (bN p2), vl 3 bF p3] [] (.tup [.c (.ref 0 3 0 r.1.length), af r.2]) [(0, .row 70 false 3 r.1.length (bC r.1))] := by
 refine aw ae 0 Tryz.func13 rfl (fun _ _ _ => ?_)
 unfold oX at h
 refine QZ ae [(6, pX 2 2), (5, pX 1 1), (4, pX 0 4)] [0, 1, 2] [(2, .box 39 (bN p2)), (1, .box 35 [cl 3 cA p1]), (0, .box 33 (bf p0))] 5 [] (seq ?_)
 obtain ⟨y1, e2, h⟩ := ap h
 refine aA ae [(10, af y1)] 8 (Ss [hk (C8 p0 p1 y1 e2)]) ?_
 refine ah ae [(16, vb (y1 != 0))] 10 ?_
 refine Q2 h ?_ ?_ <;> intro c3 h
 ·refine ah ae [(9, af y1), (8, .c (ar))] 13 (ret (QW ?_))
  obtain rfl := ay h
  exact b6 (.inr rfl) [(0, 13)] 1 (.tup [.c (.ref 13 3 0 (([] : List aB).length)), af y1]) (cG (t := 8) (ty := 70) (sz := 3) (n := ([] : List aB).length) (f := bC ([] : List aB)) (by kernel_rfl) rfl)
 ·refine skip (QX (seq ?_))
  obtain ⟨y4, e5, h⟩ := ap h
  refine aA ae [(11, af y4)] 13 (Ss [hk (JR p0 p3 y4 e5)]) ?_
  refine ah ae [(22, vb (y4 != 0))] 15 ?_
  refine Q2 h ?_ ?_ <;> intro c6 h
  ·refine ah ae [(9, af y4), (8, .c (ar))] 18 (ret (QW ?_))
   obtain rfl := ay h
   exact b6 (.inr rfl) [(0, 18)] 1 (.tup [.c (.ref 18 3 0 (([] : List aB).length)), af y4]) (cG (t := 8) (ty := 70) (sz := 3) (n := ([] : List aB).length) (f := bC ([] : List aB)) (by kernel_rfl) rfl)
  ·refine skip (QX ?_)
   obtain ⟨y7, y8, y9, y10, y11, e12, h⟩ := gZ h
   refine QZ ae [(9, af y8), (8, rX 17 3 y7.length)] [0, 1, 2, 17] [(17, .row 70 false 3 y7.length (bC y7))] 22 (Ss [hl [0, 1, 2] [] 1 (HZ p3 p0 p1 p2 (y7, y8, y9, y10, y11) e12)]) (ret ?_)
   obtain rfl := ay h
   exact be (.inr rfl) [(0, 17)] 1 (.tup [.c (.ref 17 3 0 y7.length), af y8])
structure a8 where
 A : Int
 B : Int
def d8 : a8 := ⟨0, 0⟩
instance : Inhabited a8 := ⟨d8⟩
def se (x : a8) : List T := [.v (.int .i64 x.A), .v (.int .i64 x.B)]
def dX (xs : List a8) : Nat → Nat → T := bJ d8 se xs
def rt (p0 : Int) (x5 : Int) (x6 : Int) : Option ((Int × Int) ⊕ Int) := if decide (x6 < p0) then some (.inl (SB (x5 * 3), SB (x6 + 1))) else some (.inr x5)
def nL (p0 : Int) (x1 : Bool) : Option (Int × Int) := if x1 then some (0, 8) else (loop (fun v : Int × Int => rt p0 v.1 v.2) (1, 0)).bind fun x9 => (some (x9, 0))
def iT (p0 : Int) : Option (Int × Int) := if decide (p0 < 1) then nL p0 true else nL p0 (decide (p0 > 5))
theorem yu (p0 : Int) (r : Int × Int) (h : iT p0 = some r) : CT 42 [af p0] [] (.tup [af r.1, af r.2]) [] := by
 refine aw ae 0 Tryz.func42 rfl (fun _ _ _ => ?_)
 unfold iT at h
 refine ah ae [] 2 (seq (seq ?_))
 refine AW.join (ι := Bool) (fun v => ⟨[(0, af p0), (10, vb v)], [], 0⟩) (fun v : Bool => nL p0 v = some r) (fun x1 h => ?_) ?_
 ·unfold nL at h
  refine QX ?_
  refine Q2 h ?_ ?_ <;> intro c2 h
  ·refine ah ae [(3, af 8), (2, af 0)] 2 (ret (QW ?_))
   apply au h (.tup [af 0, af 8])
  ·refine skip (QX ?_)
   refine ah ae [(4, af 1)] 1 (seq ?_)
   refine ah ae [(12, af 0), (11, af p0)] 3 (block ?_)
   obtain ⟨x9, l10, h⟩ := ap h
   refine Q3 l10 (fun v => ⟨[(4, af v.1), (11, af p0), (12, af v.2)], [], 0⟩) (fun t : Int => (.exit 0, ⟨[(4, af t)], [], 0⟩)) (ai []) (fun _ => tv) ?_ ?_
   ·clear l10 h
    intro v o h
    obtain ⟨x5, x6⟩ := v
    replace h : rt p0 x5 x6 = some o := h
    unfold rt at h
    refine ah ae [(13, vb (decide (x6 < p0)))] 1 (seq ?_)
    refine Q2 h ?_ ?_ <;> intro c8 h
    ·refine skip (QX ?_)
     refine seq (block ?_)
     refine ba ae [(4, af (SB (x5 * 3)))] 4 ?_
     refine QU (QX ?_)
     refine ba ae [(12, af (SB (x6 + 1)))] 6 ?_
     exact bh h (ai [])
    ·refine exit (QR ?_)
     exact aX h rfl (ai [])
   ·show (_ : XQ) (.exit 0) _
    refine QO (QX ?_)
    refine ah ae [(3, af 0), (2, af x9)] 3 (ret ?_)
    apply au h (.tup [af x9, af 0])
 ·rcases aI h with ⟨c11, h⟩ | ⟨c11, h⟩
  ·refine ax ae [(10, vb true)] 8 [hn, ht c11] ?_
   exact jl true h
  ·refine ax ae [(10, vb (decide (p0 > 5)))] 8 [hn, hf c11] ?_
   exact jl (decide (p0 > 5)) h
def qG (x1 : Bool) : Option Bool := some x1
def q5 (p0 : Int) : Option Bool := if decide (p0 < 0) then qG true else qG (decide (p0 > 1000))
theorem IE (p0 : Int) (r : Bool) (h : q5 p0 = some r) : CT 83 [af p0] [] (vb r) [] := by
 refine aw ae 0 Tryz.func83 rfl (fun _ _ _ => ?_)
 unfold q5 at h
 refine ah ae [] 1 (seq ?_)
 refine AW.join (ι := Bool) (fun v => ⟨[(2, vb v)], [], 0⟩) (fun v : Bool => qG v = some r) (fun x1 h => ?_) ?_
 ·unfold qG at h
  refine QX (ret ?_)
  apply au h (vb x1)
 ·rcases aI h with ⟨c2, h⟩ | ⟨c2, h⟩
  ·refine ax ae [(2, vb true)] 8 [hn, ht c2] ?_
   exact jl true h
  ·refine ax ae [(2, vb (decide (p0 > 1000)))] 8 [hn, hf c2] ?_
   exact jl (decide (p0 > 1000)) h
def qn (p0 : List Int) (x2 : Int) : Option (Int ⊕ (Unit ⊕ Int)) := if decide (x2 < (p0.length : Int)) then if 0 ≤ x2 then if x2 < (p0.length : Int) then (q5 (p0.getD x2.toNat 0)).bind fun y7 => (if y7 then some (.inr (.inr x2)) else some (.inl (SB (x2 + 1)))) else none else none else some (.inr (.inl ()))
def xT : Option Int := some (-1)
def xU (x10 : Int) : Option Int := some x10
def uu (p0 : List Int) : Option Int := cD (loop (fun v : Int => qn p0 v) 0) (fun t => xT) (fun t => xU t)
theorem H0 (p0 : List Int) (r : Int) (h : uu p0 = some r) : CT 93 [vl 1 al p0, .c (.t (.v (.func (.func 83) #[] #[])))] [] (af r) [] := by
 refine aw ae 0 Tryz.func93 rfl (fun _ _ _ => ?_)
 unfold uu at h
 refine ah ae [] 1 (seq ?_)
 refine ah ae [(8, af 0), (7, af (p0.length : Int))] 4 (block ?_)
 refine Q4 h (fun v => ⟨[(0, vl 1 al p0), (1, .c (.t (.v (.func (.func 83) #[] #[])))), (7, af (p0.length : Int)), (8, af v)], [], 0⟩) (fun t => (.exit 0, ⟨[], [], 0⟩)) (fun t => (.ret, ⟨[(4, af t)], [], 0⟩)) (ai []) (fun _ => tv) (fun _ => tv) ?_ (fun t h => ?_) (fun x10 h => ?_)
 ·clear h
  intro x2 o h
  unfold qn at h
  refine ah ae [(9, vb (decide (x2 < (p0.length : Int))))] 1 (seq ?_)
  refine Q2 h ?_ ?_ <;> intro c4 h
  ·refine skip (QX ?_)
   refine seq (block ?_)
   refine ah ae [(5, af x2)] 3 ?_
   obtain ⟨g5, g6, h⟩ := aJ h
   obtain ⟨y7, e8, h⟩ := ap h
   refine aA ae [(16, vb y7)] 8 (Su [hq g5 g6, hn, hk (IE (p0.getD x2.toNat 0) y7 e8)]) ?_
   refine Q2 h ?_ ?_ <;> intro c9 h
   ·refine ah ae [(4, af x2)] 10 (ret (QT (QW ?_)))
    exact aX h rfl (ai [])
   ·refine skip (QU (QX ?_))
    refine ba ae [(8, af (SB (x2 + 1)))] 10 ?_
    exact bh h (ai [])
  ·refine exit (QR ?_)
   exact aX h rfl (ai [])
 ·replace h : xT = some r := h
  unfold xT at h
  show (_ : XQ) (.exit 0) _
  refine QO (QX ?_)
  refine ah ae [(4, af (-1))] 1 (ret ?_)
  apply au h (af (-1))
 ·unfold xU at h
  show (_ : XQ) (.ret) _
  refine QT (QW ?_)
  apply au h (af x10)
def qo (p0 : List Int) : Option Bool := (uu p0).bind fun y1 => (some (decide (y1 ≥ 0)))
theorem HT (p0 : List Int) (r : Bool) (h : qo p0 = some r) : CT 50 [vl 1 al p0, .c (.t (.v (.func (.func 83) #[] #[])))] [] (vb r) [] := by
 refine aw ae 0 Tryz.func50 rfl (fun _ _ _ => ?_)
 unfold qo at h
 refine ah ae [] 1 ?_
 obtain ⟨y1, e2, h⟩ := ap h
 refine aA ae [(4, vb (decide (y1 ≥ 0)))] 5 (Ss [hk (H0 p0 y1 e2)]) (ret ?_)
 apply au h (vb (decide (y1 ≥ 0)))
def Dh (x : List aB) : List T := [.tree x.length 3 (bC x)]
def jI (xs : List (List aB)) : Nat → Nat → T := bJ ([] : List aB) Dh xs
def qu (x2 : List aB) : Option (List aB) := some x2
def qv (p1 : Int) : Option (List aB) := if decide (p1 < 0) then none else if (decide ((SB (p1 - (SB (0 - 0)))) > 0)) = true then if 0 < (SB (p1 - (SB (0 - 0)))) then if (SB (p1 - (SB (0 - 0)))) ≤ 1099511627776 then if 0 ≤ ((List.replicate ((SB (p1 - (SB (0 - 0)))).toNat) (bu : aB)).length) then qu ((List.replicate ((SB (p1 - (SB (0 - 0)))).toNat) (bu : aB)).take 0) else none else none else none else qu ([] : List aB)
theorem H6 (p1 : Int) (r : List aB) (h : qv p1 = some r) : CT 125 [.c (ar), af p1] [] (.c (.ref 0 3 0 r.length)) [(0, .row 70 false 3 r.length (bC r))] := by
 refine aw ae 0 Tryz.func125 rfl (fun _ _ _ => ?_)
 unfold qv at h
 refine ah ae [] 1 (seq ?_)
 refine ah ae [(6, vb (decide (p1 < 0)))] 3 ?_
 refine Q2 h ?_ ?_ <;> intro c1 h
 ·cases h
 ·refine skip (QX (seq ?_))
  refine AW.join (ι := List aB) (fun v => ⟨[(0, rX 0 3 v.length)], [(0, .row 70 false 3 v.length (bC v))], 1⟩) (fun v : List aB => qu v = some r) (fun x2 h => ?_) ?_
  ·unfold qu at h
   refine QX ?_
   refine ah ae [(4, rX 0 3 x2.length)] 3 (ret ?_)
   obtain rfl := ay h
   exact be (.inr rfl) [(0, 0)] 1 (.c (.ref 0 3 0 x2.length))
  ·refine ah ae [(1, af (SB (p1 - (SB (0 - 0)))))] 11 ?_
   refine ah ae [(16, vb (decide ((SB (p1 - (SB (0 - 0)))) > 0)))] 13 ?_
   refine Q2 h ?_ ?_ <;> intro c3 h
   ·obtain ⟨g4, g5, h⟩ := aJ h
    obtain ⟨g6, h⟩ := aY h
    refine QY ae [(0, rX 18 3 0)] [18] [(18, .row 70 false 3 (List.replicate ((SB (p1 - (SB (0 - 0)))).toNat) (bu : aB)).length (bC (List.replicate ((SB (p1 - (SB (0 - 0)))).toNat) (bu : aB))))] 23 (Su [ho (p := (True) ∧ (0 ≤ (0 : Int)) ∧ (0 ≤ 0) ∧ (0 ≤ 0)) (⟨tv, (by decide), (Nat.zero_le _), (RR _)⟩), hn, hr ((List.replicate ((SB (p1 - (SB (0 - 0)))).toNat) (bu : aB)).length) (bC (List.replicate ((SB (p1 - (SB (0 - 0)))).toNat) (bu : aB))) (p := ((0 < (SB (p1 - (SB (0 - 0))))) ∧ ((SB (p1 - (SB (0 - 0)))) ≤ 1099511627776) ∧ ((40 : Nat) ≤ 128)) ∧ ((SB (p1 - (SB (0 - 0)))).toNat = (List.replicate ((SB (p1 - (SB (0 - 0)))).toNat) (bu : aB)).length ∧ ∀ i, i < (List.replicate ((SB (p1 - (SB (0 - 0)))).toNat) (bu : aB)).length → ∀ j, j < 3 → bn ((fun _ j => .v (([.int .i64 0, .int .i64 0, .slice none 0 0] : List Value).getD j undef)) i j) (bC (List.replicate ((SB (p1 - (SB (0 - 0)))).toNat) (bu : aB)) i j))) (⟨⟨g4, g5, (by decide)⟩, G6 (fun j hj => match j, hj with | 0, _ => bn.refl _ | 1, _ => bn.refl _ | 2, _ => bn.nil rfl | _ + 3, h => absurd h (by omega))⟩), hn, hn, ho (p := (True) ∧ (0 ≤ (0 : Int)) ∧ (0 ≤ 0) ∧ (0 ≤ ((List.replicate ((SB (p1 - (SB (0 - 0)))).toNat) (bu : aB)).length))) (⟨tv, (by decide), (Nat.zero_le _), g6⟩)]) ?_
    exact jl ((List.replicate ((SB (p1 - (SB (0 - 0)))).toNat) (bu : aB)).take 0) h (Conv.trans (Lb (id := 18) (ty := 70) (fro := false) (fro' := false) (sz := 3) (n := (List.replicate ((SB (p1 - (SB (0 - 0)))).toNat) (bu : aB)).length) (m := ((List.replicate ((SB (p1 - (SB (0 - 0)))).toNat) (bu : aB)).take 0).length) (f := bC (List.replicate ((SB (p1 - (SB (0 - 0)))).toNat) (bu : aB))) (g := bC ((List.replicate ((SB (p1 - (SB (0 - 0)))).toNat) (bu : aB)).take 0)) (by kernel_rfl) (.inl rfl) (by rw [Ro]; exact Nat.min_le_right _ _) (fun i hi j _ => L4 i j hi)) (Conv.trans (ai (S' := ⟨[(0, rX 18 3 0)], [(18, .row 70 false 3 ((List.replicate ((SB (p1 - (SB (0 - 0)))).toNat) (bu : aB)).take 0).length (bC ((List.replicate ((SB (p1 - (SB (0 - 0)))).toNat) (bu : aB)).take 0)))], 23⟩) [(18, 18)] (by kernel_rfl)) (Conv.trans (tc (S' := ⟨[(0, .c (.ref 18 3 0 (((List.replicate ((SB (p1 - (SB (0 - 0)))).toNat) (bu : aB)).take 0).length)))], [(18, .row 70 false 3 ((List.replicate ((SB (p1 - (SB (0 - 0)))).toNat) (bu : aB)).take 0).length (bC ((List.replicate ((SB (p1 - (SB (0 - 0)))).toNat) (bu : aB)).take 0)))], 23⟩) (by rw [show ((List.replicate ((SB (p1 - (SB (0 - 0)))).toNat) (bu : aB)).take 0).length = 0 from by rw [Ro, Nat.min_eq_left (Nat.zero_le _)]])) (ai [(0, 18)]))))
   ·refine skip ?_
    exact jl ([] : List aB) h (Conv.trans (cG (t := 0) (ty := 70) (sz := 3) (n := ([] : List aB).length) (f := bC ([] : List aB)) (by kernel_rfl) rfl) (ai [(0, 13)]))
def kS (p0 : List (List aB)) (x3 : Int) (x4 : Int) : Option ((Int × Int) ⊕ Int) := if decide (x4 < (p0.length : Int)) then if 0 ≤ x4 then if x4 < (p0.length : Int) then (some (SB (x3 + ((p0.getD x4.toNat ([] : List aB)).length : Int)))).bind fun z9 => (if decide (z9 < 0) then none else some (.inl (z9, SB (x4 + 1)))) else none else none else some (.inr x3)
def mS (p0 : List (List aB)) (x17 : List aB) (x18 : Int) : Option ((List aB × Int) ⊕ List aB) := if decide (x18 < (p0.length : Int)) then if 0 ≤ x18 then if x18 < (p0.length : Int) then if x17.length + (p0.getD x18.toNat ([] : List aB)).length ≤ 1099511627776 then some (.inl ((x17 ++ (p0.getD x18.toNat ([] : List aB))), SB (x18 + 1))) else none else none else none else some (.inr x17)
def qx (p0 : List (List aB)) : Option (List aB) := (loop (fun v : Int × Int => kS p0 v.1 v.2) (0, 0)).bind fun x12 => ((qv x12).bind fun y13 => ((loop (fun v : List aB × Int => mS p0 v.1 v.2) (y13, 0)).bind fun x24 => (some x24)))
theorem H9 (p0 : List (List aB)) (r : List aB) (h : qx p0 = some r) : CT 84 [vl 1 jI p0] [] (.c (.ref 0 3 0 r.length)) [(0, .row 70 false 3 r.length (bC r))] := by
 refine aw ae 0 Tryz.func84 rfl (fun _ _ _ => ?_)
 unfold qx at h
 refine ah ae [] 1 ?_
 refine ah ae [(3, af 0)] 2 (seq ?_)
 refine ah ae [(11, af 0), (10, af (p0.length : Int)), (9, vl 1 jI p0)] 5 (block ?_)
 obtain ⟨x12, l26, h⟩ := ap h
 refine Q3 l26 (fun v => ⟨[(0, vl 1 jI p0), (3, af v.1), (9, vl 1 jI p0), (10, af (p0.length : Int)), (11, af v.2)], [], 0⟩) (fun t : Int => (.exit 0, ⟨[(0, vl 1 jI p0), (3, af t)], [], 0⟩)) (ai []) (fun _ => tv) ?_ ?_
 ·clear l26 h
  intro v o h
  obtain ⟨x3, x4⟩ := v
  replace h : kS p0 x3 x4 = some o := h
  unfold kS at h
  refine ah ae [(12, vb (decide (x4 < (p0.length : Int))))] 1 (seq ?_)
  refine Q2 h ?_ ?_ <;> intro c6 h
  ·refine skip (QX ?_)
   refine seq (block ?_)
   obtain ⟨g7, g8, h⟩ := aJ h
   refine aA ae [(5, vl 3 bC (p0.getD x4.toNat ([] : List aB)))] 4 [hq g7 g8] ?_
   obtain ⟨z9, n10, h⟩ := ap h
   replace n10 := ay n10
   refine ah ae [(3, af z9)] 9 ?_ (by subst n10; kernel_rfl)
   refine ah ae [(20, vb (decide (z9 < 0)))] 11 ?_
   refine Q2 h ?_ ?_ <;> intro c11 h
   ·cases h
   ·refine skip (QU (QX ?_))
    refine ba ae [(11, af (SB (x4 + 1)))] 13 ?_
    exact bh h (ai [])
  ·refine exit (QR ?_)
   exact aX h rfl (ai [])
 ·show (_ : XQ) (.exit 0) _
  refine QO (QX ?_)
  obtain ⟨y13, e14, h⟩ := ap h
  refine QZ ae [(6, rX 1 3 y13.length)] [1] [(1, .row 70 false 3 y13.length (bC y13))] 3 [hn, hl [] [] 1 (H6 x12 y13 e14)] (seq ?_)
  refine ah ae [(27, af 0), (26, af (p0.length : Int)), (25, vl 1 jI p0)] 6 (block ?_)
  obtain ⟨x24, l25, h⟩ := ap h
  refine Q3 l25 (fun v => ⟨[(6, rX 0 3 v.1.length), (25, vl 1 jI p0), (26, af (p0.length : Int)), (27, af v.2)], [(0, .row 70 false 3 v.1.length (bC v.1))], 1⟩) (fun t : List aB => (.exit 2, ⟨[(6, rX 0 3 t.length)], [(0, .row 70 false 3 t.length (bC t))], 1⟩)) (ai [(0, 1)]) (fun _ => tv) ?_ ?_
  ·clear l25 h
   intro v o h
   obtain ⟨x17, x18⟩ := v
   replace h : mS p0 x17 x18 = some o := h
   unfold mS at h
   refine ah ae [(28, vb (decide (x18 < (p0.length : Int))))] 2 (seq ?_)
   refine Q2 h ?_ ?_ <;> intro c20 h
   ·refine skip (QX ?_)
    refine seq (block ?_)
    obtain ⟨g21, g22, h⟩ := aJ h
    refine aA ae [(8, vl 3 bC (p0.getD x18.toNat ([] : List aB)))] 5 [hq g21 g22] ?_
    obtain ⟨g23, h⟩ := aY h
    refine QY ae [(6, .c (.ref 7 3 0 ((x17 ++ (p0.getD x18.toNat ([] : List aB))).length)))] [0, 7] [(7, .row 70 false 3 (x17 ++ (p0.getD x18.toNat ([] : List aB))).length (bC (x17 ++ (p0.getD x18.toNat ([] : List aB)))))] 9 (Ss [hr ((x17 ++ (p0.getD x18.toNat ([] : List aB))).length) (bC (x17 ++ (p0.getD x18.toNat ([] : List aB)))) (p := (x17.length = x17.length) ∧ (True) ∧ ((x17.length + (p0.getD x18.toNat ([] : List aB)).length ≤ 1099511627776) ∧ ((40 : Nat) ≤ 128)) ∧ (x17.length + (p0.getD x18.toNat ([] : List aB)).length = (x17 ++ (p0.getD x18.toNat ([] : List aB))).length ∧ ∀ i, i < (x17 ++ (p0.getD x18.toNat ([] : List aB))).length → ∀ j, j < 3 → bn ((da x17.length (bC x17) (bC (p0.getD x18.toNat ([] : List aB)))) i j) (bC (x17 ++ (p0.getD x18.toNat ([] : List aB))) i j))) (⟨rfl, tv, ⟨g23, (by decide)⟩, t7 (tA rfl rfl ig ig)⟩)]) ?_
    refine QU (QX ?_)
    refine ba ae [(27, af (SB (x18 + 1)))] 11 ?_
    exact bh h (ai [(0, 7)])
   ·refine exit (QR ?_)
    exact aX h rfl (ai [(0, 0)])
  ·show (_ : XQ) (.exit 2) _
   refine QO (QX ?_)
   refine ah ae [(2, rX 0 3 x24.length)] 3 (ret ?_)
   obtain rfl := ay h
   exact be (.inr rfl) [(0, 0)] 1 (.c (.ref 0 3 0 x24.length))
def rN (x1 : Bool) : Option Bool := some x1
def vJ (p0 : aR) : Option Bool := if (p0.Length == 0) then rN ((p0.Words.length : Int) == 0) else rN false
theorem Di (p0 : aR) (r : Bool) (h : vJ p0 = some r) : CT 128 [.agg [ag p0.Length, cl 1 bo p0.Words]] [] (vb r) [] := by
 refine aw ae 0 Tryz.func128 rfl (fun _ _ _ => ?_)
 unfold vJ at h
 refine QZ ae [(1, pX 0 2)] [0] [(0, .box 126 [ag p0.Length, cl 1 bo p0.Words])] 2 [] (seq ?_)
 refine AW.join (ι := Bool) (fun v => ⟨[(2, vb v)], [], 0⟩) (fun v : Bool => rN v = some r) (fun x1 h => ?_) ?_
 ·unfold rN at h
  refine QX (ret ?_)
  apply au h (vb x1)
 ·rcases aI h with ⟨c2, h⟩ | ⟨c2, h⟩
  ·refine ax ae [(2, vb ((p0.Words.length : Int) == 0))] 12 (Ss [ht c2]) ?_
   exact jl ((p0.Words.length : Int) == 0) h (ai [])
  ·refine ax ae [(2, vb false)] 12 (Ss [hf c2]) ?_
   exact jl false h
def qL (x1 : Bool) : Option Bool := some x1
def ru (p0 : aR) : Option Bool := (vJ p0).bind fun y2 => (if (!y2) then (gX p0).bind fun y5 => (qL (!y5)) else qL false)
theorem IP (p0 : aR) (r : Bool) (h : ru p0 = some r) : CT 127 [.agg [ag p0.Length, cl 1 bo p0.Words]] [] (vb r) [] := by
 refine aw ae 0 Tryz.func127 rfl (fun _ _ _ => ?_)
 unfold ru at h
 refine QZ ae [(1, pX 0 2)] [0] [(0, .box 126 [ag p0.Length, cl 1 bo p0.Words])] 2 [] (seq ?_)
 refine AW.join (ι := Bool) (fun v => ⟨[(2, vb v)], [], 0⟩) (fun v : Bool => qL v = some r) (fun x1 h => ?_) ?_
 ·unfold qL at h
  refine QX (ret ?_)
  apply au h (vb x1)
 ·obtain ⟨y2, e3, h⟩ := ap h
  rcases aI h with ⟨c4, h⟩ | ⟨c4, h⟩
  ·obtain ⟨y5, e6, h⟩ := ap h
   refine ax ae [(2, vb (!y5))] 9 [hn, hk (Di p0 y2 e3), ht c4, hn, hn, hk (lC p0 y5 e6)] ?_
   exact jl (!y5) h
  ·refine ax ae [(2, vb false)] 10 [hn, hk (Di p0 y2 e3), hf c4] ?_
   exact jl false h
def qj (p0 : List aR) (x2 : Int) : Option (Int ⊕ (Unit ⊕ Int)) := if decide (x2 < (p0.length : Int)) then if 0 ≤ x2 then if x2 < (p0.length : Int) then (ru (p0.getD x2.toNat dA)).bind fun y7 => (if y7 then some (.inr (.inr x2)) else some (.inl (SB (x2 + 1)))) else none else none else some (.inr (.inl ()))
def xK : Option Int := some (-1)
def xL (x10 : Int) : Option Int := some x10
def um (p0 : List aR) : Option Int := cD (loop (fun v : Int => qj p0 v) 0) (fun t => xK) (fun t => xL t)
theorem HS (p0 : List aR) (r : Int) (h : um p0 = some r) : CT 161 [vl 2 bR p0, .c (.t (.v (.func (.func 127) #[] #[])))] [] (af r) [] := by
 refine aw ae 0 Tryz.func161 rfl (fun _ _ _ => ?_)
 unfold um at h
 refine ah ae [] 1 (seq ?_)
 refine ah ae [(8, af 0), (7, af (p0.length : Int))] 4 (block ?_)
 refine Q4 h (fun v => ⟨[(0, vl 2 bR p0), (1, .c (.t (.v (.func (.func 127) #[] #[])))), (7, af (p0.length : Int)), (8, af v)], [], 0⟩) (fun t => (.exit 0, ⟨[], [], 0⟩)) (fun t => (.ret, ⟨[(4, af t)], [], 0⟩)) (ai []) (fun _ => tv) (fun _ => tv) ?_ (fun t h => ?_) (fun x10 h => ?_)
 ·clear h
  intro x2 o h
  unfold qj at h
  refine ah ae [(9, vb (decide (x2 < (p0.length : Int))))] 1 (seq ?_)
  refine Q2 h ?_ ?_ <;> intro c4 h
  ·refine skip (QX ?_)
   refine seq (block ?_)
   refine ah ae [(5, af x2)] 3 ?_
   obtain ⟨g5, g6, h⟩ := aJ h
   obtain ⟨y7, e8, h⟩ := ap h
   refine aA ae [(16, vb y7)] 8 (Su [hq g5 g6, hn, hk (IP (p0.getD x2.toNat dA) y7 e8)]) ?_
   refine Q2 h ?_ ?_ <;> intro c9 h
   ·refine ah ae [(4, af x2)] 10 (ret (QT (QW ?_)))
    exact aX h rfl (ai [])
   ·refine skip (QU (QX ?_))
    refine ba ae [(8, af (SB (x2 + 1)))] 10 ?_
    exact bh h (ai [])
  ·refine exit (QR ?_)
   exact aX h rfl (ai [])
 ·replace h : xK = some r := h
  unfold xK at h
  show (_ : XQ) (.exit 0) _
  refine QO (QX ?_)
  refine ah ae [(4, af (-1))] 1 (ret ?_)
  apply au h (af (-1))
 ·unfold xL at h
  show (_ : XQ) (.ret) _
  refine QT (QW ?_)
  apply au h (af x10)
def qk (p0 : List aR) : Option Bool := (um p0).bind fun y1 => (some (decide (y1 ≥ 0)))
theorem HN (p0 : List aR) (r : Bool) (h : qk p0 = some r) : CT 126 [vl 2 bR p0, .c (.t (.v (.func (.func 127) #[] #[])))] [] (vb r) [] := by
 refine aw ae 0 Tryz.func126 rfl (fun _ _ _ => ?_)
 unfold qk at h
 refine ah ae [] 1 ?_
 obtain ⟨y1, e2, h⟩ := ap h
 refine aA ae [(4, vb (decide (y1 ≥ 0)))] 5 (Ss [hk (HS p0 y1 e2)]) (ret ?_)
 apply au h (vb (decide (y1 ≥ 0)))
def gV (x1 : Bool) : Option Bool := some x1
def su (p0 : aB) : Option Bool := if decide (p0.ID ≥ 1) then if decide (p0.ID ≤ 1048576) then if decide (p0.Version ≥ 1) then if decide (p0.Version ≤ 1048576) then if decide ((p0.Fields.length : Int) ≥ 1) then if decide ((p0.Fields.length : Int) ≤ 5) then (qk p0.Fields).bind fun y8 => (gV (!y8)) else gV false else gV false else gV false else gV false else gV false else gV false
theorem Da (p0 : aB) (r : Bool) (h : su p0 = some r) : CT 85 [.agg [ag p0.ID, ag p0.Version, cl 2 bR p0.Fields]] [] (vb r) [] := by
 refine aw ae 0 Tryz.func85 rfl (fun _ _ _ => ?_)
 unfold su at h
 refine QZ ae [(1, pX 0 3)] [0] [(0, .box 70 [ag p0.ID, ag p0.Version, cl 2 bR p0.Fields])] 2 [] (seq ?_)
 refine AW.join (ι := Bool) (fun v => ⟨[(2, vb v)], [], 0⟩) (fun v : Bool => gV v = some r) (fun x1 h => ?_) ?_
 ·unfold gV at h
  refine QX (ret ?_)
  apply au h (vb x1)
 ·rcases aI h with ⟨c2, h⟩ | ⟨c2, h⟩
  ·rcases aI h with ⟨c3, h⟩ | ⟨c3, h⟩
   ·rcases aI h with ⟨c4, h⟩ | ⟨c4, h⟩
    ·rcases aI h with ⟨c5, h⟩ | ⟨c5, h⟩
     ·rcases aI h with ⟨c6, h⟩ | ⟨c6, h⟩
      ·rcases aI h with ⟨c7, h⟩ | ⟨c7, h⟩
       ·obtain ⟨y8, e9, h⟩ := ap h
        refine ax ae [(2, vb (!y8))] 38 (Ss [ht c2, hn, hn, hn, ht c3, hn, hn, hn, hn, ht c4, hn, hn, hn, hn, ht c5, hn, hn, hn, hn, hn, ht c6, hn, hn, hn, hn, hn, ht c7, hn, hn, hn, hn, hk (HN p0.Fields y8 e9)]) ?_
        exact jl (!y8) h
       ·refine ax ae [(2, vb false)] 39 (Ss [ht c2, hn, hn, hn, ht c3, hn, hn, hn, hn, ht c4, hn, hn, hn, hn, ht c5, hn, hn, hn, hn, hn, ht c6, hn, hn, hn, hn, hn, hf c7]) ?_
        exact jl false h
      ·refine ax ae [(2, vb false)] 39 (Ss [ht c2, hn, hn, hn, ht c3, hn, hn, hn, hn, ht c4, hn, hn, hn, hn, ht c5, hn, hn, hn, hn, hn, hf c6]) ?_
       exact jl false h
     ·refine ax ae [(2, vb false)] 39 (Ss [ht c2, hn, hn, hn, ht c3, hn, hn, hn, hn, ht c4, hn, hn, hn, hn, hf c5]) ?_
      exact jl false h
    ·refine ax ae [(2, vb false)] 39 (Ss [ht c2, hn, hn, hn, ht c3, hn, hn, hn, hn, hf c4]) ?_
     exact jl false h
   ·refine ax ae [(2, vb false)] 39 (Ss [ht c2, hn, hn, hn, hf c3]) ?_
    exact jl false h
  ·refine ax ae [(2, vb false)] 39 (Ss [hf c2]) ?_
   exact jl false h
def q6 (x12 : Int) (x16 : Bool) : Option (Int ⊕ (Unit ⊕ Unit)) := if x16 then some (.inr (.inr ())) else some (.inl (SB (x12 + 1)))
def q7 (p3 : List Int) (y9 : List aB) (x12 : Int) : Option (Int ⊕ (Unit ⊕ Unit)) := if decide (x12 < (y9.length : Int)) then (if 0 ≤ x12 then (if x12 < (y9.length : Int) then ((su (y9.getD (0 + x12.toNat) bu)).bind fun y18 => (if (!y18) then q6 x12 true else (q6 x12 (((((y9.getD (0 + x12.toNat) bu).Fields).length : Nat) : Int) != (p3.length : Int))))) else none) else none) else some (.inr (.inl ()))
def yw : Option Int := some 0
def yx : Option Int := some 7
def sf (p0 : List a8) (p1 : List aB) (p2 : List aB) (p3 : List Int) : Option Int := aF (iT (p3.length : Int)) fun y1 y2 => (if (y2 != 0) then some y2 else if decide ((p0.length : Int) > 4096) then some 1 else (qo p3).bind fun y6 => (if y6 then some 2 else (qx ([p1, p2] : List (List aB))).bind fun y9 => (cD (loop (fun v : Int => q7 p3 y9 v) 0) (fun t => yw) (fun t => yx))))
theorem I9 (p0 : List a8) (p1 : List aB) (p2 : List aB) (p3 : List Int) (r : Int) (h : sf p0 p1 p2 p3 = some r) : CT 41 [vl 2 dX p0, vl 3 bC p1, vl 3 bC p2, vl 1 al p3] [] (af r) [] := by
 refine aw ae 0 Tryz.func41 rfl (fun _ _ _ => ?_)
 unfold sf at h
 refine ah ae [] 1 (seq ?_)
 obtain ⟨y1, y2, e3, h⟩ := aK h
 refine aA ae [(10, af y2)] 8 (Ss [hk (yu (p3.length : Int) (y1, y2) e3)]) ?_
 refine ah ae [(20, vb (y2 != 0))] 10 ?_
 refine Q2 h ?_ ?_ <;> intro c4 h
 ·refine ah ae [(8, af y2)] 12 (ret (QW ?_))
  apply au h (af y2)
 ·refine skip (QX ?_)
  refine seq (block ?_)
  refine ah ae [(22, vb (decide ((p0.length : Int) > 4096)))] 14 ?_
  refine Q2 h ?_ ?_ <;> intro c5 h
  ·refine ah ae [(8, af 1)] 15 (ret (QT (QW ?_)))
   apply au h (af 1)
  ·obtain ⟨y6, e7, h⟩ := ap h
   refine aA ae [(26, vb y6)] 16 [hn, hk (HT p3 y6 e7)] ?_
   refine Q2 h ?_ ?_ <;> intro c8 h
   ·refine ah ae [(8, af 2)] 17 (ret (QT (QW ?_)))
    apply au h (af 2)
   ·refine skip (QU ?_)
    refine QX (seq ?_)
    obtain ⟨y9, e10, h⟩ := ap h
    refine QZ ae [(34, af 0), (33, af (y9.length : Int)), (32, rX 19 3 y9.length)] [18, 19] [(19, .row 70 false 3 y9.length (bC y9))] 22 (Ss [bB ([] : List aB) Dh 1 (fun _ => rfl) ([p1, p2] : List (List aB)), hg [] [18] false 1 (q := (0 + ([p1, p2] : List (List aB)).length ≤ ([p1, p2] : List (List aB)).length) ∧ (True)) ⟨Ax, tv⟩ (a0 := [vl 1 jI ([p1, p2] : List (List aB))]) (H9 ([p1, p2] : List (List aB)) y9 e10) ⟨aN.refl _, tv⟩ (fun h => by cases h)]) (block ?_)
    refine Q4 h (fun v => ⟨[(3, vl 1 al p3), (32, rX 0 3 y9.length), (33, af (y9.length : Int)), (34, af v)], [(0, .row 70 false 3 y9.length (bC y9))], 1⟩) (fun t => (.exit 1, ⟨[], [], 0⟩)) (fun t => (.ret, ⟨[(8, af 7)], [], 0⟩)) (ai [(0, 19)]) (fun _ => tv) (fun _ => tv) ?_ (fun t h => ?_) (fun t h => ?_)
    ·clear h
     intro x12 o h
     unfold q7 at h
     refine ah ae [(35, vb (decide (x12 < (y9.length : Int))))] 2 (seq ?_)
     refine Q2 h ?_ ?_ <;> intro c13 h
     ·refine skip (QX ?_)
      refine seq (block ?_)
      obtain ⟨g14, g15, h⟩ := aJ h
      refine QZ ae [(12, pX 4 3)] [4] [(4, .box 70 [ag ((y9.getD (0 + x12.toNat) bu).ID), ag ((y9.getD (0 + x12.toNat) bu).Version), cl 2 bR ((y9.getD (0 + x12.toNat) bu).Fields)])] 6 [hq g14 g15, ho (p := (0 + x12.toNat) < y9.length) (by have h1 : 0 ≤ x12 := g14; have h2 : x12 < (y9.length : Int) := g15; omega)] (seq ?_)
      refine AW.join (ι := Bool) (fun v => ⟨[(3, vl 1 al p3), (32, rX 0 3 y9.length), (33, af (y9.length : Int)), (34, af x12), (48, vb v)], [(0, .row 70 false 3 y9.length (bC y9))], 1⟩) (fun v : Bool => q6 x12 v = some o) (fun x16 h => ?_) ?_
      ·unfold q6 at h
       refine QX ?_
       refine Q2 h ?_ ?_ <;> intro c17 h
       ·refine ah ae [(8, af 7)] 2 (ret (QT (QW ?_)))
        exact aX h rfl (ai [])
       ·refine skip (QU (QX ?_))
        refine ba ae [(34, af (SB (x12 + 1)))] 3 ?_
        exact bh h (ai [(0, 0)])
      ·obtain ⟨y18, e19, h⟩ := ap h
       rcases aI h with ⟨c20, h⟩ | ⟨c20, h⟩
       ·refine ax ae [(48, vb true)] 16 [hn, hk (Da (y9.getD (0 + x12.toNat) bu) y18 e19), ht c20] ?_
        exact jl true h (ai [(0, 0)])
       ·refine ax ae [(48, vb (((((y9.getD (0 + x12.toNat) bu).Fields).length : Nat) : Int) != (p3.length : Int)))] 16 [hn, hk (Da (y9.getD (0 + x12.toNat) bu) y18 e19), hf c20] ?_
        exact jl (((((y9.getD (0 + x12.toNat) bu).Fields).length : Nat) : Int) != (p3.length : Int)) h (ai [(0, 0)])
     ·refine exit (QR ?_)
      exact aX h rfl (ai [])
    ·replace h : yw = some r := h
     unfold yw at h
     show (_ : XQ) (.exit 1) _
     refine QO (QX ?_)
     refine ah ae [(8, af 0)] 1 (ret ?_)
     apply au h (af 0)
    ·replace h : yx = some r := h
     unfold yx at h
     show (_ : XQ) (.ret) _
     refine QT (QW ?_)
     apply au h (af 7)
def vf (p0 : aB) (pc0 : Int) : Option (Bool × Int) := some ((p0.ID == pc0), pc0)
theorem IQ (p0 : aB) (pc0 : Int) (r : Bool × Int) (h : vf p0 pc0 = some r) : CT 87 [.agg [ag p0.ID, ag p0.Version, cl 2 bR p0.Fields], .c (.ptr 0 1 0 0)] [(0, .box 3 [ag pc0])] (vb r.1) [(0, .box 3 [ag r.2])] := by
 refine aw ae 1 Tryz.func87 rfl (fun _ _ _ => ?_)
 unfold vf at h
 refine QZ ae [(2, pX 1 3)] [1] [(1, .box 70 [ag p0.ID, ag p0.Version, cl 2 bR p0.Fields])] 3 [] ?_
 refine ah ae [(3, vb (p0.ID == pc0))] 8 (ret ?_)
 obtain rfl := ay h
 exact be (.inr rfl) [(0, 0)] 1 (vb (p0.ID == pc0))
def mL (p0 : List aB) (x3 : Int) (x4 : Int) : Option ((Int × Int) ⊕ (Int ⊕ (Int × Int))) := if decide (x3 < (p0.length : Int)) then if 0 ≤ x3 then if x3 < (p0.length : Int) then aF (vf (p0.getD x3.toNat bu) x4) fun y11 y12 => (if y11 then some (.inr (.inr (x3, y12))) else some (.inl (SB (x3 + 1), y12))) else none else none else some (.inr (.inl x4))
def Cl (x15 : Int) : Option (Int × Int) := some ((-1), x15)
def ui (x16 : Int) (x17 : Int) : Option (Int × Int) := some (x16, x17)
def uj (p0 : List aB) (p1d0 : Int) : Option (Int × Int) := cD (loop (fun v : Int × Int => mL p0 v.1 v.2) (0, p1d0)) (fun t => Cl t) (fun t => ui t.1 t.2)
theorem HO (p0 : List aB) (p1d0 : Int) (r : Int × Int) (h : uj p0 p1d0 = some r) : CT 86 [vl 3 bC p0, .clo 87 [] [.c (.ptr 0 1 0 0)]] [(0, .box 3 [ag p1d0])] (af r.1) [(0, .box 3 [ag r.2])] := by
 refine aw ae 1 Tryz.func86 rfl (fun _ _ _ => ?_)
 unfold uj at h
 refine ah ae [] 2 (seq ?_)
 refine ah ae [(8, af 0), (7, af (p0.length : Int))] 5 (block ?_)
 refine Q4 h (fun v => ⟨[(0, vl 3 bC p0), (1, .clo 87 [] [.c (.ptr 0 1 0 0)]), (7, af (p0.length : Int)), (8, af v.1)], [(0, .box 3 [ag v.2])], 1⟩) (fun t => (.exit 0, ⟨[], [(0, .box 3 [ag t])], 1⟩)) (fun t => (.ret, ⟨[(4, af t.1)], [(0, .box 3 [ag t.2])], 1⟩)) (ai [(0, 0)]) (fun _ => tv) (fun _ => tv) ?_ (fun x15 h => ?_) (fun t h => ?_)
 ·clear h
  intro v o h
  obtain ⟨x3, x4⟩ := v
  replace h : mL p0 x3 x4 = some o := h
  unfold mL at h
  refine ah ae [(9, vb (decide (x3 < (p0.length : Int))))] 2 (seq ?_)
  refine Q2 h ?_ ?_ <;> intro c8 h
  ·refine skip (QX ?_)
   refine seq (block ?_)
   refine ah ae [(5, af x3)] 4 ?_
   obtain ⟨g9, g10, h⟩ := aJ h
   obtain ⟨y11, y12, e13, h⟩ := aK h
   refine QZ ae [(16, vb y11)] [0] [(0, .box 3 [ag y12])] 9 (Su [hq g9 g10, hn, hm [0] [] 0 (IQ (p0.getD x3.toNat bu) x4 (y11, y12) e13) ⟨rfl, tv⟩]) ?_
   refine Q2 h ?_ ?_ <;> intro c14 h
   ·refine ah ae [(4, af x3)] 11 (ret (QT (QW ?_)))
    exact aX h rfl (ai [(0, 0)])
   ·refine skip (QU (QX ?_))
    refine ba ae [(8, af (SB (x3 + 1)))] 11 ?_
    exact bh h (ai [(0, 0)])
  ·refine exit (QR ?_)
   exact aX h rfl (ai [(0, 0)])
 ·unfold Cl at h
  show (_ : XQ) (.exit 0) _
  refine QO (QX ?_)
  refine ah ae [(4, af (-1))] 2 (ret ?_)
  obtain rfl := ay h
  exact be (.inr rfl) [(0, 0)] 1 (af (-1))
 ·obtain ⟨x16, x17⟩ := t
  replace h : ui x16 x17 = some r := h
  unfold ui at h
  show (_ : XQ) (.ret) _
  refine QT (QW ?_)
  obtain rfl := ay h
  exact be (.inr rfl) [(0, 0)] 1 (af x16)
def oF (p0 : List aB) (p1 : Int) : Option (aB × Bool) := aF (uj p0 p1) fun y1 y2 => (if decide (y1 < 0) then some ((⟨0, 0, ([] : List aR)⟩ : aB), false) else if 0 ≤ y1 then if y1 < (p0.length : Int) then some ((p0.getD y1.toNat bu), true) else none else none)
theorem Db (p0 : List aB) (p1 : Int) (r : aB × Bool) (h : oF p0 p1 = some r) : CT 43 [vl 3 bC p0, af p1] [] (.tup [.agg [ag r.1.ID, ag r.1.Version, cl 2 bR r.1.Fields], vb r.2]) [] := by
 refine aw ae 0 Tryz.func43 rfl (fun _ _ _ => ?_)
 unfold oF at h
 refine QZ ae [(4, pX 1 3), (3, pX 0 1)] [0, 1] [(1, .box 70 [ag 0, ag 0, ar]), (0, .box 3 [ag p1])] 3 [] ?_
 obtain ⟨y1, y2, e3, h⟩ := aK h
 refine QZ ae [(6, af y1)] [0] [] 6 (Ss [hm [0] [] 0 (HO p0 p1 (y1, y2) e3) ⟨rfl, tv⟩]) (seq ?_)
 refine ah ae [(11, vb (decide (y1 < 0)))] 8 ?_
 refine Q2 h ?_ ?_ <;> intro c4 h
 ·refine QZ ae [(5, vb false)] [1] [(1, .box 70 [ag 0, ag 0, ar])] 11 [] (ret (QW ?_))
  obtain rfl := ay h
  exact b6 (.inr rfl) [] 0 (.tup [.agg [ag 0, ag 0, cl 2 bR ([] : List aR)], vb false]) (fV (id := 1) (ty := 70) (cs := [ag 0, ag 0, ar]) (ds := [ag 0, ag 0, cl 2 bR ([] : List aR)]) (by kernel_rfl) ⟨bv.refl _ _, bv.refl _ _, bv.nil rfl, tv⟩)
 ·refine skip (QX ?_)
  obtain ⟨g5, g6, h⟩ := aJ h
  refine QZ ae [(5, vb true)] [1] [(1, .box 70 [ag ((p0.getD y1.toNat bu).ID), ag ((p0.getD y1.toNat bu).Version), cl 2 bR ((p0.getD y1.toNat bu).Fields)])] 14 (Ss [hq g5 g6]) (ret ?_)
  apply au h (.tup [.agg [ag ((p0.getD y1.toNat bu).ID), ag ((p0.getD y1.toNat bu).Version), cl 2 bR ((p0.getD y1.toNat bu).Fields)], vb true])
end
end Go.Proofs.YtfmhbcfklokmaaaGreatDoor
