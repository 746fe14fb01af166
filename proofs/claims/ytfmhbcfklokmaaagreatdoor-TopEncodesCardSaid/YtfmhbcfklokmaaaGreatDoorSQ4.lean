/- Lemmas for the statement TopEncodes: Go functions told as pure functions, and laws about these; texts joined and shortened by a program of mine; no condition. -/
import Derived.Test.YtfmhbcfklokmaaaGreatDoorSQ1
import Derived.Test.YtfmhbcfklokmaaaGreatDoorRows
import Derived.Test.YtfmhbcfklokmaaaGreatDoorSQ3
set_option linter.unusedVariables false
set_option linter.unusedSimpArgs false
set_option linter.defProp false
namespace Go.Proofs.YtfmhbcfklokmaaaGreatDoor
open Vm
open AW (block exit ret seq skip)
open _root_.ByteArray (mk)
open IntKind (i64 u64 u32 u8)
set_option maxRecDepth 100000
set_option maxHeartbeats 10000000
theorem dr : Tryz.prog.follows .mixedOrders = true := by kernel_rfl
noncomputable def dP (x19 : Bool) : Option Bool := some x19
noncomputable def uN : Option Bool := aM (gC (⟨([(⟨(mk #[103, 105, 118, 101, 110]), 1⟩ : ar), (⟨(mk #[98, 105, 114, 116, 104]), 2⟩ : ar)] : List ar), (⟨([(mk #[100, 114])] : aj), ([] : List aA), ([] : List aA)⟩ : aY)⟩ : aK) 1 1 ([(mk #[68, 114, 46, 32, 65, 110, 110]), (mk #[50, 48, 48, 48, 45, 48, 50, 45, 48, 51])] : aj)) fun y1 y2 => (aM (gC (⟨([(⟨(mk #[103, 105, 118, 101, 110]), 1⟩ : ar), (⟨(mk #[98, 105, 114, 116, 104]), 2⟩ : ar)] : List ar), (⟨([(mk #[100, 114])] : aj), ([] : List aA), ([] : List aA)⟩ : aY)⟩ : aK) 8 2 ([(mk #[65, 78, 78]), (mk #[48, 51, 46, 48, 50, 46, 50, 48, 48, 48])] : aj)) fun y4 y5 => (aM (lM (⟨([(⟨(mk #[103, 105, 118, 101, 110]), 1⟩ : ar), (⟨(mk #[98, 105, 114, 116, 104]), 2⟩ : ar)] : List ar), (⟨([(mk #[100, 114])] : aj), ([] : List aA), ([] : List aA)⟩ : aY)⟩ : aK) ([(⟨64, 2, (-1)⟩ : aC), (⟨128, 3, 0⟩ : aC)] : List aC) (⟨5, 0⟩ : hJ) y1) fun y7 y8 => (aM (lM (⟨([(⟨(mk #[103, 105, 118, 101, 110]), 1⟩ : ar), (⟨(mk #[98, 105, 114, 116, 104]), 2⟩ : ar)] : List ar), (⟨([(mk #[100, 114])] : aj), ([] : List aA), ([] : List aA)⟩ : aY)⟩ : aK) ([(⟨64, 2, (-1)⟩ : aC), (⟨128, 3, 0⟩ : aC)] : List aC) (⟨5, 0⟩ : hJ) y4) fun y10 y11 => (aM (oN y7 y10) fun y13 y14 => (aM (oO ([800, 800] : List Int) y13) fun y16 y17 => (if (y2 == 0) then (if (y5 == 0) then (if (y8 == 0) then (if (y11 == 0) then (if (y14 == 0) then (if (y17 == 0) then (if ((y13.length : Int) == 2) then (if (0 : Int) < (y13.length : Int) then (if ((y13.getD (0 + 0) 0) == 1000) then (if (y16 == 8) then ((dz (⟨([(⟨(mk #[103, 105, 118, 101, 110]), 1⟩ : ar), (⟨(mk #[98, 105, 114, 116, 104]), 2⟩ : ar)] : List ar), (⟨([(mk #[100, 114])] : aj), ([] : List aA), ([] : List aA)⟩ : aY)⟩ : aK)).bind fun y30 => (dP (y30 == 0))) else (dP false)) else (dP false)) else none) else (dP false)) else (dP false)) else (dP false)) else (dP false)) else (dP false)) else (dP false)) else (dP false)))))))
theorem CV (r : Bool) (h : uN = some r) : CT 5 [] [] (vb r) [] := by
 refine an ae 0 Tryz.func5 rfl (fun _ _ _ => ?_)
 unfold uN at h
 refine ah ae [] 1 ?_
 refine Fs ae [(1, pX 7 4)] [1, 5, 7] [(7, .box 33 [.ref 5 2 0 (([(⟨(mk #[103, 105, 118, 101, 110]), 1⟩ : ar), (⟨(mk #[98, 105, 114, 116, 104]), 2⟩ : ar)] : List ar).length), .ref 1 1 0 (([(mk #[100, 114])] : aj).length), ax, ax]), (5, .row 82 false 2 ([(⟨(mk #[103, 105, 118, 101, 110]), 1⟩ : ar), (⟨(mk #[98, 105, 114, 116, 104]), 2⟩ : ar)] : List ar).length (cw ([(⟨(mk #[103, 105, 118, 101, 110]), 1⟩ : ar), (⟨(mk #[98, 105, 114, 116, 104]), 2⟩ : ar)] : List ar))), (1, .row 9 false 1 ([(mk #[100, 114])] : aj).length (Rs ([(mk #[100, 114])] : aj)))] 9 [bh mt Es 1 (fun _ => rfl) ([(mk #[100, 114])] : aj), hn, hn, hn, bh bq jp 2 (fun _ => rfl) ([(⟨(mk #[103, 105, 118, 101, 110]), 1⟩ : ar), (⟨(mk #[98, 105, 114, 116, 104]), 2⟩ : ar)] : List ar)] ?_
 refine Fs ae [(2, .c (.ref 11 3 0 (([(⟨64, 2, (-1)⟩ : aC), (⟨128, 3, 0⟩ : aC)] : List aC).length)))] [11] [(11, .row 84 false 3 ([(⟨64, 2, (-1)⟩ : aC), (⟨128, 3, 0⟩ : aC)] : List aC).length (cC ([(⟨64, 2, (-1)⟩ : aC), (⟨128, 3, 0⟩ : aC)] : List aC)))] 13 [hn, hn, bh cH iO 3 (fun _ => rfl) ([(⟨64, 2, (-1)⟩ : aC), (⟨128, 3, 0⟩ : aC)] : List aC)] ?_
 obtain ⟨y1, y2, e3, h⟩ := aO h
 refine Fs ae [(4, af y2), (3, pX 19 3)] [14, 15, 19] [(19, .box 53 [ag y1.ID, ag y1.Version, .ref 15 1 0 y1.Values.length]), (15, .row 9 false 1 y1.Values.length (Rs y1.Values))] 22 [hn, bh mt Es 1 (fun _ => rfl) ([(mk #[68, 114, 46, 32, 65, 110, 110]), (mk #[50, 48, 48, 48, 45, 48, 50, 45, 48, 51])] : aj), hg [] [] true 1 (q := ((0 + ([(⟨(mk #[103, 105, 118, 101, 110]), 1⟩ : ar), (⟨(mk #[98, 105, 114, 116, 104]), 2⟩ : ar)] : List ar).length ≤ ([(⟨(mk #[103, 105, 118, 101, 110]), 1⟩ : ar), (⟨(mk #[98, 105, 114, 116, 104]), 2⟩ : ar)] : List ar).length) ∧ (0 + ([(mk #[100, 114])] : aj).length ≤ ([(mk #[100, 114])] : aj).length) ∧ (True) ∧ (True) ∧ (True)) ∧ (True) ∧ (True) ∧ (0 + ([(mk #[68, 114, 46, 32, 65, 110, 110]), (mk #[50, 48, 48, 48, 45, 48, 50, 45, 48, 51])] : aj).length ≤ ([(mk #[68, 114, 46, 32, 65, 110, 110]), (mk #[50, 48, 48, 48, 45, 48, 50, 45, 48, 51])] : aj).length) ∧ (True)) ⟨⟨br, br, tv, tv, tv⟩, tv, tv, br, tv⟩ (a0 := [.agg [cl 2 cw ([(⟨(mk #[103, 105, 118, 101, 110]), 1⟩ : ar), (⟨(mk #[98, 105, 114, 116, 104]), 2⟩ : ar)] : List ar), cl 1 Rs ([(mk #[100, 114])] : aj), ax, ax], af 1, af 1, vl 1 Rs ([(mk #[68, 114, 46, 32, 65, 110, 110]), (mk #[50, 48, 48, 48, 45, 48, 50, 45, 48, 51])] : aj)]) (lg (⟨([(⟨(mk #[103, 105, 118, 101, 110]), 1⟩ : ar), (⟨(mk #[98, 105, 114, 116, 104]), 2⟩ : ar)] : List ar), (⟨([(mk #[100, 114])] : aj), ([] : List aA), ([] : List aA)⟩ : aY)⟩ : aK) 1 1 ([(mk #[68, 114, 46, 32, 65, 110, 110]), (mk #[50, 48, 48, 48, 45, 48, 50, 45, 48, 51])] : aj) (y1, y2) e3) ⟨aR.agg ⟨bO.refl _, bO.refl _, bO.nil rfl, bO.nil rfl, tv⟩, aR.refl _, aR.refl _, aR.refl _, tv⟩ (fun _ => ⟨bV Vs _ _ _, tv⟩)] ?_
 obtain ⟨y4, y5, e6, h⟩ := aO h
 refine Fs ae [(6, af y5), (5, pX 28 3)] [23, 24, 28] [(28, .box 53 [ag y4.ID, ag y4.Version, .ref 24 1 0 y4.Values.length]), (24, .row 9 false 1 y4.Values.length (Rs y4.Values))] 31 [hn, bh mt Es 1 (fun _ => rfl) ([(mk #[65, 78, 78]), (mk #[48, 51, 46, 48, 50, 46, 50, 48, 48, 48])] : aj), hg [] [] true 1 (q := ((0 + ([(⟨(mk #[103, 105, 118, 101, 110]), 1⟩ : ar), (⟨(mk #[98, 105, 114, 116, 104]), 2⟩ : ar)] : List ar).length ≤ ([(⟨(mk #[103, 105, 118, 101, 110]), 1⟩ : ar), (⟨(mk #[98, 105, 114, 116, 104]), 2⟩ : ar)] : List ar).length) ∧ (0 + ([(mk #[100, 114])] : aj).length ≤ ([(mk #[100, 114])] : aj).length) ∧ (True) ∧ (True) ∧ (True)) ∧ (True) ∧ (True) ∧ (0 + ([(mk #[65, 78, 78]), (mk #[48, 51, 46, 48, 50, 46, 50, 48, 48, 48])] : aj).length ≤ ([(mk #[65, 78, 78]), (mk #[48, 51, 46, 48, 50, 46, 50, 48, 48, 48])] : aj).length) ∧ (True)) ⟨⟨br, br, tv, tv, tv⟩, tv, tv, br, tv⟩ (a0 := [.agg [cl 2 cw ([(⟨(mk #[103, 105, 118, 101, 110]), 1⟩ : ar), (⟨(mk #[98, 105, 114, 116, 104]), 2⟩ : ar)] : List ar), cl 1 Rs ([(mk #[100, 114])] : aj), ax, ax], af 8, af 2, vl 1 Rs ([(mk #[65, 78, 78]), (mk #[48, 51, 46, 48, 50, 46, 50, 48, 48, 48])] : aj)]) (lg (⟨([(⟨(mk #[103, 105, 118, 101, 110]), 1⟩ : ar), (⟨(mk #[98, 105, 114, 116, 104]), 2⟩ : ar)] : List ar), (⟨([(mk #[100, 114])] : aj), ([] : List aA), ([] : List aA)⟩ : aY)⟩ : aK) 8 2 ([(mk #[65, 78, 78]), (mk #[48, 51, 46, 48, 50, 46, 50, 48, 48, 48])] : aj) (y4, y5) e6) ⟨aR.agg ⟨bO.refl _, bO.refl _, bO.nil rfl, bO.nil rfl, tv⟩, aR.refl _, aR.refl _, aR.refl _, tv⟩ (fun _ => ⟨bV Vs _ _ _, tv⟩)] ?_
 obtain ⟨y7, y8, e9, h⟩ := aO h
 refine Fs ae [(8, af y8), (7, pX 39 3)] [1, 5, 11, 15, 35, 39] [(39, .box 70 [ag y7.ID, ag y7.Version, .ref 35 2 0 y7.Fields.length]), (35, .row 126 false 2 y7.Fields.length (cn y7.Fields)), (5, .row 82 true 2 ([(⟨(mk #[103, 105, 118, 101, 110]), 1⟩ : ar), (⟨(mk #[98, 105, 114, 116, 104]), 2⟩ : ar)] : List ar).length (cw ([(⟨(mk #[103, 105, 118, 101, 110]), 1⟩ : ar), (⟨(mk #[98, 105, 114, 116, 104]), 2⟩ : ar)] : List ar))), (1, .row 9 true 1 ([(mk #[100, 114])] : aj).length (Rs ([(mk #[100, 114])] : aj))), (11, .row 84 true 3 ([(⟨64, 2, (-1)⟩ : aC), (⟨128, 3, 0⟩ : aC)] : List aC).length (cC ([(⟨64, 2, (-1)⟩ : aC), (⟨128, 3, 0⟩ : aC)] : List aC)))] 42 [hn, hn, hn, hn, hg [] [5, 1, 11, 15] false 1 (q := ((0 + ([(⟨(mk #[103, 105, 118, 101, 110]), 1⟩ : ar), (⟨(mk #[98, 105, 114, 116, 104]), 2⟩ : ar)] : List ar).length ≤ ([(⟨(mk #[103, 105, 118, 101, 110]), 1⟩ : ar), (⟨(mk #[98, 105, 114, 116, 104]), 2⟩ : ar)] : List ar).length) ∧ (0 + ([(mk #[100, 114])] : aj).length ≤ ([(mk #[100, 114])] : aj).length) ∧ (True) ∧ (True) ∧ (True)) ∧ (0 + ([(⟨64, 2, (-1)⟩ : aC), (⟨128, 3, 0⟩ : aC)] : List aC).length ≤ ([(⟨64, 2, (-1)⟩ : aC), (⟨128, 3, 0⟩ : aC)] : List aC).length) ∧ ((True) ∧ (True) ∧ (True)) ∧ ((True) ∧ (True) ∧ (0 + y1.Values.length ≤ y1.Values.length) ∧ (True)) ∧ (True)) ⟨⟨br, br, tv, tv, tv⟩, br, ⟨tv, tv, tv⟩, ⟨tv, tv, br, tv⟩, tv⟩ (a0 := [.agg [cl 2 cw ([(⟨(mk #[103, 105, 118, 101, 110]), 1⟩ : ar), (⟨(mk #[98, 105, 114, 116, 104]), 2⟩ : ar)] : List ar), cl 1 Rs ([(mk #[100, 114])] : aj), ax, ax], vl 3 cC ([(⟨64, 2, (-1)⟩ : aC), (⟨128, 3, 0⟩ : aC)] : List aC), .agg [aw 5, aw 0], .agg (bL y1)]) (tM (⟨([(⟨(mk #[103, 105, 118, 101, 110]), 1⟩ : ar), (⟨(mk #[98, 105, 114, 116, 104]), 2⟩ : ar)] : List ar), (⟨([(mk #[100, 114])] : aj), ([] : List aA), ([] : List aA)⟩ : aY)⟩ : aK) ([(⟨64, 2, (-1)⟩ : aC), (⟨128, 3, 0⟩ : aC)] : List aC) (⟨5, 0⟩ : hJ) y1 (y7, y8) e9) ⟨aR.agg ⟨bO.refl _, bO.refl _, bO.nil rfl, bO.nil rfl, tv⟩, aR.refl _, aR.refl _, aR.refl _, tv⟩ (fun h => by cases h)] ?_
 obtain ⟨y10, y11, e12, h⟩ := aO h
 refine Fs ae [(10, af y11), (9, pX 50 3)] [24, 46, 50] [(50, .box 70 [ag y10.ID, ag y10.Version, .ref 46 2 0 y10.Fields.length]), (46, .row 126 false 2 y10.Fields.length (cn y10.Fields))] 53 [hn, hn, hn, hn, hg [] [24] false 1 (q := ((0 + ([(⟨(mk #[103, 105, 118, 101, 110]), 1⟩ : ar), (⟨(mk #[98, 105, 114, 116, 104]), 2⟩ : ar)] : List ar).length ≤ ([(⟨(mk #[103, 105, 118, 101, 110]), 1⟩ : ar), (⟨(mk #[98, 105, 114, 116, 104]), 2⟩ : ar)] : List ar).length) ∧ (0 + ([(mk #[100, 114])] : aj).length ≤ ([(mk #[100, 114])] : aj).length) ∧ (True) ∧ (True) ∧ (True)) ∧ (0 + ([(⟨64, 2, (-1)⟩ : aC), (⟨128, 3, 0⟩ : aC)] : List aC).length ≤ ([(⟨64, 2, (-1)⟩ : aC), (⟨128, 3, 0⟩ : aC)] : List aC).length) ∧ ((True) ∧ (True) ∧ (True)) ∧ ((True) ∧ (True) ∧ (0 + y4.Values.length ≤ y4.Values.length) ∧ (True)) ∧ (True)) ⟨⟨br, br, tv, tv, tv⟩, br, ⟨tv, tv, tv⟩, ⟨tv, tv, br, tv⟩, tv⟩ (a0 := [.agg [cl 2 cw ([(⟨(mk #[103, 105, 118, 101, 110]), 1⟩ : ar), (⟨(mk #[98, 105, 114, 116, 104]), 2⟩ : ar)] : List ar), cl 1 Rs ([(mk #[100, 114])] : aj), ax, ax], vl 3 cC ([(⟨64, 2, (-1)⟩ : aC), (⟨128, 3, 0⟩ : aC)] : List aC), .agg [aw 5, aw 0], .agg (bL y4)]) (tM (⟨([(⟨(mk #[103, 105, 118, 101, 110]), 1⟩ : ar), (⟨(mk #[98, 105, 114, 116, 104]), 2⟩ : ar)] : List ar), (⟨([(mk #[100, 114])] : aj), ([] : List aA), ([] : List aA)⟩ : aY)⟩ : aK) ([(⟨64, 2, (-1)⟩ : aC), (⟨128, 3, 0⟩ : aC)] : List aC) (⟨5, 0⟩ : hJ) y4 (y10, y11) e12) ⟨aR.agg ⟨bO.refl _, bO.refl _, bO.nil rfl, bO.nil rfl, tv⟩, aR.refl _, aR.refl _, aR.refl _, tv⟩ (fun h => by cases h)] ?_
 obtain ⟨y13, y14, e15, h⟩ := aO h
 refine Fs ae [(12, af y14), (11, rX 55 1 y13.length)] [55] [(55, .row 3 false 1 y13.length (aF y13))] 61 [hn, hn, hg [] [] true 1 (q := ((True) ∧ (True) ∧ (0 + y7.Fields.length ≤ y7.Fields.length) ∧ (True)) ∧ ((True) ∧ (True) ∧ (0 + y10.Fields.length ≤ y10.Fields.length) ∧ (True)) ∧ (True)) ⟨⟨tv, tv, br, tv⟩, ⟨tv, tv, br, tv⟩, tv⟩ (a0 := [.agg [ag y7.ID, ag y7.Version, cl 2 cn y7.Fields], .agg [ag y10.ID, ag y10.Version, cl 2 cn y10.Fields]]) (xE y7 y10 (y13, y14) e15) ⟨aR.refl _, aR.refl _, tv⟩ (fun _ => ⟨bV xf _ _ _, tv⟩)] ?_
 obtain ⟨y16, y17, e18, h⟩ := aO h
 refine Fs ae [(14, af y17), (13, af y16)] [61] [] 68 [bh 0 db 1 (fun _ => rfl) ([800, 800] : List Int), hn, hg [] [] true 0 (q := (0 + ([800, 800] : List Int).length ≤ ([800, 800] : List Int).length) ∧ (0 + y13.length ≤ y13.length) ∧ (True)) ⟨br, br, tv⟩ (a0 := [vl 1 aF ([800, 800] : List Int), vl 1 aF y13]) (xF ([800, 800] : List Int) y13 (y16, y17) e18) ⟨aR.refl _, aR.refl _, tv⟩ (fun _ => tv)] (seq ?_)
 refine AW.join (ι := Bool) (fun v => ⟨[(0, vb v)], [], 0⟩) (fun v : Bool => dP v = some r) (fun x19 h => ?_) ?_
 ·unfold dP at h
  refine Fp (ret ?_)
  apply al h (vb x19)
 ·rcases aD h with ⟨c20, h⟩ | ⟨c20, h⟩
  ·rcases aD h with ⟨c21, h⟩ | ⟨c21, h⟩
   ·rcases aD h with ⟨c22, h⟩ | ⟨c22, h⟩
    ·rcases aD h with ⟨c23, h⟩ | ⟨c23, h⟩
     ·rcases aD h with ⟨c24, h⟩ | ⟨c24, h⟩
      ·rcases aD h with ⟨c25, h⟩ | ⟨c25, h⟩
       ·rcases aD h with ⟨c26, h⟩ | ⟨c26, h⟩
        ·obtain ⟨g27, h⟩ := aN h
         rcases aD h with ⟨c28, h⟩ | ⟨c28, h⟩
         ·rcases aD h with ⟨c29, h⟩ | ⟨c29, h⟩
          ·obtain ⟨y30, e31, h⟩ := ak h
           refine au ae [(0, vb (y30 == 0))] 110 [hn, ht c20, hn, hn, ht c21, hn, hn, hn, ht c22, hn, hn, hn, ht c23, hn, hn, hn, ht c24, hn, hn, hn, ht c25, hn, hn, hn, hn, ht c26, hn, hn, hn, ho (p := (0 ≤ (0 : Int)) ∧ ((0 : Int) < (y13.length : Int))) (⟨(by decide), g27⟩), ho (p := (0 + 0) < y13.length) (by have h1 : 0 ≤ (0 : Int) := (by decide); have h2 : (0 : Int) < (y13.length : Int) := g27; omega), ht c28, hn, hn, hn, ht c29, hn, hn, hn, hg [] [] true 0 (q := ((0 + ([(⟨(mk #[103, 105, 118, 101, 110]), 1⟩ : ar), (⟨(mk #[98, 105, 114, 116, 104]), 2⟩ : ar)] : List ar).length ≤ ([(⟨(mk #[103, 105, 118, 101, 110]), 1⟩ : ar), (⟨(mk #[98, 105, 114, 116, 104]), 2⟩ : ar)] : List ar).length) ∧ (0 + ([(mk #[100, 114])] : aj).length ≤ ([(mk #[100, 114])] : aj).length) ∧ (True) ∧ (True) ∧ (True)) ∧ (True)) ⟨⟨br, br, tv, tv, tv⟩, tv⟩ (a0 := [.agg [cl 2 cw ([(⟨(mk #[103, 105, 118, 101, 110]), 1⟩ : ar), (⟨(mk #[98, 105, 114, 116, 104]), 2⟩ : ar)] : List ar), cl 1 Rs ([(mk #[100, 114])] : aj), ax, ax]]) (Hr (⟨([(⟨(mk #[103, 105, 118, 101, 110]), 1⟩ : ar), (⟨(mk #[98, 105, 114, 116, 104]), 2⟩ : ar)] : List ar), (⟨([(mk #[100, 114])] : aj), ([] : List aA), ([] : List aA)⟩ : aY)⟩ : aK) y30 e31) ⟨aR.agg ⟨bO.refl _, bO.refl _, bO.nil rfl, bO.nil rfl, tv⟩, tv⟩ (fun _ => tv)] ?_
           exact jl (y30 == 0) h
          ·refine au ae [(0, vb false)] 111 [hn, ht c20, hn, hn, ht c21, hn, hn, hn, ht c22, hn, hn, hn, ht c23, hn, hn, hn, ht c24, hn, hn, hn, ht c25, hn, hn, hn, hn, ht c26, hn, hn, hn, ho (p := (0 ≤ (0 : Int)) ∧ ((0 : Int) < (y13.length : Int))) (⟨(by decide), g27⟩), ho (p := (0 + 0) < y13.length) (by have h1 : 0 ≤ (0 : Int) := (by decide); have h2 : (0 : Int) < (y13.length : Int) := g27; omega), ht c28, hn, hn, hn, hf c29] ?_
           exact jl false h
         ·refine au ae [(0, vb false)] 111 [hn, ht c20, hn, hn, ht c21, hn, hn, hn, ht c22, hn, hn, hn, ht c23, hn, hn, hn, ht c24, hn, hn, hn, ht c25, hn, hn, hn, hn, ht c26, hn, hn, hn, ho (p := (0 ≤ (0 : Int)) ∧ ((0 : Int) < (y13.length : Int))) (⟨(by decide), g27⟩), ho (p := (0 + 0) < y13.length) (by have h1 : 0 ≤ (0 : Int) := (by decide); have h2 : (0 : Int) < (y13.length : Int) := g27; omega), hf c28] ?_
          exact jl false h
        ·refine au ae [(0, vb false)] 111 [hn, ht c20, hn, hn, ht c21, hn, hn, hn, ht c22, hn, hn, hn, ht c23, hn, hn, hn, ht c24, hn, hn, hn, ht c25, hn, hn, hn, hn, hf c26] ?_
         exact jl false h
       ·refine au ae [(0, vb false)] 111 [hn, ht c20, hn, hn, ht c21, hn, hn, hn, ht c22, hn, hn, hn, ht c23, hn, hn, hn, ht c24, hn, hn, hn, hf c25] ?_
        exact jl false h
      ·refine au ae [(0, vb false)] 111 [hn, ht c20, hn, hn, ht c21, hn, hn, hn, ht c22, hn, hn, hn, ht c23, hn, hn, hn, hf c24] ?_
       exact jl false h
     ·refine au ae [(0, vb false)] 111 [hn, ht c20, hn, hn, ht c21, hn, hn, hn, ht c22, hn, hn, hn, hf c23] ?_
      exact jl false h
    ·refine au ae [(0, vb false)] 111 [hn, ht c20, hn, hn, ht c21, hn, hn, hn, hf c22] ?_
     exact jl false h
   ·refine au ae [(0, vb false)] 111 [hn, ht c20, hn, hn, hf c21] ?_
    exact jl false h
  ·refine au ae [(0, vb false)] 111 [hn, hf c20] ?_
   exact jl false h
noncomputable def uY (p0 : List Int) : Option Bool := some (decide ((p0.length : Int) ≤ 400))
theorem CZ (p0 : List Int) (r : Bool) (h : uY p0 = some r) : CT 6 [vl 1 aF p0] [] (vb r) [] := by
 refine an ae 0 Tryz.func6 rfl (fun _ _ _ => ?_)
 unfold uY at h
 refine ah ae [] 1 ?_
 refine ah ae [(2, vb (decide ((p0.length : Int) ≤ 400)))] 5 (ret ?_)
 apply al h (vb (decide ((p0.length : Int) ≤ 400)))
structure aL where
 list : List Int
 at_ : Int
 state : Int
def xG : aL := ⟨([] : List Int), 0, 0⟩
instance : Inhabited aL := ⟨xG⟩
noncomputable def uZ (p0 : List Int) : Option aL := some (⟨p0, 0, 11400714819323198485⟩ : aL)
abbrev bl (x : aL) : List C := [cl 1 aF x.list, ag x.at_, aw x.state]
abbrev bN (n : Nat) (l : List Int) (a s : Int) : az := .box n [cl 1 aF l, ag a, aw s]
theorem C0 (p0 : List Int) (r : aL) (h : uZ p0 = some r) : CT 7 [vl 1 aF p0] [] (.c (.ptr 0 3 0 0)) [(0, .box 89 (bl r))] := by
 refine an ae 0 Tryz.func7 rfl (fun _ _ _ => ?_)
 unfold uZ at h
 refine ah ae [] 1 ?_
 refine Fs ae [(2, pX 3 3)] [3] [(3, bN 89 p0 0 11400714819323198485)] 5 [] (ret ?_)
 obtain rfl := am h
 exact aW (.inr rfl) [(0, 3)] 1 (.c (.ptr 3 3 0 0))
noncomputable def iK (p0 : aL) (x1 : Int) (x2 : Int) : Option (Int × aL) := (some (u64.wrap ((u64.wrap ((u64.wrap (p0.state + x1)) * 6364136223846793005)) + 1442695040888963407))).bind fun z3 => ((some (u64.wrap ((bw .u64 z3 (bJ .u64 z3 33)) * 18397679294719823053))).bind fun z5 => (some (bw .u64 z5 (bJ .u64 z5 29), (⟨p0.list, x2, z3⟩ : aL))))
noncomputable def iR (p0 : aL) : Option (Int × aL) := if (decide (p0.at_ < (p0.list.length : Int))) then (if 0 ≤ p0.at_ then (if p0.at_ < (p0.list.length : Int) then (iK p0 (u64.wrap (p0.list.getD p0.at_.toNat 0)) (i64.wrap (p0.at_ + 1))) else none) else none) else (iK p0 0 p0.at_)
theorem ou (p0 : aL) (r : Int × aL) (h : iR p0 = some r) : CT 32 [.c (.ptr 0 3 0 0)] [(0, .box 89 (bl p0))] (aV r.1) [(0, .box 89 (bl r.2))] := by
 refine an ae 1 Tryz.func32 rfl (fun _ _ _ => ?_)
 unfold iR at h
 refine ah ae [] 2 ?_
 refine ah ae [(3, aV 0)] 3 (seq ?_)
 refine AW.join (ι := Int × Int) (fun v => ⟨[(0, pX 0 3), (3, aV v.1)], [(0, bN 89 p0.list v.2 p0.state)], 1⟩) (fun v : Int × Int => iK p0 v.1 v.2 = some r) (fun v h => ?_) ?_
 ·obtain ⟨x1, x2⟩ := v
  replace h : iK p0 x1 x2 = some r := h
  unfold iK at h
  refine Fp ?_
  obtain ⟨z3, n4, h⟩ := ak h
  replace n4 := am n4
  refine Fs ae [] [0] [(0, bN 89 p0.list x2 z3)] 13 [] ?_ (by subst n4; kernel_rfl)
  refine Fv ae dr [] [(4, aV (bw .u64 z3 (bJ .u64 z3 33)))] [] 24 [hn, hn, hn, hn, hn, hn, hn, hn, ho (p := 0 ≤ (33 : Int)) (by decide)] ?_
  obtain ⟨z5, n6, h⟩ := ak h
  replace n6 := am n6
  refine ah ae [(4, aV z5)] 27 ?_ (by subst n6; kernel_rfl)
  refine ay ae [(2, aV (bw .u64 z5 (bJ .u64 z5 29)))] 32 [hn, hn, ho (p := 0 ≤ (29 : Int)) (by decide)] (ret ?_)
  obtain rfl := am h
  exact aW (.inr rfl) [(0, 0)] 1 (aV (bw .u64 z5 (bJ .u64 z5 29)))
 ·refine Fv ae dr [] [(14, vb (decide (p0.at_ < (p0.list.length : Int))))] [] 13 [] ?_
  refine Fw h (fun c7 h => ?_) (fun c7 h => ?_)
  ·obtain ⟨g8, g9, h⟩ := aG h
   refine Fv ae dr [] [(3, aV (u64.wrap (p0.list.getD p0.at_.toNat 0)))] [] 25 [hn, hn, hn, hn, hn, hn, hn, hn, hq g8 g9] ?_
   refine AW.rg ae [] [0] [(0, bN 89 p0.list (i64.wrap (p0.at_ + 1)) p0.state)] 33 [] ?_
   exact jl (u64.wrap (p0.list.getD p0.at_.toNat 0), i64.wrap (p0.at_ + 1)) h (ai [(0, 0)])
  ·refine skip ?_
   exact jl (0, p0.at_) h (ai [(0, 0)])
noncomputable def cM (p0 : aL) (p1 : Int) : Option (Int × aL) := if (decide (p1 < 1)) then (some (0, p0)) else (aM (iR p0) fun y2 y3 => (if p1 ≠ 0 then (some (((i64.wrap (bJ .u64 y2 1)).tmod p1), y3)) else none))
theorem cV (p0 : aL) (p1 : Int) (r : Int × aL) (h : cM p0 p1 = some r) : CT 30 [.c (.ptr 0 3 0 0), af p1] [(0, .box 89 (bl p0))] (af r.1) [(0, .box 89 (bl r.2))] := by
 refine an ae 1 Tryz.func30 rfl (fun _ _ _ => ?_)
 unfold cM at h
 refine ah ae [] 2 (seq ?_)
 refine ah ae [(6, vb (decide (p1 < 1)))] 4 ?_
 refine Fw h (fun c1 h => ?_) (fun c1 h => ?_)
 ·refine ah ae [(4, af 0)] 5 (ret (Fo ?_))
  obtain rfl := am h
  exact aW (.inr rfl) [(0, 0)] 1 (af 0)
 ·refine skip (Fp ?_)
  obtain ⟨y2, y3, e4, h⟩ := aO h
  obtain ⟨g5, h⟩ := aN h
  refine Fs ae [(4, af ((i64.wrap (bJ .u64 y2 1)).tmod p1))] [0] [(0, .box 89 (bl y3))] 10 [hn, hl [0] [] 0 (ou p0 (y2, y3) e4), ho (p := 0 ≤ (1 : Int)) (by decide), hn, hn, ho g5] (ret ?_)
  obtain rfl := am h
  exact aW (.inr rfl) [(0, 0)] 1 (af ((i64.wrap (bJ .u64 y2 1)).tmod p1))
noncomputable def dK (p0 : aL) (p1 : Int) : Option (Bool × aL) := aM (cM p0 p1) fun y1 y2 => (some ((y1 == 0), y2))
theorem dJ (p0 : aL) (p1 : Int) (r : Bool × aL) (h : dK p0 p1 = some r) : CT 31 [.c (.ptr 0 3 0 0), af p1] [(0, .box 89 (bl p0))] (vb r.1) [(0, .box 89 (bl r.2))] := by
 refine an ae 1 Tryz.func31 rfl (fun _ _ _ => ?_)
 unfold dK at h
 refine ah ae [] 2 ?_
 obtain ⟨y1, y2, e3, h⟩ := aO h
 refine Fs ae [(4, vb (y1 == 0))] [0] [(0, .box 89 (bl y2))] 6 [hn, hn, hl [0] [] 0 (cV p0 p1 (y1, y2) e3)] (ret ?_)
 obtain rfl := am h
 exact aW (.inr rfl) [(0, 0)] 1 (vb (y1 == 0))
noncomputable def iF (x4 : List ByteArray) (x8 : List aA) (x9 : List Int) (x10 : Int) (x11 : Int) (x12 : List aA) : Option (aY × aL) := some ((⟨x4, x8, x12⟩ : aY), (⟨x9, x10, x11⟩ : aL))
noncomputable def iG (x4 : List ByteArray) (x5 : List Int) (x6 : Int) (x7 : Int) (x8 : List aA) : Option (aY × aL) := aM (dK (⟨x5, x6, x7⟩ : aL) 2) fun y13 y14 => (if y13 then (iF x4 x8 y14.list y14.at_ y14.state ([(⟨(mk #[114, 100]), (mk #[114, 111, 97, 100])⟩ : aA), (⟨(mk #[115, 116]), (mk #[115, 116, 114, 101, 101, 116])⟩ : aA)] : List aA)) else (iF x4 x8 y14.list y14.at_ y14.state ([] : List aA)))
noncomputable def iH (x1 : List Int) (x2 : Int) (x3 : Int) (x4 : List ByteArray) : Option (aY × aL) := aM (dK (⟨x1, x2, x3⟩ : aL) 2) fun y17 y18 => (if y17 then (iG x4 y18.list y18.at_ y18.state ([(⟨(mk #[97, 110, 110, 97]), (mk #[97, 110, 110])⟩ : aA), (⟨(mk #[98, 111, 98]), (mk #[114, 111, 98, 101, 114, 116])⟩ : aA)] : List aA)) else (iG x4 y18.list y18.at_ y18.state ([] : List aA)))
noncomputable def oP (p0 : aL) : Option (aY × aL) := aM (dK p0 2) fun y21 y22 => (if y21 then (iH y22.list y22.at_ y22.state ([(mk #[100, 114]), (mk #[118, 97, 110])] : aj)) else (iH y22.list y22.at_ y22.state ([] : aj)))
theorem xH (p0 : aL) (r : aY × aL) (h : oP p0 = some r) : CT 29 [.c (.ptr 0 3 0 0)] [(0, .box 89 (bl p0))] (.agg [.ref 1 1 0 r.1.Titles.length, .ref 2 2 0 r.1.Nicknames.length, .ref 3 2 0 r.1.Streets.length]) [(0, .box 89 (bl r.2)), (1, .row 9 false 1 r.1.Titles.length (Rs r.1.Titles)), (2, .row 149 false 2 r.1.Nicknames.length (bv r.1.Nicknames)), (3, .row 149 false 2 r.1.Streets.length (bv r.1.Streets))] := by
 refine an ae 1 Tryz.func29 rfl (fun _ _ _ => ?_)
 unfold oP at h
 refine Fs ae [(2, pX 1 3)] [1] [(1, .box 31 [ax, ax, ax])] 2 [] ?_
 refine Fs ae [(3, pX 2 3)] [2] [(2, .box 31 [ax, ax, ax])] 3 [] (seq ?_)
 refine AW.join (ι := (List Int) × Int × Int × (List ByteArray)) (fun v => ⟨[(0, pX 0 3), (2, pX 1 3), (3, pX 2 3)], [(0, bN 89 v.1 v.2.1 v.2.2.1), (1, .box 31 [ax, ax, ax]), (2, .box 31 [.ref 3 1 0 v.2.2.2.length, ax, ax]), (3, .row 9 false 1 v.2.2.2.length (Rs v.2.2.2))], 4⟩) (fun v : (List Int) × Int × Int × (List ByteArray) => iH v.1 v.2.1 v.2.2.1 v.2.2.2 = some r) (fun v h => ?_) ?_
 ·obtain ⟨x1, x2, x3, x4⟩ := v
  replace h : iH x1 x2 x3 x4 = some r := h
  unfold iH at h
  refine Fp (seq ?_)
  refine AW.join (ι := (List Int) × Int × Int × (List aA)) (fun v => ⟨[(0, pX 0 3), (2, pX 1 3), (3, pX 2 3)], [(0, bN 89 v.1 v.2.1 v.2.2.1), (1, .box 31 [ax, ax, ax]), (2, .box 31 [.ref 3 1 0 x4.length, .ref 4 2 0 v.2.2.2.length, ax]), (3, .row 9 false 1 x4.length (Rs x4)), (4, .row 149 false 2 v.2.2.2.length (bv v.2.2.2))], 5⟩) (fun v : (List Int) × Int × Int × (List aA) => iG x4 v.1 v.2.1 v.2.2.1 v.2.2.2 = some r) (fun v h => ?_) ?_
  ·obtain ⟨x5, x6, x7, x8⟩ := v
   replace h : iG x4 x5 x6 x7 x8 = some r := h
   unfold iG at h
   refine Fp (seq ?_)
   refine AW.join (ι := (List Int) × Int × Int × (List aA)) (fun v => ⟨[(2, pX 1 3), (3, pX 2 3)], [(0, bN 89 v.1 v.2.1 v.2.2.1), (1, .box 31 [ax, ax, ax]), (2, .box 31 [.ref 3 1 0 x4.length, .ref 4 2 0 x8.length, .ref 5 2 0 v.2.2.2.length]), (3, .row 9 false 1 x4.length (Rs x4)), (4, .row 149 false 2 x8.length (bv x8)), (5, .row 149 false 2 v.2.2.2.length (bv v.2.2.2))], 6⟩) (fun v : (List Int) × Int × Int × (List aA) => iF x4 x8 v.1 v.2.1 v.2.2.1 v.2.2.2 = some r) (fun v h => ?_) ?_
   ·obtain ⟨x9, x10, x11, x12⟩ := v
    replace h : iF x4 x8 x9 x10 x11 x12 = some r := h
    unfold iF at h
    refine Fp ?_
    refine Fs ae [] [1] [(1, .box 31 [.ref 3 1 0 x4.length, .ref 4 2 0 x8.length, .ref 5 2 0 x12.length])] 8 [] (ret ?_)
    obtain rfl := am h
    exact aW (.inr rfl) [(0, 0), (1, 3), (2, 4), (3, 5)] 4 (.agg [.ref 3 1 0 x4.length, .ref 4 2 0 x8.length, .ref 5 2 0 x12.length])
   ·obtain ⟨y13, y14, e15, h⟩ := aO h
    refine Fs ae [(15, vb y13)] [0] [(0, .box 89 (bl y14))] 6 [hn, hl [0] [] 0 (dJ (⟨x5, x6, x7⟩ : aL) 2 (y13, y14) e15)] ?_
    refine Fw h (fun c16 h => ?_) (fun c16 h => ?_)
    ·refine AW.rg ae [] [2, 8] [(2, .box 31 [.ref 3 1 0 x4.length, .ref 4 2 0 x8.length, .ref 8 2 0 (([(⟨(mk #[114, 100]), (mk #[114, 111, 97, 100])⟩ : aA), (⟨(mk #[115, 116]), (mk #[115, 116, 114, 101, 101, 116])⟩ : aA)] : List aA).length)]), (8, .row 149 false 2 ([(⟨(mk #[114, 100]), (mk #[114, 111, 97, 100])⟩ : aA), (⟨(mk #[115, 116]), (mk #[115, 116, 114, 101, 101, 116])⟩ : aA)] : List aA).length (bv ([(⟨(mk #[114, 100]), (mk #[114, 111, 97, 100])⟩ : aA), (⟨(mk #[115, 116]), (mk #[115, 116, 114, 101, 101, 116])⟩ : aA)] : List aA)))] 11 [hn, hn, bh bK md 2 (fun _ => rfl) ([(⟨(mk #[114, 100]), (mk #[114, 111, 97, 100])⟩ : aA), (⟨(mk #[115, 116]), (mk #[115, 116, 114, 101, 101, 116])⟩ : aA)] : List aA)] ?_
     exact jl (y14.list, y14.at_, y14.state, ([(⟨(mk #[114, 100]), (mk #[114, 111, 97, 100])⟩ : aA), (⟨(mk #[115, 116]), (mk #[115, 116, 114, 101, 101, 116])⟩ : aA)] : List aA)) h (ai [(0, 0), (1, 1), (2, 2), (3, 3), (4, 4), (5, 8)])
    ·refine skip ?_
     exact jl (y14.list, y14.at_, y14.state, ([] : List aA)) h (Conv.trans (cX (id := 2) (ty0 := 31) (cs := [.ref 3 1 0 x4.length, .ref 4 2 0 x8.length, ax]) 2 (ty := 149) (sz := 2) (n := ([] : List aA).length) (f := bv ([] : List aA)) (by kernel_rfl) (by kernel_rfl) rfl) (ai [(0, 0), (1, 1), (2, 2), (3, 3), (4, 4), (5, 6)]))
  ·obtain ⟨y17, y18, e19, h⟩ := aO h
   refine Fs ae [(9, vb y17)] [0] [(0, .box 89 (bl y18))] 5 [hn, hl [0] [] 0 (dJ (⟨x1, x2, x3⟩ : aL) 2 (y17, y18) e19)] ?_
   refine Fw h (fun c20 h => ?_) (fun c20 h => ?_)
   ·refine AW.rg ae [] [2, 7] [(2, .box 31 [.ref 3 1 0 x4.length, .ref 7 2 0 (([(⟨(mk #[97, 110, 110, 97]), (mk #[97, 110, 110])⟩ : aA), (⟨(mk #[98, 111, 98]), (mk #[114, 111, 98, 101, 114, 116])⟩ : aA)] : List aA).length), ax]), (7, .row 149 false 2 ([(⟨(mk #[97, 110, 110, 97]), (mk #[97, 110, 110])⟩ : aA), (⟨(mk #[98, 111, 98]), (mk #[114, 111, 98, 101, 114, 116])⟩ : aA)] : List aA).length (bv ([(⟨(mk #[97, 110, 110, 97]), (mk #[97, 110, 110])⟩ : aA), (⟨(mk #[98, 111, 98]), (mk #[114, 111, 98, 101, 114, 116])⟩ : aA)] : List aA)))] 10 [hn, hn, bh bK md 2 (fun _ => rfl) ([(⟨(mk #[97, 110, 110, 97]), (mk #[97, 110, 110])⟩ : aA), (⟨(mk #[98, 111, 98]), (mk #[114, 111, 98, 101, 114, 116])⟩ : aA)] : List aA)] ?_
    exact jl (y18.list, y18.at_, y18.state, ([(⟨(mk #[97, 110, 110, 97]), (mk #[97, 110, 110])⟩ : aA), (⟨(mk #[98, 111, 98]), (mk #[114, 111, 98, 101, 114, 116])⟩ : aA)] : List aA)) h (ai [(0, 0), (1, 1), (2, 2), (3, 3), (4, 7)])
   ·refine skip ?_
    exact jl (y18.list, y18.at_, y18.state, ([] : List aA)) h (Conv.trans (cX (id := 2) (ty0 := 31) (cs := [.ref 3 1 0 x4.length, ax, ax]) 1 (ty := 149) (sz := 2) (n := ([] : List aA).length) (f := bv ([] : List aA)) (by kernel_rfl) (by kernel_rfl) rfl) (ai [(0, 0), (1, 1), (2, 2), (3, 3), (4, 5)]))
 ·obtain ⟨y21, y22, e23, h⟩ := aO h
  refine Fs ae [(5, vb y21)] [0] [(0, .box 89 (bl y22))] 4 [hn, hl [0] [] 0 (dJ p0 2 (y21, y22) e23)] ?_
  refine Fw h (fun c24 h => ?_) (fun c24 h => ?_)
  ·refine AW.rg ae [] [2, 4] [(2, .box 31 [.ref 4 1 0 (([(mk #[100, 114]), (mk #[118, 97, 110])] : aj).length), ax, ax]), (4, .row 9 false 1 ([(mk #[100, 114]), (mk #[118, 97, 110])] : aj).length (Rs ([(mk #[100, 114]), (mk #[118, 97, 110])] : aj)))] 7 [bh mt Es 1 (fun _ => rfl) ([(mk #[100, 114]), (mk #[118, 97, 110])] : aj)] ?_
   exact jl (y22.list, y22.at_, y22.state, ([(mk #[100, 114]), (mk #[118, 97, 110])] : aj)) h (ai [(0, 0), (1, 1), (2, 2), (3, 4)])
  ·refine skip ?_
   exact jl (y22.list, y22.at_, y22.state, ([] : aj)) h (Conv.trans (cX (id := 2) (ty0 := 31) (cs := [ax, ax, ax]) 0 (ty := 9) (sz := 1) (n := ([] : aj).length) (f := Rs ([] : aj)) (by kernel_rfl) (by kernel_rfl) rfl) (ai [(0, 0), (1, 1), (2, 2), (3, 4)]))
noncomputable def iD (x12 : Int) (x16 : List ar) (x24 : Int) (x25 : List Int) (x26 : Int) (x27 : Int) : Option ((Int × (List Int) × Int × Int × (List ar)) ⊕ ((List Int) × Int × Int × (List ar))) := if x12 < (([(mk #[102, 97, 109, 105, 108, 121]), (mk #[103, 105, 118, 101, 110]), (mk #[98, 105, 114, 116, 104]), (mk #[115, 116, 114, 101, 101, 116]), (mk #[99, 111, 100, 101])] : aj).length : Int) then (if x16.length + ([(⟨(([(mk #[102, 97, 109, 105, 108, 121]), (mk #[103, 105, 118, 101, 110]), (mk #[98, 105, 114, 116, 104]), (mk #[115, 116, 114, 101, 101, 116]), (mk #[99, 111, 100, 101])] : aj).getD (0 + x12.toNat) mt), x24⟩ : ar)] : List ar).length ≤ 1099511627776 then (some (.inl (i64.wrap (x12 + 1), x25, x26, x27, (x16 ++ ([(⟨(([(mk #[102, 97, 109, 105, 108, 121]), (mk #[103, 105, 118, 101, 110]), (mk #[98, 105, 114, 116, 104]), (mk #[115, 116, 114, 101, 101, 116]), (mk #[99, 111, 100, 101])] : aj).getD (0 + x12.toNat) mt), x24⟩ : ar)] : List ar))))) else none) else none
noncomputable def og (y4 : Int) (x12 : Int) (x13 : List Int) (x14 : Int) (x15 : Int) (x16 : List ar) : Option ((Int × (List Int) × Int × Int × (List ar)) ⊕ ((List Int) × Int × Int × (List ar))) := if (decide (x12 < (i64.wrap (1 + y4)))) then (if 0 ≤ x12 then (if x12 < (([1, 1, 2, 4, 3] : List Int).length : Int) then (aM (dK (⟨x13, x14, x15⟩ : aL) 4) fun y30 y31 => (if y30 then (aM (cM y31 4) fun y34 y35 => (iD x12 x16 (i64.wrap (1 + y34)) y35.list y35.at_ y35.state)) else (iD x12 x16 (([1, 1, 2, 4, 3] : List Int).getD (0 + x12.toNat) 0) y31.list y31.at_ y31.state))) else none) else none) else (some (.inr (x13, x14, x15, x16)))
noncomputable def tz (p0 : aL) : Option (aK × aL) := aM (oP p0) fun y1 y2 => (aM (cM y2 4) fun y4 y5 => (dZ (loop (fun v : Int × (List Int) × Int × Int × (List ar) => og y4 v.1 v.2.1 v.2.2.1 v.2.2.2.1 v.2.2.2.2) (0, y5.list, y5.at_, y5.state, ([] : List ar))) fun x37 x38 x39 x40 => (some ((⟨x40, y1⟩ : aK), (⟨x37, x38, x39⟩ : aL)))))
theorem CO (p0 : aL) (r : aK × aL) (h : tz p0 = some r) : CT 8 [.c (.ptr 0 3 0 0)] [(0, .box 89 (bl p0))] (.agg [.ref 1 2 0 r.1.Fields.length, .ref 2 1 0 r.1.Rules.Titles.length, .ref 3 2 0 r.1.Rules.Nicknames.length, .ref 4 2 0 r.1.Rules.Streets.length]) [(0, .box 89 (bl r.2)), (1, .row 82 false 2 r.1.Fields.length (cw r.1.Fields)), (2, .row 9 false 1 r.1.Rules.Titles.length (Rs r.1.Rules.Titles)), (3, .row 149 false 2 r.1.Rules.Nicknames.length (bv r.1.Rules.Nicknames)), (4, .row 149 false 2 r.1.Rules.Streets.length (bv r.1.Rules.Streets))] := by
 refine an ae 1 Tryz.func8 rfl (fun _ _ _ => ?_)
 unfold tz at h
 refine Fs ae [(2, pX 1 4)] [1] [(1, .box 33 [ax, ax, ax, ax])] 2 [] ?_
 obtain ⟨y1, y2, e3, h⟩ := aO h
 refine Fs ae [(3, pX 7 4)] [0, 3, 4, 5, 7] [(7, .box 33 [ax, .ref 3 1 0 y1.Titles.length, .ref 4 2 0 y1.Nicknames.length, .ref 5 2 0 y1.Streets.length]), (0, .box 89 (bl y2)), (3, .row 9 false 1 y1.Titles.length (Rs y1.Titles)), (4, .row 149 false 2 y1.Nicknames.length (bv y1.Nicknames)), (5, .row 149 false 2 y1.Streets.length (bv y1.Streets))] 9 [hn, hl [0] [] 3 (xH p0 (y1, y2) e3)] ?_
 refine Fs ae [(4, .c (.ref 9 1 0 (([(mk #[102, 97, 109, 105, 108, 121]), (mk #[103, 105, 118, 101, 110]), (mk #[98, 105, 114, 116, 104]), (mk #[115, 116, 114, 101, 101, 116]), (mk #[99, 111, 100, 101])] : aj).length)))] [9] [(9, .row 9 false 1 ([(mk #[102, 97, 109, 105, 108, 121]), (mk #[103, 105, 118, 101, 110]), (mk #[98, 105, 114, 116, 104]), (mk #[115, 116, 114, 101, 101, 116]), (mk #[99, 111, 100, 101])] : aj).length (Rs ([(mk #[102, 97, 109, 105, 108, 121]), (mk #[103, 105, 118, 101, 110]), (mk #[98, 105, 114, 116, 104]), (mk #[115, 116, 114, 101, 101, 116]), (mk #[99, 111, 100, 101])] : aj)))] 11 [bh mt Es 1 (fun _ => rfl) ([(mk #[102, 97, 109, 105, 108, 121]), (mk #[103, 105, 118, 101, 110]), (mk #[98, 105, 114, 116, 104]), (mk #[115, 116, 114, 101, 101, 116]), (mk #[99, 111, 100, 101])] : aj)] ?_
 obtain ⟨y4, y5, e6, h⟩ := aO h
 refine Fs ae [(5, af (i64.wrap (1 + y4)))] [0] [(0, .box 89 (bl y5))] 14 [hn, hl [0] [] 0 (cV y2 4 (y4, y5) e6)] (seq ?_)
 refine ah ae [(6, af 0)] 15 (block ?_)
 obtain ⟨x37, x38, x39, x40, l41, h⟩ := fJ h
 refine Fy l41 (fun v => ⟨[(0, pX 0 3), (2, pX 1 4), (3, pX 2 4), (4, .c (.ref 3 1 0 (([(mk #[102, 97, 109, 105, 108, 121]), (mk #[103, 105, 118, 101, 110]), (mk #[98, 105, 114, 116, 104]), (mk #[115, 116, 114, 101, 101, 116]), (mk #[99, 111, 100, 101])] : aj).length))), (5, af (i64.wrap (1 + y4))), (6, af v.1)], [(0, bN 89 v.2.1 v.2.2.1 v.2.2.2.1), (1, .box 33 [ax, ax, ax, ax]), (2, .box 33 [.ref 4 2 0 v.2.2.2.2.length, .ref 5 1 0 y1.Titles.length, .ref 6 2 0 y1.Nicknames.length, .ref 7 2 0 y1.Streets.length]), (3, .row 9 false 1 ([(mk #[102, 97, 109, 105, 108, 121]), (mk #[103, 105, 118, 101, 110]), (mk #[98, 105, 114, 116, 104]), (mk #[115, 116, 114, 101, 101, 116]), (mk #[99, 111, 100, 101])] : aj).length (Rs ([(mk #[102, 97, 109, 105, 108, 121]), (mk #[103, 105, 118, 101, 110]), (mk #[98, 105, 114, 116, 104]), (mk #[115, 116, 114, 101, 101, 116]), (mk #[99, 111, 100, 101])] : aj))), (4, .row 82 false 2 v.2.2.2.2.length (cw v.2.2.2.2)), (5, .row 9 false 1 y1.Titles.length (Rs y1.Titles)), (6, .row 149 false 2 y1.Nicknames.length (bv y1.Nicknames)), (7, .row 149 false 2 y1.Streets.length (bv y1.Streets))], 8⟩) (fun t : (List Int) × Int × Int × (List ar) => (.exit 0, ⟨[(2, pX 1 4), (3, pX 2 4)], [(0, bN 89 t.1 t.2.1 t.2.2.1), (1, .box 33 [ax, ax, ax, ax]), (2, .box 33 [.ref 3 2 0 t.2.2.2.length, .ref 4 1 0 y1.Titles.length, .ref 5 2 0 y1.Nicknames.length, .ref 6 2 0 y1.Streets.length]), (3, .row 82 false 2 t.2.2.2.length (cw t.2.2.2)), (4, .row 9 false 1 y1.Titles.length (Rs y1.Titles)), (5, .row 149 false 2 y1.Nicknames.length (bv y1.Nicknames)), (6, .row 149 false 2 y1.Streets.length (bv y1.Streets))], 7⟩)) (Conv.trans (cX (id := 7) (ty0 := 33) (cs := [ax, .ref 3 1 0 y1.Titles.length, .ref 4 2 0 y1.Nicknames.length, .ref 5 2 0 y1.Streets.length]) 0 (ty := 82) (sz := 2) (n := ([] : List ar).length) (f := cw ([] : List ar)) (by kernel_rfl) (by kernel_rfl) rfl) (ai [(0, 0), (1, 1), (2, 7), (3, 9), (4, 15), (5, 3), (6, 4), (7, 5)])) (fun _ => tv) ?_ ?_
 ·clear l41 h
  intro v o h
  obtain ⟨x12, x13, x14, x15, x16⟩ := v
  replace h : og y4 x12 x13 x14 x15 x16 = some o := h
  unfold og at h
  refine seq ?_
  refine ah ae [(17, vb (decide (x12 < (i64.wrap (1 + y4)))))] 11 ?_
  refine Fw h (fun c21 h => ?_) (fun c21 h => ?_)
  ·refine skip (Fp ?_)
   refine seq (block ?_)
   obtain ⟨g22, g23, h⟩ := aG h
   refine Fs ae [(7, af (([1, 1, 2, 4, 3] : List Int).getD (0 + x12.toNat) 0))] [11] [] 16 [bh 0 db 1 (fun _ => rfl) ([1, 1, 2, 4, 3] : List Int), hn, hq g22 g23, ho (p := (0 + x12.toNat) < ([1, 1, 2, 4, 3] : List Int).length) (by have h1 : 0 ≤ x12 := g22; have h2 : x12 < (([1, 1, 2, 4, 3] : List Int).length : Int) := g23; omega)] (seq ?_)
   refine AW.join (ι := Int × (List Int) × Int × Int) (fun v => ⟨[(0, pX 0 3), (2, pX 1 4), (3, pX 2 4), (4, .c (.ref 3 1 0 (([(mk #[102, 97, 109, 105, 108, 121]), (mk #[103, 105, 118, 101, 110]), (mk #[98, 105, 114, 116, 104]), (mk #[115, 116, 114, 101, 101, 116]), (mk #[99, 111, 100, 101])] : aj).length))), (5, af (i64.wrap (1 + y4))), (6, af x12), (7, af v.1)], [(0, bN 89 v.2.1 v.2.2.1 v.2.2.2), (1, .box 33 [ax, ax, ax, ax]), (2, .box 33 [.ref 4 2 0 x16.length, .ref 5 1 0 y1.Titles.length, .ref 6 2 0 y1.Nicknames.length, .ref 7 2 0 y1.Streets.length]), (3, .row 9 false 1 ([(mk #[102, 97, 109, 105, 108, 121]), (mk #[103, 105, 118, 101, 110]), (mk #[98, 105, 114, 116, 104]), (mk #[115, 116, 114, 101, 101, 116]), (mk #[99, 111, 100, 101])] : aj).length (Rs ([(mk #[102, 97, 109, 105, 108, 121]), (mk #[103, 105, 118, 101, 110]), (mk #[98, 105, 114, 116, 104]), (mk #[115, 116, 114, 101, 101, 116]), (mk #[99, 111, 100, 101])] : aj))), (4, .row 82 false 2 x16.length (cw x16)), (5, .row 9 false 1 y1.Titles.length (Rs y1.Titles)), (6, .row 149 false 2 y1.Nicknames.length (bv y1.Nicknames)), (7, .row 149 false 2 y1.Streets.length (bv y1.Streets))], 8⟩) (fun v : Int × (List Int) × Int × Int => iD x12 x16 v.1 v.2.1 v.2.2.1 v.2.2.2 = some o) (fun v h => ?_) ?_
   ·obtain ⟨x24, x25, x26, x27⟩ := v
    replace h : iD x12 x16 x24 x25 x26 x27 = some o := h
    unfold iD at h
    refine Fp ?_
    obtain ⟨g28, g29, h⟩ := aG h
    refine Fu ae dr [[], [], [], [], [], [], [], [], [16], [17, 4], [], [2]] [] [(2, .box 33 [.ref 17 2 0 ((x16 ++ ([(⟨(([(mk #[102, 97, 109, 105, 108, 121]), (mk #[103, 105, 118, 101, 110]), (mk #[98, 105, 114, 116, 104]), (mk #[115, 116, 114, 101, 101, 116]), (mk #[99, 111, 100, 101])] : aj).getD (0 + x12.toNat) mt), x24⟩ : ar)] : List ar)).length), .ref 5 1 0 y1.Titles.length, .ref 6 2 0 y1.Nicknames.length, .ref 7 2 0 y1.Streets.length]), (17, .row 82 false 2 (x16 ++ ([(⟨(([(mk #[102, 97, 109, 105, 108, 121]), (mk #[103, 105, 118, 101, 110]), (mk #[98, 105, 114, 116, 104]), (mk #[115, 116, 114, 101, 101, 116]), (mk #[99, 111, 100, 101])] : aj).getD (0 + x12.toNat) mt), x24⟩ : ar)] : List ar)).length (cw (x16 ++ ([(⟨(([(mk #[102, 97, 109, 105, 108, 121]), (mk #[103, 105, 118, 101, 110]), (mk #[98, 105, 114, 116, 104]), (mk #[115, 116, 114, 101, 101, 116]), (mk #[99, 111, 100, 101])] : aj).getD (0 + x12.toNat) mt), x24⟩ : ar)] : List ar))))] 20 [hn, hn, hn, hn, hq g22 g28, ho (p := (0 + x12.toNat) < ([(mk #[102, 97, 109, 105, 108, 121]), (mk #[103, 105, 118, 101, 110]), (mk #[98, 105, 114, 116, 104]), (mk #[115, 116, 114, 101, 101, 116]), (mk #[99, 111, 100, 101])] : aj).length) (by have h1 : 0 ≤ x12 := g22; have h2 : x12 < (([(mk #[102, 97, 109, 105, 108, 121]), (mk #[103, 105, 118, 101, 110]), (mk #[98, 105, 114, 116, 104]), (mk #[115, 116, 114, 101, 101, 116]), (mk #[99, 111, 100, 101])] : aj).length : Int) := g28; omega), hn, hn, bh bq jp 2 (fun _ => rfl) ([(⟨(([(mk #[102, 97, 109, 105, 108, 121]), (mk #[103, 105, 118, 101, 110]), (mk #[98, 105, 114, 116, 104]), (mk #[115, 116, 114, 101, 101, 116]), (mk #[99, 111, 100, 101])] : aj).getD (0 + x12.toNat) mt), x24⟩ : ar)] : List ar), bY bq jp 2 24 x16 ([(⟨(([(mk #[102, 97, 109, 105, 108, 121]), (mk #[103, 105, 118, 101, 110]), (mk #[98, 105, 114, 116, 104]), (mk #[115, 116, 114, 101, 101, 116]), (mk #[99, 111, 100, 101])] : aj).getD (0 + x12.toNat) mt), x24⟩ : ar)] : List ar) g29 (by decide)] ?_
    refine Fj (Fp ?_)
    refine aS ae [(6, af (i64.wrap (x12 + 1)))] 23 ?_
    exact bu h (ai [(0, 0), (1, 1), (2, 2), (3, 3), (4, 17), (5, 5), (6, 6), (7, 7)])
   ·obtain ⟨y30, y31, e32, h⟩ := aO h
    refine Fs ae [(25, vb y30)] [0] [(0, .box 89 (bl y31))] 17 [hn, hl [0] [] 0 (dJ (⟨x13, x14, x15⟩ : aL) 4 (y30, y31) e32)] ?_
    refine Fw h (fun c33 h => ?_) (fun c33 h => ?_)
    ·obtain ⟨y34, y35, e36, h⟩ := aO h
     refine AW.rg ae [(7, af (i64.wrap (1 + y34)))] [0] [(0, .box 89 (bl y35))] 20 [hn, hl [0] [] 0 (cV y31 4 (y34, y35) e36)] ?_
     exact jl (i64.wrap (1 + y34), y35.list, y35.at_, y35.state) h (ai [(0, 0), (1, 1), (2, 2), (3, 3), (4, 4), (5, 5), (6, 6), (7, 7)])
    ·refine skip ?_
     exact jl ((([1, 1, 2, 4, 3] : List Int).getD (0 + x12.toNat) 0), y31.list, y31.at_, y31.state) h (ai [(0, 0), (1, 1), (2, 2), (3, 3), (4, 4), (5, 5), (6, 6), (7, 7)])
  ·refine exit (Fb ?_)
   exact aU h rfl (ai [(0, 0), (1, 1), (2, 2), (3, 4), (4, 5), (5, 6), (6, 7)])
 ·show (_ : Exit → St → Prop) (.exit 0) _
  refine E6 (Fp ?_)
  refine Fs ae [] [1] [(1, .box 33 [.ref 3 2 0 x40.length, .ref 4 1 0 y1.Titles.length, .ref 5 2 0 y1.Nicknames.length, .ref 6 2 0 y1.Streets.length])] 9 [] (ret ?_)
  obtain rfl := am h
  exact aW (.inr rfl) [(0, 0), (1, 3), (2, 4), (3, 5), (4, 6)] 5 (.agg [.ref 3 2 0 x40.length, .ref 4 1 0 y1.Titles.length, .ref 5 2 0 y1.Nicknames.length, .ref 6 2 0 y1.Streets.length])
noncomputable def iy (x6 : List aC) (x7 : Int) (y16 : Int) (y19 : Int) (x22 : List Int) (x23 : Int) (x24 : Int) (x25 : Int) : Option (((List aC) × Int × (List Int) × Int × Int) ⊕ ((List aC) × (List Int) × Int × Int)) := if x6.length + ([(⟨i64.wrap (64 * (i64.wrap (1 + y16))), i64.wrap (1 + y19), x25⟩ : aC)] : List aC).length ≤ 1099511627776 then (some (.inl ((x6 ++ ([(⟨i64.wrap (64 * (i64.wrap (1 + y16))), i64.wrap (1 + y19), x25⟩ : aC)] : List aC)), i64.wrap (x7 + 1), x22, x23, x24))) else none
noncomputable def iz (p1 : Int) (x6 : List aC) (x7 : Int) (y16 : Int) (y19 : Int) (x27 : Bool) (x28 : List Int) (x29 : Int) (x30 : Int) : Option (((List aC) × Int × (List Int) × Int × Int) ⊕ ((List aC) × (List Int) × Int × Int)) := if x27 then (if p1 ≠ 0 then (iy x6 x7 y16 y19 x28 x29 x30 ((i64.wrap (x7 + 1)).tmod p1)) else none) else (iy x6 x7 y16 y19 x28 x29 x30 (-1))
noncomputable def nX (p1 : Int) (x6 : List aC) (x7 : Int) (x8 : List Int) (x9 : Int) (x10 : Int) : Option (((List aC) × Int × (List Int) × Int × Int) ⊕ ((List aC) × (List Int) × Int × Int)) := if (decide (x7 < p1)) then (aM (cM (⟨x8, x9, x10⟩ : aL) 3) fun y16 y17 => (aM (cM y17 6) fun y19 y20 => (if (decide (p1 > 1)) then (aM (dK y20 3) fun y34 y35 => (iz p1 x6 x7 y16 y19 y34 y35.list y35.at_ y35.state)) else (iz p1 x6 x7 y16 y19 false y20.list y20.at_ y20.state)))) else (some (.inr (x6, x8, x9, x10)))
noncomputable def td (p0 : aL) (p1 : Int) : Option ((List aC) × aL) := dZ (loop (fun v : (List aC) × Int × (List Int) × Int × Int => nX p1 v.1 v.2.1 v.2.2.1 v.2.2.2.1 v.2.2.2.2) (([] : List aC), 0, p0.list, p0.at_, p0.state)) fun x37 x38 x39 x40 => (some (x37, (⟨x38, x39, x40⟩ : aL)))
theorem CM (p0 : aL) (p1 : Int) (r : (List aC) × aL) (h : td p0 p1 = some r) : CT 9 [.c (.ptr 0 3 0 0), af p1] [(0, .box 89 (bl p0))] (.c (.ref 1 3 0 r.1.length)) [(0, .box 89 (bl r.2)), (1, .row 84 false 3 r.1.length (cC r.1))] := by
 refine an ae 1 Tryz.func9 rfl (fun _ _ _ => ?_)
 unfold td at h
 refine ah ae [] 2 ?_
 refine ah ae [(5, .c (ax))] 3 (seq ?_)
 refine ah ae [(6, af 0)] 4 (block ?_)
 obtain ⟨x37, x38, x39, x40, l41, h⟩ := fJ h
 refine Fy l41 (fun v => ⟨[(0, pX 0 3), (1, af p1), (5, rX 1 3 v.1.length), (6, af v.2.1)], [(0, bN 89 v.2.2.1 v.2.2.2.1 v.2.2.2.2), (1, .row 84 false 3 v.1.length (cC v.1))], 2⟩) (fun t : (List aC) × (List Int) × Int × Int => (.exit 0, ⟨[(5, rX 1 3 t.1.length)], [(0, bN 89 t.2.1 t.2.2.1 t.2.2.2), (1, .row 84 false 3 t.1.length (cC t.1))], 2⟩)) (Conv.trans (cg (t := 5) (ty := 84) (sz := 3) (n := ([] : List aC).length) (f := cC ([] : List aC)) (by kernel_rfl) rfl) (ai [(0, 0), (1, 4)])) (fun _ => tv) ?_ ?_
 ·clear l41 h
  intro v o h
  obtain ⟨x6, x7, x8, x9, x10⟩ := v
  replace h : nX p1 x6 x7 x8 x9 x10 = some o := h
  unfold nX at h
  refine seq ?_
  refine ah ae [(10, vb (decide (x7 < p1)))] 5 ?_
  refine Fw h (fun c15 h => ?_) (fun c15 h => ?_)
  ·refine skip (Fp ?_)
   refine seq (block ?_)
   obtain ⟨y16, y17, e18, h⟩ := aO h
   obtain ⟨y19, y20, e21, h⟩ := aO h
   refine Fs ae [(7, pX 11 3)] [0, 11] [(11, .box 84 [ag (i64.wrap (64 * (i64.wrap (1 + y16)))), ag (i64.wrap (1 + y19)), ag (-1)]), (0, .box 89 (bl y20))] 13 [hn, hl [0] [] 0 (cV (⟨x8, x9, x10⟩ : aL) 3 (y16, y17) e18), hn, hn, hn, hl [0] [] 0 (cV y17 6 (y19, y20) e21)] (seq ?_)
   refine AW.join (ι := (List Int) × Int × Int × Int) (fun v => ⟨[(0, pX 0 3), (1, af p1), (5, rX 1 3 x6.length), (6, af x7), (7, pX 2 3)], [(0, bN 89 v.1 v.2.1 v.2.2.1), (1, .row 84 false 3 x6.length (cC x6)), (2, .box 84 [ag (i64.wrap (64 * (i64.wrap (1 + y16)))), ag (i64.wrap (1 + y19)), ag v.2.2.2])], 3⟩) (fun v : (List Int) × Int × Int × Int => iy x6 x7 y16 y19 v.1 v.2.1 v.2.2.1 v.2.2.2 = some o) (fun v h => ?_) ?_
   ·obtain ⟨x22, x23, x24, x25⟩ := v
    replace h : iy x6 x7 y16 y19 x22 x23 x24 x25 = some o := h
    unfold iy at h
    refine Fp ?_
    obtain ⟨g26, h⟩ := aN h
    refine AW.rg ae [(5, .c (.ref 6 3 0 ((x6 ++ ([(⟨i64.wrap (64 * (i64.wrap (1 + y16))), i64.wrap (1 + y19), x25⟩ : aC)] : List aC)).length)))] [1, 5, 6] [(6, .row 84 false 3 (x6 ++ ([(⟨i64.wrap (64 * (i64.wrap (1 + y16))), i64.wrap (1 + y19), x25⟩ : aC)] : List aC)).length (cC (x6 ++ ([(⟨i64.wrap (64 * (i64.wrap (1 + y16))), i64.wrap (1 + y19), x25⟩ : aC)] : List aC))))] 8 [hn, hn, bh cH iO 3 (fun _ => rfl) ([(⟨i64.wrap (64 * (i64.wrap (1 + y16))), i64.wrap (1 + y19), x25⟩ : aC)] : List aC), bY cH iO 3 24 x6 ([(⟨i64.wrap (64 * (i64.wrap (1 + y16))), i64.wrap (1 + y19), x25⟩ : aC)] : List aC) g26 (by decide)] ?_
    refine Fj (Fp ?_)
    refine aS ae [(6, af (i64.wrap (x7 + 1)))] 11 ?_
    exact bu h (ai [(0, 0), (1, 6)])
   ·refine seq ?_
    refine AW.join (ι := Bool × (List Int) × Int × Int) (fun v => ⟨[(0, pX 0 3), (1, af p1), (5, rX 1 3 x6.length), (6, af x7), (7, pX 2 3), (26, vb v.1)], [(0, bN 89 v.2.1 v.2.2.1 v.2.2.2), (1, .row 84 false 3 x6.length (cC x6)), (2, .box 84 [ag (i64.wrap (64 * (i64.wrap (1 + y16)))), ag (i64.wrap (1 + y19)), ag (-1)])], 3⟩) (fun v : Bool × (List Int) × Int × Int => iz p1 x6 x7 y16 y19 v.1 v.2.1 v.2.2.1 v.2.2.2 = some o) (fun v h => ?_) ?_
    ·obtain ⟨x27, x28, x29, x30⟩ := v
     replace h : iz p1 x6 x7 y16 y19 x27 x28 x29 x30 = some o := h
     unfold iz at h
     refine Fp ?_
     refine Fw h (fun c31 h => ?_) (fun c31 h => ?_)
     ·obtain ⟨g32, h⟩ := aN h
      refine AW.rg ae [] [2] [(2, .box 84 [ag (i64.wrap (64 * (i64.wrap (1 + y16)))), ag (i64.wrap (1 + y19)), ag ((i64.wrap (x7 + 1)).tmod p1)])] 9 [hn, hn, hn, ho g32] ?_
      exact jl (x28, x29, x30, ((i64.wrap (x7 + 1)).tmod p1)) h (ai [(0, 0), (1, 1), (2, 2)])
     ·refine skip ?_
      exact jl (x28, x29, x30, (-1)) h (ai [(0, 0), (1, 1), (2, 2)])
    ·rcases aD h with ⟨c33, h⟩ | ⟨c33, h⟩
     ·obtain ⟨y34, y35, e36, h⟩ := aO h
      refine AW.rg ae [(26, vb y34)] [0] [(0, .box 89 (bl y35))] 18 [hn, ht c33, hn, hn, hl [0] [] 0 (dJ y20 3 (y34, y35) e36)] ?_
      exact jl (y34, y35.list, y35.at_, y35.state) h (ai [(0, 0), (1, 1), (2, 11)])
     ·refine au ae [(26, vb false)] 19 [hn, hf c33] ?_
      exact jl (false, y20.list, y20.at_, y20.state) h (ai [(0, 0), (1, 1), (2, 11)])
  ·refine exit (Fb ?_)
   exact aU h rfl (ai [(0, 0), (1, 1)])
 ·show (_ : Exit → St → Prop) (.exit 0) _
  refine E6 (Fp ?_)
  refine ah ae [(4, rX 1 3 x37.length)] 4 (ret ?_)
  obtain rfl := am h
  exact aW (.inr rfl) [(0, 0), (1, 1)] 2 (.c (.ref 1 3 0 x37.length))
noncomputable def t8 (p0 : aL) : Option (hJ × aL) := aM (iR p0) fun y1 y2 => (aM (iR y2) fun y4 y5 => (some ((⟨y1, y4⟩ : hJ), y5)))
theorem CQ (p0 : aL) (r : hJ × aL) (h : t8 p0 = some r) : CT 10 [.c (.ptr 0 3 0 0)] [(0, .box 89 (bl p0))] (.agg (bp r.1)) [(0, .box 89 (bl r.2))] := by
 refine an ae 1 Tryz.func10 rfl (fun _ _ _ => ?_)
 unfold t8 at h
 refine Fs ae [(2, pX 1 2)] [1] [(1, .box 39 [aw 0, aw 0])] 2 [] ?_
 obtain ⟨y1, y2, e3, h⟩ := aO h
 obtain ⟨y4, y5, e6, h⟩ := aO h
 refine Fs ae [] [0, 1] [(1, .box 39 [aw y1, aw y4]), (0, .box 89 (bl y5))] 6 [hn, hl [0] [] 0 (ou p0 (y1, y2) e3), hn, hl [0] [] 0 (ou y2 (y4, y5) e6)] (ret ?_)
 obtain rfl := am h
 exact aW (.inr rfl) [(0, 0)] 1 (.agg [aw y1, aw y4])
structure aX where
 Field : Int
 Transform : Int
def cQ : aX := ⟨0, 0⟩
instance : Inhabited aX := ⟨cQ⟩
def iW (x : aX) : List T := [.v (.int .i64 x.Field), .v (.int .i64 x.Transform)]
def bD (xs : List aX) : Nat → Nat → T := be cQ iW xs
structure bz where
 Components : List aX
def dQ : bz := ⟨([] : List aX)⟩
instance : Inhabited bz := ⟨dQ⟩
def pH (x : bz) : List T := [.tree x.Components.length 2 (bD x.Components)]
def cR (xs : List bz) : Nat → Nat → T := be dQ pH xs
noncomputable def iA (x24 : Int) (x35 : List Int) (x36 : Int) (x37 : Int) (x38 : List aX) : Option ((Int × (List Int) × Int × Int × (List aX)) ⊕ ((List Int) × Int × Int × (List aX))) := some (.inl (i64.wrap (x24 + 1), x35, x36, x37, x38))
noncomputable def iB (x24 : Int) (x28 : List aX) (x48 : Int) (x49 : List Int) (x50 : Int) (x51 : Int) : Option ((Int × (List Int) × Int × Int × (List aX)) ⊕ ((List Int) × Int × Int × (List aX))) := if x28.length + ([(⟨x24, x48⟩ : aX)] : List aX).length ≤ 1099511627776 then (iA x24 x49 x50 x51 (x28 ++ ([(⟨x24, x48⟩ : aX)] : List aX))) else none
noncomputable def kd (p1 : aK) (x24 : Int) (x25 : List Int) (x26 : Int) (x27 : Int) (x28 : List aX) (x33 : Bool) : Option ((Int × (List Int) × Int × Int × (List aX)) ⊕ ((List Int) × Int × Int × (List aX))) := if x33 then (aM (dK (⟨x25, x26, x27⟩ : aL) 2) fun y39 y40 => (if (!y39) then (iA x24 y40.list y40.at_ y40.state x28) else (aM (cM y40 2) fun y43 y44 => (if 0 ≤ y43 then (if y43 < (([1, 3] : List Int).length : Int) then (aM (dK y44 2) fun y53 y54 => (if y53 then (if 0 ≤ x24 then (if x24 < (p1.Fields.length : Int) then (if 0 ≤ ((p1.Fields.getD x24.toNat bq).Kind) then (if ((p1.Fields.getD x24.toNat bq).Kind) < (([0, 2, 4, 1, 5] : List Int).length : Int) then (iB x24 x28 (([0, 2, 4, 1, 5] : List Int).getD (0 + ((p1.Fields.getD x24.toNat bq).Kind).toNat) 0) y54.list y54.at_ y54.state) else none) else none) else none) else none) else (iB x24 x28 (([1, 3] : List Int).getD (0 + y43.toNat) 0) y54.list y54.at_ y54.state))) else none) else none)))) else (some (.inr (x25, x26, x27, x28)))
noncomputable def oa (p1 : aK) (x24 : Int) (x25 : List Int) (x26 : Int) (x27 : Int) (x28 : List aX) : Option ((Int × (List Int) × Int × Int × (List aX)) ⊕ ((List Int) × Int × Int × (List aX))) := if (decide (x24 < (p1.Fields.length : Int))) then (kd p1 x24 x25 x26 x27 x28 (decide ((x28.length : Int) < 3))) else (kd p1 x24 x25 x26 x27 x28 false)
noncomputable def ke (x9 : List bz) (x10 : Int) (x62 : List Int) (x63 : Int) (x64 : Int) (x66 : List aX) : Option (((List bz) × Int × (List Int) × Int × Int) ⊕ ((List bz) × (List Int) × Int × Int)) := if x9.length + ([(⟨x66⟩ : bz)] : List bz).length ≤ 1099511627776 then (some (.inl ((x9 ++ ([(⟨x66⟩ : bz)] : List bz)), i64.wrap (x10 - 1), x62, x63, x64))) else none
noncomputable def oc (p1 : aK) (x9 : List bz) (x10 : Int) (x11 : List Int) (x12 : Int) (x13 : Int) : Option (((List bz) × Int × (List Int) × Int × Int) ⊕ ((List bz) × (List Int) × Int × Int)) := if (decide (x10 > 0)) then (dZ (loop (fun v : Int × (List Int) × Int × Int × (List aX) => oa p1 v.1 v.2.1 v.2.2.1 v.2.2.2.1 v.2.2.2.2) (0, x11, x12, x13, ([] : List aX))) fun x62 x63 x64 x65 => (if ((x65.length : Int) == 0) then (ke x9 x10 x62 x63 x64 ([(⟨0, 1⟩ : aX)] : List aX)) else (ke x9 x10 x62 x63 x64 x65))) else (some (.inr (x9, x11, x12, x13)))
noncomputable def tj (p0 : aL) (p1 : aK) (p2 : Int) : Option ((List bz) × aL) := aM (cM p0 (i64.wrap (p2 + 1))) fun y1 y2 => (dZ (loop (fun v : (List bz) × Int × (List Int) × Int × Int => oc p1 v.1 v.2.1 v.2.2.1 v.2.2.2.1 v.2.2.2.2) (([] : List bz), y1, y2.list, y2.at_, y2.state)) fun x70 x71 x72 x73 => (some (x70, (⟨x71, x72, x73⟩ : aL))))
theorem CN (p0 : aL) (p1 : aK) (p2 : Int) (r : (List bz) × aL) (h : tj p0 p1 p2 = some r) : CT 19 [.c (.ptr 0 3 0 0), .agg (aJ p1), af p2] [(0, .box 89 (bl p0))] (.c (.ref 1 1 0 r.1.length)) [(0, .box 89 (bl r.2)), (1, .row 117 false 1 r.1.length (cR r.1))] := by
 refine an ae 1 Tryz.func19 rfl (fun _ _ _ => ?_)
 unfold tj at h
 refine Fs ae [(4, pX 1 4)] [1] [(1, .box 33 (aJ p1))] 3 [] ?_
 refine ah ae [(7, .c (ax))] 4 (seq ?_)
 obtain ⟨y1, y2, e3, h⟩ := aO h
 refine Fs ae [(8, af y1)] [0] [(0, .box 89 (bl y2))] 8 [hn, hn, hn, hl [0] [] 0 (cV p0 (i64.wrap (p2 + 1)) (y1, y2) e3)] (block ?_)
 obtain ⟨x70, x71, x72, x73, l74, h⟩ := fJ h
 refine Fy l74 (fun v => ⟨[(0, pX 0 3), (4, pX 1 4), (7, rX 2 1 v.1.length), (8, af v.2.1)], [(0, bN 89 v.2.2.1 v.2.2.2.1 v.2.2.2.2), (1, .box 33 (aJ p1)), (2, .row 117 false 1 v.1.length (cR v.1))], 3⟩) (fun t : (List bz) × (List Int) × Int × Int => (.exit 0, ⟨[(7, rX 1 1 t.1.length)], [(0, bN 89 t.2.1 t.2.2.1 t.2.2.2), (1, .row 117 false 1 t.1.length (cR t.1))], 2⟩)) (Conv.trans (cg (t := 7) (ty := 117) (sz := 1) (n := ([] : List bz).length) (f := cR ([] : List bz)) (by kernel_rfl) rfl) (ai [(0, 0), (1, 1), (2, 8)])) (fun _ => tv) ?_ ?_
 ·clear l74 h
  intro v o h
  obtain ⟨x9, x10, x11, x12, x13⟩ := v
  replace h : oc p1 x9 x10 x11 x12 x13 = some o := h
  unfold oc at h
  refine seq ?_
  refine ah ae [(17, vb (decide (x10 > 0)))] 5 ?_
  refine Fw h (fun c18 h => ?_) (fun c18 h => ?_)
  ·refine skip (Fp ?_)
   refine seq (block ?_)
   refine Fs ae [(9, pX 5 1)] [5] [(5, .box 117 [ax])] 6 [] (seq ?_)
   refine ah ae [(10, af 0)] 7 (block ?_)
   obtain ⟨x62, x63, x64, x65, l69, h⟩ := fJ h
   refine Fy l69 (fun v => ⟨[(0, pX 0 3), (4, pX 1 4), (7, rX 2 1 x9.length), (8, af x10), (9, pX 3 1), (10, af v.1)], [(0, bN 89 v.2.1 v.2.2.1 v.2.2.2.1), (1, .box 33 (aJ p1)), (2, .row 117 false 1 x9.length (cR x9)), (3, .box 117 [.ref 4 2 0 v.2.2.2.2.length]), (4, .row 119 false 2 v.2.2.2.2.length (bD v.2.2.2.2))], 5⟩) (fun t : (List Int) × Int × Int × (List aX) => (.exit 2, ⟨[(0, pX 0 3), (4, pX 1 4), (7, rX 2 1 x9.length), (8, af x10), (9, pX 3 1)], [(0, bN 89 t.1 t.2.1 t.2.2.1), (1, .box 33 (aJ p1)), (2, .row 117 false 1 x9.length (cR x9)), (3, .box 117 [.ref 4 2 0 t.2.2.2.length]), (4, .row 119 false 2 t.2.2.2.length (bD t.2.2.2))], 5⟩)) (Conv.trans (cX (id := 5) (ty0 := 117) (cs := [ax]) 0 (ty := 119) (sz := 2) (n := ([] : List aX).length) (f := bD ([] : List aX)) (by kernel_rfl) (by kernel_rfl) rfl) (ai [(0, 0), (1, 1), (2, 2), (3, 5), (4, 7)])) (fun _ => tv) ?_ ?_
   ·clear l69 h
    intro v o h
    obtain ⟨x24, x25, x26, x27, x28⟩ := v
    replace h : oa p1 x24 x25 x26 x27 x28 = some o := h
    unfold oa at h
    refine seq (seq ?_)
    refine AW.join (ι := Bool) (fun v => ⟨[(0, pX 0 3), (4, pX 1 4), (7, rX 2 1 x9.length), (8, af x10), (9, pX 3 1), (10, af x24), (30, vb v)], [(0, bN 89 x25 x26 x27), (1, .box 33 (aJ p1)), (2, .row 117 false 1 x9.length (cR x9)), (3, .box 117 [.ref 4 2 0 x28.length]), (4, .row 119 false 2 x28.length (bD x28))], 5⟩) (fun v : Bool => kd p1 x24 x25 x26 x27 x28 v = some o) (fun x33 h => ?_) ?_
    ·unfold kd at h
     refine Fp ?_
     refine Fw h (fun c34 h => ?_) (fun c34 h => ?_)
     ·refine skip (Fp (seq ?_))
      refine AW.join (ι := (List Int) × Int × Int × (List aX)) (fun v => ⟨[(0, pX 0 3), (4, pX 1 4), (7, rX 2 1 x9.length), (8, af x10), (9, pX 3 1), (10, af x24)], [(0, bN 89 v.1 v.2.1 v.2.2.1), (1, .box 33 (aJ p1)), (2, .row 117 false 1 x9.length (cR x9)), (3, .box 117 [.ref 4 2 0 v.2.2.2.length]), (4, .row 119 false 2 v.2.2.2.length (bD v.2.2.2))], 5⟩) (fun v : (List Int) × Int × Int × (List aX) => iA x24 v.1 v.2.1 v.2.2.1 v.2.2.2 = some o) (fun v h => ?_) ?_
      ·obtain ⟨x35, x36, x37, x38⟩ := v
       replace h : iA x24 x35 x36 x37 x38 = some o := h
       unfold iA at h
       refine Fp ?_
       refine aS ae [(10, af (i64.wrap (x24 + 1)))] 8 ?_
       exact bu h (ai [(0, 0), (1, 1), (2, 2), (3, 3), (4, 4)])
      ·refine block (seq ?_)
       obtain ⟨y39, y40, e41, h⟩ := aO h
       refine Fs ae [(35, vb (!y39))] [0] [(0, .box 89 (bl y40))] 7 [hn, hl [0] [] 0 (dJ (⟨x25, x26, x27⟩ : aL) 2 (y39, y40) e41)] ?_
       refine Fw h (fun c42 h => ?_) (fun c42 h => ?_)
       ·refine exit (Fb (E6 ?_))
        exact jl (y40.list, y40.at_, y40.state, x28) h (ai [(0, 0), (1, 1), (2, 2), (3, 3), (4, 4)])
       ·refine skip (Fp ?_)
        obtain ⟨y43, y44, e45, h⟩ := aO h
        obtain ⟨g46, g47, h⟩ := aG h
        refine Fs ae [(11, af (([1, 3] : List Int).getD (0 + y43.toNat) 0))] [0, 7] [(0, .box 89 (bl y44))] 12 [bh 0 db 1 (fun _ => rfl) ([1, 3] : List Int), hn, hl [0] [] 0 (cV y40 2 (y43, y44) e45), hq g46 g47, ho (p := (0 + y43.toNat) < ([1, 3] : List Int).length) (by have h1 : 0 ≤ y43 := g46; have h2 : y43 < (([1, 3] : List Int).length : Int) := g47; omega)] (seq ?_)
        refine AW.join (ι := Int × (List Int) × Int × Int) (fun v => ⟨[(0, pX 0 3), (4, pX 1 4), (7, rX 2 1 x9.length), (8, af x10), (9, pX 3 1), (10, af x24), (11, af v.1)], [(0, bN 89 v.2.1 v.2.2.1 v.2.2.2), (1, .box 33 (aJ p1)), (2, .row 117 false 1 x9.length (cR x9)), (3, .box 117 [.ref 4 2 0 x28.length]), (4, .row 119 false 2 x28.length (bD x28))], 5⟩) (fun v : Int × (List Int) × Int × Int => iB x24 x28 v.1 v.2.1 v.2.2.1 v.2.2.2 = some o) (fun v h => ?_) ?_
        ·obtain ⟨x48, x49, x50, x51⟩ := v
         replace h : iB x24 x28 x48 x49 x50 x51 = some o := h
         unfold iB at h
         refine Fp ?_
         obtain ⟨g52, h⟩ := aN h
         refine AW.rg ae [] [3, 4, 10, 11] [(3, .box 117 [.ref 11 2 0 ((x28 ++ ([(⟨x24, x48⟩ : aX)] : List aX)).length)]), (11, .row 119 false 2 (x28 ++ ([(⟨x24, x48⟩ : aX)] : List aX)).length (bD (x28 ++ ([(⟨x24, x48⟩ : aX)] : List aX))))] 14 [hn, hn, hn, hn, hn, bh cQ iW 2 (fun _ => rfl) ([(⟨x24, x48⟩ : aX)] : List aX), bY cQ iW 2 16 x28 ([(⟨x24, x48⟩ : aX)] : List aX) g52 (by decide)] ?_
         refine Fj ?_
         exact jl (x49, x50, x51, (x28 ++ ([(⟨x24, x48⟩ : aX)] : List aX))) h (ai [(0, 0), (1, 1), (2, 2), (3, 3), (4, 11)])
        ·obtain ⟨y53, y54, e55, h⟩ := aO h
         refine Fs ae [(42, vb y53)] [0] [(0, .box 89 (bl y54))] 13 [hn, hl [0] [] 0 (dJ y44 2 (y53, y54) e55)] ?_
         refine Fw h (fun c56 h => ?_) (fun c56 h => ?_)
         ·obtain ⟨g57, g58, h⟩ := aG h
          obtain ⟨g59, g60, h⟩ := aG h
          refine AW.rg ae [(11, af (([0, 2, 4, 1, 5] : List Int).getD (0 + ((p1.Fields.getD x24.toNat bq).Kind).toNat) 0))] [13] [] 23 [bh 0 db 1 (fun _ => rfl) ([0, 2, 4, 1, 5] : List Int), hn, hn, hn, hq g57 g58, hn, hn, hq g59 g60, ho (p := (0 + ((p1.Fields.getD x24.toNat bq).Kind).toNat) < ([0, 2, 4, 1, 5] : List Int).length) (by have h1 : 0 ≤ ((p1.Fields.getD x24.toNat bq).Kind) := g59; have h2 : ((p1.Fields.getD x24.toNat bq).Kind) < (([0, 2, 4, 1, 5] : List Int).length : Int) := g60; omega)] ?_
          exact jl ((([0, 2, 4, 1, 5] : List Int).getD (0 + ((p1.Fields.getD x24.toNat bq).Kind).toNat) 0), y54.list, y54.at_, y54.state) h (ai [(0, 0), (1, 1), (2, 2), (3, 3), (4, 4)])
         ·refine skip ?_
          exact jl ((([1, 3] : List Int).getD (0 + y43.toNat) 0), y54.list, y54.at_, y54.state) h (ai [(0, 0), (1, 1), (2, 2), (3, 3), (4, 4)])
     ·refine exit (Fb ?_)
      exact aU h rfl (ai [(0, 0), (1, 1), (2, 2), (3, 3), (4, 4)])
    ·rcases aD h with ⟨c61, h⟩ | ⟨c61, h⟩
     ·refine au ae [(30, vb (decide ((x28.length : Int) < 3)))] 16 [hn, hn, hn, hn, ht c61] ?_
      exact jl (decide ((x28.length : Int) < 3)) h (ai [(0, 0), (1, 1), (2, 2), (3, 3), (4, 4)])
     ·refine au ae [(30, vb false)] 16 [hn, hn, hn, hn, hf c61] ?_
      exact jl false h (ai [(0, 0), (1, 1), (2, 2), (3, 3), (4, 4)])
   ·show (_ : Exit → St → Prop) (.exit 2) _
    refine E6 (Fp (seq ?_))
    refine AW.join (ι := List aX) (fun v => ⟨[(0, pX 0 3), (4, pX 1 4), (7, rX 2 1 x9.length), (8, af x10), (9, pX 3 1)], [(0, bN 89 x62 x63 x64), (1, .box 33 (aJ p1)), (2, .row 117 false 1 x9.length (cR x9)), (3, .box 117 [.ref 4 2 0 v.length]), (4, .row 119 false 2 v.length (bD v))], 5⟩) (fun v : List aX => ke x9 x10 x62 x63 x64 v = some o) (fun x66 h => ?_) ?_
    ·unfold ke at h
     refine Fp ?_
     refine AW.pre (Conv.trans (Iw 4 119 2 x66.length (bD x66) (by kernel_rfl)) (mN (id := 3) (ty := 117) (cs := [.ref 4 2 0 x66.length]) (ds := [cl 2 bD x66]) (by kernel_rfl) ⟨cf.ref (ty := 119) (f := bD x66) (by kernel_rfl) br, tv⟩)) ?_
     obtain ⟨g67, h⟩ := aN h
     refine AW.rg ae [(7, .c (.ref 8 1 0 ((x9 ++ ([(⟨x66⟩ : bz)] : List bz)).length)))] [2, 7, 8] [(8, .row 117 false 1 (x9 ++ ([(⟨x66⟩ : bz)] : List bz)).length (cR (x9 ++ ([(⟨x66⟩ : bz)] : List bz))))] 10 [hn, hn, bh dQ pH 1 (fun _ => rfl) ([(⟨x66⟩ : bz)] : List bz), bY dQ pH 1 24 x9 ([(⟨x66⟩ : bz)] : List bz) g67 (by decide)] ?_
     refine Fj (Fp ?_)
     refine aS ae [(8, af (i64.wrap (x10 - 1)))] 13 ?_
     exact bu h (ai [(0, 0), (1, 1), (2, 8)])
    ·refine ah ae [(63, vb ((x65.length : Int) == 0))] 9 ?_
     refine Fw h (fun c68 h => ?_) (fun c68 h => ?_)
     ·refine AW.rg ae [] [3, 10] [(3, .box 117 [.ref 10 2 0 (([(⟨0, 1⟩ : aX)] : List aX).length)]), (10, .row 119 false 2 ([(⟨0, 1⟩ : aX)] : List aX).length (bD ([(⟨0, 1⟩ : aX)] : List aX)))] 13 [hn, bh cQ iW 2 (fun _ => rfl) ([(⟨0, 1⟩ : aX)] : List aX)] ?_
      exact jl ([(⟨0, 1⟩ : aX)] : List aX) h (ai [(0, 0), (1, 1), (2, 2), (3, 3), (4, 10)])
     ·refine skip ?_
      exact jl x65 h (ai [(0, 0), (1, 1), (2, 2), (3, 3), (4, 4)])
  ·refine exit (Fb ?_)
   exact aU h rfl (ai [(0, 0), (1, 2)])
 ·show (_ : Exit → St → Prop) (.exit 0) _
  refine E6 (Fp ?_)
  refine ah ae [(6, rX 1 1 x70.length)] 4 (ret ?_)
  obtain rfl := am h
  exact aW (.inr rfl) [(0, 0), (1, 1)] 2 (.c (.ref 1 1 0 x70.length))
noncomputable def lN : Option (List ByteArray) := some ([(mk #[114, 111, 98, 101, 114, 116]), (mk #[98, 111, 98]), (mk #[97, 110, 110]), (mk #[97, 110, 110, 97]), (mk #[114, 117, 112, 101, 114, 116]), (mk #[109, 97, 114, 105, 97]), (mk #[112, 101, 116, 101, 114]), (mk #[100, 114]), (mk #[106, 111]), (mk #[97, 115, 104, 99, 114, 97, 102, 116]), (mk #[108, 105])] : aj)
theorem tN (r : List ByteArray) (h : lN = some r) : CT 73 [] [] (.c (.ref 0 1 0 r.length)) [(0, .row 9 false 1 r.length (Rs r))] := by
 refine an ae 0 Tryz.func73 rfl (fun _ _ _ => ?_)
 unfold lN at h
 refine ah ae [] 1 ?_
 refine Fs ae [(0, .c (.ref 1 1 0 (([(mk #[114, 111, 98, 101, 114, 116]), (mk #[98, 111, 98]), (mk #[97, 110, 110]), (mk #[97, 110, 110, 97]), (mk #[114, 117, 112, 101, 114, 116]), (mk #[109, 97, 114, 105, 97]), (mk #[112, 101, 116, 101, 114]), (mk #[100, 114]), (mk #[106, 111]), (mk #[97, 115, 104, 99, 114, 97, 102, 116]), (mk #[108, 105])] : aj).length)))] [1] [(1, .row 9 false 1 ([(mk #[114, 111, 98, 101, 114, 116]), (mk #[98, 111, 98]), (mk #[97, 110, 110]), (mk #[97, 110, 110, 97]), (mk #[114, 117, 112, 101, 114, 116]), (mk #[109, 97, 114, 105, 97]), (mk #[112, 101, 116, 101, 114]), (mk #[100, 114]), (mk #[106, 111]), (mk #[97, 115, 104, 99, 114, 97, 102, 116]), (mk #[108, 105])] : aj).length (Rs ([(mk #[114, 111, 98, 101, 114, 116]), (mk #[98, 111, 98]), (mk #[97, 110, 110]), (mk #[97, 110, 110, 97]), (mk #[114, 117, 112, 101, 114, 116]), (mk #[109, 97, 114, 105, 97]), (mk #[112, 101, 116, 101, 114]), (mk #[100, 114]), (mk #[106, 111]), (mk #[97, 115, 104, 99, 114, 97, 102, 116]), (mk #[108, 105])] : aj)))] 3 [bh mt Es 1 (fun _ => rfl) ([(mk #[114, 111, 98, 101, 114, 116]), (mk #[98, 111, 98]), (mk #[97, 110, 110]), (mk #[97, 110, 110, 97]), (mk #[114, 117, 112, 101, 114, 116]), (mk #[109, 97, 114, 105, 97]), (mk #[112, 101, 116, 101, 114]), (mk #[100, 114]), (mk #[106, 111]), (mk #[97, 115, 104, 99, 114, 97, 102, 116]), (mk #[108, 105])] : aj)] (ret ?_)
 obtain rfl := am h
 exact aW (.inr rfl) [(0, 1)] 1 (.c (.ref 1 1 0 (([(mk #[114, 111, 98, 101, 114, 116]), (mk #[98, 111, 98]), (mk #[97, 110, 110]), (mk #[97, 110, 110, 97]), (mk #[114, 117, 112, 101, 114, 116]), (mk #[109, 97, 114, 105, 97]), (mk #[112, 101, 116, 101, 114]), (mk #[100, 114]), (mk #[106, 111]), (mk #[97, 115, 104, 99, 114, 97, 102, 116]), (mk #[108, 105])] : aj).length)))
noncomputable def lA : Option (List ByteArray) := some ([(mk #[115, 109, 105, 116, 104]), (mk #[115, 99, 104, 109, 105, 100, 116]), (mk #[109, 105, 108, 108, 101, 114]), (mk #[111, 110, 101, 105, 108, 108]), (mk #[115, 116, 114, 97, 117, 115, 115]), (mk #[118, 97, 110]), (mk #[109, 97, 105, 110]), (mk #[115, 116]), (mk #[115, 116, 114, 101, 101, 116]), (mk #[114, 100]), (mk #[112, 97, 114, 107])] : aj)
theorem tH (r : List ByteArray) (h : lA = some r) : CT 74 [] [] (.c (.ref 0 1 0 r.length)) [(0, .row 9 false 1 r.length (Rs r))] := by
 refine an ae 0 Tryz.func74 rfl (fun _ _ _ => ?_)
 unfold lA at h
 refine ah ae [] 1 ?_
 refine Fs ae [(0, .c (.ref 1 1 0 (([(mk #[115, 109, 105, 116, 104]), (mk #[115, 99, 104, 109, 105, 100, 116]), (mk #[109, 105, 108, 108, 101, 114]), (mk #[111, 110, 101, 105, 108, 108]), (mk #[115, 116, 114, 97, 117, 115, 115]), (mk #[118, 97, 110]), (mk #[109, 97, 105, 110]), (mk #[115, 116]), (mk #[115, 116, 114, 101, 101, 116]), (mk #[114, 100]), (mk #[112, 97, 114, 107])] : aj).length)))] [1] [(1, .row 9 false 1 ([(mk #[115, 109, 105, 116, 104]), (mk #[115, 99, 104, 109, 105, 100, 116]), (mk #[109, 105, 108, 108, 101, 114]), (mk #[111, 110, 101, 105, 108, 108]), (mk #[115, 116, 114, 97, 117, 115, 115]), (mk #[118, 97, 110]), (mk #[109, 97, 105, 110]), (mk #[115, 116]), (mk #[115, 116, 114, 101, 101, 116]), (mk #[114, 100]), (mk #[112, 97, 114, 107])] : aj).length (Rs ([(mk #[115, 109, 105, 116, 104]), (mk #[115, 99, 104, 109, 105, 100, 116]), (mk #[109, 105, 108, 108, 101, 114]), (mk #[111, 110, 101, 105, 108, 108]), (mk #[115, 116, 114, 97, 117, 115, 115]), (mk #[118, 97, 110]), (mk #[109, 97, 105, 110]), (mk #[115, 116]), (mk #[115, 116, 114, 101, 101, 116]), (mk #[114, 100]), (mk #[112, 97, 114, 107])] : aj)))] 3 [bh mt Es 1 (fun _ => rfl) ([(mk #[115, 109, 105, 116, 104]), (mk #[115, 99, 104, 109, 105, 100, 116]), (mk #[109, 105, 108, 108, 101, 114]), (mk #[111, 110, 101, 105, 108, 108]), (mk #[115, 116, 114, 97, 117, 115, 115]), (mk #[118, 97, 110]), (mk #[109, 97, 105, 110]), (mk #[115, 116]), (mk #[115, 116, 114, 101, 101, 116]), (mk #[114, 100]), (mk #[112, 97, 114, 107])] : aj)] (ret ?_)
 obtain rfl := am h
 exact aW (.inr rfl) [(0, 1)] 1 (.c (.ref 1 1 0 (([(mk #[115, 109, 105, 116, 104]), (mk #[115, 99, 104, 109, 105, 100, 116]), (mk #[109, 105, 108, 108, 101, 114]), (mk #[111, 110, 101, 105, 108, 108]), (mk #[115, 116, 114, 97, 117, 115, 115]), (mk #[118, 97, 110]), (mk #[109, 97, 105, 110]), (mk #[115, 116]), (mk #[115, 116, 114, 101, 101, 116]), (mk #[114, 100]), (mk #[112, 97, 114, 107])] : aj).length)))
noncomputable def ow (x13 : ByteArray) (x14 : Int) (x15 : List Int) (x16 : Int) (x17 : Int) : Option ((ByteArray × Int × (List Int) × Int × Int) ⊕ (ByteArray × (List Int) × Int × Int)) := if (decide (x14 > 0)) then (aM (cM (⟨x15, x16, x17⟩ : aL) 26) fun y23 y24 => (if x13.size + (Vm.strOf ([u8.wrap (i64.wrap (97 + y23))] : List Int)).size ≤ bZ then (some (.inl ((x13 ++ (Vm.strOf ([u8.wrap (i64.wrap (97 + y23))] : List Int))), i64.wrap (x14 - 1), y24.list, y24.at_, y24.state))) else none)) else (some (.inr (x13, x15, x16, x17)))
noncomputable def iN (p0 : aL) : Option (ByteArray × aL) := aM (dK p0 6) fun y1 y2 => (if y1 then (aM (cM y2 5) fun y5 y6 => (dZ (loop (fun v : ByteArray × Int × (List Int) × Int × Int => ow v.1 v.2.1 v.2.2.1 v.2.2.2.1 v.2.2.2.2) ((mk #[]), i64.wrap (1 + y5), y6.list, y6.at_, y6.state)) fun x27 x28 x29 x30 => (some (x27, (⟨x28, x29, x30⟩ : aL))))) else (aM (dK y2 2) fun y32 y33 => (if y32 then ((lN).bind fun y36 => ((lN).bind fun y38 => (aM (cM y33 (y38.length : Int)) fun y40 y41 => (if 0 ≤ y40 then (if y40 < (y36.length : Int) then (some ((y36.getD (0 + y40.toNat) mt), y41)) else none) else none)))) else ((lA).bind fun y45 => ((lA).bind fun y47 => (aM (cM y33 (y47.length : Int)) fun y49 y50 => (if 0 ≤ y49 then (if y49 < (y45.length : Int) then (some ((y45.getD (0 + y49.toNat) mt), y50)) else none) else none)))))))
theorem oh (p0 : aL) (r : ByteArray × aL) (h : iN p0 = some r) : CT 33 [.c (.ptr 0 3 0 0)] [(0, .box 89 (bl p0))] (vs r.1) [(0, .box 89 (bl r.2))] := by
 refine an ae 1 Tryz.func33 rfl (fun _ _ _ => ?_)
 unfold iN at h
 refine ah ae [] 2 (seq ?_)
 obtain ⟨y1, y2, e3, h⟩ := aO h
 refine Fs ae [(6, vb y1)] [0] [(0, .box 89 (bl y2))] 3 [hn, hl [0] [] 0 (dJ p0 6 (y1, y2) e3)] ?_
 refine Fw h (fun c4 h => ?_) (fun c4 h => ?_)
 ·refine ah ae [(3, vs (mk #[]))] 4 (seq ?_)
  obtain ⟨y5, y6, e7, h⟩ := aO h
  refine Fs ae [(4, af (i64.wrap (1 + y5)))] [0] [(0, .box 89 (bl y6))] 7 [hn, hl [0] [] 0 (cV y2 5 (y5, y6) e7)] (block ?_)
  obtain ⟨x27, x28, x29, x30, l31, h⟩ := fJ h
  refine Fy l31 (fun v => ⟨[(0, pX 0 3), (3, vs v.1), (4, af v.2.1)], [(0, bN 89 v.2.2.1 v.2.2.2.1 v.2.2.2.2)], 1⟩) (fun t : ByteArray × (List Int) × Int × Int => (.exit 0, ⟨[(3, vs t.1)], [(0, bN 89 t.2.1 t.2.2.1 t.2.2.2)], 1⟩)) (ai [(0, 0)]) (fun _ => tv) ?_ ?_
  ·clear l31 h
   intro v o h
   obtain ⟨x13, x14, x15, x16, x17⟩ := v
   replace h : ow x13 x14 x15 x16 x17 = some o := h
   unfold ow at h
   refine seq ?_
   refine ah ae [(11, vb (decide (x14 > 0)))] 3 ?_
   refine Fw h (fun c22 h => ?_) (fun c22 h => ?_)
   ·refine skip (Fp ?_)
    refine seq (block ?_)
    obtain ⟨y23, y24, e25, h⟩ := aO h
    obtain ⟨g26, h⟩ := aN h
    refine AW.rg ae [(3, vs (x13 ++ (Vm.strOf ([u8.wrap (i64.wrap (97 + y23))] : List Int))))] [0, 7] [(0, .box 89 (bl y24))] 11 [hn, hn, hl [0] [] 0 (cV (⟨x15, x16, x17⟩ : aL) 26 (y23, y24) e25), hn, hn, bh 0 cU 1 (fun _ => rfl) ([u8.wrap (i64.wrap (97 + y23))] : List Int), hi (fun i => ([u8.wrap (i64.wrap (97 + y23))] : List Int).getD i 0) (p := (0 + ([u8.wrap (i64.wrap (97 + y23))] : List Int).length ≤ ([u8.wrap (i64.wrap (97 + y23))] : List Int).length) ∧ ∀ i, i < ([u8.wrap (i64.wrap (97 + y23))] : List Int).length → (fun i j => bf ([u8.wrap (i64.wrap (97 + y23))] : List Int) (0 + i) j) i 0 = .v (.int .u8 (([u8.wrap (i64.wrap (97 + y23))] : List Int).getD i 0))) (⟨br, fun i _ => by simp only [Gg] <;> rfl⟩), ho g26] ?_
    refine Fj (Fp ?_)
    refine aS ae [(4, af (i64.wrap (x14 - 1)))] 14 ?_
    exact bu h (ai [(0, 0)])
   ·refine exit (Fb ?_)
    exact aU h rfl (ai [(0, 0)])
  ·show (_ : Exit → St → Prop) (.exit 0) _
   refine E6 (Fp ?_)
   refine ah ae [(2, vs x27)] 3 (ret (Fo ?_))
   obtain rfl := am h
   exact aW (.inr rfl) [(0, 0)] 1 (vs x27)
 ·refine skip (Fp (seq ?_))
  obtain ⟨y32, y33, e34, h⟩ := aO h
  refine Fs ae [(24, vb y32)] [0] [(0, .box 89 (bl y33))] 4 [hn, hl [0] [] 0 (dJ y2 2 (y32, y33) e34)] ?_
  refine Fw h (fun c35 h => ?_) (fun c35 h => ?_)
  ·obtain ⟨y36, e37, h⟩ := ak h
   obtain ⟨y38, e39, h⟩ := ak h
   obtain ⟨y40, y41, e42, h⟩ := aO h
   obtain ⟨g43, g44, h⟩ := aG h
   refine Fs ae [(2, vs (y36.getD (0 + y40.toNat) mt))] [0, 4, 6] [(0, .box 89 (bl y41))] 11 [hm [] [] 1 (tN y36 e37) ⟨bV Vs _ _ _, tv⟩, hn, hm [] [] 1 (tN y38 e39) ⟨bV Vs _ _ _, tv⟩, hn, hl [0] [] 0 (cV y33 (y38.length : Int) (y40, y41) e42), hq g43 g44, ho (p := (0 + y40.toNat) < y36.length) (by have h1 : 0 ≤ y40 := g43; have h2 : y40 < (y36.length : Int) := g44; omega)] (ret (Fo ?_))
   obtain rfl := am h
   exact aW (.inr rfl) [(0, 0)] 1 (vs (y36.getD (0 + y40.toNat) mt))
  ·refine skip (Fp ?_)
   obtain ⟨y45, e46, h⟩ := ak h
   obtain ⟨y47, e48, h⟩ := ak h
   obtain ⟨y49, y50, e51, h⟩ := aO h
   obtain ⟨g52, g53, h⟩ := aG h
   refine Fs ae [(2, vs (y45.getD (0 + y49.toNat) mt))] [0, 4, 6] [(0, .box 89 (bl y50))] 11 [hm [] [] 1 (tH y45 e46) ⟨bV Vs _ _ _, tv⟩, hn, hm [] [] 1 (tH y47 e48) ⟨bV Vs _ _ _, tv⟩, hn, hl [0] [] 0 (cV y33 (y47.length : Int) (y49, y50) e51), hq g52 g53, ho (p := (0 + y49.toNat) < y45.length) (by have h1 : 0 ≤ y49 := g52; have h2 : y49 < (y45.length : Int) := g53; omega)] (ret ?_)
   obtain rfl := am h
   exact aW (.inr rfl) [(0, 0)] 1 (vs (y45.getD (0 + y49.toNat) mt))
noncomputable def iS (p0 : aL) (p1 : List ByteArray) : Option (ByteArray × aL) := aM (cM p0 (p1.length : Int)) fun y1 y2 => (if 0 ≤ y1 then (if y1 < (p1.length : Int) then (some ((p1.getD y1.toNat mt), y2)) else none) else none)
theorem ox (p0 : aL) (p1 : List ByteArray) (r : ByteArray × aL) (h : iS p0 p1 = some r) : CT 75 [.c (.ptr 0 3 0 0), vl 1 Rs p1] [(0, .box 89 (bl p0))] (vs r.1) [(0, .box 89 (bl r.2))] := by
 refine an ae 1 Tryz.func75 rfl (fun _ _ _ => ?_)
 unfold iS at h
 refine ah ae [] 2 ?_
 obtain ⟨y1, y2, e3, h⟩ := aO h
 obtain ⟨g4, g5, h⟩ := aG h
 refine Fs ae [(4, vs (p1.getD y1.toNat mt))] [0] [(0, .box 89 (bl y2))] 9 [hn, hn, hn, hn, hl [0] [] 0 (cV p0 (p1.length : Int) (y1, y2) e3), hq g4 g5] (ret ?_)
 obtain rfl := am h
 exact aW (.inr rfl) [(0, 0)] 1 (vs (p1.getD y1.toNat mt))
noncomputable def gm (x10 : Int) (x19 : ByteArray) (x20 : List Int) (x21 : Int) (x22 : Int) : Option ((ByteArray × Int × (List Int) × Int × Int) ⊕ (ByteArray × (List Int) × Int × Int)) := some (.inl (x19, i64.wrap (x10 + 1), x20, x21, x22))
noncomputable def gn (x9 : ByteArray) (x10 : Int) (x25 : Int) (x30 : Bool) (x31 : List Int) (x32 : Int) (x33 : Int) : Option ((ByteArray × Int × (List Int) × Int × Int) ⊕ (ByteArray × (List Int) × Int × Int)) := if x30 then (if (x9 ++ (Vm.strOf ([x25] : List Int))).size + (mk #[39]).size ≤ bZ then (gm x10 ((x9 ++ (Vm.strOf ([x25] : List Int))) ++ (mk #[39])) x31 x32 x33) else none) else (gm x10 (x9 ++ (Vm.strOf ([x25] : List Int))) x31 x32 x33)
noncomputable def iI (p1 : ByteArray) (x9 : ByteArray) (x10 : Int) (x25 : Int) (x26 : List Int) (x27 : Int) (x28 : Int) : Option ((ByteArray × Int × (List Int) × Int × Int) ⊕ (ByteArray × (List Int) × Int × Int)) := if x9.size + (Vm.strOf ([x25] : List Int)).size ≤ bZ then (aM (dK (⟨x26, x27, x28⟩ : aL) 20) fun y36 y37 => (if y36 then (if (decide ((i64.wrap (x10 + 1)) < (p1.size : Int))) then (if 0 ≤ (i64.wrap (x10 + 1)) then (if (i64.wrap (x10 + 1)) < (p1.size : Int) then (gn x9 x10 x25 (((p1.data.toList.getD ((i64.wrap (x10 + 1)).toNat) 0).toNat : Int) != 32) y37.list y37.at_ y37.state) else none) else none) else (gn x9 x10 x25 false y37.list y37.at_ y37.state)) else (gn x9 x10 x25 false y37.list y37.at_ y37.state))) else none
noncomputable def gp (p1 : ByteArray) (x9 : ByteArray) (x10 : Int) (x48 : Bool) (x49 : List Int) (x50 : Int) (x51 : Int) : Option ((ByteArray × Int × (List Int) × Int × Int) ⊕ (ByteArray × (List Int) × Int × Int)) := if x48 then ((some (u8.wrap (((p1.data.toList.getD x10.toNat 0).toNat : Int) - 32))).bind fun z53 => (iI p1 x9 x10 z53 x49 x50 x51)) else (iI p1 x9 x10 ((p1.data.toList.getD x10.toNat 0).toNat : Int) x49 x50 x51)
noncomputable def oy (p1 : ByteArray) (x9 : ByteArray) (x10 : Int) (x11 : List Int) (x12 : Int) (x13 : Int) : Option ((ByteArray × Int × (List Int) × Int × Int) ⊕ (ByteArray × (List Int) × Int × Int)) := if (decide (x10 < (p1.size : Int))) then (if 0 ≤ x10 then (if x10 < (p1.size : Int) then (if (((p1.data.toList.getD x10.toNat 0).toNat : Int) == 32) then (aM (iS (⟨x11, x12, x13⟩ : aL) ([(mk #[32]), (mk #[45]), (mk #[44, 32]), (mk #[46]), (mk #[32, 32]), (mk #[47])] : aj)) fun y44 y45 => (if x9.size + y44.size ≤ bZ then (gm x10 (x9 ++ y44) y45.list y45.at_ y45.state) else none)) else (if (decide (((p1.data.toList.getD x10.toNat 0).toNat : Int) ≥ 97)) then (if (decide (((p1.data.toList.getD x10.toNat 0).toNat : Int) ≤ 122)) then (aM (dK (⟨x11, x12, x13⟩ : aL) 3) fun y57 y58 => (gp p1 x9 x10 y57 y58.list y58.at_ y58.state)) else (gp p1 x9 x10 false x11 x12 x13)) else (gp p1 x9 x10 false x11 x12 x13))) else none) else none) else (some (.inr (x9, x11, x12, x13)))
noncomputable def oQ (p0 : aL) (p1 : ByteArray) : Option (ByteArray × aL) := aM (iS p0 ([(mk #[]), (mk #[]), (mk #[32]), (mk #[45])] : aj)) fun y1 y2 => (dZ (loop (fun v : ByteArray × Int × (List Int) × Int × Int => oy p1 v.1 v.2.1 v.2.2.1 v.2.2.2.1 v.2.2.2.2) (y1, 0, y2.list, y2.at_, y2.state)) fun x60 x61 x62 x63 => (aM (iS (⟨x61, x62, x63⟩ : aL) ([(mk #[]), (mk #[]), (mk #[32]), (mk #[46])] : aj)) fun y64 y65 => (if x60.size + y64.size ≤ bZ then (some ((x60 ++ y64), y65)) else none)))
theorem xI (p0 : aL) (p1 : ByteArray) (r : ByteArray × aL) (h : oQ p0 p1 = some r) : CT 34 [.c (.ptr 0 3 0 0), vs p1] [(0, .box 89 (bl p0))] (vs r.1) [(0, .box 89 (bl r.2))] := by
 refine an ae 1 Tryz.func34 rfl (fun _ _ _ => ?_)
 unfold oQ at h
 refine ah ae [] 2 ?_
 obtain ⟨y1, y2, e3, h⟩ := aO h
 refine Fs ae [(5, vs y1)] [0, 3] [(0, .box 89 (bl y2))] 5 [hn, bh mt Es 1 (fun _ => rfl) ([(mk #[]), (mk #[]), (mk #[32]), (mk #[45])] : aj), hg [0] [3] false 0 (q := (True) ∧ (0 + ([(mk #[]), (mk #[]), (mk #[32]), (mk #[45])] : aj).length ≤ ([(mk #[]), (mk #[]), (mk #[32]), (mk #[45])] : aj).length) ∧ (True)) ⟨tv, br, tv⟩ (a0 := [.c (.ptr 0 3 0 0), vl 1 Rs ([(mk #[]), (mk #[]), (mk #[32]), (mk #[45])] : aj)]) (ox p0 ([(mk #[]), (mk #[]), (mk #[32]), (mk #[45])] : aj) (y1, y2) e3) ⟨aR.refl _, aR.refl _, tv⟩ (fun h => by cases h)] (seq ?_)
 refine ah ae [(6, af 0)] 6 (block ?_)
 obtain ⟨x60, x61, x62, x63, l68, h⟩ := fJ h
 refine Fy l68 (fun v => ⟨[(0, pX 0 3), (1, vs p1), (5, vs v.1), (6, af v.2.1)], [(0, bN 89 v.2.2.1 v.2.2.2.1 v.2.2.2.2)], 1⟩) (fun t : ByteArray × (List Int) × Int × Int => (.exit 0, ⟨[(0, pX 0 3), (5, vs t.1)], [(0, bN 89 t.2.1 t.2.2.1 t.2.2.2)], 1⟩)) (ai [(0, 0)]) (fun _ => tv) ?_ ?_
 ·clear l68 h
  intro v o h
  obtain ⟨x9, x10, x11, x12, x13⟩ := v
  replace h : oy p1 x9 x10 x11 x12 x13 = some o := h
  unfold oy at h
  refine seq ?_
  refine ah ae [(14, vb (decide (x10 < (p1.size : Int))))] 5 ?_
  refine Fw h (fun c18 h => ?_) (fun c18 h => ?_)
  ·refine skip (Fp (seq ?_))
   refine AW.join (ι := ByteArray × (List Int) × Int × Int) (fun v => ⟨[(0, pX 0 3), (1, vs p1), (5, vs v.1), (6, af x10)], [(0, bN 89 v.2.1 v.2.2.1 v.2.2.2)], 1⟩) (fun v : ByteArray × (List Int) × Int × Int => gm x10 v.1 v.2.1 v.2.2.1 v.2.2.2 = some o) (fun v h => ?_) ?_
   ·obtain ⟨x19, x20, x21, x22⟩ := v
    replace h : gm x10 x19 x20 x21 x22 = some o := h
    unfold gm at h
    refine Fp ?_
    refine aS ae [(6, af (i64.wrap (x10 + 1)))] 4 ?_
    exact bu h (ai [(0, 0)])
   ·refine block ?_
    obtain ⟨g23, g24, h⟩ := aG h
    refine ay ae [(7, cK ((p1.data.toList.getD x10.toNat 0).toNat : Int))] 9 [hn, hn, hq g23 g24] (seq ?_)
    refine AW.join (ι := Int × (List Int) × Int × Int) (fun v => ⟨[(0, pX 0 3), (1, vs p1), (5, vs x9), (6, af x10), (7, cK v.1)], [(0, bN 89 v.2.1 v.2.2.1 v.2.2.2)], 1⟩) (fun v : Int × (List Int) × Int × Int => iI p1 x9 x10 v.1 v.2.1 v.2.2.1 v.2.2.2 = some o) (fun v h => ?_) ?_
    ·obtain ⟨x25, x26, x27, x28⟩ := v
     replace h : iI p1 x9 x10 x25 x26 x27 x28 = some o := h
     unfold iI at h
     refine Fp ?_
     obtain ⟨g29, h⟩ := aN h
     refine Fs ae [(5, vs (x9 ++ (Vm.strOf ([x25] : List Int))))] [3] [] 7 [hn, hn, bh 0 cU 1 (fun _ => rfl) ([x25] : List Int), hi (fun i => ([x25] : List Int).getD i 0) (p := (0 + ([x25] : List Int).length ≤ ([x25] : List Int).length) ∧ ∀ i, i < ([x25] : List Int).length → (fun i j => bf ([x25] : List Int) (0 + i) j) i 0 = .v (.int .u8 (([x25] : List Int).getD i 0))) (⟨br, fun i _ => by simp only [Gg] <;> rfl⟩), ho g29] (seq ?_)
     refine AW.join (ι := Bool × (List Int) × Int × Int) (fun v => ⟨[(0, pX 0 3), (1, vs p1), (5, vs (x9 ++ (Vm.strOf ([x25] : List Int)))), (6, af x10), (61, vb v.1)], [(0, bN 89 v.2.1 v.2.2.1 v.2.2.2)], 1⟩) (fun v : Bool × (List Int) × Int × Int => gn x9 x10 x25 v.1 v.2.1 v.2.2.1 v.2.2.2 = some o) (fun v h => ?_) ?_
     ·obtain ⟨x30, x31, x32, x33⟩ := v
      replace h : gn x9 x10 x25 x30 x31 x32 x33 = some o := h
      unfold gn at h
      refine Fp ?_
      refine Fw h (fun c34 h => ?_) (fun c34 h => ?_)
      ·obtain ⟨g35, h⟩ := aN h
       refine au ae [(5, vs ((x9 ++ (Vm.strOf ([x25] : List Int))) ++ (mk #[39])))] 4 [hn, ho g35] ?_
       refine Fj ?_
       exact jl (((x9 ++ (Vm.strOf ([x25] : List Int))) ++ (mk #[39])), x31, x32, x33) h (ai [(0, 0)])
      ·refine skip (Fj ?_)
       exact jl ((x9 ++ (Vm.strOf ([x25] : List Int))), x31, x32, x33) h (ai [(0, 0)])
     ·obtain ⟨y36, y37, e38, h⟩ := aO h
      rcases aD h with ⟨c39, hs⟩ | ⟨c39, hs⟩
      ·clear h; subst c39; have h := hs; clear hs
       rcases aD h with ⟨c40, h⟩ | ⟨c40, h⟩
       ·obtain ⟨g41, g42, h⟩ := aG h
        refine AW.rg ae [(61, vb (((p1.data.toList.getD ((i64.wrap (x10 + 1)).toNat) 0).toNat : Int) != 32))] [0] [(0, .box 89 (bl y37))] 22 [hn, hl [0] [] 0 (dJ (⟨x26, x27, x28⟩ : aL) 20 (true, y37) e38), hn, hn, hn, hn, hn, ht c40, hn, hn, hn, hn, hn, hq g41 g42] ?_
        exact jl ((((p1.data.toList.getD ((i64.wrap (x10 + 1)).toNat) 0).toNat : Int) != 32), y37.list, y37.at_, y37.state) h (ai [(0, 0)])
       ·refine AW.rg ae [(61, vb false)] [0] [(0, .box 89 (bl y37))] 22 [hn, hl [0] [] 0 (dJ (⟨x26, x27, x28⟩ : aL) 20 (true, y37) e38), hn, hn, hn, hn, hn, hf c40] ?_
        exact jl (false, y37.list, y37.at_, y37.state) h (ai [(0, 0)])
      ·clear h; subst c39; have h := hs; clear hs
       refine AW.rg ae [(61, vb false)] [0] [(0, .box 89 (bl y37))] 22 [hn, hl [0] [] 0 (dJ (⟨x26, x27, x28⟩ : aL) 20 (false, y37) e38)] ?_
       exact jl (false, y37.list, y37.at_, y37.state) h (ai [(0, 0)])
    ·refine block ?_
     refine ah ae [(20, vb (((p1.data.toList.getD x10.toNat 0).toNat : Int) == 32))] 12 ?_
     refine Fw h (fun c43 h => ?_) (fun c43 h => ?_)
     ·obtain ⟨y44, y45, e46, h⟩ := aO h
      obtain ⟨g47, h⟩ := aN h
      refine Fs ae [(5, vs (x9 ++ y44))] [0, 14] [(0, .box 89 (bl y45))] 17 [hn, hn, bh mt Es 1 (fun _ => rfl) ([(mk #[32]), (mk #[45]), (mk #[44, 32]), (mk #[46]), (mk #[32, 32]), (mk #[47])] : aj), hg [0] [14] false 0 (q := (True) ∧ (0 + ([(mk #[32]), (mk #[45]), (mk #[44, 32]), (mk #[46]), (mk #[32, 32]), (mk #[47])] : aj).length ≤ ([(mk #[32]), (mk #[45]), (mk #[44, 32]), (mk #[46]), (mk #[32, 32]), (mk #[47])] : aj).length) ∧ (True)) ⟨tv, br, tv⟩ (a0 := [.c (.ptr 0 3 0 0), vl 1 Rs ([(mk #[32]), (mk #[45]), (mk #[44, 32]), (mk #[46]), (mk #[32, 32]), (mk #[47])] : aj)]) (ox (⟨x11, x12, x13⟩ : aL) ([(mk #[32]), (mk #[45]), (mk #[44, 32]), (mk #[46]), (mk #[32, 32]), (mk #[47])] : aj) (y44, y45) e46) ⟨aR.refl _, aR.refl _, tv⟩ (fun h => by cases h), ho g47] ?_
      refine exit (E7 (by kernel_rfl) ?_)
      refine vj ?_
      refine Fb (E6 ?_)
      exact jl ((x9 ++ y44), y45.list, y45.at_, y45.state) h (ai [(0, 0)])
     ·refine seq ?_
      refine AW.join (ι := Bool × (List Int) × Int × Int) (fun v => ⟨[(0, pX 0 3), (1, vs p1), (5, vs x9), (6, af x10), (7, cK ((p1.data.toList.getD x10.toNat 0).toNat : Int)), (28, vb v.1)], [(0, bN 89 v.2.1 v.2.2.1 v.2.2.2)], 1⟩) (fun v : Bool × (List Int) × Int × Int => gp p1 x9 x10 v.1 v.2.1 v.2.2.1 v.2.2.2 = some o) (fun v h => ?_) ?_
      ·obtain ⟨x48, x49, x50, x51⟩ := v
       replace h : gp p1 x9 x10 x48 x49 x50 x51 = some o := h
       unfold gp at h
       refine Fp ?_
       refine Fw h (fun c52 h => ?_) (fun c52 h => ?_)
       ·obtain ⟨z53, n54, h⟩ := ak h
        replace n54 := am n54
        refine aS ae [(7, cK z53)] 4 ?_ (by subst n54; kernel_rfl)
        refine Fj ?_
        exact jl (z53, x49, x50, x51) h (ai [(0, 0)])
       ·refine skip (Fj ?_)
        exact jl (((p1.data.toList.getD x10.toNat 0).toNat : Int), x49, x50, x51) h (ai [(0, 0)])
      ·rcases aD h with ⟨c55, h⟩ | ⟨c55, h⟩
       ·rcases aD h with ⟨c56, h⟩ | ⟨c56, h⟩
        ·obtain ⟨y57, y58, e59, h⟩ := aO h
         refine AW.rg ae [(28, vb y57)] [0] [(0, .box 89 (bl y58))] 22 [hn, ht c55, hn, hn, ht c56, hn, hn, hn, hl [0] [] 0 (dJ (⟨x11, x12, x13⟩ : aL) 3 (y57, y58) e59)] ?_
         exact jl (y57, y58.list, y58.at_, y58.state) h (ai [(0, 0)])
        ·refine au ae [(28, vb false)] 23 [hn, ht c55, hn, hn, hf c56] ?_
         exact jl (false, x11, x12, x13) h (ai [(0, 0)])
       ·refine au ae [(28, vb false)] 23 [hn, hf c55] ?_
        exact jl (false, x11, x12, x13) h (ai [(0, 0)])
  ·refine exit (Fb ?_)
   exact aU h rfl (ai [(0, 0)])
 ·show (_ : Exit → St → Prop) (.exit 0) _
  refine E6 (Fp ?_)
  obtain ⟨y64, y65, e66, h⟩ := aO h
  obtain ⟨g67, h⟩ := aN h
  refine Fs ae [(4, vs (x60 ++ y64))] [0, 3] [(0, .box 89 (bl y65))] 6 [hn, hn, bh mt Es 1 (fun _ => rfl) ([(mk #[]), (mk #[]), (mk #[32]), (mk #[46])] : aj), hg [0] [3] false 0 (q := (True) ∧ (0 + ([(mk #[]), (mk #[]), (mk #[32]), (mk #[46])] : aj).length ≤ ([(mk #[]), (mk #[]), (mk #[32]), (mk #[46])] : aj).length) ∧ (True)) ⟨tv, br, tv⟩ (a0 := [.c (.ptr 0 3 0 0), vl 1 Rs ([(mk #[]), (mk #[]), (mk #[32]), (mk #[46])] : aj)]) (ox (⟨x61, x62, x63⟩ : aL) ([(mk #[]), (mk #[]), (mk #[32]), (mk #[46])] : aj) (y64, y65) e66) ⟨aR.refl _, aR.refl _, tv⟩ (fun h => by cases h), ho g67] (ret ?_)
  obtain rfl := am h
  exact aW (.inr rfl) [(0, 0)] 1 (vs (x60 ++ y64))
noncomputable def gD (p0 : Int) : Option ByteArray := some (Vm.strOf ([u8.wrap (i64.wrap (48 + ((i64.wrap (p0.tdiv 10)).tmod 10))), u8.wrap (i64.wrap (48 + (p0.tmod 10)))] : List Int))
theorem ll (p0 : Int) (r : ByteArray) (h : gD p0 = some r) : CT 76 [af p0] [] (vs r) [] := by
 refine an ae 0 Tryz.func76 rfl (fun _ _ _ => ?_)
 unfold gD at h
 refine ah ae [] 1 ?_
 refine Fs ae [(2, vs (Vm.strOf ([u8.wrap (i64.wrap (48 + ((i64.wrap (p0.tdiv 10)).tmod 10))), u8.wrap (i64.wrap (48 + (p0.tmod 10)))] : List Int)))] [10] [] 13 [hn, ho (p := (10 : Int) ≠ 0) (by decide), ho (p := (10 : Int) ≠ 0) (by decide), hn, hn, hn, ho (p := (10 : Int) ≠ 0) (by decide), hn, hn, bh 0 cU 1 (fun _ => rfl) ([u8.wrap (i64.wrap (48 + ((i64.wrap (p0.tdiv 10)).tmod 10))), u8.wrap (i64.wrap (48 + (p0.tmod 10)))] : List Int), hi (fun i => ([u8.wrap (i64.wrap (48 + ((i64.wrap (p0.tdiv 10)).tmod 10))), u8.wrap (i64.wrap (48 + (p0.tmod 10)))] : List Int).getD i 0) (p := (0 + ([u8.wrap (i64.wrap (48 + ((i64.wrap (p0.tdiv 10)).tmod 10))), u8.wrap (i64.wrap (48 + (p0.tmod 10)))] : List Int).length ≤ ([u8.wrap (i64.wrap (48 + ((i64.wrap (p0.tdiv 10)).tmod 10))), u8.wrap (i64.wrap (48 + (p0.tmod 10)))] : List Int).length) ∧ ∀ i, i < ([u8.wrap (i64.wrap (48 + ((i64.wrap (p0.tdiv 10)).tmod 10))), u8.wrap (i64.wrap (48 + (p0.tmod 10)))] : List Int).length → (fun i j => bf ([u8.wrap (i64.wrap (48 + ((i64.wrap (p0.tdiv 10)).tmod 10))), u8.wrap (i64.wrap (48 + (p0.tmod 10)))] : List Int) (0 + i) j) i 0 = .v (.int .u8 (([u8.wrap (i64.wrap (48 + ((i64.wrap (p0.tdiv 10)).tmod 10))), u8.wrap (i64.wrap (48 + (p0.tmod 10)))] : List Int).getD i 0))) (⟨br, fun i _ => by simp only [Gg] <;> rfl⟩)] (ret ?_)
 apply al h (vs (Vm.strOf ([u8.wrap (i64.wrap (48 + ((i64.wrap (p0.tdiv 10)).tmod 10))), u8.wrap (i64.wrap (48 + (p0.tmod 10)))] : List Int)))
noncomputable def qN (p0 : Int) (p1 : Int) : Option Int := if (decide (p1 < 1)) then (some 0) else (if p1 ≠ 0 then (some ((i64.wrap ((p0.tmod p1) + p1)).tmod p1)) else none)
theorem yT (p0 : Int) (p1 : Int) (r : Int) (h : qN p0 p1 = some r) : CT 77 [af p0, af p1] [] (af r) [] := by
 refine an ae 0 Tryz.func77 rfl (fun _ _ _ => ?_)
 unfold qN at h
 refine ah ae [] 1 (seq ?_)
 refine ah ae [(6, vb (decide (p1 < 1)))] 3 ?_
 refine Fw h (fun c1 h => ?_) (fun c1 h => ?_)
 ·refine ah ae [(4, af 0)] 4 (ret (Fo ?_))
  apply al h (af 0)
 ·refine skip (Fp ?_)
  obtain ⟨g2, h⟩ := aN h
  refine ay ae [(4, af ((i64.wrap ((p0.tmod p1) + p1)).tmod p1))] 11 [hn, hn, ho g2, hn, hn, hn, ho g2] (ret ?_)
  apply al h (af ((i64.wrap ((p0.tmod p1) + p1)).tmod p1))
noncomputable def lm (p0 : b8) (p1 : Int) : Option ByteArray := (gD (i64.wrap (p0.Year.tdiv 100))).bind fun y1 => ((gD (p0.Year.tmod 100)).bind fun y3 => (if y1.size + y3.size ≤ bZ then ((gD p0.Month).bind fun y6 => ((gD p0.Day).bind fun y8 => ((qN p1 3).bind fun y10 => (if (y10 == 0) then (if (y1 ++ y3).size + (mk #[45]).size ≤ bZ then (if ((y1 ++ y3) ++ (mk #[45])).size + y6.size ≤ bZ then (if (((y1 ++ y3) ++ (mk #[45])) ++ y6).size + (mk #[45]).size ≤ bZ then (if ((((y1 ++ y3) ++ (mk #[45])) ++ y6) ++ (mk #[45])).size + y8.size ≤ bZ then (some (((((y1 ++ y3) ++ (mk #[45])) ++ y6) ++ (mk #[45])) ++ y8)) else none) else none) else none) else none) else (if (y10 == 1) then (if y8.size + (mk #[46]).size ≤ bZ then (if (y8 ++ (mk #[46])).size + y6.size ≤ bZ then (if ((y8 ++ (mk #[46])) ++ y6).size + (mk #[46]).size ≤ bZ then (if (((y8 ++ (mk #[46])) ++ y6) ++ (mk #[46])).size + (y1 ++ y3).size ≤ bZ then (some ((((y8 ++ (mk #[46])) ++ y6) ++ (mk #[46])) ++ (y1 ++ y3))) else none) else none) else none) else none) else (if y6.size + (mk #[47]).size ≤ bZ then (if (y6 ++ (mk #[47])).size + y8.size ≤ bZ then (if ((y6 ++ (mk #[47])) ++ y8).size + (mk #[47]).size ≤ bZ then (if (((y6 ++ (mk #[47])) ++ y8) ++ (mk #[47])).size + (y1 ++ y3).size ≤ bZ then (some ((((y6 ++ (mk #[47])) ++ y8) ++ (mk #[47])) ++ (y1 ++ y3))) else none) else none) else none) else none)))))) else none))
theorem tA (p0 : b8) (p1 : Int) (r : ByteArray) (h : lm p0 p1 = some r) : CT 35 [.agg [ag p0.Year, ag p0.Month, ag p0.Day], af p1] [] (vs r) [] := by
 refine an ae 0 Tryz.func35 rfl (fun _ _ _ => ?_)
 unfold lm at h
 refine Fs ae [(2, pX 0 3)] [0] [(0, .box 97 [ag p0.Year, ag p0.Month, ag p0.Day])] 2 [] ?_
 obtain ⟨y1, e2, h⟩ := ak h
 obtain ⟨y3, e4, h⟩ := ak h
 obtain ⟨g5, h⟩ := aN h
 obtain ⟨y6, e7, h⟩ := ak h
 obtain ⟨y8, e9, h⟩ := ak h
 refine Fv ae dr [] [(7, vs y8), (6, vs y6), (5, vs (y1 ++ y3))] [] 16 [hn, hn, ho (p := (100 : Int) ≠ 0) (by decide), hk (ll (i64.wrap (p0.Year.tdiv 100)) y1 e2), hn, hn, ho (p := (100 : Int) ≠ 0) (by decide), hk (ll (p0.Year.tmod 100) y3 e4), ho g5, hn, hn, hk (ll p0.Month y6 e7), hn, hn, hk (ll p0.Day y8 e9)] ?_
 refine seq ?_
 obtain ⟨y10, e11, h⟩ := ak h
 refine ay ae [(24, af y10)] 17 [hn, hk (yT p1 3 y10 e11)] (block ?_)
 refine ah ae [(25, vb (y10 == 0))] 19 ?_
 refine Fw h (fun c12 h => ?_) (fun c12 h => ?_)
 ·obtain ⟨g13, g14, h⟩ := aG h
  obtain ⟨g15, g16, h⟩ := aG h
  refine ay ae [(4, vs (((((y1 ++ y3) ++ (mk #[45])) ++ y6) ++ (mk #[45])) ++ y8))] 27 [hn, ho g13, hn, ho g14, ho g15, hn, ho g16] (ret (Fi (Fo ?_)))
  apply al h (vs (((((y1 ++ y3) ++ (mk #[45])) ++ y6) ++ (mk #[45])) ++ y8))
 ·refine ah ae [(34, vb (y10 == 1))] 21 ?_
  refine Fw h (fun c17 h => ?_) (fun c17 h => ?_)
  ·obtain ⟨g18, g19, h⟩ := aG h
   obtain ⟨g20, g21, h⟩ := aG h
   refine ay ae [(4, vs ((((y8 ++ (mk #[46])) ++ y6) ++ (mk #[46])) ++ (y1 ++ y3)))] 29 [hn, ho g18, hn, ho g19, ho g20, hn, ho g21] (ret (Fi (Fo ?_)))
   apply al h (vs ((((y8 ++ (mk #[46])) ++ y6) ++ (mk #[46])) ++ (y1 ++ y3)))
  ·refine skip (Fj (Fp ?_))
   obtain ⟨g22, g23, h⟩ := aG h
   obtain ⟨g24, g25, h⟩ := aG h
   refine ay ae [(4, vs ((((y6 ++ (mk #[47])) ++ y8) ++ (mk #[47])) ++ (y1 ++ y3)))] 29 [hn, ho g22, hn, ho g23, ho g24, hn, ho g25] (ret ?_)
   apply al h (vs ((((y6 ++ (mk #[47])) ++ y8) ++ (mk #[47])) ++ (y1 ++ y3)))
def jo (x : aB) : List T := [.v (.int .i64 x.ID), .v (.int .i64 x.Version), .tree x.Values.length 1 (Rs x.Values)]
def bB (xs : List aB) : Nat → Nat → T := be bg jo xs
noncomputable def iT (x12 : Int) (x22 : List aB) (x23 : List aB) (x24 : List Int) (x25 : Int) (x26 : Int) : Option (((List aB) × (List aB) × Int × (List Int) × Int × Int) ⊕ ((List aB) × (List aB) × (List Int) × Int × Int)) := some (.inl (x22, x23, i64.wrap (x12 - 1), x24, x25, x26))
noncomputable def fF (x35 : Int) (x45 : List ByteArray) (x46 : List ByteArray) (x47 : List Int) (x48 : Int) (x49 : Int) : Option (((List ByteArray) × (List ByteArray) × Int × (List Int) × Int × Int) ⊕ ((List ByteArray) × (List ByteArray) × (List Int) × Int × Int)) := some (.inl (x45, x46, i64.wrap (x35 + 1), x47, x48, x49))
noncomputable def oZ (p1 : aK) (x33 : List ByteArray) (x34 : List ByteArray) (x35 : Int) (x36 : List Int) (x37 : Int) (x38 : Int) : Option (((List ByteArray) × (List ByteArray) × Int × (List Int) × Int × Int) ⊕ ((List ByteArray) × (List ByteArray) × (List Int) × Int × Int)) := if (decide (x35 < (p1.Fields.length : Int))) then (if 0 ≤ x35 then (if x35 < (p1.Fields.length : Int) then (if (((p1.Fields.getD x35.toNat bq).Kind) == 1) then (aM (iN (⟨x36, x37, x38⟩ : aL)) fun y53 y54 => (if y53.size + (mk #[32]).size ≤ bZ then (aM (iN y54) fun y57 y58 => (if (y53 ++ (mk #[32])).size + y57.size ≤ bZ then (if x33.length + ([((y53 ++ (mk #[32])) ++ y57)] : aj).length ≤ 1099511627776 then (aM (oQ y58 ((y53 ++ (mk #[32])) ++ y57)) fun y62 y63 => (if x34.length + ([y62] : aj).length ≤ 1099511627776 then (fF x35 (x33 ++ ([((y53 ++ (mk #[32])) ++ y57)] : aj)) (x34 ++ ([y62] : aj)) y63.list y63.at_ y63.state) else none)) else none) else none)) else none)) else (if (((p1.Fields.getD x35.toNat bq).Kind) == 2) then (aM (cM (⟨x36, x37, x38⟩ : aL) 20) fun y67 y68 => (aM (cM y68 12) fun y70 y71 => (aM (cM y71 28) fun y73 y74 => (aM (cM y74 3) fun y76 y77 => ((lm (⟨i64.wrap (1980 + y67), i64.wrap (1 + y70), i64.wrap (1 + y73)⟩ : b8) y76).bind fun y79 => (if x33.length + ([y79] : aj).length ≤ 1099511627776 then (aM (cM y77 3) fun y82 y83 => ((lm (⟨i64.wrap (1980 + y67), i64.wrap (1 + y70), i64.wrap (1 + y73)⟩ : b8) y82).bind fun y85 => (if x34.length + ([y85] : aj).length ≤ 1099511627776 then (fF x35 (x33 ++ ([y79] : aj)) (x34 ++ ([y85] : aj)) y83.list y83.at_ y83.state) else none))) else none)))))) else (if (((p1.Fields.getD x35.toNat bq).Kind) == 4) then (aM (iN (⟨x36, x37, x38⟩ : aL)) fun y89 y90 => (if y89.size + (mk #[32, 49, 50]).size ≤ bZ then (if x33.length + ([(y89 ++ (mk #[32, 49, 50]))] : aj).length ≤ 1099511627776 then (if (mk #[49, 50, 44, 32]).size + y89.size ≤ bZ then (if x34.length + ([((mk #[49, 50, 44, 32]) ++ y89)] : aj).length ≤ 1099511627776 then (fF x35 (x33 ++ ([(y89 ++ (mk #[32, 49, 50]))] : aj)) (x34 ++ ([((mk #[49, 50, 44, 32]) ++ y89)] : aj)) y90.list y90.at_ y90.state) else none) else none) else none) else none)) else (if x33.length + ([(mk #[97, 98, 32, 49, 50])] : aj).length ≤ 1099511627776 then (if x34.length + ([(mk #[65, 45, 66, 49, 50])] : aj).length ≤ 1099511627776 then (fF x35 (x33 ++ ([(mk #[97, 98, 32, 49, 50])] : aj)) (x34 ++ ([(mk #[65, 45, 66, 49, 50])] : aj)) x36 x37 x38) else none) else none)))) else none) else none) else (some (.inr (x33, x34, x36, x37, x38)))
noncomputable def kU (x10 : List aB) (x11 : List aB) (x12 : Int) (x100 : List Int) (x101 : Int) (x102 : Int) (y103 : aB) (y106 : aB) (x109 : Bool) : Option (((List aB) × (List aB) × Int × (List Int) × Int × Int) ⊕ ((List aB) × (List aB) × (List Int) × Int × Int)) := if x109 then (if x10.length + ([y103] : List aB).length ≤ 1099511627776 then (if x11.length + ([y106] : List aB).length ≤ 1099511627776 then (iT x12 (x10 ++ ([y103] : List aB)) (x11 ++ ([y106] : List aB)) x100 x101 x102) else none) else none) else (iT x12 x10 x11 x100 x101 x102)
noncomputable def IH (p1 : aK) (x10 : List aB) (x11 : List aB) (x12 : Int) (x13 : List Int) (x14 : Int) (x15 : Int) : Option (((List aB) × (List aB) × Int × (List Int) × Int × Int) ⊕ ((List aB) × (List aB) × (List Int) × Int × Int)) := if (decide (x12 > 0)) then (eM (loop (fun v : (List ByteArray) × (List ByteArray) × Int × (List Int) × Int × Int => oZ p1 v.1 v.2.1 v.2.2.1 v.2.2.2.1 v.2.2.2.2.1 v.2.2.2.2.2) (([] : aj), ([] : aj), 0, x13, x14, x15)) fun x98 x99 x100 x101 x102 => (aM (gC p1 (i64.wrap (1 + (x10.length : Int))) 1 x98) fun y103 y104 => (aM (gC p1 (i64.wrap (100 + (x11.length : Int))) 3 x99) fun y106 y107 => (if (y104 == 0) then (kU x10 x11 x12 x100 x101 x102 y103 y106 (y107 == 0)) else (kU x10 x11 x12 x100 x101 x102 y103 y106 false))))) else (some (.inr (x10, x11, x13, x14, x15)))
noncomputable def uo (p0 : aL) (p1 : aK) (p2 : Int) : Option ((List aB) × (List aB) × aL) := aM (cM p0 p2) fun y1 y2 => (eM (loop (fun v : (List aB) × (List aB) × Int × (List Int) × Int × Int => IH p1 v.1 v.2.1 v.2.2.1 v.2.2.2.1 v.2.2.2.2.1 v.2.2.2.2.2) (([] : List aB), ([] : List aB), i64.wrap (1 + y1), y2.list, y2.at_, y2.state)) fun x115 x116 x117 x118 x119 => (some (x115, x116, (⟨x117, x118, x119⟩ : aL))))
theorem CR (p0 : aL) (p1 : aK) (p2 : Int) (r : (List aB) × (List aB) × aL) (h : uo p0 p1 p2 = some r) : CT 12 [.c (.ptr 0 3 0 0), .agg (aJ p1), af p2] [(0, .box 89 (bl p0))] (.tup [.c (.ref 1 3 0 r.1.length), .c (.ref 2 3 0 r.2.1.length)]) [(0, .box 89 (bl r.2.2)), (1, .row 53 false 3 r.1.length (bB r.1)), (2, .row 53 false 3 r.2.1.length (bB r.2.1))] := by
 refine an ae 1 Tryz.func12 rfl (fun _ _ _ => ?_)
 unfold uo at h
 refine Fs ae [(4, pX 1 4)] [1] [(1, .box 33 (aJ p1))] 4 [] ?_
 refine ah ae [(9, .c (ax)), (8, .c (ax))] 6 (seq ?_)
 obtain ⟨y1, y2, e3, h⟩ := aO h
 refine Fs ae [(10, af (i64.wrap (1 + y1)))] [0] [(0, .box 89 (bl y2))] 10 [hn, hn, hl [0] [] 0 (cV p0 p2 (y1, y2) e3)] (block ?_)
 obtain ⟨x115, x116, x117, x118, x119, l120, h⟩ := gI h
 refine Fy l120 (fun v => ⟨[(0, pX 0 3), (4, pX 1 4), (8, rX 2 3 v.1.length), (9, rX 3 3 v.2.1.length), (10, af v.2.2.1)], [(0, bN 89 v.2.2.2.1 v.2.2.2.2.1 v.2.2.2.2.2), (1, .box 33 (aJ p1)), (2, .row 53 false 3 v.1.length (bB v.1)), (3, .row 53 false 3 v.2.1.length (bB v.2.1))], 4⟩) (fun t : (List aB) × (List aB) × (List Int) × Int × Int => (.exit 0, ⟨[(8, rX 1 3 t.1.length), (9, rX 2 3 t.2.1.length)], [(0, bN 89 t.2.2.1 t.2.2.2.1 t.2.2.2.2), (1, .row 53 false 3 t.1.length (bB t.1)), (2, .row 53 false 3 t.2.1.length (bB t.2.1))], 3⟩)) (Conv.trans (cg (t := 8) (ty := 53) (sz := 3) (n := ([] : List aB).length) (f := bB ([] : List aB)) (by kernel_rfl) rfl) (Conv.trans (cg (t := 9) (ty := 53) (sz := 3) (n := ([] : List aB).length) (f := bB ([] : List aB)) (by kernel_rfl) rfl) (ai [(0, 0), (1, 1), (2, 10), (3, 11)]))) (fun _ => tv) ?_ ?_
 ·clear l120 h
  intro v o h
  obtain ⟨x10, x11, x12, x13, x14, x15⟩ := v
  replace h : IH p1 x10 x11 x12 x13 x14 x15 = some o := h
  unfold IH at h
  refine seq ?_
  refine ah ae [(26, vb (decide (x12 > 0)))] 6 ?_
  refine Fw h (fun c21 h => ?_) (fun c21 h => ?_)
  ·refine skip (Fp (seq ?_))
   refine AW.join (ι := (List aB) × (List aB) × (List Int) × Int × Int) (fun v => ⟨[(0, pX 0 3), (4, pX 1 4), (8, rX 2 3 v.1.length), (9, rX 3 3 v.2.1.length), (10, af x12)], [(0, bN 89 v.2.2.1 v.2.2.2.1 v.2.2.2.2), (1, .box 33 (aJ p1)), (2, .row 53 false 3 v.1.length (bB v.1)), (3, .row 53 false 3 v.2.1.length (bB v.2.1))], 4⟩) (fun v : (List aB) × (List aB) × (List Int) × Int × Int => iT x12 v.1 v.2.1 v.2.2.1 v.2.2.2.1 v.2.2.2.2 = some o) (fun v h => ?_) ?_
   ·obtain ⟨x22, x23, x24, x25, x26⟩ := v
    replace h : iT x12 x22 x23 x24 x25 x26 = some o := h
    unfold iT at h
    refine Fp ?_
    refine aS ae [(10, af (i64.wrap (x12 - 1)))] 7 ?_
    exact bu h (ai [(0, 0), (1, 1), (2, 2), (3, 3)])
   ·refine block ?_
    refine ah ae [(12, .c (ax)), (11, .c (ax))] 8 (seq ?_)
    refine ah ae [(32, af 0), (31, af (p1.Fields.length : Int))] 12 (block ?_)
    obtain ⟨x98, x99, x100, x101, x102, l114, h⟩ := gI h
    refine Fy l114 (fun v => ⟨[(0, pX 0 3), (4, pX 1 4), (8, rX 2 3 x10.length), (9, rX 3 3 x11.length), (10, af x12), (11, rX 4 1 v.1.length), (12, rX 5 1 v.2.1.length), (31, af (p1.Fields.length : Int)), (32, af v.2.2.1)], [(0, bN 89 v.2.2.2.1 v.2.2.2.2.1 v.2.2.2.2.2), (1, .box 33 (aJ p1)), (2, .row 53 false 3 x10.length (bB x10)), (3, .row 53 false 3 x11.length (bB x11)), (4, .row 9 false 1 v.1.length (Rs v.1)), (5, .row 9 false 1 v.2.1.length (Rs v.2.1))], 6⟩) (fun t : (List ByteArray) × (List ByteArray) × (List Int) × Int × Int => (.exit 2, ⟨[(0, pX 0 3), (4, pX 1 4), (8, rX 2 3 x10.length), (9, rX 3 3 x11.length), (10, af x12), (11, rX 4 1 t.1.length), (12, rX 5 1 t.2.1.length)], [(0, bN 89 t.2.2.1 t.2.2.2.1 t.2.2.2.2), (1, .box 33 (aJ p1)), (2, .row 53 false 3 x10.length (bB x10)), (3, .row 53 false 3 x11.length (bB x11)), (4, .row 9 false 1 t.1.length (Rs t.1)), (5, .row 9 false 1 t.2.1.length (Rs t.2.1))], 6⟩)) (Conv.trans (cg (t := 11) (ty := 9) (sz := 1) (n := ([] : aj).length) (f := Rs ([] : aj)) (by kernel_rfl) rfl) (Conv.trans (cg (t := 12) (ty := 9) (sz := 1) (n := ([] : aj).length) (f := Rs ([] : aj)) (by kernel_rfl) rfl) (ai [(0, 0), (1, 1), (2, 2), (3, 3), (4, 12), (5, 13)]))) (fun _ => tv) ?_ ?_
    ·clear l114 h
     intro v o h
     obtain ⟨x33, x34, x35, x36, x37, x38⟩ := v
     replace h : oZ p1 x33 x34 x35 x36 x37 x38 = some o := h
     unfold oZ at h
     refine ah ae [(33, vb (decide (x35 < (p1.Fields.length : Int))))] 7 (seq ?_)
     refine Fw h (fun c44 h => ?_) (fun c44 h => ?_)
     ·refine skip (Fp (seq ?_))
      refine AW.join (ι := (List ByteArray) × (List ByteArray) × (List Int) × Int × Int) (fun v => ⟨[(0, pX 0 3), (4, pX 1 4), (8, rX 2 3 x10.length), (9, rX 3 3 x11.length), (10, af x12), (11, rX 4 1 v.1.length), (12, rX 5 1 v.2.1.length), (31, af (p1.Fields.length : Int)), (32, af x35)], [(0, bN 89 v.2.2.1 v.2.2.2.1 v.2.2.2.2), (1, .box 33 (aJ p1)), (2, .row 53 false 3 x10.length (bB x10)), (3, .row 53 false 3 x11.length (bB x11)), (4, .row 9 false 1 v.1.length (Rs v.1)), (5, .row 9 false 1 v.2.1.length (Rs v.2.1))], 6⟩) (fun v : (List ByteArray) × (List ByteArray) × (List Int) × Int × Int => fF x35 v.1 v.2.1 v.2.2.1 v.2.2.2.1 v.2.2.2.2 = some o) (fun v h => ?_) ?_
      ·obtain ⟨x45, x46, x47, x48, x49⟩ := v
       replace h : fF x35 x45 x46 x47 x48 x49 = some o := h
       unfold fF at h
       refine Fp ?_
       refine aS ae [(32, af (i64.wrap (x35 + 1)))] 8 ?_
       exact bu h (ai [(0, 0), (1, 1), (2, 2), (3, 3), (4, 4), (5, 5)])
      ·refine block ?_
       refine ah ae [(13, af x35)] 9 ?_
       obtain ⟨g50, g51, h⟩ := aG h
       refine ay ae [(40, af ((p1.Fields.getD x35.toNat bq).Kind))] 15 [hn, hn, hn, hq g50 g51] (block ?_)
       refine ah ae [(47, vb (((p1.Fields.getD x35.toNat bq).Kind) == 1))] 17 ?_
       refine Fw h (fun c52 h => ?_) (fun c52 h => ?_)
       ·obtain ⟨y53, y54, e55, h⟩ := aO h
        obtain ⟨g56, h⟩ := aN h
        obtain ⟨y57, y58, e59, h⟩ := aO h
        obtain ⟨g60, h⟩ := aN h
        refine Fs ae [(14, vs ((y53 ++ (mk #[32])) ++ y57))] [0] [(0, .box 89 (bl y58))] 22 [hn, hl [0] [] 0 (oh (⟨x36, x37, x38⟩ : aL) (y53, y54) e55), ho g56, hn, hl [0] [] 0 (oh y54 (y57, y58) e59), ho g60] ?_
        obtain ⟨g61, h⟩ := aN h
        obtain ⟨y62, y63, e64, h⟩ := aO h
        obtain ⟨g65, h⟩ := aN h
        refine AW.rg ae [(12, .c (.ref 30 1 0 ((x34 ++ ([y62] : aj)).length))), (11, .c (.ref 25 1 0 ((x33 ++ ([((y53 ++ (mk #[32])) ++ y57)] : aj)).length)))] [0, 4, 5, 24, 25, 29, 30] [(30, .row 9 false 1 (x34 ++ ([y62] : aj)).length (Rs (x34 ++ ([y62] : aj)))), (0, .box 89 (bl y63)), (25, .row 9 false 1 (x33 ++ ([((y53 ++ (mk #[32])) ++ y57)] : aj)).length (Rs (x33 ++ ([((y53 ++ (mk #[32])) ++ y57)] : aj))))] 33 [hn, hn, bh mt Es 1 (fun _ => rfl) ([((y53 ++ (mk #[32])) ++ y57)] : aj), bY mt Es 1 16 x33 ([((y53 ++ (mk #[32])) ++ y57)] : aj) g61 (by decide), hn, hn, hn, hl [0] [] 0 (xI y58 ((y53 ++ (mk #[32])) ++ y57) (y62, y63) e64), bh mt Es 1 (fun _ => rfl) ([y62] : aj), bY mt Es 1 16 x34 ([y62] : aj) g65 (by decide)] ?_
        refine Fj (Fj ?_)
        exact jl ((x33 ++ ([((y53 ++ (mk #[32])) ++ y57)] : aj)), (x34 ++ ([y62] : aj)), y63.list, y63.at_, y63.state) h (ai [(0, 0), (1, 1), (2, 2), (3, 3), (4, 25), (5, 30)])
       ·refine ah ae [(65, vb (((p1.Fields.getD x35.toNat bq).Kind) == 2))] 19 ?_
        refine Fw h (fun c66 h => ?_) (fun c66 h => ?_)
        ·obtain ⟨y67, y68, e69, h⟩ := aO h
         obtain ⟨y70, y71, e72, h⟩ := aO h
         obtain ⟨y73, y74, e75, h⟩ := aO h
         refine Fs ae [(15, pX 26 3)] [0, 26] [(26, .box 97 [ag (i64.wrap (1980 + y67)), ag (i64.wrap (1 + y70)), ag (i64.wrap (1 + y73))]), (0, .box 89 (bl y74))] 28 [hn, hl [0] [] 0 (cV (⟨x36, x37, x38⟩ : aL) 20 (y67, y68) e69), hn, hn, hl [0] [] 0 (cV y68 12 (y70, y71) e72), hn, hn, hl [0] [] 0 (cV y71 28 (y73, y74) e75)] ?_
         obtain ⟨y76, y77, e78, h⟩ := aO h
         obtain ⟨y79, e80, h⟩ := ak h
         obtain ⟨g81, h⟩ := aN h
         obtain ⟨y82, y83, e84, h⟩ := aO h
         obtain ⟨y85, e86, h⟩ := ak h
         obtain ⟨g87, h⟩ := aN h
         refine Fu ae dr [[], [], [], [0], [], [31], [32, 4], [], [], [], [0], [], [36], [37, 5]] [(12, .c (.ref 37 1 0 ((x34 ++ ([y85] : aj)).length))), (11, .c (.ref 32 1 0 ((x33 ++ ([y79] : aj)).length)))] [(37, .row 9 false 1 (x34 ++ ([y85] : aj)).length (Rs (x34 ++ ([y85] : aj)))), (0, .box 89 (bl y83)), (32, .row 9 false 1 (x33 ++ ([y79] : aj)).length (Rs (x33 ++ ([y79] : aj))))] 40 [hn, hn, hn, hl [0] [] 0 (cV y74 3 (y76, y77) e78), hk (tA (⟨i64.wrap (1980 + y67), i64.wrap (1 + y70), i64.wrap (1 + y73)⟩ : b8) y76 y79 e80), bh mt Es 1 (fun _ => rfl) ([y79] : aj), bY mt Es 1 16 x33 ([y79] : aj) g81 (by decide), hn, hn, hn, hl [0] [] 0 (cV y77 3 (y82, y83) e84), hk (tA (⟨i64.wrap (1980 + y67), i64.wrap (1 + y70), i64.wrap (1 + y73)⟩ : b8) y82 y85 e86), bh mt Es 1 (fun _ => rfl) ([y85] : aj), bY mt Es 1 16 x34 ([y85] : aj) g87 (by decide)] ?_
         refine Fj (Fj ?_)
         exact jl ((x33 ++ ([y79] : aj)), (x34 ++ ([y85] : aj)), y83.list, y83.at_, y83.state) h (ai [(0, 0), (1, 1), (2, 2), (3, 3), (4, 32), (5, 37)])
        ·refine ah ae [(91, vb (((p1.Fields.getD x35.toNat bq).Kind) == 4))] 21 ?_
         refine Fw h (fun c88 h => ?_) (fun c88 h => ?_)
         ·obtain ⟨y89, y90, e91, h⟩ := aO h
          refine Fs ae [(16, vs y89)] [0] [(0, .box 89 (bl y90))] 23 [hn, hl [0] [] 0 (oh (⟨x36, x37, x38⟩ : aL) (y89, y90) e91)] ?_
          obtain ⟨g92, g93, h⟩ := aG h
          obtain ⟨g94, g95, h⟩ := aG h
          refine AW.rg ae [(12, .c (.ref 32 1 0 ((x34 ++ ([((mk #[49, 50, 44, 32]) ++ y89)] : aj)).length))), (11, .c (.ref 27 1 0 ((x33 ++ ([(y89 ++ (mk #[32, 49, 50]))] : aj)).length)))] [4, 5, 26, 27, 31, 32] [(32, .row 9 false 1 (x34 ++ ([((mk #[49, 50, 44, 32]) ++ y89)] : aj)).length (Rs (x34 ++ ([((mk #[49, 50, 44, 32]) ++ y89)] : aj)))), (27, .row 9 false 1 (x33 ++ ([(y89 ++ (mk #[32, 49, 50]))] : aj)).length (Rs (x33 ++ ([(y89 ++ (mk #[32, 49, 50]))] : aj))))] 35 [hn, hn, ho g92, bh mt Es 1 (fun _ => rfl) ([(y89 ++ (mk #[32, 49, 50]))] : aj), bY mt Es 1 16 x33 ([(y89 ++ (mk #[32, 49, 50]))] : aj) g93 (by decide), hn, hn, ho g94, bh mt Es 1 (fun _ => rfl) ([((mk #[49, 50, 44, 32]) ++ y89)] : aj), bY mt Es 1 16 x34 ([((mk #[49, 50, 44, 32]) ++ y89)] : aj) g95 (by decide)] ?_
          refine Fj (Fj ?_)
          exact jl ((x33 ++ ([(y89 ++ (mk #[32, 49, 50]))] : aj)), (x34 ++ ([((mk #[49, 50, 44, 32]) ++ y89)] : aj)), y90.list, y90.at_, y90.state) h (ai [(0, 0), (1, 1), (2, 2), (3, 3), (4, 27), (5, 32)])
         ·obtain ⟨g96, g97, h⟩ := aG h
          refine AW.rg ae [(12, .c (.ref 26 1 0 ((x34 ++ ([(mk #[65, 45, 66, 49, 50])] : aj)).length))), (11, .c (.ref 23 1 0 ((x33 ++ ([(mk #[97, 98, 32, 49, 50])] : aj)).length)))] [4, 5, 22, 23, 25, 26] [(26, .row 9 false 1 (x34 ++ ([(mk #[65, 45, 66, 49, 50])] : aj)).length (Rs (x34 ++ ([(mk #[65, 45, 66, 49, 50])] : aj)))), (23, .row 9 false 1 (x33 ++ ([(mk #[97, 98, 32, 49, 50])] : aj)).length (Rs (x33 ++ ([(mk #[97, 98, 32, 49, 50])] : aj))))] 29 [hn, bh mt Es 1 (fun _ => rfl) ([(mk #[97, 98, 32, 49, 50])] : aj), bY mt Es 1 16 x33 ([(mk #[97, 98, 32, 49, 50])] : aj) g96 (by decide), hn, bh mt Es 1 (fun _ => rfl) ([(mk #[65, 45, 66, 49, 50])] : aj), bY mt Es 1 16 x34 ([(mk #[65, 45, 66, 49, 50])] : aj) g97 (by decide)] ?_
          refine Fj (Fj ?_)
          exact jl ((x33 ++ ([(mk #[97, 98, 32, 49, 50])] : aj)), (x34 ++ ([(mk #[65, 45, 66, 49, 50])] : aj)), x36, x37, x38) h (ai [(0, 0), (1, 1), (2, 2), (3, 3), (4, 23), (5, 26)])
     ·refine exit (Fb ?_)
      exact aU h rfl (ai [(0, 0), (1, 1), (2, 2), (3, 3), (4, 4), (5, 5)])
    ·show (_ : Exit → St → Prop) (.exit 2) _
     refine E6 (Fp ?_)
     obtain ⟨y103, y104, e105, h⟩ := aO h
     refine Fs ae [(18, af y104), (17, pX 15 3)] [11, 15] [(15, .box 53 [ag y103.ID, ag y103.Version, .ref 11 1 0 y103.Values.length]), (11, .row 9 false 1 y103.Values.length (Rs y103.Values))] 18 [hn, hn, hn, hn, hn, hg [] [] true 1 (q := ((True) ∧ (True) ∧ (True) ∧ (True) ∧ (True)) ∧ (True) ∧ (True) ∧ (0 + x98.length ≤ x98.length) ∧ (True)) ⟨⟨tv, tv, tv, tv, tv⟩, tv, tv, br, tv⟩ (a0 := [.agg (aJ p1), af (i64.wrap (1 + (x10.length : Int))), af 1, vl 1 Rs x98]) (lg p1 (i64.wrap (1 + (x10.length : Int))) 1 x98 (y103, y104) e105) ⟨aR.refl _, aR.refl _, aR.refl _, aR.refl _, tv⟩ (fun _ => ⟨bV Vs _ _ _, tv⟩)] ?_
     obtain ⟨y106, y107, e108, h⟩ := aO h
     refine Fs ae [(20, af y107), (19, pX 27 3)] [23, 27] [(27, .box 53 [ag y106.ID, ag y106.Version, .ref 23 1 0 y106.Values.length]), (23, .row 9 false 1 y106.Values.length (Rs y106.Values))] 30 [hn, hn, hn, hn, hn, hg [] [] true 1 (q := ((True) ∧ (True) ∧ (True) ∧ (True) ∧ (True)) ∧ (True) ∧ (True) ∧ (0 + x99.length ≤ x99.length) ∧ (True)) ⟨⟨tv, tv, tv, tv, tv⟩, tv, tv, br, tv⟩ (a0 := [.agg (aJ p1), af (i64.wrap (100 + (x11.length : Int))), af 3, vl 1 Rs x99]) (lg p1 (i64.wrap (100 + (x11.length : Int))) 3 x99 (y106, y107) e108) ⟨aR.refl _, aR.refl _, aR.refl _, aR.refl _, tv⟩ (fun _ => ⟨bV Vs _ _ _, tv⟩)] (seq ?_)
     refine AW.join (ι := Bool) (fun v => ⟨[(0, pX 0 3), (4, pX 1 4), (8, rX 2 3 x10.length), (9, rX 3 3 x11.length), (10, af x12), (17, pX 4 3), (19, pX 5 3), (129, vb v)], [(0, bN 89 x100 x101 x102), (1, .box 33 (aJ p1)), (2, .row 53 false 3 x10.length (bB x10)), (3, .row 53 false 3 x11.length (bB x11)), (4, .box 53 [ag y103.ID, ag y103.Version, .ref 6 1 0 y103.Values.length]), (5, .box 53 [ag y106.ID, ag y106.Version, .ref 7 1 0 y106.Values.length]), (6, .row 9 false 1 y103.Values.length (Rs y103.Values)), (7, .row 9 false 1 y106.Values.length (Rs y106.Values))], 8⟩) (fun v : Bool => kU x10 x11 x12 x100 x101 x102 y103 y106 v = some o) (fun x109 h => ?_) ?_
     ·unfold kU at h
      refine Fp ?_
      refine Fw h (fun c110 h => ?_) (fun c110 h => ?_)
      ·refine AW.pre (Conv.trans (Iw 6 9 1 y103.Values.length (Rs y103.Values) (by kernel_rfl)) (mN (id := 4) (ty := 53) (cs := [ag y103.ID, ag y103.Version, .ref 6 1 0 y103.Values.length]) (ds := (bL y103)) (by kernel_rfl) ⟨cf.refl _ _, cf.refl _ _, cf.ref (ty := 9) (f := Rs y103.Values) (by kernel_rfl) br, tv⟩)) ?_
       obtain ⟨g111, h⟩ := aN h
       refine AW.pre (Conv.trans (Iw 7 9 1 y106.Values.length (Rs y106.Values) (by kernel_rfl)) (mN (id := 5) (ty := 53) (cs := [ag y106.ID, ag y106.Version, .ref 7 1 0 y106.Values.length]) (ds := (bL y106)) (by kernel_rfl) ⟨cf.refl _ _, cf.refl _ _, cf.ref (ty := 9) (f := Rs y106.Values) (by kernel_rfl) br, tv⟩)) ?_
       obtain ⟨g112, h⟩ := aN h
       refine Fu ae dr [[], [], [10], [11, 2], [], [], [14], [15, 3]] [(9, .c (.ref 15 3 0 ((x11 ++ ([y106] : List aB)).length))), (8, .c (.ref 11 3 0 ((x10 ++ ([y103] : List aB)).length)))] [(15, .row 53 false 3 (x11 ++ ([y106] : List aB)).length (bB (x11 ++ ([y106] : List aB)))), (11, .row 53 false 3 (x10 ++ ([y103] : List aB)).length (bB (x10 ++ ([y103] : List aB))))] 18 [hn, hn, bh bg jo 3 (fun _ => rfl) ([y103] : List aB), bY bg jo 3 40 x10 ([y103] : List aB) g111 (by decide), hn, hn, bh bg jo 3 (fun _ => rfl) ([y106] : List aB), bY bg jo 3 40 x11 ([y106] : List aB) g112 (by decide)] ?_
       refine Fj ?_
       exact jl ((x10 ++ ([y103] : List aB)), (x11 ++ ([y106] : List aB)), x100, x101, x102) h (ai [(0, 0), (1, 1), (2, 11), (3, 15)])
      ·refine skip (Fj ?_)
       exact jl (x10, x11, x100, x101, x102) h (ai [(0, 0), (1, 1), (2, 2), (3, 3)])
     ·rcases aD h with ⟨c113, h⟩ | ⟨c113, h⟩
      ·refine au ae [(129, vb (y107 == 0))] 36 [hn, ht c113] ?_
       exact jl (y107 == 0) h (ai [(0, 0), (1, 1), (2, 2), (3, 3), (4, 15), (5, 27), (6, 11), (7, 23)])
      ·refine au ae [(129, vb false)] 36 [hn, hf c113] ?_
       exact jl false h (ai [(0, 0), (1, 1), (2, 2), (3, 3), (4, 15), (5, 27), (6, 11), (7, 23)])
  ·refine exit (Fb ?_)
   exact aU h rfl (ai [(0, 0), (1, 2), (2, 3)])
 ·show (_ : Exit → St → Prop) (.exit 0) _
  refine E6 (Fp ?_)
  refine ah ae [(7, rX 2 3 x116.length), (6, rX 1 3 x115.length)] 7 (ret ?_)
  obtain rfl := am h
  exact aW (.inr rfl) [(0, 0), (1, 1), (2, 2)] 3 (.tup [.c (.ref 1 3 0 x115.length), .c (.ref 2 3 0 x116.length)])
noncomputable def kX (p0 : Int) (p1 : Int) (x1 : Bool) : Option Bool := if x1 then (some true) else (if (p0 == 2) then (some (p1 == 1)) else (if (p0 == 4) then (some (p1 == 2)) else (if (p0 == 5) then (some (p1 == 4)) else (some false))))
noncomputable def qo (p0 : Int) (p1 : Int) : Option Bool := if (p0 == 1) then (kX p0 p1 (p0 == 1)) else (kX p0 p1 (p0 == 3))
theorem yy (p0 : Int) (p1 : Int) (r : Bool) (h : qo p0 p1 = some r) : CT 172 [af p0, af p1] [] (vb r) [] := by
 refine an ae 0 Tryz.func172 rfl (fun _ _ _ => ?_)
 unfold qo at h
 refine ah ae [] 1 (seq ?_)
 refine ah ae [(5, af p0)] 2 (block (seq ?_))
 refine AW.join (ι := Bool) (fun v => ⟨[(1, af p1), (5, af p0), (6, vb v)], [], 0⟩) (fun v : Bool => kX p0 p1 v = some r) (fun x1 h => ?_) ?_
 ·unfold kX at h
  refine Fp ?_
  refine Fw h (fun c2 h => ?_) (fun c2 h => ?_)
  ·refine ah ae [(4, vb true)] 1 (ret (Fi (Fo ?_)))
   apply al h (vb true)
  ·refine ah ae [(9, vb (p0 == 2))] 2 ?_
   refine Fw h (fun c3 h => ?_) (fun c3 h => ?_)
   ·refine ah ae [(4, vb (p1 == 1))] 5 (ret (Fi (Fo ?_)))
    apply al h (vb (p1 == 1))
   ·refine ah ae [(13, vb (p0 == 4))] 4 ?_
    refine Fw h (fun c4 h => ?_) (fun c4 h => ?_)
    ·refine ah ae [(4, vb (p1 == 2))] 7 (ret (Fi (Fo ?_)))
     apply al h (vb (p1 == 2))
    ·refine ah ae [(17, vb (p0 == 5))] 6 ?_
     refine Fw h (fun c5 h => ?_) (fun c5 h => ?_)
     ·refine ah ae [(4, vb (p1 == 4))] 9 (ret (Fi (Fo ?_)))
      apply al h (vb (p1 == 4))
     ·refine skip (Fj (Fp ?_))
      refine ah ae [(4, vb false)] 7 (ret ?_)
      apply al h (vb false)
 ·refine ah ae [(6, vb (p0 == 1))] 4 ?_
  refine Fw h (fun c6 h => ?_) (fun c6 h => ?_)
  ·refine skip ?_
   exact jl (p0 == 1) h
  ·refine aS ae [(6, vb (p0 == 3))] 6 ?_
   exact jl (p0 == 3) h
noncomputable def iU (x1 : Bool) : Option Bool := some x1
noncomputable def p6 (p0 : aK) (p1 : aX) : Option Bool := if (decide (p1.Field ≥ 0)) then (if (decide (p1.Field < (p0.Fields.length : Int))) then (if 0 ≤ p1.Field then (if p1.Field < (p0.Fields.length : Int) then ((qo p1.Transform ((p0.Fields.getD p1.Field.toNat bq).Kind)).bind fun y6 => (iU y6)) else none) else none) else (iU false)) else (iU false)
theorem oR (p0 : aK) (p1 : aX) (r : Bool) (h : p6 p0 p1 = some r) : CT 132 [.agg (aJ p0), .agg [ag p1.Field, ag p1.Transform]] [] (vb r) [] := by
 refine an ae 0 Tryz.func132 rfl (fun _ _ _ => ?_)
 unfold p6 at h
 refine Fs ae [(3, pX 1 2), (2, pX 0 4)] [0, 1] [(1, .box 119 [ag p1.Field, ag p1.Transform]), (0, .box 33 (aJ p0))] 3 [] (seq ?_)
 refine AW.join (ι := Bool) (fun v => ⟨[(4, vb v)], [], 0⟩) (fun v : Bool => iU v = some r) (fun x1 h => ?_) ?_
 ·unfold iU at h
  refine Fp (ret ?_)
  apply al h (vb x1)
 ·rcases aD h with ⟨c2, h⟩ | ⟨c2, h⟩
  ·rcases aD h with ⟨c3, h⟩ | ⟨c3, h⟩
   ·obtain ⟨g4, g5, h⟩ := aG h
    obtain ⟨y6, e7, h⟩ := ak h
    refine Fu ae dr [] [(4, vb y6)] [] 26 [hn, hn, ht c2, hn, hn, hn, hn, hn, hn, ht c3, hn, hn, hn, hn, hn, hn, hn, hn, hq g4 g5, hn, hn, hk (yy p1.Transform ((p0.Fields.getD p1.Field.toNat bq).Kind) y6 e7)] ?_
    exact jl y6 h
   ·refine Fu ae dr [] [(4, vb false)] [] 27 [hn, hn, ht c2, hn, hn, hn, hn, hn, hn, hf c3] ?_
    exact jl false h
  ·refine Fu ae dr [] [(4, vb false)] [] 27 [hn, hn, hf c2] ?_
   exact jl false h
noncomputable def lO (p0 : Int) : Option Bool := some (p0 != p0)
theorem tO (p0 : Int) (r : Bool) (h : lO p0 = some r) : CT 111 [af p0] [] (vb r) [] := by
 refine an ae 0 Tryz.func111 rfl (fun _ _ _ => ?_)
 unfold lO at h
 refine ah ae [] 1 ?_
 refine ah ae [(2, vb (p0 != p0))] 5 (ret ?_)
 apply al h (vb (p0 != p0))
noncomputable def HM (p0 : Int) (p1 : Int) : Option Int := (lO p0).bind fun y1 => ((lO p1).bind fun y3 => (if y1 then (if y3 then (some 0) else (some (-1))) else (if y3 then (some 1) else (if (decide (p0 < p1)) then (some (-1)) else (if (decide (p0 > p1)) then (some 1) else (some 0))))))
theorem tB (p0 : Int) (p1 : Int) (r : Int) (h : HM p0 p1 = some r) : CT 66 [af p0, af p1] [] (af r) [] := by
 refine an ae 0 Tryz.func66 rfl (fun _ _ _ => ?_)
 unfold HM at h
 refine ah ae [] 1 ?_
 obtain ⟨y1, e2, h⟩ := ak h
 refine ay ae [(5, vb y1)] 3 [hn, hk (tO p0 y1 e2)] ?_
 obtain ⟨y3, e4, h⟩ := ak h
 refine ay ae [(6, vb y3)] 5 [hn, hk (tO p1 y3 e4)] (seq ?_)
 refine ah ae [(11, vb y1)] 6 ?_
 refine Fw h (fun c5 h => ?_) (fun c5 h => ?_)
 ·refine seq ?_
  refine ah ae [(12, vb y3)] 7 ?_
  refine Fw h (fun c6 h => ?_) (fun c6 h => ?_)
  ·refine ah ae [(4, af 0)] 8 (ret (Fo (Fo ?_)))
   apply al h (af 0)
  ·refine skip (Fp ?_)
   refine ah ae [(4, af (-1))] 8 (ret (Fo ?_))
   apply al h (af (-1))
 ·refine skip (Fp (seq ?_))
  refine ah ae [(13, vb y3)] 7 ?_
  refine Fw h (fun c7 h => ?_) (fun c7 h => ?_)
  ·refine ah ae [(4, af 1)] 8 (ret (Fo ?_))
   apply al h (af 1)
  ·refine skip (Fp (seq ?_))
   refine ah ae [(16, vb (decide (p0 < p1)))] 10 ?_
   refine Fw h (fun c8 h => ?_) (fun c8 h => ?_)
   ·refine ah ae [(4, af (-1))] 11 (ret (Fo ?_))
    apply al h (af (-1))
   ·refine skip (Fp (seq ?_))
    refine ah ae [(19, vb (decide (p0 > p1)))] 13 ?_
    refine Fw h (fun c9 h => ?_) (fun c9 h => ?_)
    ·refine ah ae [(4, af 1)] 14 (ret (Fo ?_))
     apply al h (af 1)
    ·refine skip (Fp ?_)
     refine ah ae [(4, af 0)] 14 (ret ?_)
     apply al h (af 0)
noncomputable def uz (p0 : List Int) (x2 : Int) : Option (Int ⊕ (Unit ⊕ Int)) := if (decide (x2 < (p0.length : Int))) then (if 0 ≤ x2 then (if x2 < (p0.length : Int) then (if ((p0.getD x2.toNat 0) != 0) then (some (.inr (.inr (p0.getD x2.toNat 0)))) else (some (.inl (i64.wrap (x2 + 1))))) else none) else none) else (some (.inr (.inl ())))
noncomputable def qp : Option Int := some 0
noncomputable def uA (x8 : Int) : Option Int := some x8
noncomputable def qZ (p0 : List Int) : Option Int := ca (loop (fun v : Int => uz p0 v) 0) (fun t => qp) (fun t => uA t)
theorem zh (p0 : List Int) (r : Int) (h : qZ p0 = some r) : CT 65 [vl 1 aF p0] [] (af r) [] := by
 refine an ae 0 Tryz.func65 rfl (fun _ _ _ => ?_)
 unfold qZ at h
 refine ah ae [] 1 ?_
 refine ah ae [(3, af 0)] 2 (seq ?_)
 refine ah ae [(8, af 0), (7, af (p0.length : Int)), (6, vl 1 aF p0)] 5 (block ?_)
 refine FA h (fun v => ⟨[(3, af 0), (6, vl 1 aF p0), (7, af (p0.length : Int)), (8, af v)], [], 0⟩) (fun t => (.exit 0, ⟨[(3, af 0)], [], 0⟩)) (fun t => (.ret, ⟨[(2, af t)], [], 0⟩)) (ai []) (fun _ => tv) (fun _ => tv) ?_ (fun t h => ?_) (fun x8 h => ?_)
 ·clear h
  intro x2 o h
  unfold uz at h
  refine ah ae [(9, vb (decide (x2 < (p0.length : Int))))] 1 (seq ?_)
  refine Fw h (fun c4 h => ?_) (fun c4 h => ?_)
  ·refine skip (Fp ?_)
   refine seq (block ?_)
   obtain ⟨g5, g6, h⟩ := aG h
   refine ay ae [(5, af (p0.getD x2.toNat 0))] 4 [hq g5 g6] ?_
   refine ah ae [(14, vb ((p0.getD x2.toNat 0) != 0))] 7 ?_
   refine Fw h (fun c7 h => ?_) (fun c7 h => ?_)
   ·refine ah ae [(2, af (p0.getD x2.toNat 0))] 9 (ret (Fi (Fo ?_)))
    exact aU h rfl (ai [])
   ·refine skip (Fj (Fp ?_))
    refine aS ae [(8, af (i64.wrap (x2 + 1)))] 9 ?_
    exact bu h (ai [])
  ·refine exit (Fb ?_)
   exact aU h rfl (ai [])
 ·replace h : qp = some r := h
  unfold qp at h
  show (_ : Exit → St → Prop) (.exit 0) _
  refine E6 (Fp ?_)
  refine ah ae [(2, af 0)] 2 (ret ?_)
  apply al h (af 0)
 ·unfold uA at h
  show (_ : Exit → St → Prop) (.ret) _
  refine Fi (Fo ?_)
  apply al h (af x8)
noncomputable def p7 (p0 : aX) (p1 : aX) : Option Int := (HM p0.Field p1.Field).bind fun y1 => ((HM p0.Transform p1.Transform).bind fun y3 => ((qZ ([y1, y3] : List Int)).bind fun y5 => (some y5)))
theorem yk (p0 : aX) (p1 : aX) (r : Int) (h : p7 p0 p1 = some r) : CT 133 [.agg [ag p0.Field, ag p0.Transform], .agg [ag p1.Field, ag p1.Transform]] [] (af r) [] := by
 refine an ae 0 Tryz.func133 rfl (fun _ _ _ => ?_)
 unfold p7 at h
 refine Fs ae [(3, pX 1 2), (2, pX 0 2)] [0, 1] [(1, .box 119 [ag p1.Field, ag p1.Transform]), (0, .box 119 [ag p0.Field, ag p0.Transform])] 3 [] ?_
 obtain ⟨y1, e2, h⟩ := ak h
 obtain ⟨y3, e4, h⟩ := ak h
 obtain ⟨y5, e6, h⟩ := ak h
 refine Fv ae dr [[], [], [], [], [], [], [], [], [], [], [11]] [(4, af y5)] [] 13 [hn, hn, hn, hn, hk (tB p0.Field p1.Field y1 e2), hn, hn, hn, hn, hk (tB p0.Transform p1.Transform y3 e4), bh 0 db 1 (fun _ => rfl) ([y1, y3] : List Int), hg [] [] true 0 (q := (0 + ([y1, y3] : List Int).length ≤ ([y1, y3] : List Int).length) ∧ (True)) ⟨br, tv⟩ (a0 := [vl 1 aF ([y1, y3] : List Int)]) (zh ([y1, y3] : List Int) y5 e6) ⟨aR.refl _, tv⟩ (fun _ => tv)] ?_
 refine ret ?_
 apply al h (af y5)
noncomputable def jb (x4 : Int) (x8 : Bool) : Option (Int ⊕ (Unit ⊕ Unit)) := if x8 then (some (.inr (.inr ()))) else (some (.inl (i64.wrap (x4 + 1))))
noncomputable def ud (p0 : aK) (p1 : bz) (x4 : Int) : Option (Int ⊕ (Unit ⊕ Unit)) := if (decide (x4 < (p1.Components.length : Int))) then (if 0 ≤ x4 then (if x4 < (p1.Components.length : Int) then ((p6 p0 (p1.Components.getD x4.toNat cQ)).bind fun y10 => (if (!y10) then (jb x4 true) else (if (decide (x4 > 0)) then (if 0 ≤ (i64.wrap (x4 - 1)) then (if (i64.wrap (x4 - 1)) < (p1.Components.length : Int) then ((p7 (p1.Components.getD ((i64.wrap (x4 - 1)).toNat) cQ) (p1.Components.getD x4.toNat cQ)).bind fun y16 => (jb x4 (decide (y16 ≥ 0)))) else none) else none) else (jb x4 false)))) else none) else none) else (some (.inr (.inl ())))
noncomputable def pI : Option Int := some 0
noncomputable def pJ : Option Int := some 17
noncomputable def lr (p0 : aK) (p1 : bz) (x1 : Bool) : Option Int := if x1 then (some 1) else (ca (loop (fun v : Int => ud p0 p1 v) 0) (fun t => pI) (fun t => pJ))
noncomputable def qA (p0 : aK) (p1 : bz) : Option Int := if (decide ((p1.Components.length : Int) < 1)) then (lr p0 p1 true) else (lr p0 p1 (decide ((p1.Components.length : Int) > 3)))
theorem yL (p0 : aK) (p1 : bz) (r : Int) (h : qA p0 p1 = some r) : CT 95 [.agg (aJ p0), .agg [cl 2 bD p1.Components]] [] (af r) [] := by
 refine an ae 0 Tryz.func95 rfl (fun _ _ _ => ?_)
 unfold qA at h
 refine Fs ae [(3, pX 1 1), (2, pX 0 4)] [0, 1] [(1, .box 117 [cl 2 bD p1.Components]), (0, .box 33 (aJ p0))] 3 [] (seq (seq ?_))
 refine AW.join (ι := Bool) (fun v => ⟨[(2, pX 0 4), (3, pX 1 1), (16, vb v)], [(0, .box 33 (aJ p0)), (1, .box 117 [cl 2 bD p1.Components])], 2⟩) (fun v : Bool => lr p0 p1 v = some r) (fun x1 h => ?_) ?_
 ·unfold lr at h
  refine Fp ?_
  refine Fw h (fun c2 h => ?_) (fun c2 h => ?_)
  ·refine ah ae [(4, af 1)] 3 (ret (Fo ?_))
   apply al h (af 1)
  ·refine skip (Fp (seq ?_))
   refine ah ae [(20, af 0), (19, af (p1.Components.length : Int)), (18, vl 2 bD p1.Components)] 6 (block ?_)
   refine FA h (fun v => ⟨[(2, pX 0 4), (3, pX 1 1), (18, vl 2 bD p1.Components), (19, af (p1.Components.length : Int)), (20, af v)], [(0, .box 33 (aJ p0)), (1, .box 117 [cl 2 bD p1.Components])], 2⟩) (fun t => (.exit 0, ⟨[], [], 0⟩)) (fun t => (.ret, ⟨[(4, af 17)], [], 0⟩)) (ai [(0, 0), (1, 1)]) (fun _ => tv) (fun _ => tv) ?_ (fun t h => ?_) (fun t h => ?_)
   ·clear h
    intro x4 o h
    unfold ud at h
    refine ah ae [(21, vb (decide (x4 < (p1.Components.length : Int))))] 3 (seq ?_)
    refine Fw h (fun c5 h => ?_) (fun c5 h => ?_)
    ·refine skip (Fp ?_)
     refine seq (block ?_)
     obtain ⟨g6, g7, h⟩ := aG h
     refine Fs ae [(5, af x4), (6, pX 6 2)] [6] [(6, .box 119 [ag ((p1.Components.getD x4.toNat cQ).Field), ag ((p1.Components.getD x4.toNat cQ).Transform)])] 9 [hn, hq g6 g7] (seq ?_)
     refine AW.join (ι := Bool) (fun v => ⟨[(2, pX 0 4), (3, pX 1 1), (18, vl 2 bD p1.Components), (19, af (p1.Components.length : Int)), (20, af x4), (43, vb v)], [(0, .box 33 (aJ p0)), (1, .box 117 [cl 2 bD p1.Components])], 2⟩) (fun v : Bool => jb x4 v = some o) (fun x8 h => ?_) ?_
     ·unfold jb at h
      refine Fp ?_
      refine Fw h (fun c9 h => ?_) (fun c9 h => ?_)
      ·refine ah ae [(4, af 17)] 3 (ret (Fi (Fo ?_)))
       exact aU h rfl (ai [])
      ·refine skip (Fj (Fp ?_))
       refine aS ae [(20, af (i64.wrap (x4 + 1)))] 4 ?_
       exact bu h (ai [(0, 0), (1, 1)])
     ·obtain ⟨y10, e11, h⟩ := ak h
      rcases aD h with ⟨c12, h⟩ | ⟨c12, h⟩
      ·refine Fu ae dr [] [(43, vb true)] [] 27 [hn, hn, hk (oR p0 (p1.Components.getD x4.toNat cQ) y10 e11), ht c12] ?_
       exact jl true h (ai [(0, 0), (1, 1)])
      ·rcases aD h with ⟨c13, h⟩ | ⟨c13, h⟩
       ·obtain ⟨g14, g15, h⟩ := aG h
        obtain ⟨y16, e17, h⟩ := ak h
        refine Fu ae dr [] [(43, vb (decide (y16 ≥ 0)))] [] 26 [hn, hn, hk (oR p0 (p1.Components.getD x4.toNat cQ) y10 e11), hf c12, hn, hn, ht c13, hn, hn, hn, hn, hn, hq g14 g15, hn, hn, hk (yk (p1.Components.getD ((i64.wrap (x4 - 1)).toNat) cQ) (p1.Components.getD x4.toNat cQ) y16 e17)] ?_
        exact jl (decide (y16 ≥ 0)) h (ai [(0, 0), (1, 1)])
       ·refine Fu ae dr [] [(43, vb false)] [] 27 [hn, hn, hk (oR p0 (p1.Components.getD x4.toNat cQ) y10 e11), hf c12, hn, hn, hf c13] ?_
        exact jl false h (ai [(0, 0), (1, 1)])
    ·refine exit (Fb ?_)
     exact aU h rfl (ai [])
   ·replace h : pI = some r := h
    unfold pI at h
    show (_ : Exit → St → Prop) (.exit 0) _
    refine E6 (Fp ?_)
    refine ah ae [(4, af 0)] 1 (ret ?_)
    apply al h (af 0)
   ·replace h : pJ = some r := h
    unfold pJ at h
    show (_ : Exit → St → Prop) (.ret) _
    refine Fi (Fo ?_)
    apply al h (af 17)
 ·rcases aD h with ⟨c19, h⟩ | ⟨c19, h⟩
  ·refine au ae [(16, vb true)] 13 [hn, hn, hn, ht c19] ?_
   exact jl true h (ai [(0, 0), (1, 1)])
  ·refine au ae [(16, vb (decide ((p1.Components.length : Int) > 3)))] 13 [hn, hn, hn, hf c19] ?_
   exact jl (decide ((p1.Components.length : Int) > 3)) h (ai [(0, 0), (1, 1)])
noncomputable def tP (p0 : aK) (p1 : List bz) (x6 : Int) : Option (Int ⊕ (Unit ⊕ Int)) := if (decide (x6 < (p1.length : Int))) then (if 0 ≤ x6 then (if x6 < (p1.length : Int) then ((qA p0 (p1.getD x6.toNat dQ)).bind fun y11 => (if (y11 != 0) then (some (.inr (.inr y11))) else (some (.inl (i64.wrap (x6 + 1)))))) else none) else none) else (some (.inr (.inl ())))
noncomputable def o5 : Option Int := some 0
noncomputable def tQ (x14 : Int) : Option Int := some x14
noncomputable def lB (p0 : aK) (p1 : List bz) : Option Int := (dz p0).bind fun y1 => (if (y1 != 0) then (some y1) else (if (decide ((p1.length : Int) > 8)) then (some 1) else (ca (loop (fun v : Int => tP p0 p1 v) 0) (fun t => o5) (fun t => tQ t))))
theorem tI (p0 : aK) (p1 : List bz) (r : Int) (h : lB p0 p1 = some r) : CT 52 [.agg (aJ p0), vl 1 cR p1] [] (af r) [] := by
 refine an ae 0 Tryz.func52 rfl (fun _ _ _ => ?_)
 unfold lB at h
 refine Fs ae [(2, pX 0 4)] [0] [(0, .box 33 (aJ p0))] 2 [] (seq ?_)
 obtain ⟨y1, e2, h⟩ := ak h
 refine ay ae [(5, af y1)] 4 [hn, hk (Hr p0 y1 e2)] ?_
 refine ah ae [(12, vb (y1 != 0))] 6 ?_
 refine Fw h (fun c3 h => ?_) (fun c3 h => ?_)
 ·refine ah ae [(4, af y1)] 8 (ret (Fo ?_))
  apply al h (af y1)
 ·refine skip (Fp (seq ?_))
  refine ah ae [(16, vb (decide ((p1.length : Int) > 8)))] 9 ?_
  refine Fw h (fun c4 h => ?_) (fun c4 h => ?_)
  ·refine ah ae [(4, af 1)] 10 (ret (Fo ?_))
   apply al h (af 1)
  ·refine skip (Fp (seq ?_))
   refine ah ae [(19, af 0), (18, af (p1.length : Int)), (17, vl 1 cR p1)] 12 (block ?_)
   refine FA h (fun v => ⟨[(2, pX 0 4), (17, vl 1 cR p1), (18, af (p1.length : Int)), (19, af v)], [(0, .box 33 (aJ p0))], 1⟩) (fun t => (.exit 0, ⟨[], [], 0⟩)) (fun t => (.ret, ⟨[(4, af t)], [], 0⟩)) (ai [(0, 0)]) (fun _ => tv) (fun _ => tv) ?_ (fun t h => ?_) (fun x14 h => ?_)
   ·clear h
    intro x6 o h
    unfold tP at h
    refine ah ae [(20, vb (decide (x6 < (p1.length : Int))))] 2 (seq ?_)
    refine Fw h (fun c8 h => ?_) (fun c8 h => ?_)
    ·refine skip (Fp ?_)
     refine seq (block ?_)
     obtain ⟨g9, g10, h⟩ := aG h
     refine Fs ae [(7, pX 4 1)] [4] [(4, .box 117 [cl 2 bD ((p1.getD x6.toNat dQ).Components)])] 6 [hq g9 g10] ?_
     obtain ⟨y11, e12, h⟩ := ak h
     refine ay ae [(8, af y11)] 9 [hn, hn, hk (yL p0 (p1.getD x6.toNat dQ) y11 e12)] ?_
     refine ah ae [(27, vb (y11 != 0))] 11 ?_
     refine Fw h (fun c13 h => ?_) (fun c13 h => ?_)
     ·refine ah ae [(4, af y11)] 13 (ret (Fi (Fo ?_)))
      exact aU h rfl (ai [])
     ·refine skip (Fj (Fp ?_))
      refine aS ae [(19, af (i64.wrap (x6 + 1)))] 13 ?_
      exact bu h (ai [(0, 0)])
    ·refine exit (Fb ?_)
     exact aU h rfl (ai [])
   ·replace h : o5 = some r := h
    unfold o5 at h
    show (_ : Exit → St → Prop) (.exit 0) _
    refine E6 (Fp ?_)
    refine ah ae [(4, af 0)] 1 (ret ?_)
    apply al h (af 0)
   ·unfold tQ at h
    show (_ : Exit → St → Prop) (.ret) _
    refine Fi (Fo ?_)
    apply al h (af x14)
noncomputable def lP (x6 : Int) (x14 : Bool) : Option (Int ⊕ (Unit ⊕ Int)) := if x14 then (some (.inr (.inr 12))) else (some (.inl (i64.wrap (x6 + 1))))
noncomputable def uB (p0 : aK) (p1 : List aB) (x6 : Int) : Option (Int ⊕ (Unit ⊕ Int)) := if (decide (x6 < (p1.length : Int))) then (if 0 ≤ x6 then (if x6 < (p1.length : Int) then ((PS p0 (p1.getD x6.toNat bg)).bind fun y11 => (if (y11 != 0) then (some (.inr (.inr y11))) else (if (decide (x6 > 0)) then (if 0 ≤ (i64.wrap (x6 - 1)) then (if (i64.wrap (x6 - 1)) < (p1.length : Int) then (lP x6 (decide (((p1.getD ((i64.wrap (x6 - 1)).toNat) bg).ID) ≥ ((p1.getD x6.toNat bg).ID)))) else none) else none) else (lP x6 false)))) else none) else none) else (some (.inr (.inl ())))
noncomputable def qq : Option Int := some 0
noncomputable def uC (x19 : Int) : Option Int := some x19
noncomputable def Ji (p0 : aK) (p1 : List aB) : Option Int := (dz p0).bind fun y1 => (if (y1 != 0) then (some y1) else (if (decide ((p1.length : Int) > 64)) then (some 1) else (ca (loop (fun v : Int => uB p0 p1 v) 0) (fun t => qq) (fun t => uC t))))
theorem zi (p0 : aK) (p1 : List aB) (r : Int) (h : Ji p0 p1 = some r) : CT 37 [.agg (aJ p0), vl 3 bB p1] [] (af r) [] := by
 refine an ae 0 Tryz.func37 rfl (fun _ _ _ => ?_)
 unfold Ji at h
 refine Fs ae [(2, pX 0 4)] [0] [(0, .box 33 (aJ p0))] 2 [] (seq ?_)
 obtain ⟨y1, e2, h⟩ := ak h
 refine ay ae [(5, af y1)] 4 [hn, hk (Hr p0 y1 e2)] ?_
 refine ah ae [(12, vb (y1 != 0))] 6 ?_
 refine Fw h (fun c3 h => ?_) (fun c3 h => ?_)
 ·refine ah ae [(4, af y1)] 8 (ret (Fo ?_))
  apply al h (af y1)
 ·refine skip (Fp (seq ?_))
  refine ah ae [(16, vb (decide ((p1.length : Int) > 64)))] 9 ?_
  refine Fw h (fun c4 h => ?_) (fun c4 h => ?_)
  ·refine ah ae [(4, af 1)] 10 (ret (Fo ?_))
   apply al h (af 1)
  ·refine skip (Fp (seq ?_))
   refine ah ae [(19, af 0), (18, af (p1.length : Int)), (17, vl 3 bB p1)] 12 (block ?_)
   refine FA h (fun v => ⟨[(1, vl 3 bB p1), (2, pX 0 4), (17, vl 3 bB p1), (18, af (p1.length : Int)), (19, af v)], [(0, .box 33 (aJ p0))], 1⟩) (fun t => (.exit 0, ⟨[], [], 0⟩)) (fun t => (.ret, ⟨[(4, af t)], [], 0⟩)) (ai [(0, 0)]) (fun _ => tv) (fun _ => tv) ?_ (fun t h => ?_) (fun x19 h => ?_)
   ·clear h
    intro x6 o h
    unfold uB at h
    refine ah ae [(20, vb (decide (x6 < (p1.length : Int))))] 2 (seq ?_)
    refine Fw h (fun c8 h => ?_) (fun c8 h => ?_)
    ·refine skip (Fp ?_)
     refine seq (block ?_)
     obtain ⟨g9, g10, h⟩ := aG h
     refine Fs ae [(6, af x6), (7, pX 5 3)] [5] [(5, .box 53 [ag ((p1.getD x6.toNat bg).ID), ag ((p1.getD x6.toNat bg).Version), cl 1 Rs ((p1.getD x6.toNat bg).Values)])] 8 [hn, hq g9 g10] (seq ?_)
     obtain ⟨y11, e12, h⟩ := ak h
     refine ay ae [(8, af y11)] 11 [hn, hn, hk (tY p0 (p1.getD x6.toNat bg) y11 e12)] ?_
     refine ah ae [(28, vb (y11 != 0))] 13 ?_
     refine Fw h (fun c13 h => ?_) (fun c13 h => ?_)
     ·refine ah ae [(4, af y11)] 15 (ret (Fo ?_))
      refine Fi (Fo ?_)
      exact aU h rfl (ai [])
     ·refine skip (Fp (seq ?_))
      refine AW.join (ι := Bool) (fun v => ⟨[(1, vl 3 bB p1), (2, pX 0 4), (17, vl 3 bB p1), (18, af (p1.length : Int)), (19, af x6), (42, vb v)], [(0, .box 33 (aJ p0))], 1⟩) (fun v : Bool => lP x6 v = some o) (fun x14 h => ?_) ?_
      ·unfold lP at h
       refine Fp ?_
       refine Fw h (fun c15 h => ?_) (fun c15 h => ?_)
       ·refine ah ae [(4, af 12)] 2 (ret (Fi (Fo ?_)))
        exact aU h rfl (ai [])
       ·refine skip (Fj (Fp ?_))
        refine aS ae [(19, af (i64.wrap (x6 + 1)))] 3 ?_
        exact bu h (ai [(0, 0)])
      ·rcases aD h with ⟨c16, h⟩ | ⟨c16, h⟩
       ·obtain ⟨g17, g18, h⟩ := aG h
        refine Fu ae dr [] [(42, vb (decide (((p1.getD ((i64.wrap (x6 - 1)).toNat) bg).ID) ≥ ((p1.getD x6.toNat bg).ID))))] [] 26 [hn, ht c16, hn, hn, hn, hn, hq g17 g18] ?_
        exact jl (decide (((p1.getD ((i64.wrap (x6 - 1)).toNat) bg).ID) ≥ ((p1.getD x6.toNat bg).ID))) h (ai [(0, 0)])
       ·refine Fu ae dr [] [(42, vb false)] [] 26 [hn, hf c16] ?_
        exact jl false h (ai [(0, 0)])
    ·refine exit (Fb ?_)
     exact aU h rfl (ai [])
   ·replace h : qq = some r := h
    unfold qq at h
    show (_ : Exit → St → Prop) (.exit 0) _
    refine E6 (Fp ?_)
    refine ah ae [(4, af 0)] 1 (ret ?_)
    apply al h (af 0)
   ·unfold uC at h
    show (_ : Exit → St → Prop) (.ret) _
    refine Fi (Fo ?_)
    apply al h (af x19)
noncomputable def kh (p0 : ByteArray) : Option ByteArray := some p0
theorem xx (p0 : ByteArray) (r : ByteArray) (h : kh p0 = some r) : CT 174 [vs p0] [] (vs r) [] := by
 refine an ae 0 Tryz.func174 rfl (fun _ _ _ => ?_)
 unfold kh at h
 refine ah ae [] 1 ?_
 refine ah ae [(2, vs p0)] 3 (ret ?_)
 apply al h (vs p0)
noncomputable def iV (x1 : Bool) : Option Bool := some x1
noncomputable def p8 (p0 : ByteArray) : Option Bool := if (!(p0.toList == (mk #[]).toList)) then (if (decide ((p0.size : Int) ≤ 64)) then ((gz p0).bind fun y4 => (iV (y4.toList == p0.toList))) else (iV false)) else (iV false)
theorem yl (p0 : ByteArray) (r : Bool) (h : p8 p0 = some r) : CT 249 [vs p0] [] (vb r) [] := by
 refine an ae 0 Tryz.func249 rfl (fun _ _ _ => ?_)
 unfold p8 at h
 refine ah ae [] 1 (seq ?_)
 refine AW.join (ι := Bool) (fun v => ⟨[(2, vb v)], [], 0⟩) (fun v : Bool => iV v = some r) (fun x1 h => ?_) ?_
 ·unfold iV at h
  refine Fp (ret ?_)
  apply al h (vb x1)
 ·rcases aD h with ⟨c2, h⟩ | ⟨c2, h⟩
  ·rcases aD h with ⟨c3, h⟩ | ⟨c3, h⟩
   ·obtain ⟨y4, e5, h⟩ := ak h
    refine au ae [(2, vb (y4.toList == p0.toList))] 14 [hn, ht c2, hn, hn, hn, ht c3, hn, hn, hn, hk (kW p0 y4 e5)] ?_
    exact jl (y4.toList == p0.toList) h
   ·refine au ae [(2, vb false)] 15 [hn, ht c2, hn, hn, hn, hf c3] ?_
    exact jl false h
  ·refine au ae [(2, vb false)] 15 [hn, hf c2] ?_
   exact jl false h
noncomputable def lQ (p0 : Int) : Option Int := if 0 ≤ (u8.wrap (p0 - 97)) then (if (u8.wrap (p0 - 97)) < ((mk #[32, 49, 50, 51, 32, 49, 50, 45, 32, 50, 50, 52, 53, 53, 32, 49, 50, 54, 50, 51, 32, 49, 45, 50, 32, 50]).size : Int) then (some (((mk #[32, 49, 50, 51, 32, 49, 50, 45, 32, 50, 50, 52, 53, 53, 32, 49, 50, 54, 50, 51, 32, 49, 45, 50, 32, 50]).data.toList.getD ((u8.wrap (p0 - 97)).toNat) 0).toNat : Int)) else none) else none
theorem tR (p0 : Int) (r : Int) (h : lQ p0 = some r) : CT 250 [cK p0] [] (cK r) [] := by
 refine an ae 0 Tryz.func250 rfl (fun _ _ _ => ?_)
 unfold lQ at h
 refine ah ae [] 1 ?_
 obtain ⟨g1, g2, h⟩ := aG h
 refine ay ae [(2, cK (((mk #[32, 49, 50, 51, 32, 49, 50, 45, 32, 50, 50, 52, 53, 53, 32, 49, 50, 54, 50, 51, 32, 49, 45, 50, 32, 50]).data.toList.getD ((u8.wrap (p0 - 97)).toNat) 0).toNat : Int))] 5 [hn, hn, hq g1 g2] (ret ?_)
 apply al h (cK (((mk #[32, 49, 50, 51, 32, 49, 50, 45, 32, 50, 50, 52, 53, 53, 32, 49, 50, 54, 50, 51, 32, 49, 45, 50, 32, 50]).data.toList.getD ((u8.wrap (p0 - 97)).toNat) 0).toNat : Int))
noncomputable def iL (x12 : Int) (x16 : List Int) (x17 : Int) : Option (((List Int) × Int × Int) ⊕ (List Int)) := some (.inl (x16, x17, i64.wrap (x12 + 1)))
noncomputable def kI (x12 : Int) (y20 : Int) (x22 : List Int) : Option (((List Int) × Int × Int) ⊕ (List Int)) := iL x12 x22 y20
noncomputable def kJ (x10 : List Int) (x12 : Int) (y20 : Int) (x24 : Bool) : Option (((List Int) × Int × Int) ⊕ (List Int)) := if x24 then (if x10.length + ([y20] : List Int).length ≤ 1099511627776 then (kI x12 y20 (x10 ++ ([y20] : List Int))) else none) else (kI x12 y20 x10)
noncomputable def kK (p0 : ByteArray) (x10 : List Int) (x11 : Int) (x12 : Int) (x14 : Bool) : Option (((List Int) × Int × Int) ⊕ (List Int)) := if x14 then (if 0 ≤ x12 then (if x12 < (p0.size : Int) then ((lQ ((p0.data.toList.getD x12.toNat 0).toNat : Int)).bind fun y20 => (if (y20 == 45) then (iL x12 x10 x11) else (if (y20 != 32) then (kJ x10 x12 y20 (y20 != x11)) else (kJ x10 x12 y20 false)))) else none) else none) else (some (.inr x10))
noncomputable def oI (p0 : ByteArray) (x10 : List Int) (x11 : Int) (x12 : Int) : Option (((List Int) × Int × Int) ⊕ (List Int)) := if (decide (x12 < (p0.size : Int))) then (kK p0 x10 x11 x12 (decide ((x10.length : Int) < 4))) else (kK p0 x10 x11 x12 false)
noncomputable def tC (x31 : List Int) : Option ((List Int) ⊕ (List Int)) := if (decide ((x31.length : Int) < 4)) then (if x31.length + ([48] : List Int).length ≤ 1099511627776 then (some (.inl (x31 ++ ([48] : List Int)))) else none) else (some (.inr x31))
noncomputable def pf (p0 : ByteArray) : Option ByteArray := (p8 p0).bind fun y1 => (if (!y1) then (some (mk #[])) else (if (0 : Int) < (p0.size : Int) then ((lQ ((p0.data.toList.getD 0 0).toNat : Int)).bind fun y5 => ((loop (fun v : (List Int) × Int × Int => oI p0 v.1 v.2.1 v.2.2) (([((p0.data.toList.getD 0 0).toNat : Int)] : List Int), y5, 1)).bind fun x29 => ((loop (fun v : List Int => tC v) x29).bind fun x35 => (some (Vm.strOf x35))))) else none))
theorem xU (p0 : ByteArray) (r : ByteArray) (h : pf p0 = some r) : CT 217 [vs p0] [] (vs r) [] := by
 refine an ae 0 Tryz.func217 rfl (fun _ _ _ => ?_)
 unfold pf at h
 refine ah ae [] 1 (seq ?_)
 obtain ⟨y1, e2, h⟩ := ak h
 refine ay ae [(9, vb (!y1))] 3 [hn, hk (yl p0 y1 e2)] ?_
 refine Fw h (fun c3 h => ?_) (fun c3 h => ?_)
 ·refine ah ae [(2, vs (mk #[]))] 4 (ret (Fo ?_))
  apply al h (vs (mk #[]))
 ·refine skip (Fp ?_)
  obtain ⟨g4, h⟩ := aN h
  obtain ⟨y5, e6, h⟩ := ak h
  refine Fv ae dr [[], [], [5]] [(4, cK y5), (3, .c (.ref 5 1 0 (([((p0.data.toList.getD 0 0).toNat : Int)] : List Int).length)))] [(5, .row 5 false 1 ([((p0.data.toList.getD 0 0).toNat : Int)] : List Int).length (bf ([((p0.data.toList.getD 0 0).toNat : Int)] : List Int)))] 10 [hn, ho (p := (0 ≤ (0 : Int)) ∧ ((0 : Int) < (p0.size : Int))) (⟨(by decide), g4⟩), bh 0 cU 1 (fun _ => rfl) ([((p0.data.toList.getD 0 0).toNat : Int)] : List Int), hn, ho (p := (0 ≤ (0 : Int)) ∧ ((0 : Int) < (p0.size : Int))) (⟨(by decide), g4⟩), hk (tR ((p0.data.toList.getD 0 0).toNat : Int) y5 e6)] ?_
  refine seq ?_
  refine ah ae [(5, af 1)] 11 (block ?_)
  obtain ⟨x29, l37, h⟩ := ak h
  refine Fy l37 (fun v => ⟨[(0, vs p0), (3, rX 0 1 v.1.length), (4, cK v.2.1), (5, af v.2.2)], [(0, .row 5 false 1 v.1.length (bf v.1))], 1⟩) (fun t : List Int => (.exit 0, ⟨[(3, rX 0 1 t.length)], [(0, .row 5 false 1 t.length (bf t))], 1⟩)) (ai [(0, 5)]) (fun _ => tv) ?_ ?_
  ·clear l37 h
   intro v o h
   obtain ⟨x10, x11, x12⟩ := v
   replace h : oI p0 x10 x11 x12 = some o := h
   unfold oI at h
   refine seq (seq ?_)
   refine AW.join (ι := Bool) (fun v => ⟨[(0, vs p0), (3, rX 0 1 x10.length), (4, cK x11), (5, af x12), (24, vb v)], [(0, .row 5 false 1 x10.length (bf x10))], 1⟩) (fun v : Bool => kK p0 x10 x11 x12 v = some o) (fun x14 h => ?_) ?_
   ·unfold kK at h
    refine Fp ?_
    refine Fw h (fun c15 h => ?_) (fun c15 h => ?_)
    ·refine skip (Fp (seq ?_))
     refine AW.join (ι := (List Int) × Int) (fun v => ⟨[(0, vs p0), (3, rX 0 1 v.1.length), (4, cK v.2), (5, af x12)], [(0, .row 5 false 1 v.1.length (bf v.1))], 1⟩) (fun v : (List Int) × Int => iL x12 v.1 v.2 = some o) (fun v h => ?_) ?_
     ·obtain ⟨x16, x17⟩ := v
      replace h : iL x12 x16 x17 = some o := h
      unfold iL at h
      refine Fp ?_
      refine aS ae [(5, af (i64.wrap (x12 + 1)))] 4 ?_
      exact bu h (ai [(0, 0)])
     ·refine block ?_
      obtain ⟨g18, g19, h⟩ := aG h
      obtain ⟨y20, e21, h⟩ := ak h
      refine ay ae [(6, cK y20)] 5 [hn, hn, hq g18 g19, hk (tR ((p0.data.toList.getD x12.toNat 0).toNat : Int) y20 e21)] (block (seq ?_))
      refine AW.join (ι := List Int) (fun v => ⟨[(0, vs p0), (3, rX 0 1 v.length), (5, af x12), (6, cK y20)], [(0, .row 5 false 1 v.length (bf v))], 1⟩) (fun v : List Int => kI x12 y20 v = some o) (fun x22 h => ?_) ?_
      ·unfold kI at h
       refine Fp ?_
       refine ah ae [(4, cK y20)] 3 ?_
       refine exit (E6 (Fj ?_))
       exact jl (x22, y20) h (ai [(0, 0)])
      ·refine block (seq ?_)
       refine block (seq ?_)
       refine block (seq (seq ?_))
       refine ah ae [(31, vb (y20 == 45))] 8 ?_
       refine Fw h (fun c23 h => ?_) (fun c23 h => ?_)
       ·refine exit (Fb ?_)
        refine Fb (E6 ?_)
        refine Fp (exit ?_)
        refine E7 (by kernel_rfl) (Fb (E7 (by kernel_rfl) ?_))
        refine vj ?_
        refine Fb (E6 (Fj ?_))
        exact jl (x10, x11) h (ai [(0, 0)])
       ·refine skip (Fp (seq ?_))
        refine AW.join (ι := Bool) (fun v => ⟨[(0, vs p0), (3, rX 0 1 x10.length), (5, af x12), (6, cK y20), (34, vb v)], [(0, .row 5 false 1 x10.length (bf x10))], 1⟩) (fun v : Bool => kJ x10 x12 y20 v = some o) (fun x24 h => ?_) ?_
        ·unfold kJ at h
         refine Fp ?_
         refine Fw h (fun c25 h => ?_) (fun c25 h => ?_)
         ·refine exit (Fb ?_)
          refine E7 (by kernel_rfl) (Fb ?_)
          refine E6 (Fp ?_)
          obtain ⟨g26, h⟩ := aN h
          refine AW.rg ae [(3, .c (.ref 4 1 0 ((x10 ++ ([y20] : List Int)).length)))] [0, 3, 4] [(4, .row 5 false 1 (x10 ++ ([y20] : List Int)).length (bf (x10 ++ ([y20] : List Int))))] 6 [hn, hn, bh 0 cU 1 (fun _ => rfl) ([y20] : List Int), bY 0 cU 1 1 x10 ([y20] : List Int) g26 (by decide)] ?_
          refine Fj ?_
          exact jl (x10 ++ ([y20] : List Int)) h (ai [(0, 4)])
         ·refine skip (Fp ?_)
          refine exit (E7 (by kernel_rfl) ?_)
          refine Fb (E7 (by kernel_rfl) ?_)
          refine Fb (E6 ?_)
          exact jl x10 h (ai [(0, 0)])
        ·rcases aD h with ⟨c27, h⟩ | ⟨c27, h⟩
         ·refine au ae [(34, vb (y20 != x11))] 16 [hn, ht c27] ?_
          exact jl (y20 != x11) h (ai [(0, 0)])
         ·refine au ae [(34, vb false)] 16 [hn, hf c27] ?_
          exact jl false h (ai [(0, 0)])
    ·refine exit (Fb ?_)
     exact aU h rfl (ai [(0, 0)])
   ·rcases aD h with ⟨c28, h⟩ | ⟨c28, h⟩
    ·refine au ae [(24, vb (decide ((x10.length : Int) < 4)))] 10 [hn, hn, hn, ht c28] ?_
     exact jl (decide ((x10.length : Int) < 4)) h (ai [(0, 0)])
    ·refine au ae [(24, vb false)] 10 [hn, hn, hn, hf c28] ?_
     exact jl false h (ai [(0, 0)])
  ·show (_ : Exit → St → Prop) (.exit 0) _
   refine E6 (Fp ?_)
   refine seq (block ?_)
   obtain ⟨x35, l36, h⟩ := ak h
   refine Fy l36 (fun v => ⟨[(3, rX 0 1 v.length)], [(0, .row 5 false 1 v.length (bf v))], 1⟩) (fun t : List Int => (.exit 6, ⟨[(3, rX 0 1 t.length)], [(0, .row 5 false 1 t.length (bf t))], 1⟩)) (ai [(0, 0)]) (fun _ => tv) ?_ ?_
   ·clear l36 h
    intro x31 o h
    unfold tC at h
    refine seq ?_
    refine ah ae [(49, vb (decide ((x31.length : Int) < 4)))] 4 ?_
    refine Fw h (fun c33 h => ?_) (fun c33 h => ?_)
    ·refine skip (Fp (block ?_))
     obtain ⟨g34, h⟩ := aN h
     refine AW.rg ae [(3, .c (.ref 6 1 0 ((x31 ++ ([48] : List Int)).length)))] [0, 5, 6] [(6, .row 5 false 1 (x31 ++ ([48] : List Int)).length (bf (x31 ++ ([48] : List Int))))] 8 [hn, bh 0 cU 1 (fun _ => rfl) ([48] : List Int), bY 0 cU 1 1 x31 ([48] : List Int) g34 (by decide)] ?_
     refine Fj ?_
     exact bu h (ai [(0, 6)])
    ·refine exit (Fb ?_)
     exact aU h rfl (ai [(0, 0)])
   ·show (_ : Exit → St → Prop) (.exit 6) _
    refine E6 (Fp ?_)
    refine ay ae [(2, vs (Vm.strOf x35))] 4 [hn, hi (fun i => x35.getD i 0) (p := (0 + x35.length ≤ x35.length) ∧ ∀ i, i < x35.length → (fun i j => bf x35 (0 + i) j) i 0 = .v (.int .u8 (x35.getD i 0))) (⟨br, fun i _ => by simp only [Gg] <;> rfl⟩)] (ret ?_)
    apply al h (vs (Vm.strOf x35))
noncomputable def l9 (p0 : ByteArray) : Option ByteArray := (fb p0).bind fun y1 => (if ((y1.length : Int) == 0) then (some (mk #[])) else (if (0 : Int) < (y1.length : Int) then ((pf (y1.getD (0 + 0) mt)).bind fun y5 => (some y5)) else none))
theorem yM (p0 : ByteArray) (r : ByteArray) (h : l9 p0 = some r) : CT 175 [vs p0] [] (vs r) [] := by
 refine an ae 0 Tryz.func175 rfl (fun _ _ _ => ?_)
 unfold l9 at h
 refine ah ae [] 1 ?_
 obtain ⟨y1, e2, h⟩ := ak h
 refine Fs ae [(3, rX 2 1 y1.length)] [2] [(2, .row 9 false 1 y1.length (Rs y1))] 4 [hn, hm [] [] 1 (gw p0 y1 e2) ⟨bV Vs _ _ _, tv⟩] (seq ?_)
 refine ah ae [(8, vb ((y1.length : Int) == 0))] 7 ?_
 refine Fw h (fun c3 h => ?_) (fun c3 h => ?_)
 ·refine ah ae [(2, vs (mk #[]))] 8 (ret (Fo ?_))
  apply al h (vs (mk #[]))
 ·refine skip (Fp ?_)
  obtain ⟨g4, h⟩ := aN h
  obtain ⟨y5, e6, h⟩ := ak h
  refine ay ae [(2, vs y5)] 11 [hn, ho (p := (0 ≤ (0 : Int)) ∧ ((0 : Int) < (y1.length : Int))) (⟨(by decide), g4⟩), ho (p := (0 + 0) < y1.length) (by have h1 : 0 ≤ (0 : Int) := (by decide); have h2 : (0 : Int) < (y1.length : Int) := g4; omega), hk (xU (y1.getD (0 + 0) mt) y5 e6)] (ret ?_)
  apply al h (vs y5)
noncomputable def lC (p0 : ByteArray) (p1 : Int) : Option ByteArray := if 0 ≤ (if (p0.size : Int) < p1 then (p0.size : Int) else p1) then (if ((if (p0.size : Int) < p1 then (p0.size : Int) else p1).toNat) ≤ p0.size then (some (p0.extract 0 ((if (p0.size : Int) < p1 then (p0.size : Int) else p1).toNat))) else none) else none
theorem tJ (p0 : ByteArray) (p1 : Int) (r : ByteArray) (h : lC p0 p1 = some r) : CT 177 [vs p0, af p1] [] (vs r) [] := by
 refine an ae 0 Tryz.func177 rfl (fun _ _ _ => ?_)
 unfold lC at h
 refine ah ae [] 1 ?_
 obtain ⟨g1, g2, h⟩ := aG h
 refine ay ae [(4, vs (p0.extract 0 ((if (p0.size : Int) < p1 then (p0.size : Int) else p1).toNat)))] 8 [hn, hn, hn, hn, hn, ho (p := (True) ∧ (0 ≤ (if (p0.size : Int) < p1 then (p0.size : Int) else p1)) ∧ (0 ≤ ((if (p0.size : Int) < p1 then (p0.size : Int) else p1).toNat)) ∧ (((if (p0.size : Int) < p1 then (p0.size : Int) else p1).toNat) ≤ p0.size)) (⟨tv, g1, (Nat.zero_le _), g2⟩)] (ret ?_)
 apply al h (vs (p0.extract 0 ((if (p0.size : Int) < p1 then (p0.size : Int) else p1).toNat)))
noncomputable def ki (p0 : ByteArray) : Option ByteArray := (lC p0 1).bind fun y1 => (some y1)
theorem xy (p0 : ByteArray) (r : ByteArray) (h : ki p0 = some r) : CT 176 [vs p0] [] (vs r) [] := by
 refine an ae 0 Tryz.func176 rfl (fun _ _ _ => ?_)
 unfold ki at h
 refine ah ae [] 1 ?_
 obtain ⟨y1, e2, h⟩ := ak h
 refine ay ae [(2, vs y1)] 3 [hn, hk (tJ p0 1 y1 e2)] (ret ?_)
 apply al h (vs y1)
noncomputable def km (p0 : ByteArray) : Option ByteArray := (lC p0 4).bind fun y1 => (some y1)
theorem xz (p0 : ByteArray) (r : ByteArray) (h : km p0 = some r) : CT 178 [vs p0] [] (vs r) [] := by
 refine an ae 0 Tryz.func178 rfl (fun _ _ _ => ?_)
 unfold km at h
 refine ah ae [] 1 ?_
 obtain ⟨y1, e2, h⟩ := ak h
 refine ay ae [(2, vs y1)] 3 [hn, hk (tJ p0 4 y1 e2)] (ret ?_)
 apply al h (vs y1)
noncomputable def lD (p0 : ByteArray) : Option ByteArray := (fb p0).bind fun y1 => (aM (kc y1) fun y3 y4 => (if ((y3.length : Int) == 0) then (some (mk #[])) else (if (0 : Int) < (y3.length : Int) then (some (y3.getD (0 + 0) mt)) else none)))
theorem ym (p0 : ByteArray) (r : ByteArray) (h : lD p0 = some r) : CT 179 [vs p0] [] (vs r) [] := by
 refine an ae 0 Tryz.func179 rfl (fun _ _ _ => ?_)
 unfold lD at h
 refine ah ae [] 1 ?_
 obtain ⟨y1, e2, h⟩ := ak h
 obtain ⟨y3, y4, e5, h⟩ := aO h
 refine Fs ae [(3, rX 3 1 y3.length)] [2, 3, 4] [(3, .row 9 false 1 y3.length (Rs y3))] 10 [hn, hm [] [] 1 (gw p0 y1 e2) ⟨bV Vs _ _ _, tv⟩, hg [] [] true 2 (q := (0 + y1.length ≤ y1.length) ∧ (True) ∧ (True)) ⟨br, tv, tv⟩ (a0 := [vl 1 Rs y1, .c (.t (.v (.func (.func 219) #[] #[])))]) (s8 y1 (y3, y4) e5) ⟨aR.refl _, aR.refl _, tv⟩ (fun _ => ⟨bV Vs _ _ _, bV Vs _ _ _, tv⟩)] (seq ?_)
 refine ah ae [(13, vb ((y3.length : Int) == 0))] 13 ?_
 refine Fw h (fun c6 h => ?_) (fun c6 h => ?_)
 ·refine ah ae [(2, vs (mk #[]))] 14 (ret (Fo ?_))
  apply al h (vs (mk #[]))
 ·refine skip (Fp ?_)
  obtain ⟨g7, h⟩ := aN h
  refine ay ae [(2, vs (y3.getD (0 + 0) mt))] 17 [hn, ho (p := (0 ≤ (0 : Int)) ∧ ((0 : Int) < (y3.length : Int))) (⟨(by decide), g7⟩), ho (p := (0 + 0) < y3.length) (by have h1 : 0 ≤ (0 : Int) := (by decide); have h2 : (0 : Int) < (y3.length : Int) := g7; omega)] (ret ?_)
  apply al h (vs (y3.getD (0 + 0) mt))
end Go.Proofs.YtfmhbcfklokmaaaGreatDoor
