/- Lemmas for the statement TopEstimates: Go functions told as pure functions, and laws about these; texts joined and shortened by a program of mine; no condition. -/
import Derived.Test.YtfmhbcfklokmaaaGreatDoorSR1
import Derived.Test.YtfmhbcfklokmaaaGreatDoorRows
import Derived.Test.YtfmhbcfklokmaaaGreatDoorSR4
set_option linter.unusedVariables false
set_option linter.unusedSimpArgs false
set_option linter.defProp false
namespace Go.Proofs.YtfmhbcfklokmaaaGreatDoor
open Vm
open AW (block exit ret seq skip)
open _root_.ByteArray (mk)
open IntKind (i64 u64 u32 u8)
set_option maxRecDepth 100000
set_option maxHeartbeats 10000000
noncomputable section
theorem gP : Tryz.prog.follows .mixedOrders = true := by kernel_rfl
def q8 (p3 : List Int) (x11 : List Int) (x12 : Int) (y18 : aB) (y21 : aB) (x24 : Bool) : Option ((List Int × Int) ⊕ (List Int ⊕ Int)) := if x24 then some (.inr (.inr 13)) else aF (gm y18 y21) fun y26 y27 => (if (y27 != 0) then some (.inr (.inr y27)) else aF (iF p3 y26) fun y30 y31 => (if (y31 != 0) then some (.inr (.inr y31)) else if 0 ≤ y30 then if y30 < (x11.length : Int) then some (.inl ((x11.set (0 + y30.toNat) (SB ((x11.getD (0 + y30.toNat) 0) + 1))), SB (x12 + 1))) else none else none))
def lD (p0 : List a8) (p1 : List aB) (p2 : List aB) (p3 : List Int) (x11 : List Int) (x12 : Int) : Option ((List Int × Int) ⊕ (List Int ⊕ Int)) := if decide (x12 < (p0.length : Int)) then if 0 ≤ x12 then if x12 < (p0.length : Int) then aF (oF p1 ((p0.getD x12.toNat d8).A)) fun y18 y19 => (aF (oF p2 ((p0.getD x12.toNat d8).B)) fun y21 y22 => (if (!y19) then q8 p3 x11 x12 y18 y21 true else q8 p3 x11 x12 y18 y21 (!y22))) else none else none else some (.inr (.inl x11))
def Dc (x37 : List Int) : Option (List Int × Int) := some (x37, 0)
def Dd (x38 : Int) : Option (List Int × Int) := some (([] : List Int), x38)
def jN (p0 : List a8) (p1 : List aB) (p2 : List aB) (p3 : List Int) : Option (List Int × Int) := (sf p0 p1 p2 p3).bind fun y1 => (if (y1 != 0) then some (([] : List Int), y1) else aF (iT (p3.length : Int)) fun y4 y5 => (if 0 ≤ y4 then if y4 ≤ 1099511627776 then cD (loop (fun v : List Int × Int => lD p0 p1 p2 p3 v.1 v.2) ((List.replicate y4.toNat (0 : Int)), 0)) (fun t => Dc t) (fun t => Dd t) else none else none))
theorem CY (p0 : List a8) (p1 : List aB) (p2 : List aB) (p3 : List Int) (r : (List Int) × Int) (h : jN p0 p1 p2 p3 = some r) : CT 14 [vl 2 dX p0, vl 3 bC p1, vl 3 bC p2, vl 1 al p3] [] (.tup [.c (.ref 0 1 0 r.1.length), af r.2]) [(0, .row 3 false 1 r.1.length (al r.1))] := by
 refine aw ae 0 Tryz.func14 rfl (fun _ _ _ => ?_)
 unfold jN at h
 refine ah ae [] 2 (seq ?_)
 obtain ⟨y1, e2, h⟩ := ap h
 refine aA ae [(10, af y1)] 7 (Sv [hk (I9 p0 p1 p2 p3 y1 e2)]) ?_
 refine ah ae [(29, vb (y1 != 0))] 9 ?_
 refine Q2 h ?_ ?_ <;> intro c3 h
 ·refine ah ae [(9, af y1), (8, .c (ar))] 12 (ret (QW ?_))
  obtain rfl := ay h
  exact b6 (.inr rfl) [(0, 12)] 1 (.tup [.c (.ref 12 1 0 (([] : List Int).length)), af y1]) (cG (t := 8) (ty := 3) (sz := 1) (n := ([] : List Int).length) (f := al ([] : List Int)) (by kernel_rfl) rfl)
 ·refine skip (QX ?_)
  obtain ⟨y4, y5, e6, h⟩ := aK h
  refine aA ae [(11, af y4)] 16 (Ss [hk (yu (p3.length : Int) (y4, y5) e6)]) ?_
  obtain ⟨g7, g8, h⟩ := aJ h
  refine QZ ae [(13, .c (.ref 17 1 0 ((List.replicate y4.toNat (0 : Int)).length)))] [17] [(17, .row 3 false 1 (List.replicate y4.toNat (0 : Int)).length (al (List.replicate y4.toNat (0 : Int))))] 19 [hn, gM 0 dj 1 8 [.int .i64 0] rfl rfl y4 y4 g7 (Int.le_refl _) g8 (by decide)] (seq ?_)
  refine ah ae [(41, af 0), (40, af (p0.length : Int)), (39, vl 2 dX p0)] 22 (block ?_)
  refine Q4 h (fun v => ⟨[(1, vl 3 bC p1), (2, vl 3 bC p2), (3, vl 1 al p3), (13, rX 0 1 v.1.length), (39, vl 2 dX p0), (40, af (p0.length : Int)), (41, af v.2)], [(0, .row 3 false 1 v.1.length (al v.1))], 1⟩) (fun t => (.exit 0, ⟨[(13, rX 0 1 t.length)], [(0, .row 3 false 1 t.length (al t))], 1⟩)) (fun t => (.ret, ⟨[(8, .c (ar)), (9, af t)], [], 0⟩)) (ai [(0, 17)]) (fun _ => tv) (fun _ => tv) ?_ (fun x37 h => ?_) (fun x38 h => ?_)
  ·clear h
   intro v o h
   obtain ⟨x11, x12⟩ := v
   replace h : lD p0 p1 p2 p3 x11 x12 = some o := h
   unfold lD at h
   refine ah ae [(42, vb (decide (x12 < (p0.length : Int))))] 2 (seq ?_)
   refine Q2 h ?_ ?_ <;> intro c15 h
   ·refine skip (QX ?_)
    refine seq (block ?_)
    obtain ⟨g16, g17, h⟩ := aJ h
    refine QZ ae [(15, pX 4 2)] [4] [(4, .box 55 [ag ((p0.getD x12.toNat d8).A), ag ((p0.getD x12.toNat d8).B)])] 6 [hq g16 g17] ?_
    obtain ⟨y18, y19, e20, h⟩ := aK h
    refine QZ ae [(17, vb y19), (16, pX 12 3)] [12] [(12, .box 70 [ag y18.ID, ag y18.Version, cl 2 bR y18.Fields])] 15 (Su [hk (Db p1 ((p0.getD x12.toNat d8).A) (y18, y19) e20)]) ?_
    obtain ⟨y21, y22, e23, h⟩ := aK h
    refine QZ ae [(19, vb y22), (18, pX 21 3)] [21] [(21, .box 70 [ag y21.ID, ag y21.Version, cl 2 bR y21.Fields])] 24 (Su [hk (Db p2 ((p0.getD x12.toNat d8).B) (y21, y22) e23)]) (seq (seq ?_))
    refine AW.join (ι := Bool) (fun v => ⟨[(1, vl 3 bC p1), (2, vl 3 bC p2), (3, vl 1 al p3), (13, rX 0 1 x11.length), (16, pX 1 3), (18, pX 2 3), (39, vl 2 dX p0), (40, af (p0.length : Int)), (41, af x12), (64, vb v)], [(0, .row 3 false 1 x11.length (al x11)), (1, .box 70 [ag y18.ID, ag y18.Version, cl 2 bR y18.Fields]), (2, .box 70 [ag y21.ID, ag y21.Version, cl 2 bR y21.Fields])], 3⟩) (fun v : Bool => q8 p3 x11 x12 y18 y21 v = some o) (fun x24 h => ?_) ?_
    ·unfold q8 at h
     refine QX ?_
     refine Q2 h ?_ ?_ <;> intro c25 h
     ·refine ah ae [(9, af 13), (8, .c (ar))] 5 (ret (QW ?_))
      refine QT (QW ?_)
      exact aX h rfl (ai [])
     ·refine skip (QX ?_)
      obtain ⟨y26, y27, e28, h⟩ := aK h
      refine QZ ae [(21, af y27), (20, rX 5 1 y26.length)] [5] [(5, .row 3 false 1 y26.length (al y26))] 11 (Ss [hm [] [] 1 (Cs y18 y21 (y26, y27) e28) ⟨bS fb _ _ _, tv⟩]) (seq ?_)
      refine ah ae [(72, vb (y27 != 0))] 13 ?_
      refine Q2 h ?_ ?_ <;> intro c29 h
      ·refine ah ae [(9, af y27), (8, .c (ar))] 16 (ret (QW ?_))
       refine QT (QW ?_)
       exact aX h rfl (ai [])
      ·refine skip (QX ?_)
       obtain ⟨y30, y31, e32, h⟩ := aK h
       refine aA ae [(21, af y31), (22, af y30)] 20 (Ss [hg [] [] true 0 (q := (True) ∧ (0 + y26.length ≤ y26.length) ∧ (True)) ⟨tv, Ax, tv⟩ (a0 := [vl 1 al p3, vl 1 al y26]) (Ct p3 y26 (y30, y31) e32) ⟨aN.refl _, aN.refl _, tv⟩ (fun _ => tv)]) (seq ?_)
       refine ah ae [(81, vb (y31 != 0))] 22 ?_
       refine Q2 h ?_ ?_ <;> intro c33 h
       ·refine ah ae [(9, af y31), (8, .c (ar))] 25 (ret (QW ?_))
        refine QT (QW ?_)
        exact aX h rfl (ai [])
       ·refine skip (QX ?_)
        obtain ⟨g34, g35, h⟩ := aJ h
        refine QY ae [] [0] [(0, .row 3 false 1 x11.length (al (x11.set (0 + y30.toNat) (SB ((x11.getD (0 + y30.toNat) 0) + 1)))))] 29 (Ss [hq g34 g35, ho (p := (0 + y30.toNat) < x11.length) (by have h1 : 0 ≤ y30 := g34; have h2 : y30 < (x11.length : Int) := g35; omega), hn, hq g34 g35, hset 0 dj x11 (0 + y30.toNat) (SB ((x11.getD (0 + y30.toNat) 0) + 1)) (n := x11.length) (by have h1 : 0 ≤ y30 := g34; have h2 : y30 < (x11.length : Int) := g35; omega) rfl]) ?_
        refine QU (QX ?_)
        refine ba ae [(41, af (SB (x12 + 1)))] 31 ?_
        exact bh h (Conv.trans (cV [(13, .c (.ref 0 1 0 ((x11.set (0 + y30.toNat) (SB ((x11.getD (0 + y30.toNat) 0) + 1))).length)))] ⟨⟨.c (.ref 0 1 0 x11.length), by kernel_rfl, bU.len (by simp only [R7])⟩, tv⟩) (Conv.trans (eN 0 3 false 1 x11.length ((x11.set (0 + y30.toNat) (SB ((x11.getD (0 + y30.toNat) 0) + 1))).length) (al (x11.set (0 + y30.toNat) (SB ((x11.getD (0 + y30.toNat) 0) + 1)))) (by kernel_rfl) (by simp only [R7])) (ai [(0, 0)])))
    ·rcases aI h with ⟨c36, h⟩ | ⟨c36, h⟩
     ·refine ax ae [(64, vb true)] 30 [hn, ht c36] ?_
      exact jl true h (ai [(0, 0), (1, 12), (2, 21)])
     ·refine ax ae [(64, vb (!y22))] 30 [hn, hf c36] ?_
      exact jl (!y22) h (ai [(0, 0), (1, 12), (2, 21)])
   ·refine exit (QR ?_)
    exact aX h rfl (ai [(0, 0)])
  ·unfold Dc at h
   show (_ : XQ) (.exit 0) _
   refine QO (QX ?_)
   refine ah ae [(9, af 0), (8, rX 0 1 x37.length)] 4 (ret ?_)
   obtain rfl := ay h
   exact be (.inr rfl) [(0, 0)] 1 (.tup [.c (.ref 0 1 0 x37.length), af 0])
  ·unfold Dd at h
   show (_ : XQ) (.ret) _
   refine QT (QW ?_)
   obtain rfl := ay h
   exact b6 (.inr rfl) [(0, 0)] 1 (.tup [.c (.ref 0 1 0 (([] : List Int).length)), af x38]) (cG (t := 8) (ty := 3) (sz := 1) (n := ([] : List Int).length) (f := al ([] : List Int)) (by kernel_rfl) rfl)
def qV (x1 : Bool) : Option Bool := some x1
def rO (p0 : Int) : Option Bool := if decide (p0 ≥ 1) then qV (decide (p0 < 65536)) else qV false
theorem IX (p0 : Int) (r : Bool) (h : rO p0 = some r) : CT 49 [af p0] [] (vb r) [] := by
 refine aw ae 0 Tryz.func49 rfl (fun _ _ _ => ?_)
 unfold rO at h
 refine ah ae [] 1 (seq ?_)
 refine AW.join (ι := Bool) (fun v => ⟨[(2, vb v)], [], 0⟩) (fun v : Bool => qV v = some r) (fun x1 h => ?_) ?_
 ·unfold qV at h
  refine QX (ret ?_)
  apply au h (vb x1)
 ·rcases aI h with ⟨c2, h⟩ | ⟨c2, h⟩
  ·refine ax ae [(2, vb (decide (p0 < 65536)))] 8 [hn, ht c2] ?_
   exact jl (decide (p0 < 65536)) h
  ·refine ax ae [(2, vb false)] 8 [hn, hf c2] ?_
   exact jl false h
def oN (p0 : Int) : Option Bool := (rO p0).bind fun y1 => (some (!y1))
theorem vh (p0 : Int) (r : Bool) (h : oN p0 = some r) : CT 48 [af p0] [] (vb r) [] := by
 refine aw ae 0 Tryz.func48 rfl (fun _ _ _ => ?_)
 unfold oN at h
 refine ah ae [] 1 ?_
 obtain ⟨y1, e2, h⟩ := ap h
 refine aA ae [(2, vb (!y1))] 4 [hn, hk (IX p0 y1 e2)] (ret ?_)
 apply au h (vb (!y1))
def qp (p0 : List Int) (x2 : Int) : Option (Int ⊕ (Unit ⊕ Int)) := if decide (x2 < (p0.length : Int)) then if 0 ≤ x2 then if x2 < (p0.length : Int) then (oN (p0.getD x2.toNat 0)).bind fun y7 => (if y7 then some (.inr (.inr x2)) else some (.inl (SB (x2 + 1)))) else none else none else some (.inr (.inl ()))
def xW : Option Int := some (-1)
def xX (x10 : Int) : Option Int := some x10
def uv (p0 : List Int) : Option Int := cD (loop (fun v : Int => qp p0 v) 0) (fun t => xW) (fun t => xX t)
theorem H2 (p0 : List Int) (r : Int) (h : uv p0 = some r) : CT 93 [vl 1 al p0, .c (.t (.v (.func (.func 48) #[] #[])))] [] (af r) [] := by
 refine aw ae 0 Tryz.func93 rfl (fun _ _ _ => ?_)
 unfold uv at h
 refine ah ae [] 1 (seq ?_)
 refine ah ae [(8, af 0), (7, af (p0.length : Int))] 4 (block ?_)
 refine Q4 h (fun v => ⟨[(0, vl 1 al p0), (1, .c (.t (.v (.func (.func 48) #[] #[])))), (7, af (p0.length : Int)), (8, af v)], [], 0⟩) (fun t => (.exit 0, ⟨[], [], 0⟩)) (fun t => (.ret, ⟨[(4, af t)], [], 0⟩)) (ai []) (fun _ => tv) (fun _ => tv) ?_ (fun t h => ?_) (fun x10 h => ?_)
 ·clear h
  intro x2 o h
  unfold qp at h
  refine ah ae [(9, vb (decide (x2 < (p0.length : Int))))] 1 (seq ?_)
  refine Q2 h ?_ ?_ <;> intro c4 h
  ·refine skip (QX ?_)
   refine seq (block ?_)
   refine ah ae [(5, af x2)] 3 ?_
   obtain ⟨g5, g6, h⟩ := aJ h
   obtain ⟨y7, e8, h⟩ := ap h
   refine aA ae [(16, vb y7)] 8 (Su [hq g5 g6, hn, hk (vh (p0.getD x2.toNat 0) y7 e8)]) ?_
   refine Q2 h ?_ ?_ <;> intro c9 h
   ·refine ah ae [(4, af x2)] 10 (ret (QT (QW ?_)))
    exact aX h rfl (ai [])
   ·refine skip (QU (QX ?_))
    refine ba ae [(8, af (SB (x2 + 1)))] 10 ?_
    exact bh h (ai [])
  ·refine exit (QR ?_)
   exact aX h rfl (ai [])
 ·replace h : xW = some r := h
  unfold xW at h
  show (_ : XQ) (.exit 0) _
  refine QO (QX ?_)
  refine ah ae [(4, af (-1))] 1 (ret ?_)
  apply au h (af (-1))
 ·unfold xX at h
  show (_ : XQ) (.ret) _
  refine QT (QW ?_)
  apply au h (af x10)
def mQ (p0 : List Int) : Option Bool := (uv p0).bind fun y1 => (some (decide (y1 ≥ 0)))
theorem xV (p0 : List Int) (r : Bool) (h : mQ p0 = some r) : CT 50 [vl 1 al p0, .c (.t (.v (.func (.func 48) #[] #[])))] [] (vb r) [] := by
 refine aw ae 0 Tryz.func50 rfl (fun _ _ _ => ?_)
 unfold mQ at h
 refine ah ae [] 1 ?_
 obtain ⟨y1, e2, h⟩ := ap h
 refine aA ae [(4, vb (decide (y1 ≥ 0)))] 5 (Ss [hk (H2 p0 y1 e2)]) (ret ?_)
 apply au h (vb (decide (y1 ≥ 0)))
def iV (x1 : Bool) : Option Int := if x1 then some 18 else some 0
def me (p0 : bW) : Option Int := if ((p0.Match.length : Int) != (p0.Random.length : Int)) then iV true else if decide ((p0.Match.length : Int) < 1) then iV true else if decide ((p0.Match.length : Int) > 5) then iV true else (oN p0.Prior).bind fun y6 => (if y6 then iV true else (mQ p0.Match).bind fun y9 => (if y9 then iV true else (mQ p0.Random).bind fun y12 => (iV y12)))
theorem vD (p0 : bW) (r : Int) (h : me p0 = some r) : CT 17 [.agg [ag p0.Prior, cl 1 al p0.Match, cl 1 al p0.Random]] [] (af r) [] := by
 refine aw ae 0 Tryz.func17 rfl (fun _ _ _ => ?_)
 unfold me at h
 refine QZ ae [(1, pX 0 3)] [0] [(0, .box 42 [ag p0.Prior, cl 1 al p0.Match, cl 1 al p0.Random])] 2 [] ?_
 refine ah ae [(3, .c (.t (.v (.func (.func 48) #[] #[]))))] 3 (seq (seq ?_))
 refine AW.join (ι := Bool) (fun v => ⟨[(40, vb v)], [], 0⟩) (fun v : Bool => iV v = some r) (fun x1 h => ?_) ?_
 ·unfold iV at h
  refine QX ?_
  refine Q2 h ?_ ?_ <;> intro c2 h
  ·refine ah ae [(2, af 18)] 1 (ret (QW ?_))
   apply au h (af 18)
  ·refine skip (QX ?_)
   refine ah ae [(2, af 0)] 1 (ret ?_)
   apply au h (af 0)
 ·rcases aI h with ⟨c3, h⟩ | ⟨c3, h⟩
  ·refine ax ae [(40, vb true)] 40 (Sy [ht c3]) ?_
   exact jl true h
  ·rcases aI h with ⟨c4, h⟩ | ⟨c4, h⟩
   ·refine ax ae [(40, vb true)] 40 (Sy [hf c3, hn, hn, hn, hn, ht c4]) ?_
    exact jl true h
   ·rcases aI h with ⟨c5, h⟩ | ⟨c5, h⟩
    ·refine ax ae [(40, vb true)] 40 (Sy [hf c3, hn, hn, hn, hn, hf c4, hn, hn, hn, hn, hn, ht c5]) ?_
     exact jl true h
    ·obtain ⟨y6, e7, h⟩ := ap h
     rcases aI h with ⟨c8, hs⟩ | ⟨c8, hs⟩
     ·clear h; subst c8; have h := hs; clear hs
      refine ax ae [(40, vb true)] 39 (Sy [hf c3, hn, hn, hn, hn, hf c4, hn, hn, hn, hn, hn, hf c5, hn, hn, hn, hn, hn, hk (vh p0.Prior true e7)]) ?_
      exact jl true h
     ·clear h; subst c8; have h := hs; clear hs
      obtain ⟨y9, e10, h⟩ := ap h
      rcases aI h with ⟨c11, hs⟩ | ⟨c11, hs⟩
      ·clear h; subst c11; have h := hs; clear hs
       refine ax ae [(40, vb true)] 38 (Sy [hf c3, hn, hn, hn, hn, hf c4, hn, hn, hn, hn, hn, hf c5, hn, hn, hn, hn, hn, hk (vh p0.Prior false e7), hn, hn, hn, hn, hn, hk (xV p0.Match true e10)]) ?_
       exact jl true h
      ·clear h; subst c11; have h := hs; clear hs
       obtain ⟨y12, e13, h⟩ := ap h
       refine ax ae [(40, vb y12)] 37 (Sy [hf c3, hn, hn, hn, hn, hf c4, hn, hn, hn, hn, hn, hf c5, hn, hn, hn, hn, hn, hk (vh p0.Prior false e7), hn, hn, hn, hn, hn, hk (xV p0.Match false e10), hn, hn, hn, hn, hn, hk (xV p0.Random y12 e13)]) ?_
       exact jl y12 h
def uT (x1 : Bool) : Option Bool := some x1
def ov (p0 : Int) : Option Bool := if decide (p0 ≥ 0) then uT (decide (p0 ≤ 4096)) else uT false
theorem CZ (p0 : Int) (r : Bool) (h : ov p0 = some r) : CT 94 [af p0] [] (vb r) [] := by
 refine aw ae 0 Tryz.func94 rfl (fun _ _ _ => ?_)
 unfold ov at h
 refine ah ae [] 1 (seq ?_)
 refine AW.join (ι := Bool) (fun v => ⟨[(2, vb v)], [], 0⟩) (fun v : Bool => uT v = some r) (fun x1 h => ?_) ?_
 ·unfold uT at h
  refine QX (ret ?_)
  apply au h (vb x1)
 ·rcases aI h with ⟨c2, h⟩ | ⟨c2, h⟩
  ·refine ax ae [(2, vb (decide (p0 ≤ 4096)))] 8 [hn, ht c2] ?_
   exact jl (decide (p0 ≤ 4096)) h
  ·refine ax ae [(2, vb false)] 8 [hn, hf c2] ?_
   exact jl false h
def oe (p0 : List Int) (x3 : Int) (x4 : Int) : Option ((Int × Int) ⊕ (Int ⊕ Unit)) := if decide (x4 < (p0.length : Int)) then if 0 ≤ x4 then if x4 < (p0.length : Int) then (ov (p0.getD x4.toNat 0)).bind fun y9 => (if (!y9) then some (.inr (.inr ())) else some (.inl (SB (x3 + (p0.getD x4.toNat 0)), SB (x4 + 1)))) else none else none else some (.inr (.inl x3))
def Dz (x12 : Int) : Option (Int × Bool) := some (x12, true)
def yM : Option (Int × Bool) := some (0, false)
def oO (p0 : List Int) : Option (Int × Bool) := cD (loop (fun v : Int × Int => oe p0 v.1 v.2) (0, 0)) (fun t => Dz t) (fun t => yM)
theorem Dj (p0 : List Int) (r : Int × Bool) (h : oO p0 = some r) : CT 51 [vl 1 al p0] [] (.tup [af r.1, vb r.2]) [] := by
 refine aw ae 0 Tryz.func51 rfl (fun _ _ _ => ?_)
 unfold oO at h
 refine ah ae [] 2 ?_
 refine ah ae [(4, af 0)] 3 (seq ?_)
 refine ah ae [(9, af 0), (8, af (p0.length : Int)), (7, vl 1 al p0)] 6 (block ?_)
 refine Q4 h (fun v => ⟨[(4, af v.1), (7, vl 1 al p0), (8, af (p0.length : Int)), (9, af v.2)], [], 0⟩) (fun t => (.exit 0, ⟨[(4, af t)], [], 0⟩)) (fun t => (.ret, ⟨[(2, af 0), (3, vb false)], [], 0⟩)) (ai []) (fun _ => tv) (fun _ => tv) ?_ (fun x12 h => ?_) (fun t h => ?_)
 ·clear h
  intro v o h
  obtain ⟨x3, x4⟩ := v
  replace h : oe p0 x3 x4 = some o := h
  unfold oe at h
  refine ah ae [(10, vb (decide (x4 < (p0.length : Int))))] 1 (seq ?_)
  refine Q2 h ?_ ?_ <;> intro c6 h
  ·refine skip (QX ?_)
   refine seq (block ?_)
   obtain ⟨g7, g8, h⟩ := aJ h
   refine aA ae [(6, af (p0.getD x4.toNat 0))] 4 [hq g7 g8] (seq ?_)
   obtain ⟨y9, e10, h⟩ := ap h
   refine aA ae [(15, vb (!y9))] 6 [hn, hk (CZ (p0.getD x4.toNat 0) y9 e10)] ?_
   refine Q2 h ?_ ?_ <;> intro c11 h
   ·refine ah ae [(3, vb false), (2, af 0)] 8 (ret (QW ?_))
    refine QT (QW ?_)
    exact aX h rfl (ai [])
   ·refine skip (QX ?_)
    refine ba ae [(4, af (SB (x3 + (p0.getD x4.toNat 0))))] 10 ?_
    refine QU (QX ?_)
    refine ba ae [(9, af (SB (x4 + 1)))] 12 ?_
    exact bh h (ai [])
  ·refine exit (QR ?_)
   exact aX h rfl (ai [])
 ·unfold Dz at h
  show (_ : XQ) (.exit 0) _
  refine QO (QX ?_)
  refine ah ae [(3, vb true), (2, af x12)] 3 (ret ?_)
  apply au h (.tup [af x12, vb true])
 ·replace h : yM = some r := h
  unfold yM at h
  show (_ : XQ) (.ret) _
  refine QT (QW ?_)
  apply au h (.tup [af 0, vb false])
def uU (x9 : Bool) : Option Int := if x9 then some 19 else some 0
def si (p0 : List Int) (p1 : Int) : Option Int := aF (iT p1) fun y1 y2 => (if (y2 != 0) then some y2 else if ((p0.length : Int) != y1) then some 8 else aF (oO p0) fun y6 y7 => (if (!y7) then uU true else (ov y6).bind fun y12 => (uU (!y12))))
theorem Ja (p0 : List Int) (p1 : Int) (r : Int) (h : si p0 p1 = some r) : CT 88 [vl 1 al p0, af p1] [] (af r) [] := by
 refine aw ae 0 Tryz.func88 rfl (fun _ _ _ => ?_)
 unfold si at h
 refine ah ae [] 1 ?_
 obtain ⟨y1, y2, e3, h⟩ := aK h
 refine aA ae [(6, af y2), (5, af y1)] 7 [hn, hk (yu p1 (y1, y2) e3)] (seq ?_)
 refine ah ae [(15, vb (y2 != 0))] 9 ?_
 refine Q2 h ?_ ?_ <;> intro c4 h
 ·refine ah ae [(4, af y2)] 11 (ret (QW ?_))
  apply au h (af y2)
 ·refine skip (QX (seq ?_))
  refine ah ae [(20, vb ((p0.length : Int) != y1))] 13 ?_
  refine Q2 h ?_ ?_ <;> intro c5 h
  ·refine ah ae [(4, af 8)] 14 (ret (QW ?_))
   apply au h (af 8)
  ·refine skip (QX (seq ?_))
   obtain ⟨y6, y7, e8, h⟩ := aK h
   refine aA ae [(8, vb y7), (7, af y6)] 19 [hn, hk (Dj p0 (y6, y7) e8)] (seq ?_)
   refine AW.join (ι := Bool) (fun v => ⟨[(32, vb v)], [], 0⟩) (fun v : Bool => uU v = some r) (fun x9 h => ?_) ?_
   ·unfold uU at h
    refine QX ?_
    refine Q2 h ?_ ?_ <;> intro c10 h
    ·refine ah ae [(4, af 19)] 1 (ret (QW ?_))
     apply au h (af 19)
    ·refine skip (QX ?_)
     refine ah ae [(4, af 0)] 1 (ret ?_)
     apply au h (af 0)
   ·rcases aI h with ⟨c11, h⟩ | ⟨c11, h⟩
    ·refine ax ae [(32, vb true)] 26 [hn, ht c11] ?_
     exact jl true h
    ·obtain ⟨y12, e13, h⟩ := ap h
     refine ax ae [(32, vb (!y12))] 25 [hn, hf c11, hn, hn, hk (CZ y6 y12 e13)] ?_
     exact jl (!y12) h
def te (p0 : bW) (p1 : List Int) : Option Int := (me p0).bind fun y1 => (if (y1 != 0) then some y1 else (si p1 (p0.Match.length : Int)).bind fun y4 => (some y4))
theorem Kj (p0 : bW) (p1 : List Int) (r : Int) (h : te p0 p1 = some r) : CT 44 [.agg [ag p0.Prior, cl 1 al p0.Match, cl 1 al p0.Random], vl 1 al p1] [] (af r) [] := by
 refine aw ae 0 Tryz.func44 rfl (fun _ _ _ => ?_)
 unfold te at h
 refine QZ ae [(2, pX 0 3)] [0] [(0, .box 42 [ag p0.Prior, cl 1 al p0.Match, cl 1 al p0.Random])] 2 [] (seq ?_)
 obtain ⟨y1, e2, h⟩ := ap h
 refine aA ae [(5, af y1)] 4 [hn, hk (vD p0 y1 e2)] ?_
 refine ah ae [(9, vb (y1 != 0))] 6 ?_
 refine Q2 h ?_ ?_ <;> intro c3 h
 ·refine ah ae [(4, af y1)] 8 (ret (QW ?_))
  apply au h (af y1)
 ·refine skip (QX ?_)
  obtain ⟨y4, e5, h⟩ := ap h
  refine aA ae [(4, af y4)] 11 (Sv [hk (Ja p1 (p0.Match.length : Int) y4 e5)]) (ret ?_)
  apply au h (af y4)
def nx (p0 : List Int) : Option (List Int) := pK (p0.length = 0) (some ([] : List Int)) (if ([] : List Int).length + p0.length ≤ 1099511627776 then some (([] : List Int) ++ p0) else none)
theorem Cy (p0 : List Int) (r : List Int) (h : nx p0 = some r) : CT 45 [vl 1 al p0] [] (.c (.ref 0 1 0 r.length)) [(0, .row 3 false 1 r.length (al r))] := by
 refine aw ae 0 Tryz.func45 rfl (fun _ _ _ => ?_)
 unfold nx at h
 refine ah ae [] 1 (seq ?_)
 refine aA ae [(4, .c (.t (.tst (p0.length = 0))))] 3 [hn, ho (p := (1 : Nat) ≠ 0) (by decide)] ?_
 refine AW.cond_tst (p := p0.length = 0) (by kernel_rfl) (fun c1 => ?_) ?_
 ·replace h := (vF h).1 c1
  refine ah ae [(2, .c (ar))] 4 (ret (QW ?_))
  obtain rfl := ay h
  exact b6 (.inr rfl) [(0, 4)] 1 (.c (.ref 4 1 0 (([] : List Int).length))) (cG (t := 2) (ty := 3) (sz := 1) (n := ([] : List Int).length) (f := al ([] : List Int)) (by kernel_rfl) rfl)
 ·replace h := (vF h).2
  refine skip (QX ?_)
  obtain ⟨g2, h⟩ := aY h
  refine QZ ae [(2, .c (.ref 5 1 0 ((([] : List Int) ++ p0).length)))] [3, 5] [(5, .row 3 false 1 (([] : List Int) ++ p0).length (al (([] : List Int) ++ p0)))] 7 [bB 0 dj 1 (fun _ => rfl) ([] : List Int), hn, hr ((([] : List Int) ++ p0).length) (al (([] : List Int) ++ p0)) (p := (([] : List Int).length = ([] : List Int).length) ∧ (True) ∧ ((([] : List Int).length + p0.length ≤ 1099511627776) ∧ ((8 : Nat) ≤ 128)) ∧ (([] : List Int).length + p0.length = (([] : List Int) ++ p0).length ∧ ∀ i, i < (([] : List Int) ++ p0).length → ∀ j, j < 1 → bn ((da (([] : List Int).length) (al ([] : List Int)) (al p0)) i j) (al (([] : List Int) ++ p0) i j))) (⟨rfl, tv, ⟨g2, (by decide)⟩, t7 (tA rfl rfl ig ig)⟩)] (ret ?_)
  obtain rfl := ay h
  exact be (.inr rfl) [(0, 5)] 1 (.c (.ref 5 1 0 ((([] : List Int) ++ p0).length)))
structure bI where
 match_ : Int
 matchAgree : Int
 random : Int
 randomAgree : Int
def cL : bI := ⟨0, 0, 0, 0⟩
instance : Inhabited bI := ⟨cL⟩
def zv (x : bI) : List T := [.v (.int .i64 x.match_), .v (.int .i64 x.matchAgree), .v (.int .i64 x.random), .v (.int .i64 x.randomAgree)]
def hO (xs : List bI) : Nat → Nat → T := bJ cL zv xs
def nd (p0 : Int) (p1 : Int) (x8 : List Int) (x9 : Int) : Option ((List Int × Int) ⊕ List Int) := if decide (x9 < p1) then ((iI).bind fun y12 => (if 0 ≤ x9 then (if x9 < ((6 : Nat) : Int) then (if (y12.getD x9.toNat 0) ≠ 0 then (if x8.length + ([((SB (p0.tdiv (y12.getD x9.toNat 0))).tmod 3)] : List Int).length ≤ 1099511627776 then (some (.inl ((x8 ++ ([((SB (p0.tdiv (y12.getD x9.toNat 0))).tmod 3)] : List Int)), SB (x9 + 1)))) else none) else none) else none) else none)) else some (.inr x8)
def nf (p0 : Int) (p1 : Int) (x4 : Bool) : Option (List Int × Int) := if x4 then some (([] : List Int), 2) else (loop (fun v : List Int × Int => nd p0 p1 v.1 v.2) (([] : List Int), 0)).bind fun x18 => (some (x18, 0))
def ns (p0 : Int) (p1 : Int) : Option (List Int × Int) := (fO p1).bind fun y1 => (if (!y1) then some (([] : List Int), 8) else if decide (p0 < 0) then nf p0 p1 true else (iI).bind fun y21 => (if 0 ≤ p1 then if p1 < ((6 : Nat) : Int) then nf p0 p1 (decide (p0 ≥ (y21.getD p1.toNat 0))) else none else none))
theorem Cv (p0 : Int) (p1 : Int) (r : (List Int) × Int) (h : ns p0 p1 = some r) : CT 24 [af p0, af p1] [] (.tup [.c (.ref 0 1 0 r.1.length), af r.2]) [(0, .row 3 false 1 r.1.length (al r.1))] := by
 refine aw ae 0 Tryz.func24 rfl (fun _ _ _ => ?_)
 unfold ns at h
 refine ah ae [] 2 (seq ?_)
 obtain ⟨y1, e2, h⟩ := ap h
 refine aA ae [(10, vb (!y1))] 4 [hn, hk (uA p1 y1 e2)] ?_
 refine Q2 h ?_ ?_ <;> intro c3 h
 ·refine ah ae [(5, af 8), (4, .c (ar))] 6 (ret (QW ?_))
  obtain rfl := ay h
  exact b6 (.inr rfl) [(0, 6)] 1 (.tup [.c (.ref 6 1 0 (([] : List Int).length)), af 8]) (cG (t := 4) (ty := 3) (sz := 1) (n := ([] : List Int).length) (f := al ([] : List Int)) (by kernel_rfl) rfl)
 ·refine skip (QX ?_)
  refine seq (seq ?_)
  refine AW.join (ι := Bool) (fun v => ⟨[(0, af p0), (1, af p1), (19, vb v)], [], 0⟩) (fun v : Bool => nf p0 p1 v = some r) (fun x4 h => ?_) ?_
  ·unfold nf at h
   refine QX ?_
   refine Q2 h ?_ ?_ <;> intro c5 h
   ·refine ah ae [(5, af 2), (4, .c (ar))] 2 (ret (QW ?_))
    obtain rfl := ay h
    exact b6 (.inr rfl) [(0, 2)] 1 (.tup [.c (.ref 2 1 0 (([] : List Int).length)), af 2]) (cG (t := 4) (ty := 3) (sz := 1) (n := ([] : List Int).length) (f := al ([] : List Int)) (by kernel_rfl) rfl)
   ·refine skip (QX ?_)
    refine ah ae [(6, .c (ar))] 1 (seq ?_)
    refine ah ae [(21, af 0), (20, af p1)] 3 (block ?_)
    obtain ⟨x18, l19, h⟩ := ap h
    refine Q3 l19 (fun v => ⟨[(0, af p0), (6, rX 0 1 v.1.length), (20, af p1), (21, af v.2)], [(0, .row 3 false 1 v.1.length (al v.1))], 1⟩) (fun t : List Int => (.exit 0, ⟨[(6, rX 0 1 t.length)], [(0, .row 3 false 1 t.length (al t))], 1⟩)) (Conv.trans (cG (t := 6) (ty := 3) (sz := 1) (n := ([] : List Int).length) (f := al ([] : List Int)) (by kernel_rfl) rfl) (ai [(0, 3)])) (fun _ => tv) ?_ ?_
    ·clear l19 h
     intro v o h
     obtain ⟨x8, x9⟩ := v
     replace h : nd p0 p1 x8 x9 = some o := h
     unfold nd at h
     refine ah ae [(22, vb (decide (x9 < p1)))] 2 (seq ?_)
     refine Q2 h ?_ ?_ <;> intro c11 h
     ·refine skip (QX ?_)
      refine seq (block ?_)
      refine ah ae [(7, af x9)] 4 ?_
      obtain ⟨y12, e13, h⟩ := ap h
      obtain ⟨g14, g15, h⟩ := aJ h
      obtain ⟨g16, g17, h⟩ := aJ h
      refine QY ae [(6, .c (.ref 11 1 0 ((x8 ++ ([((SB (p0.tdiv (y12.getD x9.toNat 0))).tmod 3)] : List Int)).length)))] [0, 10, 11] [(11, .row 3 false 1 (x8 ++ ([((SB (p0.tdiv (y12.getD x9.toNat 0))).tmod 3)] : List Int)).length (al (x8 ++ ([((SB (p0.tdiv (y12.getD x9.toNat 0))).tmod 3)] : List Int))))] 13 (Ss [hk (yb y12 e13), hn, hr 6 (al y12) (p := ((0 ≤ x9) ∧ (x9 < ((6 : Nat) : Int))) ∧ (6 = 6 ∧ ∀ i, i < 6 → ∀ j, j < 1 → dp [.v (.int .i64 (y12.getD 0 0)), .v (.int .i64 (y12.getD 1 0)), .v (.int .i64 (y12.getD 2 0)), .v (.int .i64 (y12.getD 3 0)), .v (.int .i64 (y12.getD 4 0)), .v (.int .i64 (y12.getD 5 0))] 1 i j = al y12 i j)) (⟨⟨g14, g15⟩, ⟨rfl, fun i hi j hj => match i, hi, j, hj with | 0, _, 0, _ => rfl | 1, _, 0, _ => rfl | 2, _, 0, _ => rfl | 3, _, 0, _ => rfl | 4, _, 0, _ => rfl | 5, _, 0, _ => rfl | _ + 6, h, _, _ => absurd h (by omega) | _, _, _ + 1, h => absurd h (by omega)⟩⟩), ho g16, ho (p := (3 : Int) ≠ 0) (by decide), bB 0 dj 1 (fun _ => rfl) ([((SB (p0.tdiv (y12.getD x9.toNat 0))).tmod 3)] : List Int), cP 0 dj 1 8 x8 ([((SB (p0.tdiv (y12.getD x9.toNat 0))).tmod 3)] : List Int) g17 (by decide)]) ?_
      refine QU (QX ?_)
      refine ba ae [(21, af (SB (x9 + 1)))] 15 ?_
      exact bh h (ai [(0, 11)])
     ·refine exit (QR ?_)
      exact aX h rfl (ai [(0, 0)])
    ·show (_ : XQ) (.exit 0) _
     refine QO (QX ?_)
     refine ah ae [(5, af 0), (4, rX 0 1 x18.length)] 4 (ret ?_)
     obtain rfl := ay h
     exact be (.inr rfl) [(0, 0)] 1 (.tup [.c (.ref 0 1 0 x18.length), af 0])
  ·rcases aI h with ⟨c20, h⟩ | ⟨c20, h⟩
   ·refine ax ae [(19, vb true)] 13 [hn, ht c20] ?_
    exact jl true h
   ·obtain ⟨y21, e22, h⟩ := ap h
    obtain ⟨g23, g24, h⟩ := aJ h
    refine ax ae [(19, vb (decide (p0 ≥ (y21.getD p1.toNat 0))))] 12 [hn, hf c20, hn, hn, hk (yb y21 e22), hn, hr 6 (al y21) (p := ((0 ≤ p1) ∧ (p1 < ((6 : Nat) : Int))) ∧ (6 = 6 ∧ ∀ i, i < 6 → ∀ j, j < 1 → dp [.v (.int .i64 (y21.getD 0 0)), .v (.int .i64 (y21.getD 1 0)), .v (.int .i64 (y21.getD 2 0)), .v (.int .i64 (y21.getD 3 0)), .v (.int .i64 (y21.getD 4 0)), .v (.int .i64 (y21.getD 5 0))] 1 i j = al y21 i j)) (⟨⟨g23, g24⟩, ⟨rfl, fun i hi j hj => match i, hi, j, hj with | 0, _, 0, _ => rfl | 1, _, 0, _ => rfl | 2, _, 0, _ => rfl | 3, _, 0, _ => rfl | 4, _, 0, _ => rfl | 5, _, 0, _ => rfl | _ + 6, h, _, _ => absurd h (by omega) | _, _, _ + 1, h => absurd h (by omega)⟩⟩)] ?_
    exact jl (decide (p0 ≥ (y21.getD p1.toNat 0))) h (ai [])
def em (x : Int) : List T := [.v (.int .u32 x)]
def aj (xs : List Int) : Nat → Nat → T := bJ 0 em xs
theorem iw : ∀ x, kA (em x) := fun _ => ⟨tv, tv⟩
def rz (x2 : List Int) (x4 : Bool) : Option (List Int ⊕ List Int) := if x4 then if 0 ≤ (SB ((x2.length : Int) - 1)) then if ((SB ((x2.length : Int) - 1)).toNat) ≤ x2.length then some (.inl (x2.take ((SB ((x2.length : Int) - 1)).toNat))) else none else none else some (.inr x2)
def vi (x2 : List Int) : Option (List Int ⊕ List Int) := if decide ((x2.length : Int) > 0) then if 0 ≤ (SB ((x2.length : Int) - 1)) then if (SB ((x2.length : Int) - 1)) < (x2.length : Int) then rz x2 ((x2.getD ((SB ((x2.length : Int) - 1)).toNat) 0) == 0) else none else none else rz x2 false
def fD (p0 : List Int) : Option (List Int) := (loop (fun v : List Int => vi v) p0).bind fun x11 => (some x11)
theorem iL (p0 : List Int) (r : List Int) (h : fD p0 = some r) : CT 237 [vl 1 aj p0] [] (vl 1 aj r) [] := by
 refine aw ae 0 Tryz.func237 rfl (fun _ _ _ => ?_)
 unfold fD at h
 refine ah ae [] 1 (seq (block ?_))
 obtain ⟨x11, l12, h⟩ := ap h
 refine Q3 l12 (fun v => ⟨[(0, vl 1 aj v)], [], 0⟩) (fun t : List Int => (.exit 0, ⟨[(0, vl 1 aj t)], [], 0⟩)) (ai []) (fun _ => tv) ?_ ?_
 ·clear l12 h
  intro x2 o h
  unfold vi at h
  refine seq (seq ?_)
  refine AW.join (ι := Bool) (fun v => ⟨[(0, vl 1 aj x2), (14, vb v)], [], 0⟩) (fun v : Bool => rz x2 v = some o) (fun x4 h => ?_) ?_
  ·unfold rz at h
   refine QX ?_
   refine Q2 h ?_ ?_ <;> intro c5 h
   ·refine skip (QX (block ?_))
    obtain ⟨g6, g7, h⟩ := aJ h
    refine ax ae [(0, .c (.t (.tree ((SB ((x2.length : Int) - 1)).toNat) 1 (aj x2))))] 6 (Sv [ho (p := (True) ∧ (0 ≤ (SB ((x2.length : Int) - 1))) ∧ (0 ≤ ((SB ((x2.length : Int) - 1)).toNat)) ∧ (((SB ((x2.length : Int) - 1)).toNat) ≤ x2.length)) (⟨tv, g6, (Nat.zero_le _), g7⟩)]) ?_
    refine QU ?_
    exact bh h (Conv.trans (cV [(0, vl 1 aj (x2.take ((SB ((x2.length : Int) - 1)).toNat)))] ⟨⟨.c (.t (.tree ((SB ((x2.length : Int) - 1)).toNat) 1 (aj x2))), by kernel_rfl, bU.c (QQ (cu.tree (pj (by omega))))⟩, tv⟩) (ai []))
   ·refine exit (QR ?_)
    exact aX h rfl (ai [])
  ·rcases aI h with ⟨c8, h⟩ | ⟨c8, h⟩
   ·obtain ⟨g9, g10, h⟩ := aJ h
    refine ax ae [(14, vb ((x2.getD ((SB ((x2.length : Int) - 1)).toNat) 0) == 0))] 12 (Ss [ht c8, hn, hn, hn, hn, hn, hq g9 g10]) ?_
    exact jl ((x2.getD ((SB ((x2.length : Int) - 1)).toNat) 0) == 0) h (ai [])
   ·refine ax ae [(14, vb false)] 12 (Ss [hf c8]) ?_
    exact jl false h
 ·show (_ : XQ) (.exit 0) _
  refine QO (QX ?_)
  refine ah ae [(2, vl 1 aj x11)] 2 (ret ?_)
  apply au h (vl 1 aj x11)
def jJ (p0 : Int) : Option (List Int × Int) := if decide (p0 < 0) then some (([] : List Int), 2) else (fD ([u32.wrap p0, u32.wrap (a7 .i64 p0 32)] : List Int)).bind fun y2 => (some (y2, 0))
theorem uH (p0 : Int) (r : (List Int) × Int) (h : jJ p0 = some r) : CT 205 [af p0] [] (.tup [vl 1 aj r.1, af r.2]) [] := by
 refine aw ae 0 Tryz.func205 rfl (fun _ _ _ => ?_)
 unfold jJ at h
 refine ah ae [] 2 (seq ?_)
 refine ah ae [(5, vb (decide (p0 < 0)))] 4 ?_
 refine Q2 h ?_ ?_ <;> intro c1 h
 ·refine ah ae [(3, af 2), (2, .c (ar))] 6 (ret (QW ?_))
  obtain rfl := ay h
  exact b6 (.inr rfl) [] 0 (.tup [vl 1 aj ([] : List Int), af 2]) (cV [(2, vl 1 aj ([] : List Int))] ⟨⟨.c (ar), by kernel_rfl, bU.c (bv.nil rfl)⟩, tv⟩)
 ·refine skip (QX ?_)
  obtain ⟨y2, e3, h⟩ := ap h
  refine QZ ae [(3, af 0), (2, vl 1 aj y2)] [9] [] 12 (Su [ho (p := 0 ≤ (32 : Int)) (by decide), hn, bB 0 em 1 (fun _ => rfl) ([u32.wrap p0, u32.wrap (a7 .i64 p0 32)] : List Int), hg [] [9] false 0 (q := (0 + ([u32.wrap p0, u32.wrap (a7 .i64 p0 32)] : List Int).length ≤ ([u32.wrap p0, u32.wrap (a7 .i64 p0 32)] : List Int).length) ∧ (True)) ⟨Ax, tv⟩ (a0 := [vl 1 aj ([u32.wrap p0, u32.wrap (a7 .i64 p0 32)] : List Int)]) (iL ([u32.wrap p0, u32.wrap (a7 .i64 p0 32)] : List Int) y2 e3) ⟨aN.refl _, tv⟩ (fun h => by cases h)]) (ret ?_)
  apply au h (.tup [vl 1 aj y2, af 0])
def ny (x1 : Bool) : Option Bool := some x1
def fT (p0 : List Int) : Option Bool := if decide ((p0.length : Int) ≤ 64) then if ((p0.length : Int) == 0) then ny true else if 0 ≤ (SB ((p0.length : Int) - 1)) then if (SB ((p0.length : Int) - 1)) < (p0.length : Int) then ny ((p0.getD ((SB ((p0.length : Int) - 1)).toNat) 0) != 0) else none else none else ny false
theorem gp (p0 : List Int) (r : Bool) (h : fT p0 = some r) : CT 209 [vl 1 aj p0] [] (vb r) [] := by
 refine aw ae 0 Tryz.func209 rfl (fun _ _ _ => ?_)
 unfold fT at h
 refine ah ae [] 1 (seq ?_)
 refine AW.join (ι := Bool) (fun v => ⟨[(2, vb v)], [], 0⟩) (fun v : Bool => ny v = some r) (fun x1 h => ?_) ?_
 ·unfold ny at h
  refine QX (ret ?_)
  apply au h (vb x1)
 ·rcases aI h with ⟨c2, h⟩ | ⟨c2, h⟩
  ·rcases aI h with ⟨c3, h⟩ | ⟨c3, h⟩
   ·refine ax ae [(2, vb true)] 19 (Ss [ht c2, hn, hn, hn, ht c3]) ?_
    exact jl true h
   ·obtain ⟨g4, g5, h⟩ := aJ h
    refine ax ae [(2, vb ((p0.getD ((SB ((p0.length : Int) - 1)).toNat) 0) != 0))] 19 (Ss [ht c2, hn, hn, hn, hf c3, hn, hn, hn, hn, hn, hq g4 g5]) ?_
    exact jl ((p0.getD ((SB ((p0.length : Int) - 1)).toNat) 0) != 0) h (ai [])
  ·refine ax ae [(2, vb false)] 19 (Ss [hf c2]) ?_
   exact jl false h
def nM (x1 : Bool) : Option Int := if x1 then some 20 else some 0
def iU (p0 : List Int) (p1 : List Int) : Option Int := (fT p0).bind fun y3 => (if (!y3) then nM true else (fT p1).bind fun y6 => (nM (!y6)))
theorem uV (p0 : List Int) (p1 : List Int) (r : Int) (h : iU p0 p1 = some r) : CT 207 [vl 1 aj p0, vl 1 aj p1] [] (af r) [] := by
 refine aw ae 0 Tryz.func207 rfl (fun _ _ _ => ?_)
 unfold iU at h
 refine ah ae [] 1 (seq (seq ?_))
 refine AW.join (ι := Bool) (fun v => ⟨[(12, vb v)], [], 0⟩) (fun v : Bool => nM v = some r) (fun x1 h => ?_) ?_
 ·unfold nM at h
  refine QX ?_
  refine Q2 h ?_ ?_ <;> intro c2 h
  ·refine ah ae [(4, af 20)] 1 (ret (QW ?_))
   apply au h (af 20)
  ·refine skip (QX ?_)
   refine ah ae [(4, af 0)] 1 (ret ?_)
   apply au h (af 0)
 ·obtain ⟨y3, e4, h⟩ := ap h
  rcases aI h with ⟨c5, h⟩ | ⟨c5, h⟩
  ·refine ax ae [(12, vb true)] 8 [hn, hk (gp p0 y3 e4), ht c5] ?_
   exact jl true h
  ·obtain ⟨y6, e7, h⟩ := ap h
   refine ax ae [(12, vb (!y6))] 7 [hn, hk (gp p0 y3 e4), hf c5, hn, hn, hk (gp p1 y6 e7)] ?_
   exact jl (!y6) h
def nz (p0 : List Int) (p1 : List Int) (x6 : Int) (x14 : List Int) (x15 : Int) (x16 : Int) : Option ((List Int × Int × Int) ⊕ (List Int × Int)) := if decide (x16 < (p1.length : Int)) then if 0 ≤ x16 then if x16 < (p1.length : Int) then if 0 ≤ (SB (x6 + x16)) then if (SB (x6 + x16)) < (x14.length : Int) then (some (u64.wrap (x15 + (u64.wrap ((u64.wrap ((u64.wrap (p0.getD x6.toNat 0)) * (u64.wrap (p1.getD x16.toNat 0)))) + (u64.wrap (x14.getD (0 + (SB (x6 + x16)).toNat) 0))))))).bind fun z24 => (some (.inl ((x14.set (0 + (SB (x6 + x16)).toNat) (u32.wrap z24)), a7 .u64 z24 32, SB (x16 + 1)))) else none else none else none else none else some (.inr (x14, x15))
def nA (p0 : List Int) (p1 : List Int) (x5 : List Int) (x6 : Int) : Option ((List Int × Int) ⊕ List Int) := if decide (x6 < (p0.length : Int)) then if 0 ≤ x6 then if x6 < (p0.length : Int) then aF (loop (fun v : List Int × Int × Int => nz p0 p1 x6 v.1 v.2.1 v.2.2) (x5, 0, 0)) fun x26 x27 => (if 0 ≤ (SB (x6 + (p1.length : Int))) then if (SB (x6 + (p1.length : Int))) < (x26.length : Int) then some (.inl ((x26.set (0 + (SB (x6 + (p1.length : Int))).toNat) (u32.wrap x27)), SB (x6 + 1))) else none else none) else none else none else some (.inr x5)
def sj (p0 : List Int) (p1 : List Int) : Option (List Int) := if 0 ≤ (SB ((p0.length : Int) + (p1.length : Int))) then if (SB ((p0.length : Int) + (p1.length : Int))) ≤ 1099511627776 then (loop (fun v : List Int × Int => nA p0 p1 v.1 v.2) ((List.replicate ((SB ((p0.length : Int) + (p1.length : Int))).toNat) (0 : Int)), 0)).bind fun x31 => ((fD x31).bind fun y32 => (some y32)) else none else none
theorem Jb (p0 : List Int) (p1 : List Int) (r : List Int) (h : sj p0 p1 = some r) : CT 238 [vl 1 aj p0, vl 1 aj p1] [] (vl 1 aj r) [] := by
 refine aw ae 0 Tryz.func238 rfl (fun _ _ _ => ?_)
 unfold sj at h
 refine ah ae [] 1 ?_
 obtain ⟨g1, g2, h⟩ := aJ h
 refine QZ ae [(5, .c (.ref 6 1 0 ((List.replicate ((SB ((p0.length : Int) + (p1.length : Int))).toNat) (0 : Int)).length)))] [6] [(6, .row 243 false 1 (List.replicate ((SB ((p0.length : Int) + (p1.length : Int))).toNat) (0 : Int)).length (aj (List.replicate ((SB ((p0.length : Int) + (p1.length : Int))).toNat) (0 : Int))))] 8 (Sw [gM 0 em 1 4 [.int .u32 0] rfl rfl (SB ((p0.length : Int) + (p1.length : Int))) (SB ((p0.length : Int) + (p1.length : Int))) g1 (Int.le_refl _) g2 (by decide)]) (seq ?_)
 refine ah ae [(19, af 0), (18, af (p0.length : Int)), (17, vl 1 aj p0)] 11 (block ?_)
 obtain ⟨x31, l34, h⟩ := ap h
 refine Q3 l34 (fun v => ⟨[(1, vl 1 aj p1), (5, rX 0 1 v.1.length), (17, vl 1 aj p0), (18, af (p0.length : Int)), (19, af v.2)], [(0, .row 243 false 1 v.1.length (aj v.1))], 1⟩) (fun t : List Int => (.exit 0, ⟨[(5, rX 0 1 t.length)], [(0, .row 243 false 1 t.length (aj t))], 1⟩)) (ai [(0, 6)]) (fun _ => tv) ?_ ?_
 ·clear l34 h
  intro v o h
  obtain ⟨x5, x6⟩ := v
  replace h : nA p0 p1 x5 x6 = some o := h
  unfold nA at h
  refine ah ae [(20, vb (decide (x6 < (p0.length : Int))))] 2 (seq ?_)
  refine Q2 h ?_ ?_ <;> intro c8 h
  ·refine skip (QX ?_)
   refine seq (block ?_)
   obtain ⟨g9, g10, h⟩ := aJ h
   refine aA ae [(7, eZ (p0.getD x6.toNat 0)), (6, af x6)] 7 [hn, hq g9 g10] ?_
   refine ah ae [(8, a6 0)] 8 (seq ?_)
   refine ah ae [(26, af 0), (25, af (p1.length : Int)), (24, vl 1 aj p1)] 11 (block ?_)
   obtain ⟨x26, x27, l30, h⟩ := aK h
   refine Q3 l30 (fun v => ⟨[(1, vl 1 aj p1), (5, rX 0 1 v.1.length), (6, af x6), (7, eZ (p0.getD x6.toNat 0)), (8, a6 v.2.1), (17, vl 1 aj p0), (18, af (p0.length : Int)), (19, af x6), (24, vl 1 aj p1), (25, af (p1.length : Int)), (26, af v.2.2)], [(0, .row 243 false 1 v.1.length (aj v.1))], 1⟩) (fun t : (List Int) × Int => (.exit 2, ⟨[(1, vl 1 aj p1), (5, rX 0 1 t.1.length), (6, af x6), (8, a6 t.2), (17, vl 1 aj p0), (18, af (p0.length : Int)), (19, af x6)], [(0, .row 243 false 1 t.1.length (aj t.1))], 1⟩)) (ai [(0, 0)]) (fun _ => tv) ?_ ?_
   ·clear l30 h
    intro v o h
    obtain ⟨x14, x15, x16⟩ := v
    replace h : nz p0 p1 x6 x14 x15 x16 = some o := h
    unfold nz at h
    refine ah ae [(27, vb (decide (x16 < (p1.length : Int))))] 2 (seq ?_)
    refine Q2 h ?_ ?_ <;> intro c19 h
    ·refine skip (QX ?_)
     refine seq (block ?_)
     obtain ⟨g20, g21, h⟩ := aJ h
     refine aA ae [(10, eZ (p1.getD x16.toNat 0)), (9, af x16)] 7 [hn, hq g20 g21] ?_
     obtain ⟨g22, g23, h⟩ := aJ h
     obtain ⟨z24, n25, h⟩ := ap h
     replace n25 := ay n25
     refine aA ae [(8, a6 z24)] 23 [hn, hn, hn, hn, hn, hn, hn, hn, hn, hn, hq g22 g23, ho (p := (0 + (SB (x6 + x16)).toNat) < x14.length) (by have h1 : 0 ≤ (SB (x6 + x16)) := g22; have h2 : (SB (x6 + x16)) < (x14.length : Int) := g23; omega)] ?_ (by subst n25; kernel_rfl)
     refine QZ ae [] [0] [(0, .row 243 false 1 x14.length (aj (x14.set (0 + (SB (x6 + x16)).toNat) (u32.wrap z24))))] 31 (Sy [hq g22 g23, hset 0 em x14 (0 + (SB (x6 + x16)).toNat) (u32.wrap z24) (n := x14.length) (by have h1 : 0 ≤ (SB (x6 + x16)) := g22; have h2 : (SB (x6 + x16)) < (x14.length : Int) := g23; omega) rfl]) ?_
     refine ax ae [(8, a6 (a7 .u64 z24 32))] 34 [hn, ho (p := 0 ≤ (32 : Int)) (by decide)] ?_
     refine QU (QX ?_)
     refine ba ae [(26, af (SB (x16 + 1)))] 36 ?_
     exact bh h (Conv.trans (cV [(5, .c (.ref 0 1 0 ((x14.set (0 + (SB (x6 + x16)).toNat) (u32.wrap z24)).length)))] ⟨⟨.c (.ref 0 1 0 x14.length), by kernel_rfl, bU.len (by simp only [R7])⟩, tv⟩) (Conv.trans (eN 0 243 false 1 x14.length ((x14.set (0 + (SB (x6 + x16)).toNat) (u32.wrap z24)).length) (aj (x14.set (0 + (SB (x6 + x16)).toNat) (u32.wrap z24))) (by kernel_rfl) (by simp only [R7])) (ai [(0, 0)])))
    ·refine exit (QR ?_)
     exact aX h rfl (ai [(0, 0)])
   ·show (_ : XQ) (.exit 2) _
    refine QO (QX ?_)
    obtain ⟨g28, g29, h⟩ := aJ h
    refine QY ae [] [0] [(0, .row 243 false 1 x26.length (aj (x26.set (0 + (SB (x6 + (p1.length : Int))).toNat) (u32.wrap x27))))] 10 (SA [hq g28 g29, hset 0 em x26 (0 + (SB (x6 + (p1.length : Int))).toNat) (u32.wrap x27) (n := x26.length) (by have h1 : 0 ≤ (SB (x6 + (p1.length : Int))) := g28; have h2 : (SB (x6 + (p1.length : Int))) < (x26.length : Int) := g29; omega) rfl]) ?_
    refine QU (QX ?_)
    refine ba ae [(19, af (SB (x6 + 1)))] 12 ?_
    exact bh h (Conv.trans (cV [(5, .c (.ref 0 1 0 ((x26.set (0 + (SB (x6 + (p1.length : Int))).toNat) (u32.wrap x27)).length)))] ⟨⟨.c (.ref 0 1 0 x26.length), by kernel_rfl, bU.len (by simp only [R7])⟩, tv⟩) (Conv.trans (eN 0 243 false 1 x26.length ((x26.set (0 + (SB (x6 + (p1.length : Int))).toNat) (u32.wrap x27)).length) (aj (x26.set (0 + (SB (x6 + (p1.length : Int))).toNat) (u32.wrap x27))) (by kernel_rfl) (by simp only [R7])) (ai [(0, 0)])))
  ·refine exit (QR ?_)
   exact aX h rfl (ai [(0, 0)])
 ·show (_ : XQ) (.exit 0) _
  refine QO (QX ?_)
  obtain ⟨y32, e33, h⟩ := ap h
  refine QZ ae [(4, vl 1 aj y32)] [0] [] 3 [hn, hg [] [0] false 0 (q := (0 + x31.length ≤ x31.length) ∧ (True)) ⟨Ax, tv⟩ (a0 := [vl 1 aj x31]) (iL x31 y32 e33) ⟨aN.refl _, tv⟩ (fun h => by cases h)] (ret ?_)
  apply au h (vl 1 aj y32)
def oG (p0 : List Int) : Option (List Int × Int) := (fD p0).bind fun y1 => ((fT y1).bind fun y3 => (if (!y3) then some (([] : List Int), 1) else some (y1, 0)))
theorem De (p0 : List Int) (r : (List Int) × Int) (h : oG p0 = some r) : CT 208 [vl 1 aj p0] [] (.tup [vl 1 aj r.1, af r.2]) [] := by
 refine aw ae 0 Tryz.func208 rfl (fun _ _ _ => ?_)
 unfold oG at h
 refine ah ae [] 2 ?_
 obtain ⟨y1, e2, h⟩ := ap h
 refine aA ae [(0, vl 1 aj y1)] 4 [hn, hk (iL p0 y1 e2)] (seq ?_)
 obtain ⟨y3, e4, h⟩ := ap h
 refine aA ae [(8, vb (!y3))] 6 [hn, hk (gp y1 y3 e4)] ?_
 refine Q2 h ?_ ?_ <;> intro c5 h
 ·refine ah ae [(3, af 1), (2, .c (ar))] 8 (ret (QW ?_))
  obtain rfl := ay h
  exact b6 (.inr rfl) [] 0 (.tup [vl 1 aj ([] : List Int), af 1]) (cV [(2, vl 1 aj ([] : List Int))] ⟨⟨.c (ar), by kernel_rfl, bU.c (bv.nil rfl)⟩, tv⟩)
 ·refine skip (QX ?_)
  refine ah ae [(3, af 0), (2, vl 1 aj y1)] 9 (ret ?_)
  apply au h (.tup [vl 1 aj y1, af 0])
def lW (p0 : List Int) (p1 : List Int) : Option (List Int × Int) := (iU p0 p1).bind fun y1 => (if (y1 != 0) then some (([] : List Int), y1) else (sj p0 p1).bind fun y4 => (aF (oG y4) fun y6 y7 => (some (y6, y7))))
theorem Dk (p0 : List Int) (p1 : List Int) (r : (List Int) × Int) (h : lW p0 p1 = some r) : CT 206 [vl 1 aj p0, vl 1 aj p1] [] (.tup [vl 1 aj r.1, af r.2]) [] := by
 refine aw ae 0 Tryz.func206 rfl (fun _ _ _ => ?_)
 unfold lW at h
 refine ah ae [] 2 (seq ?_)
 obtain ⟨y1, e2, h⟩ := ap h
 refine aA ae [(6, af y1)] 5 (Ss [hk (uV p0 p1 y1 e2)]) ?_
 refine ah ae [(11, vb (y1 != 0))] 7 ?_
 refine Q2 h ?_ ?_ <;> intro c3 h
 ·refine ah ae [(5, af y1), (4, .c (ar))] 10 (ret (QW ?_))
  obtain rfl := ay h
  exact b6 (.inr rfl) [] 0 (.tup [vl 1 aj ([] : List Int), af y1]) (cV [(4, vl 1 aj ([] : List Int))] ⟨⟨.c (ar), by kernel_rfl, bU.c (bv.nil rfl)⟩, tv⟩)
 ·refine skip (QX ?_)
  obtain ⟨y4, e5, h⟩ := ap h
  obtain ⟨y6, y7, e8, h⟩ := aK h
  refine aA ae [(5, af y7), (4, vl 1 aj y6)] 13 (Ss [hk (Jb p0 p1 y4 e5), hk (De y4 (y6, y7) e8)]) (ret ?_)
  apply au h (.tup [vl 1 aj y6, af y7])
def oH (x7 : Int) (x10 : List Int) : Option ((List Int × Int) ⊕ List Int) := some (.inl (x10, SB (x7 + 1)))
def oI (x6 : List Int) (x7 : Int) (x14 : Int) : Option ((List Int × Int) ⊕ List Int) := aF (jJ x14) fun y15 y16 => (aF (lW x6 y15) fun y18 y19 => (oH x7 y18))
def lS (p1 : List Int) (p2 : List Int) (x6 : List Int) (x7 : Int) : Option ((List Int × Int) ⊕ List Int) := if decide (x7 < (p2.length : Int)) then if 0 ≤ x7 then if x7 < (p2.length : Int) then if x7 < (p1.length : Int) then if ((p2.getD x7.toNat 0) == 0) then oH x7 x6 else if ((p2.getD x7.toNat 0) == 1) then oI x6 x7 (SB (65536 - (p1.getD x7.toNat 0))) else oI x6 x7 (p1.getD x7.toNat 0) else none else none else none else some (.inr x6)
def pb (p0 : Int) (p1 : List Int) (p2 : List Int) : Option (List Int) := aF (jJ p0) fun y1 y2 => ((loop (fun v : List Int × Int => lS p1 p2 v.1 v.2) (y1, 0)).bind fun x23 => (some x23))
theorem DK (p0 : Int) (p1 : List Int) (p2 : List Int) (r : List Int) (h : pb p0 p1 p2 = some r) : CT 162 [af p0, vl 1 al p1, vl 1 al p2] [] (vl 1 aj r) [] := by
 refine aw ae 0 Tryz.func162 rfl (fun _ _ _ => ?_)
 unfold pb at h
 refine ah ae [] 1 ?_
 obtain ⟨y1, y2, e3, h⟩ := aK h
 refine aA ae [(7, vl 1 aj y1)] 7 [hn, hk (uH p0 (y1, y2) e3)] (seq ?_)
 refine ah ae [(21, af 0), (20, af (p2.length : Int)), (19, vl 1 al p2)] 10 (block ?_)
 obtain ⟨x23, l24, h⟩ := ap h
 refine Q3 l24 (fun v => ⟨[(1, vl 1 al p1), (7, vl 1 aj v.1), (19, vl 1 al p2), (20, af (p2.length : Int)), (21, af v.2)], [], 0⟩) (fun t : List Int => (.exit 0, ⟨[(7, vl 1 aj t)], [], 0⟩)) (ai []) (fun _ => tv) ?_ ?_
 ·clear l24 h
  intro v o h
  obtain ⟨x6, x7⟩ := v
  replace h : lS p1 p2 x6 x7 = some o := h
  unfold lS at h
  refine ah ae [(22, vb (decide (x7 < (p2.length : Int))))] 1 (seq ?_)
  refine Q2 h ?_ ?_ <;> intro c9 h
  ·refine skip (QX (seq ?_))
   refine AW.join (ι := List Int) (fun v => ⟨[(1, vl 1 al p1), (7, vl 1 aj v), (19, vl 1 al p2), (20, af (p2.length : Int)), (21, af x7)], [], 0⟩) (fun v : List Int => oH x7 v = some o) (fun x10 h => ?_) ?_
   ·unfold oH at h
    refine QX ?_
    refine ba ae [(21, af (SB (x7 + 1)))] 2 ?_
    exact bh h (ai [])
   ·refine block ?_
    obtain ⟨g11, g12, h⟩ := aJ h
    refine aA ae [(10, af (p2.getD x7.toNat 0)), (9, af x7)] 6 [hn, hq g11 g12] ?_
    obtain ⟨g13, h⟩ := aY h
    refine aA ae [(11, af (p1.getD x7.toNat 0))] 11 (Ss [hq g11 g13]) (seq ?_)
    refine AW.join (ι := Int) (fun v => ⟨[(1, vl 1 al p1), (7, vl 1 aj x6), (11, af v), (19, vl 1 al p2), (20, af (p2.length : Int)), (21, af x7)], [], 0⟩) (fun v : Int => oI x6 x7 v = some o) (fun x14 h => ?_) ?_
    ·unfold oI at h
     refine QX ?_
     obtain ⟨y15, y16, e17, h⟩ := aK h
     refine aA ae [(12, vl 1 aj y15)] 6 [hn, hk (uH x14 (y15, y16) e17)] ?_
     obtain ⟨y18, y19, e20, h⟩ := aK h
     refine ax ae [(7, vl 1 aj y18)] 12 (Ss [hk (Dk x6 y15 (y18, y19) e20)]) ?_
     refine QU ?_
     exact jl y18 h
    ·refine ah ae [(30, af (p2.getD x7.toNat 0))] 12 (block ?_)
     refine ah ae [(31, vb ((p2.getD x7.toNat 0) == 0))] 14 ?_
     refine Q2 h ?_ ?_ <;> intro c21 h
     ·refine exit (QP (by kernel_rfl) ?_)
      refine Et ?_
      refine QR (QO ?_)
      exact jl x6 h
     ·refine ah ae [(33, vb ((p2.getD x7.toNat 0) == 1))] 16 ?_
      refine Q2 h ?_ ?_ <;> intro c22 h
      ·refine ba ae [(11, af (SB (65536 - (p1.getD x7.toNat 0))))] 19 ?_
       refine QU ?_
       exact jl (SB (65536 - (p1.getD x7.toNat 0))) h (ai [])
      ·refine skip (QU ?_)
       exact jl (p1.getD x7.toNat 0) h
  ·refine exit (QR ?_)
   exact aX h rfl (ai [])
 ·show (_ : XQ) (.exit 0) _
  refine QO (QX ?_)
  refine ah ae [(6, vl 1 aj x23)] 2 (ret ?_)
  apply au h (vl 1 aj x23)
def rP (x11 : List Int) (x13 : Int) (x21 : Int) : Option ((List Int × Int × Int) ⊕ (List Int × Int)) := if x13 < (x11.length : Int) then some (.inl ((x11.set (0 + x13.toNat) (u32.wrap x21)), a7 .u64 x21 32, SB (x13 + 1))) else none
def lI (x4 : List Int) (x5 : List Int) (x11 : List Int) (x12 : Int) (x13 : Int) : Option ((List Int × Int × Int) ⊕ (List Int × Int)) := if decide (x13 < (x4.length : Int)) then if 0 ≤ x13 then if x13 < (x4.length : Int) then (some (u64.wrap (x12 + (u64.wrap (x4.getD x13.toNat 0))))).bind fun z19 => (if decide (x13 < (x5.length : Int)) then if x13 < (x5.length : Int) then (some (u64.wrap (z19 + (u64.wrap (x5.getD x13.toNat 0))))).bind fun z25 => (rP x11 x13 z25) else none else rP x11 x13 z19) else none else none else some (.inr (x11, x12))
def lJ (x4 : List Int) (x5 : List Int) : Option (List Int × Int) := if 0 ≤ (SB ((x4.length : Int) + 1)) then if (SB ((x4.length : Int) + 1)) ≤ 1099511627776 then aF (loop (fun v : List Int × Int × Int => lI x4 x5 v.1 v.2.1 v.2.2) ((List.replicate ((SB ((x4.length : Int) + 1)).toNat) (0 : Int)), 0, 0)) fun x27 x28 => (if 0 ≤ (x4.length : Int) then if (x4.length : Int) < (x27.length : Int) then aF (oG (x27.set (0 + (x4.length : Int).toNat) (u32.wrap x28))) fun y31 y32 => (some (y31, y32)) else none else none) else none else none
def jU (p0 : List Int) (p1 : List Int) : Option (List Int × Int) := (iU p0 p1).bind fun y1 => (if (y1 != 0) then some (([] : List Int), y1) else if decide ((p0.length : Int) < (p1.length : Int)) then lJ p1 p0 else lJ p0 p1)
theorem Dl (p0 : List Int) (p1 : List Int) (r : (List Int) × Int) (h : jU p0 p1 = some r) : CT 163 [vl 1 aj p0, vl 1 aj p1] [] (.tup [vl 1 aj r.1, af r.2]) [] := by
 refine aw ae 0 Tryz.func163 rfl (fun _ _ _ => ?_)
 unfold jU at h
 refine ah ae [] 2 (seq ?_)
 obtain ⟨y1, e2, h⟩ := ap h
 refine aA ae [(6, af y1)] 5 (Ss [hk (uV p0 p1 y1 e2)]) ?_
 refine ah ae [(15, vb (y1 != 0))] 7 ?_
 refine Q2 h ?_ ?_ <;> intro c3 h
 ·refine ah ae [(5, af y1), (4, .c (ar))] 10 (ret (QW ?_))
  obtain rfl := ay h
  exact b6 (.inr rfl) [] 0 (.tup [vl 1 aj ([] : List Int), af y1]) (cV [(4, vl 1 aj ([] : List Int))] ⟨⟨.c (ar), by kernel_rfl, bU.c (bv.nil rfl)⟩, tv⟩)
 ·refine skip (QX (seq ?_))
  refine AW.join (ι := (List Int) × (List Int)) (fun v => ⟨[(0, vl 1 aj v.1), (1, vl 1 aj v.2)], [], 0⟩) (fun v : (List Int) × (List Int) => lJ v.1 v.2 = some r) (fun v h => ?_) ?_
  ·obtain ⟨x4, x5⟩ := v
   replace h : lJ x4 x5 = some r := h
   unfold lJ at h
   refine QX ?_
   obtain ⟨g6, g7, h⟩ := aJ h
   refine QZ ae [(7, .c (.ref 3 1 0 ((List.replicate ((SB ((x4.length : Int) + 1)).toNat) (0 : Int)).length)))] [3] [(3, .row 243 false 1 (List.replicate ((SB ((x4.length : Int) + 1)).toNat) (0 : Int)).length (aj (List.replicate ((SB ((x4.length : Int) + 1)).toNat) (0 : Int))))] 5 (Su [gM 0 em 1 4 [.int .u32 0] rfl rfl (SB ((x4.length : Int) + 1)) (SB ((x4.length : Int) + 1)) g6 (Int.le_refl _) g7 (by decide)]) ?_
   refine ah ae [(8, a6 0)] 6 (seq ?_)
   refine ah ae [(30, af 0), (29, af (x4.length : Int)), (28, vl 1 aj x4)] 9 (block ?_)
   obtain ⟨x27, x28, l34, h⟩ := aK h
   refine Q3 l34 (fun v => ⟨[(0, vl 1 aj x4), (1, vl 1 aj x5), (7, rX 0 1 v.1.length), (8, a6 v.2.1), (28, vl 1 aj x4), (29, af (x4.length : Int)), (30, af v.2.2)], [(0, .row 243 false 1 v.1.length (aj v.1))], 1⟩) (fun t : (List Int) × Int => (.exit 0, ⟨[(0, vl 1 aj x4), (7, rX 0 1 t.1.length), (8, a6 t.2)], [(0, .row 243 false 1 t.1.length (aj t.1))], 1⟩)) (ai [(0, 3)]) (fun _ => tv) ?_ ?_
   ·clear l34 h
    intro v o h
    obtain ⟨x11, x12, x13⟩ := v
    replace h : lI x4 x5 x11 x12 x13 = some o := h
    unfold lI at h
    refine ah ae [(31, vb (decide (x13 < (x4.length : Int))))] 2 (seq ?_)
    refine Q2 h ?_ ?_ <;> intro c16 h
    ·refine skip (QX ?_)
     refine seq (block ?_)
     obtain ⟨g17, g18, h⟩ := aJ h
     refine aA ae [(10, eZ (x4.getD x13.toNat 0)), (9, af x13)] 7 [hn, hq g17 g18] ?_
     obtain ⟨z19, n20, h⟩ := ap h
     replace n20 := ay n20
     refine ah ae [(8, a6 z19)] 12 ?_ (by subst n20; kernel_rfl)
     refine seq ?_
     refine AW.join (ι := Int) (fun v => ⟨[(0, vl 1 aj x4), (1, vl 1 aj x5), (7, rX 0 1 x11.length), (8, a6 v), (9, af x13), (28, vl 1 aj x4), (29, af (x4.length : Int)), (30, af x13)], [(0, .row 243 false 1 x11.length (aj x11))], 1⟩) (fun v : Int => rP x11 x13 v = some o) (fun x21 h => ?_) ?_
     ·unfold rP at h
      refine QX ?_
      obtain ⟨g22, h⟩ := aY h
      refine QZ ae [] [0] [(0, .row 243 false 1 x11.length (aj (x11.set (0 + x13.toNat) (u32.wrap x21))))] 7 (Sv [hq g17 g22, hset 0 em x11 (0 + x13.toNat) (u32.wrap x21) (n := x11.length) (by have h1 : 0 ≤ x13 := g17; have h2 : x13 < (x11.length : Int) := g22; omega) rfl]) ?_
      refine ax ae [(8, a6 (a7 .u64 x21 32))] 10 [hn, ho (p := 0 ≤ (32 : Int)) (by decide)] ?_
      refine QU (QX ?_)
      refine ba ae [(30, af (SB (x13 + 1)))] 12 ?_
      exact bh h (Conv.trans (cV [(7, .c (.ref 0 1 0 ((x11.set (0 + x13.toNat) (u32.wrap x21)).length)))] ⟨⟨.c (.ref 0 1 0 x11.length), by kernel_rfl, bU.len (by simp only [R7])⟩, tv⟩) (Conv.trans (eN 0 243 false 1 x11.length ((x11.set (0 + x13.toNat) (u32.wrap x21)).length) (aj (x11.set (0 + x13.toNat) (u32.wrap x21))) (by kernel_rfl) (by simp only [R7])) (ai [(0, 0)])))
     ·refine ah ae [(42, vb (decide (x13 < (x5.length : Int))))] 16 ?_
      refine Q2 h ?_ ?_ <;> intro c23 h
      ·obtain ⟨g24, h⟩ := aY h
       obtain ⟨z25, n26, h⟩ := ap h
       replace n26 := ay n26
       refine ax ae [(8, a6 z25)] 24 (Su [hq g17 g24]) ?_ (by subst n26; kernel_rfl)
       exact jl z25 h (ai [(0, 0)])
      ·refine skip ?_
       exact jl z19 h (ai [(0, 0)])
    ·refine exit (QR ?_)
     exact aX h rfl (ai [(0, 0)])
   ·show (_ : XQ) (.exit 0) _
    refine QO (QX ?_)
    obtain ⟨g29, g30, h⟩ := aJ h
    refine QZ ae [] [0] [(0, .row 243 false 1 x27.length (aj (x27.set (0 + (x4.length : Int).toNat) (u32.wrap x28))))] 8 (Sw [hq g29 g30, hset 0 em x27 (0 + (x4.length : Int).toNat) (u32.wrap x28) (n := x27.length) (by have h1 : 0 ≤ (x4.length : Int) := g29; have h2 : (x4.length : Int) < (x27.length : Int) := g30; omega) rfl]) ?_
    obtain ⟨y31, y32, e33, h⟩ := aK h
    refine QZ ae [(5, af y32), (4, vl 1 aj y31)] [0] [] 13 [hn, hg [] [0] false 0 (q := (0 + x27.length ≤ x27.length) ∧ (True)) ⟨Ax, tv⟩ (a0 := [.c (.t (.tree x27.length 1 (aj (x27.set (0 + (x4.length : Int).toNat) (u32.wrap x28)))))]) (show CT 208 [.c (.t (.tree x27.length 1 (aj (x27.set (0 + (x4.length : Int).toNat) (u32.wrap x28)))))] [] (.tup [vl 1 aj y31, af y32]) [] from by have hc := (De (x27.set (0 + (x4.length : Int).toNat) (u32.wrap x28)) (y31, y32) e33); simpa only [R7, vl, cl] using hc) ⟨aN.refl _, tv⟩ (fun h => by cases h)] (ret ?_)
    apply au h (.tup [vl 1 aj y31, af y32])
  ·refine ah ae [(21, vb (decide ((p0.length : Int) < (p1.length : Int))))] 12 ?_
   refine Q2 h ?_ ?_ <;> intro c35 h
   ·refine ba ae [(1, vl 1 aj p0), (0, vl 1 aj p1)] 16 ?_
    exact jl (p1, p0) h
   ·refine skip ?_
    exact jl (p0, p1) h
structure bb where
 n : List Int
 e : Int
def iG : bb := ⟨([] : List Int), 0⟩
instance : Inhabited bb := ⟨iG⟩
def iW (p0 : List Int) : Option bb := some (⟨p0, 0⟩ : bb)
theorem rA (p0 : List Int) (r : bb) (h : iW p0 = some r) : CT 166 [vl 1 aj p0] [] (.agg [cl 1 aj r.n, ag r.e]) [] := by
 refine aw ae 0 Tryz.func166 rfl (fun _ _ _ => ?_)
 unfold iW at h
 refine QZ ae [(2, pX 0 2)] [0] [(0, .box 257 [ar, ag 0])] 1 [] ?_
 refine QZ ae [] [0] [(0, .box 257 [cl 1 aj p0, ag 0])] 4 [] (ret ?_)
 apply au h (.agg [cl 1 aj p0, ag 0])
def jE (p0 : List Int) : Option (List Int) := pK (p0.length = 0) (some ([] : List Int)) (if ([] : List Int).length + p0.length ≤ 1099511627776 then some (([] : List Int) ++ p0) else none)
theorem uy (p0 : List Int) (r : List Int) (h : jE p0 = some r) : CT 240 [vl 1 aj p0] [] (.c (.ref 0 1 0 r.length)) [(0, .row 243 false 1 r.length (aj r))] := by
 refine aw ae 0 Tryz.func240 rfl (fun _ _ _ => ?_)
 unfold jE at h
 refine ah ae [] 1 (seq ?_)
 refine aA ae [(4, .c (.t (.tst (p0.length = 0))))] 3 [hn, ho (p := (1 : Nat) ≠ 0) (by decide)] ?_
 refine AW.cond_tst (p := p0.length = 0) (by kernel_rfl) (fun c1 => ?_) ?_
 ·replace h := (vF h).1 c1
  refine ah ae [(2, .c (ar))] 4 (ret (QW ?_))
  obtain rfl := ay h
  exact b6 (.inr rfl) [(0, 4)] 1 (.c (.ref 4 1 0 (([] : List Int).length))) (cG (t := 2) (ty := 243) (sz := 1) (n := ([] : List Int).length) (f := aj ([] : List Int)) (by kernel_rfl) rfl)
 ·replace h := (vF h).2
  refine skip (QX ?_)
  obtain ⟨g2, h⟩ := aY h
  refine QZ ae [(2, .c (.ref 5 1 0 ((([] : List Int) ++ p0).length)))] [3, 5] [(5, .row 243 false 1 (([] : List Int) ++ p0).length (aj (([] : List Int) ++ p0)))] 7 [bB 0 em 1 (fun _ => rfl) ([] : List Int), hn, hr ((([] : List Int) ++ p0).length) (aj (([] : List Int) ++ p0)) (p := (([] : List Int).length = ([] : List Int).length) ∧ (True) ∧ ((([] : List Int).length + p0.length ≤ 1099511627776) ∧ ((4 : Nat) ≤ 128)) ∧ (([] : List Int).length + p0.length = (([] : List Int) ++ p0).length ∧ ∀ i, i < (([] : List Int) ++ p0).length → ∀ j, j < 1 → bn ((da (([] : List Int).length) (aj ([] : List Int)) (aj p0)) i j) (aj (([] : List Int) ++ p0) i j))) (⟨rfl, tv, ⟨g2, (by decide)⟩, t7 (tA rfl rfl ig ig)⟩)] (ret ?_)
  obtain rfl := ay h
  exact be (.inr rfl) [(0, 5)] 1 (.c (.ref 5 1 0 ((([] : List Int) ++ p0).length)))
def ow (p0 : Int) : Option Bool := some (p0 != p0)
theorem C0 (p0 : Int) (r : Bool) (h : ow p0 = some r) : CT 111 [af p0] [] (vb r) [] := by
 refine aw ae 0 Tryz.func111 rfl (fun _ _ _ => ?_)
 unfold ow at h
 refine ah ae [] 1 ?_
 refine ah ae [(2, vb (p0 != p0))] 5 (ret ?_)
 apply au h (vb (p0 != p0))
def rB (p0 : Int) (p1 : Int) : Option Int := (ow p0).bind fun y1 => ((ow p1).bind fun y3 => (if y1 then if y3 then some 0 else some (-1) else if y3 then some 1 else if decide (p0 < p1) then some (-1) else if decide (p0 > p1) then some 1 else some 0))
theorem IR (p0 : Int) (p1 : Int) (r : Int) (h : rB p0 p1 = some r) : CT 66 [af p0, af p1] [] (af r) [] := by
 refine aw ae 0 Tryz.func66 rfl (fun _ _ _ => ?_)
 unfold rB at h
 refine ah ae [] 1 ?_
 obtain ⟨y1, e2, h⟩ := ap h
 refine aA ae [(5, vb y1)] 3 [hn, hk (C0 p0 y1 e2)] ?_
 obtain ⟨y3, e4, h⟩ := ap h
 refine aA ae [(6, vb y3)] 5 [hn, hk (C0 p1 y3 e4)] (seq ?_)
 refine ah ae [(11, vb y1)] 6 ?_
 refine Q2 h ?_ ?_ <;> intro c5 h
 ·refine seq ?_
  refine ah ae [(12, vb y3)] 7 ?_
  refine Q2 h ?_ ?_ <;> intro c6 h
  ·refine ah ae [(4, af 0)] 8 (ret (QW (QW ?_)))
   apply au h (af 0)
  ·refine skip (QX ?_)
   refine ah ae [(4, af (-1))] 8 (ret (QW ?_))
   apply au h (af (-1))
 ·refine skip (QX (seq ?_))
  refine ah ae [(13, vb y3)] 7 ?_
  refine Q2 h ?_ ?_ <;> intro c7 h
  ·refine ah ae [(4, af 1)] 8 (ret (QW ?_))
   apply au h (af 1)
  ·refine skip (QX (seq ?_))
   refine ah ae [(16, vb (decide (p0 < p1)))] 10 ?_
   refine Q2 h ?_ ?_ <;> intro c8 h
   ·refine ah ae [(4, af (-1))] 11 (ret (QW ?_))
    apply au h (af (-1))
   ·refine skip (QX (seq ?_))
    refine ah ae [(19, vb (decide (p0 > p1)))] 13 ?_
    refine Q2 h ?_ ?_ <;> intro c9 h
    ·refine ah ae [(4, af 1)] 14 (ret (QW ?_))
     apply au h (af 1)
    ·refine skip (QX ?_)
     refine ah ae [(4, af 0)] 14 (ret ?_)
     apply au h (af 0)
def nB (p0 : Int) : Option Bool := some (p0 != p0)
theorem Cz (p0 : Int) (r : Bool) (h : nB p0 = some r) : CT 269 [eZ p0] [] (vb r) [] := by
 refine aw ae 0 Tryz.func269 rfl (fun _ _ _ => ?_)
 unfold nB at h
 refine ah ae [] 1 ?_
 refine ah ae [(2, vb (p0 != p0))] 5 (ret ?_)
 apply au h (vb (p0 != p0))
def qM (p0 : Int) (p1 : Int) : Option Int := (nB p0).bind fun y1 => ((nB p1).bind fun y3 => (if y1 then if y3 then some 0 else some (-1) else if y3 then some 1 else if decide (p0 < p1) then some (-1) else if decide (p0 > p1) then some 1 else some 0))
theorem Ir (p0 : Int) (p1 : Int) (r : Int) (h : qM p0 p1 = some r) : CT 241 [eZ p0, eZ p1] [] (af r) [] := by
 refine aw ae 0 Tryz.func241 rfl (fun _ _ _ => ?_)
 unfold qM at h
 refine ah ae [] 1 ?_
 obtain ⟨y1, e2, h⟩ := ap h
 refine aA ae [(5, vb y1)] 3 [hn, hk (Cz p0 y1 e2)] ?_
 obtain ⟨y3, e4, h⟩ := ap h
 refine aA ae [(6, vb y3)] 5 [hn, hk (Cz p1 y3 e4)] (seq ?_)
 refine ah ae [(11, vb y1)] 6 ?_
 refine Q2 h ?_ ?_ <;> intro c5 h
 ·refine seq ?_
  refine ah ae [(12, vb y3)] 7 ?_
  refine Q2 h ?_ ?_ <;> intro c6 h
  ·refine ah ae [(4, af 0)] 8 (ret (QW (QW ?_)))
   apply au h (af 0)
  ·refine skip (QX ?_)
   refine ah ae [(4, af (-1))] 8 (ret (QW ?_))
   apply au h (af (-1))
 ·refine skip (QX (seq ?_))
  refine ah ae [(13, vb y3)] 7 ?_
  refine Q2 h ?_ ?_ <;> intro c7 h
  ·refine ah ae [(4, af 1)] 8 (ret (QW ?_))
   apply au h (af 1)
  ·refine skip (QX (seq ?_))
   refine ah ae [(16, vb (decide (p0 < p1)))] 10 ?_
   refine Q2 h ?_ ?_ <;> intro c8 h
   ·refine ah ae [(4, af (-1))] 11 (ret (QW ?_))
    apply au h (af (-1))
   ·refine skip (QX (seq ?_))
    refine ah ae [(19, vb (decide (p0 > p1)))] 13 ?_
    refine Q2 h ?_ ?_ <;> intro c9 h
    ·refine ah ae [(4, af 1)] 14 (ret (QW ?_))
     apply au h (af 1)
    ·refine skip (QX ?_)
     refine ah ae [(4, af 0)] 14 (ret ?_)
     apply au h (af 0)
def qN (y1 : List Int) (y3 : List Int) (x9 : Int) : Option (Int ⊕ (Unit ⊕ Int)) := if decide (x9 ≥ 0) then if 0 ≤ x9 then if x9 < (y1.length : Int) then if x9 < (y3.length : Int) then if ((y1.getD x9.toNat 0) != (y3.getD x9.toNat 0)) then (qM (y1.getD x9.toNat 0) (y3.getD x9.toNat 0)).bind fun y16 => (some (.inr (.inr y16))) else some (.inl (SB (x9 - 1))) else none else none else none else some (.inr (.inl ()))
def uM : Option Int := some 0
def CL (x18 : Int) : Option Int := some x18
def nN (p0 : List Int) (p1 : List Int) : Option Int := (fD p0).bind fun y1 => ((fD p1).bind fun y3 => (if ((y1.length : Int) != (y3.length : Int)) then (rB (y1.length : Int) (y3.length : Int)).bind fun y6 => (some y6) else cD (loop (fun v : Int => qN y1 y3 v) (SB ((y1.length : Int) - 1))) (fun t => uM) (fun t => CL t)))
theorem CC (p0 : List Int) (p1 : List Int) (r : Int) (h : nN p0 p1 = some r) : CT 212 [vl 1 aj p0, vl 1 aj p1] [] (af r) [] := by
 refine aw ae 0 Tryz.func212 rfl (fun _ _ _ => ?_)
 unfold nN at h
 refine ah ae [] 1 ?_
 obtain ⟨y1, e2, h⟩ := ap h
 obtain ⟨y3, e4, h⟩ := ap h
 refine aA ae [(1, vl 1 aj y3), (0, vl 1 aj y1)] 5 [hn, hk (iL p0 y1 e2), hn, hk (iL p1 y3 e4)] (seq ?_)
 refine ah ae [(14, vb ((y1.length : Int) != (y3.length : Int)))] 10 ?_
 refine Q2 h ?_ ?_ <;> intro c5 h
 ·obtain ⟨y6, e7, h⟩ := ap h
  refine aA ae [(4, af y6)] 15 (Sv [hk (IR (y1.length : Int) (y3.length : Int) y6 e7)]) (ret (QW ?_))
  apply au h (af y6)
 ·refine skip (QX (seq ?_))
  refine ah ae [(5, af (SB ((y1.length : Int) - 1)))] 14 (block ?_)
  refine Q4 h (fun v => ⟨[(0, vl 1 aj y1), (1, vl 1 aj y3), (5, af v)], [], 0⟩) (fun t => (.exit 0, ⟨[], [], 0⟩)) (fun t => (.ret, ⟨[(4, af t)], [], 0⟩)) (ai []) (fun _ => tv) (fun _ => tv) ?_ (fun t h => ?_) (fun x18 h => ?_)
  ·clear h
   intro x9 o h
   unfold qN at h
   refine seq ?_
   refine ah ae [(24, vb (decide (x9 ≥ 0)))] 2 ?_
   refine Q2 h ?_ ?_ <;> intro c11 h
   ·refine skip (QX ?_)
    refine seq (block ?_)
    obtain ⟨g12, g13, h⟩ := aJ h
    obtain ⟨g14, h⟩ := aY h
    refine Q1 ae gP [] [(35, vb ((y1.getD x9.toNat 0) != (y3.getD x9.toNat 0)))] [] 11 (Ss [hq g12 g13, hn, hn, hn, hq g12 g14]) ?_
    refine Q2 h ?_ ?_ <;> intro c15 h
    ·obtain ⟨y16, e17, h⟩ := ap h
     refine Q1 ae gP [] [(4, af y16)] [] 20 (Ss [hq g12 g13, hn, hn, hn, hq g12 g14, hn, hk (Ir (y1.getD x9.toNat 0) (y3.getD x9.toNat 0) y16 e17)]) ?_
     refine ret (QT (QW ?_))
     exact aX h rfl (ai [])
    ·refine skip (QU (QX ?_))
     refine ba ae [(5, af (SB (x9 - 1)))] 14 ?_
     exact bh h (ai [])
   ·refine exit (QR ?_)
    exact aX h rfl (ai [])
  ·replace h : uM = some r := h
   unfold uM at h
   show (_ : XQ) (.exit 0) _
   refine QO (QX ?_)
   refine ah ae [(4, af 0)] 1 (ret ?_)
   apply au h (af 0)
  ·unfold CL at h
   show (_ : XQ) (.ret) _
   refine QT (QW ?_)
   apply au h (af x18)
def f5 : ByteArray := mk #[0, 1, 2, 2, 3, 3, 3, 3, 4, 4, 4, 4, 4, 4, 4, 4, 5, 5, 5, 5, 5, 5, 5, 5, 5, 5, 5, 5, 5, 5, 5, 5, 6, 6, 6, 6, 6, 6, 6, 6, 6, 6, 6, 6, 6, 6, 6, 6, 6, 6, 6, 6, 6, 6, 6, 6, 6, 6, 6, 6, 6, 6, 6, 6, 7, 7, 7, 7, 7, 7, 7, 7, 7, 7, 7, 7, 7, 7, 7, 7, 7, 7, 7, 7, 7, 7, 7, 7, 7, 7, 7, 7, 7, 7, 7, 7, 7, 7, 7, 7, 7, 7, 7, 7, 7, 7, 7, 7, 7, 7, 7, 7, 7, 7, 7, 7, 7, 7, 7, 7, 7, 7, 7, 7, 7, 7, 7, 7, 8, 8, 8, 8, 8, 8, 8, 8, 8, 8, 8, 8, 8, 8, 8, 8, 8, 8, 8, 8, 8, 8, 8, 8, 8, 8, 8, 8, 8, 8, 8, 8, 8, 8, 8, 8, 8, 8, 8, 8, 8, 8, 8, 8, 8, 8, 8, 8, 8, 8, 8, 8, 8, 8, 8, 8, 8, 8, 8, 8, 8, 8, 8, 8, 8, 8, 8, 8, 8, 8, 8, 8, 8, 8, 8, 8, 8, 8, 8, 8, 8, 8, 8, 8, 8, 8, 8, 8, 8, 8, 8, 8, 8, 8, 8, 8, 8, 8, 8, 8, 8, 8, 8, 8, 8, 8, 8, 8, 8, 8, 8, 8, 8, 8, 8, 8, 8, 8, 8, 8, 8, 8, 8, 8, 8, 8, 8, 8]
noncomputable def lP (x3 : Int) (x4 : Int) : Option Int := if 0 ≤ (u8.wrap x3) then if (u8.wrap x3) < (f5.size : Int) then (some (SB (x4 + (SB ((f5.data.toList.getD ((u8.wrap x3).toNat) 0).toNat : Int))))).bind fun z7 => (some z7) else none else none
def lQ (x1 : Int) (x2 : Int) : Option Int := if decide (x1 ≥ 256) then lP (a7 .u32 x1 8) (SB (x2 + 8)) else lP x1 x2
def vQ (p0 : Int) : Option Int := if decide (p0 ≥ 65536) then lQ (a7 .u32 p0 16) 16 else lQ p0 0
theorem JS (p0 : Int) (r : Int) (h : vQ p0 = some r) : CT 152 [eZ p0] [] (af r) [] := by
 refine aw ae 0 Tryz.func152 rfl (fun _ _ _ => ?_)
 unfold vQ at h
 refine ah ae [(2, af 0)] 1 (seq ?_)
 refine AW.join (ι := Int × Int) (fun v => ⟨[(0, eZ v.1), (2, af v.2)], [], 0⟩) (fun v : Int × Int => lQ v.1 v.2 = some r) (fun v h => ?_) ?_
 ·obtain ⟨x1, x2⟩ := v
  replace h : lQ x1 x2 = some r := h
  unfold lQ at h
  refine QX (seq ?_)
  refine AW.join (ι := Int × Int) (fun v => ⟨[(0, eZ v.1), (2, af v.2)], [], 0⟩) (fun v : Int × Int => lP v.1 v.2 = some r) (fun v h => ?_) ?_
  ·obtain ⟨x3, x4⟩ := v
   replace h : lP x3 x4 = some r := h
   unfold lP at h
   refine QX ?_
   obtain ⟨g5, g6, h⟩ := aJ h
   obtain ⟨z7, n8, h⟩ := ap h
   replace n8 := ay n8
   refine aA ae [(2, af z7)] 7 (Su [hq g5 g6]) ?_ (by subst n8; kernel_rfl)
   refine ret ?_
   apply au h (af z7)
  ·refine ah ae [(8, vb (decide (x1 ≥ 256)))] 2 ?_
   refine Q2 h ?_ ?_ <;> intro c9 h
   ·refine aA ae [(0, eZ (a7 .u32 x1 8))] 5 [hn, ho (p := 0 ≤ (8 : Int)) (by decide)] ?_
    refine ba ae [(2, af (SB (x2 + 8)))] 8 ?_
    exact jl (a7 .u32 x1 8, SB (x2 + 8)) h
   ·refine skip ?_
    exact jl (x1, x2) h
 ·refine ah ae [(4, vb (decide (p0 ≥ 65536)))] 3 ?_
  refine Q2 h ?_ ?_ <;> intro c10 h
  ·refine aA ae [(0, eZ (a7 .u32 p0 16))] 6 [hn, ho (p := 0 ≤ (16 : Int)) (by decide)] ?_
   refine ba ae [(2, af 16)] 7 ?_
   exact jl (a7 .u32 p0 16, 16) h
  ·refine skip ?_
   exact jl (p0, 0) h
def qH (p0 : Int) : Option Int := (vQ p0).bind fun y1 => (some (SB (32 - y1)))
theorem Ij (p0 : Int) (r : Int) (h : qH p0 = some r) : CT 242 [eZ p0] [] (af r) [] := by
 refine aw ae 0 Tryz.func242 rfl (fun _ _ _ => ?_)
 unfold qH at h
 refine ah ae [] 1 ?_
 obtain ⟨y1, e2, h⟩ := ap h
 refine aA ae [(2, af (SB (32 - y1)))] 4 [hn, hk (JS p0 y1 e2)] (ret ?_)
 apply au h (af (SB (32 - y1)))
def nC (p0 : List Int) (p1 : Int) (x5 : List Int) (x6 : Int) : Option ((List Int × Int) ⊕ List Int) := if decide (x6 < (p0.length : Int)) then if 0 ≤ x6 then if x6 < (p0.length : Int) then if 0 ≤ p1 then if x6 < (x5.length : Int) then if 0 ≤ (SB (x6 + 1)) then if (SB (x6 + 1)) < (x5.length : Int) then some (.inl (((x5.set (0 + x6.toNat) (cw .u32 (x5.getD (0 + x6.toNat) 0) (u32.wrap (ck .u64 (u64.wrap (p0.getD x6.toNat 0)) p1)))).set (0 + (SB (x6 + 1)).toNat) (u32.wrap (a7 .u64 (ck .u64 (u64.wrap (p0.getD x6.toNat 0)) p1) 32))), SB (x6 + 1))) else none else none else none else none else none else none else some (.inr x5)
def ox (p0 : List Int) (p1 : Int) : Option (List Int) := if 0 ≤ (SB ((p0.length : Int) + 1)) then if (SB ((p0.length : Int) + 1)) ≤ 1099511627776 then (loop (fun v : List Int × Int => nC p0 p1 v.1 v.2) ((List.replicate ((SB ((p0.length : Int) + 1)).toNat) (0 : Int)), 0)).bind fun x15 => (some x15) else none else none
theorem C1 (p0 : List Int) (p1 : Int) (r : List Int) (h : ox p0 p1 = some r) : CT 243 [vl 1 aj p0, af p1] [] (.c (.ref 0 1 0 r.length)) [(0, .row 243 false 1 r.length (aj r))] := by
 refine aw ae 0 Tryz.func243 rfl (fun _ _ _ => ?_)
 unfold ox at h
 refine ah ae [] 1 ?_
 obtain ⟨g1, g2, h⟩ := aJ h
 refine QZ ae [(5, .c (.ref 4 1 0 ((List.replicate ((SB ((p0.length : Int) + 1)).toNat) (0 : Int)).length)))] [4] [(4, .row 243 false 1 (List.replicate ((SB ((p0.length : Int) + 1)).toNat) (0 : Int)).length (aj (List.replicate ((SB ((p0.length : Int) + 1)).toNat) (0 : Int))))] 6 (Su [gM 0 em 1 4 [.int .u32 0] rfl rfl (SB ((p0.length : Int) + 1)) (SB ((p0.length : Int) + 1)) g1 (Int.le_refl _) g2 (by decide)]) (seq ?_)
 refine ah ae [(15, af 0), (14, af (p0.length : Int)), (13, vl 1 aj p0)] 9 (block ?_)
 obtain ⟨x15, l16, h⟩ := ap h
 refine Q3 l16 (fun v => ⟨[(1, af p1), (5, rX 0 1 v.1.length), (13, vl 1 aj p0), (14, af (p0.length : Int)), (15, af v.2)], [(0, .row 243 false 1 v.1.length (aj v.1))], 1⟩) (fun t : List Int => (.exit 0, ⟨[(5, rX 0 1 t.length)], [(0, .row 243 false 1 t.length (aj t))], 1⟩)) (ai [(0, 4)]) (fun _ => tv) ?_ ?_
 ·clear l16 h
  intro v o h
  obtain ⟨x5, x6⟩ := v
  replace h : nC p0 p1 x5 x6 = some o := h
  unfold nC at h
  refine ah ae [(16, vb (decide (x6 < (p0.length : Int))))] 2 (seq ?_)
  refine Q2 h ?_ ?_ <;> intro c8 h
  ·refine skip (QX ?_)
   refine seq (block ?_)
   obtain ⟨g9, g10, h⟩ := aJ h
   refine aA ae [(7, eZ (p0.getD x6.toNat 0)), (6, af x6)] 7 [hn, hq g9 g10] ?_
   obtain ⟨g11, h⟩ := aY h
   refine aA ae [(8, a6 (ck .u64 (u64.wrap (p0.getD x6.toNat 0)) p1))] 12 (Su [ho g11]) ?_
   obtain ⟨g12, h⟩ := aY h
   refine QZ ae [] [0] [(0, .row 243 false 1 x5.length (aj (x5.set (0 + x6.toNat) (cw .u32 (x5.getD (0 + x6.toNat) 0) (u32.wrap (ck .u64 (u64.wrap (p0.getD x6.toNat 0)) p1))))))] 21 (Ss [hq g9 g12, ho (p := (0 + x6.toNat) < x5.length) (by have h1 : 0 ≤ x6 := g9; have h2 : x6 < (x5.length : Int) := g12; omega), hn, hn, hn, hq g9 g12, hset 0 em x5 (0 + x6.toNat) (cw .u32 (x5.getD (0 + x6.toNat) 0) (u32.wrap (ck .u64 (u64.wrap (p0.getD x6.toNat 0)) p1))) (n := x5.length) (by have h1 : 0 ≤ x6 := g9; have h2 : x6 < (x5.length : Int) := g12; omega) rfl]) ?_
   obtain ⟨g13, g14, h⟩ := aJ h
   refine QY ae [] [0] [(0, .row 243 false 1 x5.length (aj ((x5.set (0 + x6.toNat) (cw .u32 (x5.getD (0 + x6.toNat) 0) (u32.wrap (ck .u64 (u64.wrap (p0.getD x6.toNat 0)) p1)))).set (0 + (SB (x6 + 1)).toNat) (u32.wrap (a7 .u64 (ck .u64 (u64.wrap (p0.getD x6.toNat 0)) p1) 32)))))] 29 (Sv [ho (p := 0 ≤ (32 : Int)) (by decide), hn, hq g13 g14, hset 0 em (x5.set (0 + x6.toNat) (cw .u32 (x5.getD (0 + x6.toNat) 0) (u32.wrap (ck .u64 (u64.wrap (p0.getD x6.toNat 0)) p1)))) (0 + (SB (x6 + 1)).toNat) (u32.wrap (a7 .u64 (ck .u64 (u64.wrap (p0.getD x6.toNat 0)) p1) 32)) (n := x5.length) (by have h1 : 0 ≤ (SB (x6 + 1)) := g13; have h2 : (SB (x6 + 1)) < (x5.length : Int) := g14; omega) (by simp only [R7])]) ?_
   refine QU (QX ?_)
   refine ba ae [(15, af (SB (x6 + 1)))] 31 ?_
   exact bh h (Conv.trans (cV [(5, .c (.ref 0 1 0 (((x5.set (0 + x6.toNat) (cw .u32 (x5.getD (0 + x6.toNat) 0) (u32.wrap (ck .u64 (u64.wrap (p0.getD x6.toNat 0)) p1)))).set (0 + (SB (x6 + 1)).toNat) (u32.wrap (a7 .u64 (ck .u64 (u64.wrap (p0.getD x6.toNat 0)) p1) 32))).length)))] ⟨⟨.c (.ref 0 1 0 x5.length), by kernel_rfl, bU.len (by simp only [R7])⟩, tv⟩) (Conv.trans (eN 0 243 false 1 x5.length (((x5.set (0 + x6.toNat) (cw .u32 (x5.getD (0 + x6.toNat) 0) (u32.wrap (ck .u64 (u64.wrap (p0.getD x6.toNat 0)) p1)))).set (0 + (SB (x6 + 1)).toNat) (u32.wrap (a7 .u64 (ck .u64 (u64.wrap (p0.getD x6.toNat 0)) p1) 32))).length) (aj ((x5.set (0 + x6.toNat) (cw .u32 (x5.getD (0 + x6.toNat) 0) (u32.wrap (ck .u64 (u64.wrap (p0.getD x6.toNat 0)) p1)))).set (0 + (SB (x6 + 1)).toNat) (u32.wrap (a7 .u64 (ck .u64 (u64.wrap (p0.getD x6.toNat 0)) p1) 32)))) (by kernel_rfl) (by simp only [R7])) (ai [(0, 0)])))
  ·refine exit (QR ?_)
   exact aX h rfl (ai [(0, 0)])
 ·show (_ : XQ) (.exit 0) _
  refine QO (QX ?_)
  refine ah ae [(4, rX 0 1 x15.length)] 3 (ret ?_)
  obtain rfl := ay h
  exact be (.inr rfl) [(0, 0)] 1 (.c (.ref 0 1 0 x15.length))
def nO (o0 : Nat) (n0 : Nat) (x5 : List Int) (x7 : Int) (x8 : Int) (x12 : Int) : Option ((List Int × Int × Int × Int) ⊕ (Int × List Int)) := if 0 ≤ x8 then if x8 < ((n0 : Nat) : Int) then if (o0 + x8.toNat) < x5.length then (some (u64.wrap ((u64.wrap ((u64.wrap (x5.getD (o0 + x8.toNat) 0)) - (cn .u64 x12 4294967295))) - x7))).bind fun z16 => (some (.inl ((x5.set (o0 + x8.toNat) (u32.wrap z16)), a7 .u64 x12 32, a7 .u64 z16 63, SB (x8 + 1)))) else none else none else none
def nP (o0 : Nat) (n0 : Nat) (p1 : List Int) (p2 : Int) (x5 : List Int) (x6 : Int) (x7 : Int) (x8 : Int) : Option ((List Int × Int × Int × Int) ⊕ (Int × List Int)) := if decide (x8 < ((n0 : Nat) : Int)) then if decide (x8 < (p1.length : Int)) then if 0 ≤ x8 then if x8 < (p1.length : Int) then (some (u64.wrap (x6 + (u64.wrap (p2 * (u64.wrap (p1.getD x8.toNat 0))))))).bind fun z21 => (nO o0 n0 x5 x7 x8 z21) else none else none else nO o0 n0 x5 x7 x8 x6 else some (.inr (x7, x5))
def oJ (p0 : List Int) (o0 : Nat) (n0 : Nat) (p1 : List Int) (p2 : Int) : Option (Bool × List Int) := aF (loop (fun v : List Int × Int × Int × Int => nP o0 n0 p1 p2 v.1 v.2.1 v.2.2.1 v.2.2.2) (p0, 0, 0, 0)) fun x23 x24 => (some (decide (x23 > 0), x24))
theorem Jq (p0 : List Int) (o0 : Nat) (n0 : Nat) (p1 : List Int) (p2 : Int) (r : Bool × (List Int)) (h : oJ p0 o0 n0 p1 p2 = some r) : CT 244 [.c (.ref 0 1 o0 n0), vl 1 aj p1, a6 p2] [(0, .row 243 false 1 p0.length (aj p0))] (vb r.1) [(0, .row 243 false 1 r.2.length (aj r.2))] := by
 refine aw ae 1 Tryz.func244 rfl (fun _ _ _ => ?_)
 unfold oJ at h
 refine ah ae [] 2 ?_
 refine ah ae [(8, a6 0), (7, a6 0)] 4 (seq ?_)
 refine ah ae [(13, af 0), (12, af ((n0 : Nat) : Int))] 7 (block ?_)
 obtain ⟨x23, x24, l25, h⟩ := aK h
 refine Q3 l25 (fun v => ⟨[(0, .c (.ref 0 1 o0 n0)), (1, vl 1 aj p1), (2, a6 p2), (7, a6 v.2.1), (8, a6 v.2.2.1), (12, af ((n0 : Nat) : Int)), (13, af v.2.2.2)], [(0, .row 243 false 1 v.1.length (aj v.1))], 1⟩) (fun t : Int × (List Int) => (.exit 0, ⟨[(8, a6 t.1)], [(0, .row 243 false 1 t.2.length (aj t.2))], 1⟩)) (ai [(0, 0)]) (fun _ => tv) ?_ ?_
 ·clear l25 h
  intro v o h
  obtain ⟨x5, x6, x7, x8⟩ := v
  replace h : nP o0 n0 p1 p2 x5 x6 x7 x8 = some o := h
  unfold nP at h
  refine ah ae [(14, vb (decide (x8 < ((n0 : Nat) : Int))))] 2 (seq ?_)
  refine Q2 h ?_ ?_ <;> intro c11 h
  ·refine skip (QX ?_)
   refine seq (block ?_)
   refine ah ae [(9, af x8)] 4 (seq ?_)
   refine AW.join (ι := Int) (fun v => ⟨[(0, .c (.ref 0 1 o0 n0)), (1, vl 1 aj p1), (2, a6 p2), (7, a6 v), (8, a6 x7), (9, af x8), (12, af ((n0 : Nat) : Int)), (13, af x8)], [(0, .row 243 false 1 x5.length (aj x5))], 1⟩) (fun v : Int => nO o0 n0 x5 x7 x8 v = some o) (fun x12 h => ?_) ?_
   ·unfold nO at h
    refine QX ?_
    obtain ⟨g13, g14, h⟩ := aJ h
    obtain ⟨g15, h⟩ := aY h
    obtain ⟨z16, n17, h⟩ := ap h
    replace n17 := ay n17
    refine aA ae [(10, a6 z16)] 12 (Ss [hq g13 g14, ho g15]) ?_ (by subst n17; kernel_rfl)
    refine QZ ae [(8, a6 (a7 .u64 z16 63))] [0] [(0, .row 243 false 1 x5.length (aj (x5.set (o0 + x8.toNat) (u32.wrap z16))))] 21 (Sw [ho (p := 0 ≤ (63 : Int)) (by decide), hq g13 g14, hset 0 em x5 (o0 + x8.toNat) (u32.wrap z16) (n := x5.length) g15 rfl]) ?_
    refine ax ae [(7, a6 (a7 .u64 x12 32))] 24 [hn, ho (p := 0 ≤ (32 : Int)) (by decide)] ?_
    refine QU (QX ?_)
    refine ba ae [(13, af (SB (x8 + 1)))] 26 ?_
    exact bh h (Conv.trans (eN 0 243 false 1 x5.length ((x5.set (o0 + x8.toNat) (u32.wrap z16)).length) (aj (x5.set (o0 + x8.toNat) (u32.wrap z16))) (by kernel_rfl) (by simp only [R7])) (ai [(0, 0)]))
   ·refine ah ae [(19, vb (decide (x8 < (p1.length : Int))))] 8 ?_
    refine Q2 h ?_ ?_ <;> intro c18 h
    ·obtain ⟨g19, g20, h⟩ := aJ h
     obtain ⟨z21, n22, h⟩ := ap h
     replace n22 := ay n22
     refine ax ae [(7, a6 z21)] 18 (Sv [hq g19 g20]) ?_ (by subst n22; kernel_rfl)
     exact jl z21 h (ai [(0, 0)])
    ·refine skip ?_
     exact jl x6 h (ai [(0, 0)])
  ·refine exit (QR ?_)
   exact aX h rfl (ai [(0, 0)])
 ·show (_ : XQ) (.exit 0) _
  refine QO (QX ?_)
  refine ah ae [(6, vb (decide (x23 > 0)))] 4 (ret ?_)
  obtain rfl := ay h
  exact be (.inr rfl) [(0, 0)] 1 (vb (decide (x23 > 0)))
def nQ (o0 : Nat) (x4 : List Int) (x6 : Int) (x14 : Int) : Option ((List Int × Int × Int) ⊕ List Int) := some (.inl ((x4.set (o0 + x6.toNat) (u32.wrap x14)), a7 .u64 x14 32, SB (x6 + 1)))
def nR (o0 : Nat) (n0 : Nat) (p1 : List Int) (x4 : List Int) (x5 : Int) (x6 : Int) : Option ((List Int × Int × Int) ⊕ List Int) := if decide (x6 < ((n0 : Nat) : Int)) then if 0 ≤ x6 then if x6 < ((n0 : Nat) : Int) then if (o0 + x6.toNat) < x4.length then (some (u64.wrap (x5 + (u64.wrap (x4.getD (o0 + x6.toNat) 0))))).bind fun z12 => (if decide (x6 < (p1.length : Int)) then if x6 < (p1.length : Int) then (some (u64.wrap (z12 + (u64.wrap (p1.getD x6.toNat 0))))).bind fun z17 => (nQ o0 x4 x6 z17) else none else nQ o0 x4 x6 z12) else none else none else none else some (.inr x4)
def sx (p0 : List Int) (o0 : Nat) (n0 : Nat) (p1 : List Int) : Option (List Int) := (loop (fun v : List Int × Int × Int => nR o0 n0 p1 v.1 v.2.1 v.2.2) (p0, 0, 0)).bind fun x19 => (some x19)
theorem Jr (p0 : List Int) (o0 : Nat) (n0 : Nat) (p1 : List Int) (r : List Int) (h : sx p0 o0 n0 p1 = some r) : CT 245 [.c (.ref 0 1 o0 n0), vl 1 aj p1] [(0, .row 243 false 1 p0.length (aj p0))] (.tup []) [(0, .row 243 false 1 r.length (aj r))] := by
 refine aw ae 1 Tryz.func245 rfl (fun _ _ _ => ?_)
 unfold sx at h
 refine ah ae [(4, a6 0)] 2 ?_
 refine ah ae [(8, af 0), (7, af ((n0 : Nat) : Int))] 5 (block ?_)
 obtain ⟨x19, l20, h⟩ := ap h
 refine Q3 l20 (fun v => ⟨[(0, .c (.ref 0 1 o0 n0)), (1, vl 1 aj p1), (4, a6 v.2.1), (7, af ((n0 : Nat) : Int)), (8, af v.2.2)], [(0, .row 243 false 1 v.1.length (aj v.1))], 1⟩) (fun t : List Int => (.exit 0, ⟨[], [(0, .row 243 false 1 t.length (aj t))], 1⟩)) (ai [(0, 0)]) (fun _ => tv) ?_ ?_
 ·clear l20 h
  intro v o h
  obtain ⟨x4, x5, x6⟩ := v
  replace h : nR o0 n0 p1 x4 x5 x6 = some o := h
  unfold nR at h
  refine ah ae [(9, vb (decide (x6 < ((n0 : Nat) : Int))))] 2 (seq ?_)
  refine Q2 h ?_ ?_ <;> intro c8 h
  ·refine skip (QX ?_)
   refine seq (block ?_)
   refine ah ae [(5, af x6)] 4 ?_
   obtain ⟨g9, g10, h⟩ := aJ h
   obtain ⟨g11, h⟩ := aY h
   obtain ⟨z12, n13, h⟩ := ap h
   replace n13 := ay n13
   refine aA ae [(4, a6 z12)] 12 (Su [hq g9 g10, ho g11]) ?_ (by subst n13; kernel_rfl)
   refine seq ?_
   refine AW.join (ι := Int) (fun v => ⟨[(0, .c (.ref 0 1 o0 n0)), (1, vl 1 aj p1), (4, a6 v), (5, af x6), (7, af ((n0 : Nat) : Int)), (8, af x6)], [(0, .row 243 false 1 x4.length (aj x4))], 1⟩) (fun v : Int => nQ o0 x4 x6 v = some o) (fun x14 h => ?_) ?_
   ·unfold nQ at h
    refine QX ?_
    refine QZ ae [] [0] [(0, .row 243 false 1 x4.length (aj (x4.set (o0 + x6.toNat) (u32.wrap x14))))] 7 (Sv [hq g9 g10, hset 0 em x4 (o0 + x6.toNat) (u32.wrap x14) (n := x4.length) g11 rfl]) ?_
    refine ax ae [(4, a6 (a7 .u64 x14 32))] 10 [hn, ho (p := 0 ≤ (32 : Int)) (by decide)] ?_
    refine QU (QX ?_)
    refine ba ae [(8, af (SB (x6 + 1)))] 12 ?_
    exact bh h (Conv.trans (eN 0 243 false 1 x4.length ((x4.set (o0 + x6.toNat) (u32.wrap x14)).length) (aj (x4.set (o0 + x6.toNat) (u32.wrap x14))) (by kernel_rfl) (by simp only [R7])) (ai [(0, 0)]))
   ·refine ah ae [(21, vb (decide (x6 < (p1.length : Int))))] 16 ?_
    refine Q2 h ?_ ?_ <;> intro c15 h
    ·obtain ⟨g16, h⟩ := aY h
     obtain ⟨z17, n18, h⟩ := ap h
     replace n18 := ay n18
     refine ax ae [(4, a6 z17)] 24 (Su [hq g9 g16]) ?_ (by subst n18; kernel_rfl)
     exact jl z17 h (ai [(0, 0)])
    ·refine skip ?_
     exact jl z12 h (ai [(0, 0)])
  ·refine exit (QR ?_)
   exact aX h rfl (ai [(0, 0)])
 ·show (_ : XQ) (.exit 0) _
  refine QO ?_
  obtain rfl := ay h
  exact be (.inl rfl) [(0, 0)] 1 (.tup [])
def nS (p1 : Int) (x5 : List Int) (x6 : Int) (x11 : Int) : Option ((List Int × Int) ⊕ List Int) := if 0 ≤ p1 then if x6 < (x5.length : Int) then some (.inl ((x5.set (0 + x6.toNat) (u32.wrap (a7 .u64 x11 p1))), SB (x6 + 1))) else none else none
def nT (p0 : List Int) (p1 : Int) (y1 : List Int) (x5 : List Int) (x6 : Int) : Option ((List Int × Int) ⊕ List Int) := if decide (x6 < (y1.length : Int)) then if 0 ≤ x6 then if x6 < (p0.length : Int) then if decide ((SB (x6 + 1)) < (p0.length : Int)) then if 0 ≤ (SB (x6 + 1)) then if (SB (x6 + 1)) < (p0.length : Int) then (some (cw .u64 (u64.wrap (p0.getD x6.toNat 0)) (ck .u64 (u64.wrap (p0.getD ((SB (x6 + 1)).toNat) 0)) 32))).bind fun z17 => (nS p1 x5 x6 z17) else none else none else nS p1 x5 x6 (u64.wrap (p0.getD x6.toNat 0)) else none else none else some (.inr x5)
def sy (p0 : List Int) (p1 : Int) : Option (List Int) := (jE p0).bind fun y1 => ((loop (fun v : List Int × Int => nT p0 p1 y1 v.1 v.2) (y1, 0)).bind fun x19 => ((fD x19).bind fun y20 => (some y20)))
theorem Js (p0 : List Int) (p1 : Int) (r : List Int) (h : sy p0 p1 = some r) : CT 246 [vl 1 aj p0, af p1] [] (vl 1 aj r) [] := by
 refine aw ae 0 Tryz.func246 rfl (fun _ _ _ => ?_)
 unfold sy at h
 refine ah ae [] 1 ?_
 obtain ⟨y1, e2, h⟩ := ap h
 refine QZ ae [(5, rX 2 1 y1.length)] [2] [(2, .row 243 false 1 y1.length (aj y1))] 4 [hn, hm [] [] 1 (uy p0 y1 e2) ⟨bS iw _ _ _, tv⟩] (seq ?_)
 refine ah ae [(12, af 0), (11, af (y1.length : Int))] 7 (block ?_)
 obtain ⟨x19, l22, h⟩ := ap h
 refine Q3 l22 (fun v => ⟨[(0, vl 1 aj p0), (1, af p1), (5, rX 0 1 v.1.length), (11, af (y1.length : Int)), (12, af v.2)], [(0, .row 243 false 1 v.1.length (aj v.1))], 1⟩) (fun t : List Int => (.exit 0, ⟨[(5, rX 0 1 t.length)], [(0, .row 243 false 1 t.length (aj t))], 1⟩)) (ai [(0, 2)]) (fun _ => tv) ?_ ?_
 ·clear l22 h
  intro v o h
  obtain ⟨x5, x6⟩ := v
  replace h : nT p0 p1 y1 x5 x6 = some o := h
  unfold nT at h
  refine ah ae [(13, vb (decide (x6 < (y1.length : Int))))] 2 (seq ?_)
  refine Q2 h ?_ ?_ <;> intro c8 h
  ·refine skip (QX ?_)
   refine seq (block ?_)
   refine ah ae [(6, af x6)] 4 ?_
   obtain ⟨g9, g10, h⟩ := aJ h
   refine aA ae [(7, a6 (u64.wrap (p0.getD x6.toNat 0)))] 10 (Ss [hq g9 g10]) (seq ?_)
   refine AW.join (ι := Int) (fun v => ⟨[(0, vl 1 aj p0), (1, af p1), (5, rX 0 1 x5.length), (6, af x6), (7, a6 v), (11, af (y1.length : Int)), (12, af x6)], [(0, .row 243 false 1 x5.length (aj x5))], 1⟩) (fun v : Int => nS p1 x5 x6 v = some o) (fun x11 h => ?_) ?_
   ·unfold nS at h
    refine QX ?_
    obtain ⟨g12, g13, h⟩ := aJ h
    refine QY ae [] [0] [(0, .row 243 false 1 x5.length (aj (x5.set (0 + x6.toNat) (u32.wrap (a7 .u64 x11 p1)))))] 9 (Sv [ho g12, hn, hq g9 g13, hset 0 em x5 (0 + x6.toNat) (u32.wrap (a7 .u64 x11 p1)) (n := x5.length) (by have h1 : 0 ≤ x6 := g9; have h2 : x6 < (x5.length : Int) := g13; omega) rfl]) ?_
    refine QU (QX ?_)
    refine ba ae [(12, af (SB (x6 + 1)))] 11 ?_
    exact bh h (Conv.trans (cV [(5, .c (.ref 0 1 0 ((x5.set (0 + x6.toNat) (u32.wrap (a7 .u64 x11 p1))).length)))] ⟨⟨.c (.ref 0 1 0 x5.length), by kernel_rfl, bU.len (by simp only [R7])⟩, tv⟩) (Conv.trans (eN 0 243 false 1 x5.length ((x5.set (0 + x6.toNat) (u32.wrap (a7 .u64 x11 p1))).length) (aj (x5.set (0 + x6.toNat) (u32.wrap (a7 .u64 x11 p1)))) (by kernel_rfl) (by simp only [R7])) (ai [(0, 0)])))
   ·refine ah ae [(24, vb (decide ((SB (x6 + 1)) < (p0.length : Int))))] 15 ?_
    refine Q2 h ?_ ?_ <;> intro c14 h
    ·obtain ⟨g15, g16, h⟩ := aJ h
     obtain ⟨z17, n18, h⟩ := ap h
     replace n18 := ay n18
     refine ax ae [(7, a6 z17)] 25 (Sv [hq g15 g16, hn, hn, ho (p := 0 ≤ (32 : Int)) (by decide)]) ?_ (by subst n18; kernel_rfl)
     exact jl z17 h (ai [(0, 0)])
    ·refine skip ?_
     exact jl (u64.wrap (p0.getD x6.toNat 0)) h (ai [(0, 0)])
  ·refine exit (QR ?_)
   exact aX h rfl (ai [(0, 0)])
 ·show (_ : XQ) (.exit 0) _
  refine QO (QX ?_)
  obtain ⟨y20, e21, h⟩ := ap h
  refine QZ ae [(4, vl 1 aj y20)] [0] [] 3 [hn, hg [] [0] false 0 (q := (0 + x19.length ≤ x19.length) ∧ (True)) ⟨Ax, tv⟩ (a0 := [vl 1 aj x19]) (iL x19 y20 e21) ⟨aN.refl _, tv⟩ (fun h => by cases h)] (ret ?_)
  apply au h (vl 1 aj y20)
def lz (x29 : Int) (x33 : List Int) (x34 : List Int) : Option ((List Int × List Int × Int) ⊕ (List Int × List Int)) := some (.inl (x33, x34, SB (x29 - 1)))
def lA (y14 : List Int) (x29 : Int) (y47 : Bool) (x52 : List Int) (x53 : Int) : Option ((List Int × Int) ⊕ (List Int × Int)) := if y47 then (sx x52 (0 + x29.toNat) ((SB ((SB (x29 + (y14.length : Int))) + 1)).toNat - x29.toNat) y14).bind fun y57 => (if ((0 + x29.toNat) + (y14.length : Int).toNat) < y57.length then if ((y57.getD ((0 + x29.toNat) + (y14.length : Int).toNat) 0) == 0) then some (.inr (y57, u64.wrap (x53 - 1))) else some (.inl (y57, u64.wrap (x53 - 1))) else none) else some (.inr (x52, x53))
def lB (y10 : List Int) (y14 : List Int) (z18 : Int) (x27 : List Int) (x28 : List Int) (x29 : Int) : Option ((List Int × List Int × Int) ⊕ (List Int × List Int)) := if decide (x29 ≥ 0) then (if 0 ≤ x29 then (if x29 ≤ (SB ((SB (x29 + (y14.length : Int))) + 1)) then (if (SB ((SB (x29 + (y14.length : Int))) + 1)) ≤ (y10.length : Int) then (if 0 ≤ (y14.length : Int) then (if (y14.length : Int) < ((((SB ((SB (x29 + (y14.length : Int))) + 1)).toNat - x29.toNat) : Nat) : Int) then (if ((0 + x29.toNat) + (y14.length : Int).toNat) < x27.length then (if (SB ((y14.length : Int) - 1)) < ((((SB ((SB (x29 + (y14.length : Int))) + 1)).toNat - x29.toNat) : Nat) : Int) then if ((0 + x29.toNat) + (SB ((y14.length : Int) - 1)).toNat) < x27.length then if z18 ≠ 0 then (some ((if (4294967295 : Int) < (u64.wrap ((cw .u64 (ck .u64 (u64.wrap (x27.getD ((0 + x29.toNat) + (y14.length : Int).toNat) 0)) 32) (u64.wrap (x27.getD ((0 + x29.toNat) + (SB ((y14.length : Int) - 1)).toNat) 0))).tdiv z18)) then 4294967295 else u64.wrap ((cw .u64 (ck .u64 (u64.wrap (x27.getD ((0 + x29.toNat) + (y14.length : Int).toNat) 0)) 32) (u64.wrap (x27.getD ((0 + x29.toNat) + (SB ((y14.length : Int) - 1)).toNat) 0))).tdiv z18)))).bind fun z44 => (if (z44 == 0) then lz x29 x27 x28 else aF (oJ x27 (0 + x29.toNat) ((SB ((SB (x29 + (y14.length : Int))) + 1)).toNat - x29.toNat) y14 z44) fun y47 y48 => (aF (loop (fun v : List Int × Int => lA y14 x29 y47 v.1 v.2) (y48, z44)) fun x61 x62 => (if x29 < (x28.length : Int) then lz x29 x61 (x28.set (0 + x29.toNat) (u32.wrap x62)) else none))) else none else none else none) else none) else none) else none) else none) else none) else none) else some (.inr (x27, x28))
def og (p0 : List Int) (p1 : List Int) : Option (List Int × List Int) := (nN p0 p1).bind fun y1 => (if decide (y1 < 0) then (jE p0).bind fun y4 => (some (([] : List Int), y4)) else (if 0 ≤ (SB ((p1.length : Int) - 1)) then (if (SB ((p1.length : Int) - 1)) < (p1.length : Int) then ((qH (p1.getD ((SB ((p1.length : Int) - 1)).toNat) 0)).bind fun y8 => ((ox p0 y8).bind fun y10 => ((ox p1 y8).bind fun y12 => ((fD y12).bind fun y14 => (if 0 ≤ (SB ((y14.length : Int) - 1)) then (if (SB ((y14.length : Int) - 1)) < (y14.length : Int) then ((some (u64.wrap (y14.getD ((SB ((y14.length : Int) - 1)).toNat) 0))).bind fun z18 => (if 0 ≤ (SB ((y10.length : Int) - (y14.length : Int))) then (if (SB ((y10.length : Int) - (y14.length : Int))) ≤ 1099511627776 then ((some (SB ((((List.replicate ((SB ((y10.length : Int) - (y14.length : Int))).toNat) (0 : Int)).length : Nat) : Int) - 1))).bind fun z22 => (aF (loop (fun v : List Int × List Int × Int => lB y10 y14 z18 v.1 v.2.1 v.2.2) (y10, (List.replicate ((SB ((y10.length : Int) - (y14.length : Int))).toNat) (0 : Int)), z22)) fun x65 x66 => ((fD x66).bind fun y67 => ((fD (x65.take y10.length)).bind fun y69 => (if 0 + y10.length ≤ x65.length then (sy y69 y8).bind fun y72 => (some (y67, y72)) else none))))) else none) else none)) else none) else none))))) else none) else none))
theorem CM (p0 : List Int) (p1 : List Int) (r : (List Int) × (List Int)) (h : og p0 p1 = some r) : CT 214 [vl 1 aj p0, vl 1 aj p1] [] (.tup [vl 1 aj r.1, vl 1 aj r.2]) [] := by
 refine aw ae 0 Tryz.func214 rfl (fun _ _ _ => ?_)
 unfold og at h
 refine ah ae [] 2 ?_
 refine AW.scope (seq ?_)
 obtain ⟨y1, e2, h⟩ := ap h
 refine aA ae [(19, vb (decide (y1 < 0)))] 5 (Ss [hk (CC p0 p1 y1 e2)]) ?_
 refine Q2 h ?_ ?_ <;> intro c3 h
 ·obtain ⟨y4, e5, h⟩ := ap h
  refine QZ ae [(5, rX 6 1 y4.length), (4, .c (ar))] [6] [(6, .row 243 false 1 y4.length (aj y4))] 9 [hn, hm [] [] 1 (uy p0 y4 e5) ⟨bS iw _ _ _, tv⟩] (ret (QW (QS ?_)))
  obtain rfl := ay h
  exact b6 (.inr rfl) [] 0 (.tup [vl 1 aj ([] : List Int), vl 1 aj y4]) (Conv.trans (qf 6 243 1 y4.length (aj y4) (by kernel_rfl)) (Conv.trans (cV [(4, vl 1 aj ([] : List Int))] ⟨⟨.c (ar), by kernel_rfl, bU.c (bv.nil rfl)⟩, tv⟩) (cV [(5, vl 1 aj y4)] ⟨⟨.c (.ref 6 1 0 y4.length), by kernel_rfl, bU.c (bv.ref (ty := 243) (f := aj y4) (by kernel_rfl) Ax)⟩, tv⟩)))
 ·refine skip (QX ?_)
  obtain ⟨g6, g7, h⟩ := aJ h
  obtain ⟨y8, e9, h⟩ := ap h
  refine aA ae [(6, af y8)] 12 (Sv [hq g6 g7, hn, hk (Ij (p1.getD ((SB ((p1.length : Int) - 1)).toNat) 0) y8 e9)]) ?_
  obtain ⟨y10, e11, h⟩ := ap h
  obtain ⟨y12, e13, h⟩ := ap h
  obtain ⟨y14, e15, h⟩ := ap h
  refine QZ ae [(8, vl 1 aj y14), (7, rX 14 1 y10.length)] [14, 17] [(14, .row 243 false 1 y10.length (aj y10))] 20 (Ss [hm [] [] 1 (C1 p0 y8 y10 e11) ⟨bS iw _ _ _, tv⟩, hn, hn, hm [] [] 1 (C1 p1 y8 y12 e13) ⟨bS iw _ _ _, tv⟩, hg [] [17] false 0 (q := (0 + y12.length ≤ y12.length) ∧ (True)) ⟨Ax, tv⟩ (a0 := [vl 1 aj y12]) (iL y12 y14 e15) ⟨aN.refl _, tv⟩ (fun h => by cases h)]) ?_
  refine ah ae [(9, af (y14.length : Int))] 23 ?_
  obtain ⟨g16, g17, h⟩ := aJ h
  obtain ⟨z18, n19, h⟩ := ap h
  replace n19 := ay n19
  refine aA ae [(10, a6 z18)] 30 (Su [hq g16 g17]) ?_ (by subst n19; kernel_rfl)
  obtain ⟨g20, g21, h⟩ := aJ h
  refine QZ ae [(11, .c (.ref 34 1 0 ((List.replicate ((SB ((y10.length : Int) - (y14.length : Int))).toNat) (0 : Int)).length)))] [34] [(34, .row 243 false 1 (List.replicate ((SB ((y10.length : Int) - (y14.length : Int))).toNat) (0 : Int)).length (aj (List.replicate ((SB ((y10.length : Int) - (y14.length : Int))).toNat) (0 : Int))))] 36 (Sv [gM 0 em 1 4 [.int .u32 0] rfl rfl (SB ((y10.length : Int) - (y14.length : Int))) (SB ((y10.length : Int) - (y14.length : Int))) g20 (Int.le_refl _) g21 (by decide)]) (seq (AW.label ?_))
  refine QX (seq ?_)
  obtain ⟨z22, n23, h⟩ := ap h
  replace n23 := ay n23
  refine ah ae [(12, af z22)] 40 ?_ (by subst n23; kernel_rfl)
  refine block ?_
  obtain ⟨x65, x66, l74, h⟩ := aK h
  refine Q3 l74 (fun v => ⟨[(6, af y8), (7, rX 0 1 y10.length), (8, vl 1 aj y14), (9, af (y14.length : Int)), (10, a6 z18), (11, rX 1 1 v.2.1.length), (12, af v.2.2)], [(0, .row 243 false 1 v.1.length (aj v.1)), (1, .row 243 false 1 v.2.1.length (aj v.2.1))], 2⟩) (fun t : (List Int) × (List Int) => (.exit 0, ⟨[(6, af y8), (7, rX 0 1 y10.length), (11, rX 1 1 t.2.length)], [(0, .row 243 false 1 t.1.length (aj t.1)), (1, .row 243 false 1 t.2.length (aj t.2))], 2⟩)) (ai [(0, 14), (1, 34)]) (fun _ => tv) ?_ ?_
  ·clear l74 h
   intro v o h
   obtain ⟨x27, x28, x29⟩ := v
   replace h : lB y10 y14 z18 x27 x28 x29 = some o := h
   unfold lB at h
   refine seq ?_
   refine ah ae [(53, vb (decide (x29 ≥ 0)))] 4 ?_
   refine Q2 h ?_ ?_ <;> intro c32 h
   ·refine skip (QX (seq ?_))
    refine AW.join (ι := (List Int) × (List Int)) (fun v => ⟨[(6, af y8), (7, rX 0 1 y10.length), (8, vl 1 aj y14), (9, af (y14.length : Int)), (10, a6 z18), (11, rX 1 1 v.2.length), (12, af x29)], [(0, .row 243 false 1 v.1.length (aj v.1)), (1, .row 243 false 1 v.2.length (aj v.2))], 2⟩) (fun v : (List Int) × (List Int) => lz x29 v.1 v.2 = some o) (fun v h => ?_) ?_
    ·obtain ⟨x33, x34⟩ := v
     replace h : lz x29 x33 x34 = some o := h
     unfold lz at h
     refine QX ?_
     refine ba ae [(12, af (SB (x29 - 1)))] 5 ?_
     exact bh h (ai [(0, 0), (1, 1)])
    ·refine block ?_
     obtain ⟨g35, g36, h⟩ := aJ h
     obtain ⟨g37, h⟩ := aY h
     refine aA ae [(13, .c (.ref 0 1 (0 + x29.toNat) ((SB ((SB (x29 + (y14.length : Int))) + 1)).toNat - x29.toNat)))] 16 [hn, hn, hn, hn, hn, hn, hn, hn, hn, hn, ho (p := (0 ≤ x29) ∧ (x29 ≤ (SB ((SB (x29 + (y14.length : Int))) + 1))) ∧ ((SB ((SB (x29 + (y14.length : Int))) + 1)) ≤ (SB ((SB (x29 + (y14.length : Int))) + 1))) ∧ ((SB ((SB (x29 + (y14.length : Int))) + 1)) ≤ (y10.length : Int))) (⟨g35, g36, Int.le_refl _, g37⟩)] ?_
     obtain ⟨g38, g39, h⟩ := aJ h
     obtain ⟨g40, g41, h⟩ := aJ h
     obtain ⟨g42, g43, h⟩ := aJ h
     obtain ⟨z44, n45, h⟩ := ap h
     replace n45 := ay n45
     refine Q1 ae gP [] [(14, a6 z44)] [] 33 (Ss [hq g38 g39, ho g40, hn, ho (p := 0 ≤ (32 : Int)) (by decide), hn, hn, hn, hq g16 g41, ho g42, hn, hn, hn, ho g43]) ?_ (by subst n45; kernel_rfl)
     refine seq ?_
     refine ah ae [(84, vb (z44 == 0))] 35 ?_
     refine Q2 h ?_ ?_ <;> intro c46 h
     ·refine exit (QR (QO ?_))
      exact jl (x27, x28) h (ai [(0, 0), (1, 1)])
     ·refine skip (QX (seq ?_))
      obtain ⟨y47, y48, e49, h⟩ := aK h
      refine QZ ae [(15, vb y47)] [0] [(0, .row 243 false 1 y48.length (aj y48))] 39 (Su [hm [0] [] 0 (Jq x27 (0 + x29.toNat) ((SB ((SB (x29 + (y14.length : Int))) + 1)).toNat - x29.toNat) y14 z44 (y47, y48) e49) ⟨bS iw _ _ _, tv⟩]) (block ?_)
      obtain ⟨x61, x62, l64, h⟩ := aK h
      refine Q3 l64 (fun v => ⟨[(6, af y8), (7, rX 0 1 y10.length), (8, vl 1 aj y14), (9, af (y14.length : Int)), (10, a6 z18), (11, rX 1 1 x28.length), (12, af x29), (13, .c (.ref 0 1 (0 + x29.toNat) ((SB ((SB (x29 + (y14.length : Int))) + 1)).toNat - x29.toNat))), (14, a6 v.2), (15, vb y47)], [(0, .row 243 false 1 v.1.length (aj v.1)), (1, .row 243 false 1 x28.length (aj x28))], 2⟩) (fun t : (List Int) × Int => (.exit 2, ⟨[(6, af y8), (7, rX 0 1 y10.length), (8, vl 1 aj y14), (9, af (y14.length : Int)), (10, a6 z18), (11, rX 1 1 x28.length), (12, af x29), (14, a6 t.2)], [(0, .row 243 false 1 t.1.length (aj t.1)), (1, .row 243 false 1 x28.length (aj x28))], 2⟩)) (ai [(0, 0), (1, 1)]) (fun _ => tv) ?_ ?_
      ·clear l64 h
       intro v o h
       obtain ⟨x52, x53⟩ := v
       replace h : lA y14 x29 y47 x52 x53 = some o := h
       unfold lA at h
       refine seq ?_
       refine ah ae [(89, vb y47)] 3 ?_
       refine Q2 h ?_ ?_ <;> intro c56 h
       ·refine skip (QX ?_)
        refine seq (block ?_)
        obtain ⟨y57, e58, h⟩ := ap h
        refine QZ ae [] [0] [(0, .row 243 false 1 y57.length (aj y57))] 5 (Ss [hm [0] [] 0 (Jr x52 (0 + x29.toNat) ((SB ((SB (x29 + (y14.length : Int))) + 1)).toNat - x29.toNat) y14 y57 e58) ⟨bS iw _ _ _, tv⟩]) ?_
        obtain ⟨g59, h⟩ := aY h
        refine aA ae [(99, vb ((y57.getD ((0 + x29.toNat) + (y14.length : Int).toNat) 0) == 0))] 10 (Ss [hq g38 g39, ho g59]) ?_
        refine Q2 h ?_ ?_ <;> intro c60 h
        ·refine ah ae [(14, a6 (u64.wrap (x53 - 1)))] 13 ?_
         refine exit (QP (by kernel_rfl) (QR ?_))
         exact aX h rfl (ai [(0, 0), (1, 1)])
        ·refine skip (QU (QX ?_))
         refine ba ae [(14, a6 (u64.wrap (x53 - 1)))] 13 ?_
         exact bh h (ai [(0, 0), (1, 1)])
       ·refine exit (QR ?_)
        exact aX h rfl (ai [(0, 0), (1, 1)])
      ·show (_ : XQ) (.exit 2) _
       refine QO (QX ?_)
       obtain ⟨g63, h⟩ := aY h
       refine QY ae [] [1] [(1, .row 243 false 1 x28.length (aj (x28.set (0 + x29.toNat) (u32.wrap x62))))] 8 (Sv [hq g35 g63, hset 0 em x28 (0 + x29.toNat) (u32.wrap x62) (n := x28.length) (by have h1 : 0 ≤ x29 := g35; have h2 : x29 < (x28.length : Int) := g63; omega) rfl]) ?_
       refine QU ?_
       exact jl (x61, (x28.set (0 + x29.toNat) (u32.wrap x62))) h (Conv.trans (cV [(11, .c (.ref 1 1 0 ((x28.set (0 + x29.toNat) (u32.wrap x62)).length)))] ⟨⟨.c (.ref 1 1 0 x28.length), by kernel_rfl, bU.len (by simp only [R7])⟩, tv⟩) (Conv.trans (eN 1 243 false 1 x28.length ((x28.set (0 + x29.toNat) (u32.wrap x62)).length) (aj (x28.set (0 + x29.toNat) (u32.wrap x62))) (by kernel_rfl) (by simp only [R7])) (ai [(0, 0), (1, 1)])))
   ·refine exit (QR ?_)
    exact aX h rfl (ai [(0, 0), (1, 1)])
  ·show (_ : XQ) (.exit 0) _
   refine QO (QX ?_)
   obtain ⟨y67, e68, h⟩ := ap h
   obtain ⟨y69, e70, h⟩ := ap h
   obtain ⟨g71, h⟩ := aY h
   obtain ⟨y72, e73, h⟩ := ap h
   refine QZ ae [(5, vl 1 aj y72), (4, vl 1 aj y67)] [0, 1] [] 7 [hn, hg [] [1] false 0 (q := (0 + x66.length ≤ x66.length) ∧ (True)) ⟨Ax, tv⟩ (a0 := [vl 1 aj x66]) (iL x66 y67 e68) ⟨aN.refl _, tv⟩ (fun h => by cases h), hn, hg [] [0] false 0 (q := (0 + y10.length ≤ x65.length) ∧ (True)) ⟨g71, tv⟩ (a0 := [.c (.t (.tree y10.length 1 (aj x65)))]) (iL (x65.take y10.length) y69 e70) ⟨aN.c (cu.tree (pj (by omega))), tv⟩ (fun h => by cases h), hn, hk (Js y69 y8 y72 e73)] (ret (QS ?_))
   apply au h (.tup [vl 1 aj y67, vl 1 aj y72])
def oh (x8 : List Int) (x9 : List Int) : Option ((List Int × List Int) ⊕ List Int) := if decide ((x9.length : Int) > 0) then aF (og x8 x9) fun y12 y13 => ((jE x9).bind fun y15 => (some (.inl (y15, y13)))) else some (.inr x8)
def jV (p0 : List Int) (p1 : List Int) : Option (List Int × Int) := (iU p0 p1).bind fun y1 => (if (y1 != 0) then some (([] : List Int), y1) else (jE p0).bind fun y4 => ((loop (fun v : List Int × List Int => oh v.1 v.2) (y4, p1)).bind fun x17 => (some (x17, 0))))
theorem Dm (p0 : List Int) (p1 : List Int) (r : (List Int) × Int) (h : jV p0 p1 = some r) : CT 211 [vl 1 aj p0, vl 1 aj p1] [] (.tup [.c (.ref 0 1 0 r.1.length), af r.2]) [(0, .row 243 false 1 r.1.length (aj r.1))] := by
 refine aw ae 0 Tryz.func211 rfl (fun _ _ _ => ?_)
 unfold jV at h
 refine ah ae [] 2 (seq ?_)
 obtain ⟨y1, e2, h⟩ := ap h
 refine aA ae [(6, af y1)] 5 (Ss [hk (uV p0 p1 y1 e2)]) ?_
 refine ah ae [(13, vb (y1 != 0))] 7 ?_
 refine Q2 h ?_ ?_ <;> intro c3 h
 ·refine ah ae [(5, af y1), (4, .c (ar))] 10 (ret (QW ?_))
  obtain rfl := ay h
  exact b6 (.inr rfl) [(0, 10)] 1 (.tup [.c (.ref 10 1 0 (([] : List Int).length)), af y1]) (cG (t := 4) (ty := 243) (sz := 1) (n := ([] : List Int).length) (f := aj ([] : List Int)) (by kernel_rfl) rfl)
 ·refine skip (QX ?_)
  obtain ⟨y4, e5, h⟩ := ap h
  refine QZ ae [(0, rX 8 1 y4.length)] [8] [(8, .row 243 false 1 y4.length (aj y4))] 10 [hn, hm [] [] 1 (uy p0 y4 e5) ⟨bS iw _ _ _, tv⟩] (seq (block ?_))
  obtain ⟨x17, l18, h⟩ := ap h
  refine Q3 l18 (fun v => ⟨[(0, rX 0 1 v.1.length), (1, vl 1 aj v.2)], [(0, .row 243 false 1 v.1.length (aj v.1))], 1⟩) (fun t : List Int => (.exit 0, ⟨[(0, rX 0 1 t.length)], [(0, .row 243 false 1 t.length (aj t))], 1⟩)) (ai [(0, 8)]) (fun _ => tv) ?_ ?_
  ·clear l18 h
   intro v o h
   obtain ⟨x8, x9⟩ := v
   replace h : oh x8 x9 = some o := h
   unfold oh at h
   refine seq ?_
   refine ah ae [(19, vb (decide ((x9.length : Int) > 0)))] 4 ?_
   refine Q2 h ?_ ?_ <;> intro c11 h
   ·refine skip (QX (block ?_))
    obtain ⟨y12, y13, e14, h⟩ := aK h
    refine QZ ae [(8, vl 1 aj y13)] [0] [] 11 (Ss [hg [] [0] false 0 (q := (0 + x8.length ≤ x8.length) ∧ (True) ∧ (True)) ⟨Ax, tv, tv⟩ (a0 := [vl 1 aj x8, vl 1 aj x9]) (CM x8 x9 (y12, y13) e14) ⟨aN.refl _, aN.refl _, tv⟩ (fun h => by cases h)]) ?_
    obtain ⟨y15, e16, h⟩ := ap h
    refine QY ae [(1, vl 1 aj y13), (0, rX 12 1 y15.length)] [12] [(12, .row 243 false 1 y15.length (aj y15))] 16 [hn, hm [] [] 1 (uy x9 y15 e16) ⟨bS iw _ _ _, tv⟩] ?_
    refine QU ?_
    exact bh h (ai [(0, 12)])
   ·refine exit (QR ?_)
    exact aX h rfl (ai [(0, 0)])
  ·show (_ : XQ) (.exit 0) _
   refine QO (QX ?_)
   refine ah ae [(5, af 0), (4, rX 0 1 x17.length)] 4 (ret ?_)
   obtain rfl := ay h
   exact be (.inr rfl) [(0, 0)] 1 (.tup [.c (.ref 0 1 0 x17.length), af 0])
def qq (p0 : bb) (p1 : bb) : Option bb := if (p0.e != 0) then some p0 else if (p1.e != 0) then some p1 else aF (jV p0.n p1.n) fun y3 y4 => (some (⟨y3, y4⟩ : bb))
theorem H3 (p0 : bb) (p1 : bb) (r : bb) (h : qq p0 p1 = some r) : CT 213 [.agg [cl 1 aj p0.n, ag p0.e], .agg [cl 1 aj p1.n, ag p1.e], .c (.t (.v (.func (.func 211) #[] #[])))] [] (.agg [cl 1 aj r.n, ag r.e]) [] := by
 refine aw ae 0 Tryz.func213 rfl (fun _ _ _ => ?_)
 unfold qq at h
 refine QZ ae [(6, pX 2 2), (4, pX 1 2), (3, pX 0 2)] [0, 1, 2] [(2, .box 257 [ar, ag 0]), (1, .box 257 [cl 1 aj p1.n, ag p1.e]), (0, .box 257 [cl 1 aj p0.n, ag p0.e])] 3 [] (seq (block ?_))
 refine ah ae [(9, vb (p0.e != 0))] 7 ?_
 refine Q2 h ?_ ?_ <;> intro c1 h
 ·refine QZ ae [] [2] [(2, .box 257 [cl 1 aj p0.n, ag p0.e])] 9 [] (ret (QT (QW ?_)))
  apply au h (.agg [cl 1 aj p0.n, ag p0.e])
 ·refine ah ae [(14, vb (p1.e != 0))] 11 ?_
  refine Q2 h ?_ ?_ <;> intro c2 h
  ·refine QZ ae [] [2] [(2, .box 257 [cl 1 aj p1.n, ag p1.e])] 13 [] (ret (QT (QW ?_)))
   apply au h (.agg [cl 1 aj p1.n, ag p1.e])
  ·refine skip (QU (QX ?_))
   obtain ⟨y3, y4, e5, h⟩ := aK h
   refine QZ ae [(8, af y4), (7, rX 16 1 y3.length)] [16] [(16, .row 243 false 1 y3.length (aj y3))] 22 (Sw [hm [] [] 1 (Dm p0.n p1.n (y3, y4) e5) ⟨bS iw _ _ _, tv⟩]) ?_
   refine QZ ae [] [2] [(2, .box 257 [.ref 16 1 0 y3.length, ag y4])] 26 [] (ret ?_)
   obtain rfl := ay h
   exact b6 (.inr rfl) [] 0 (.agg [cl 1 aj y3, ag y4]) (Conv.trans (qf 16 243 1 y3.length (aj y3) (by kernel_rfl)) (fV (id := 2) (ty := 257) (cs := [.ref 16 1 0 y3.length, ag y4]) (ds := [cl 1 aj y3, ag y4]) (by kernel_rfl) ⟨bv.ref (ty := 243) (f := aj y3) (by kernel_rfl) Ax, bv.refl _ _, tv⟩))
def lK (p0 : List Int) (p1 : List Int) : Option (List Int × List Int × Int) := (iU p0 p1).bind fun y1 => (if (y1 != 0) then some (([] : List Int), ([] : List Int), y1) else if ((p1.length : Int) == 0) then some (([] : List Int), ([] : List Int), 9) else aF (og p0 p1) fun y5 y6 => (some (y5, y6, 0)))
theorem CN (p0 : List Int) (p1 : List Int) (r : (List Int) × (List Int) × Int) (h : lK p0 p1 = some r) : CT 170 [vl 1 aj p0, vl 1 aj p1] [] (.tup [vl 1 aj r.1, vl 1 aj r.2.1, af r.2.2]) [] := by
 refine aw ae 0 Tryz.func170 rfl (fun _ _ _ => ?_)
 unfold lK at h
 refine ah ae [] 3 (seq ?_)
 obtain ⟨y1, e2, h⟩ := ap h
 refine aA ae [(7, af y1)] 6 (Ss [hk (uV p0 p1 y1 e2)]) ?_
 refine ah ae [(14, vb (y1 != 0))] 8 ?_
 refine Q2 h ?_ ?_ <;> intro c3 h
 ·refine ah ae [(6, af y1), (5, .c (ar)), (4, .c (ar))] 12 (ret (QW ?_))
  obtain rfl := ay h
  exact b6 (.inr rfl) [] 0 (.tup [vl 1 aj ([] : List Int), vl 1 aj ([] : List Int), af y1]) (Conv.trans (cV [(4, vl 1 aj ([] : List Int))] ⟨⟨.c (ar), by kernel_rfl, bU.c (bv.nil rfl)⟩, tv⟩) (cV [(5, vl 1 aj ([] : List Int))] ⟨⟨.c (ar), by kernel_rfl, bU.c (bv.nil rfl)⟩, tv⟩))
 ·refine skip (QX (seq ?_))
  refine ah ae [(18, vb ((p1.length : Int) == 0))] 11 ?_
  refine Q2 h ?_ ?_ <;> intro c4 h
  ·refine ah ae [(6, af 9), (5, .c (ar)), (4, .c (ar))] 14 (ret (QW ?_))
   obtain rfl := ay h
   exact b6 (.inr rfl) [] 0 (.tup [vl 1 aj ([] : List Int), vl 1 aj ([] : List Int), af 9]) (Conv.trans (cV [(4, vl 1 aj ([] : List Int))] ⟨⟨.c (ar), by kernel_rfl, bU.c (bv.nil rfl)⟩, tv⟩) (cV [(5, vl 1 aj ([] : List Int))] ⟨⟨.c (ar), by kernel_rfl, bU.c (bv.nil rfl)⟩, tv⟩))
  ·refine skip (QX ?_)
   obtain ⟨y5, y6, e7, h⟩ := aK h
   refine aA ae [(9, vl 1 aj y6), (8, vl 1 aj y5)] 18 (Ss [hk (CM p0 p1 (y5, y6) e7)]) ?_
   refine ah ae [(6, af 0), (5, vl 1 aj y6), (4, vl 1 aj y5)] 23 (ret ?_)
   apply au h (.tup [vl 1 aj y5, vl 1 aj y6, af 0])
def uI (p0 : List Int) (p1 : List Int) : Option (List Int × Int) := ko (lK p0 p1) fun y1 y2 y3 => (some (y1, y3))
theorem Ik (p0 : List Int) (p1 : List Int) (r : (List Int) × Int) (h : uI p0 p1 = some r) : CT 239 [vl 1 aj p0, vl 1 aj p1] [] (.tup [vl 1 aj r.1, af r.2]) [] := by
 refine aw ae 0 Tryz.func239 rfl (fun _ _ _ => ?_)
 unfold uI at h
 refine ah ae [] 2 ?_
 obtain ⟨y1, y2, y3, e4, h⟩ := sL h
 refine aA ae [(8, af y3), (6, vl 1 aj y1)] 11 (Ss [hk (CN p0 p1 (y1, y2, y3) e4)]) ?_
 refine ah ae [(5, af y3), (4, vl 1 aj y1)] 15 (ret ?_)
 apply au h (.tup [vl 1 aj y1, af y3])
def mP (p0 : bb) (p1 : bb) : Option bb := if (p0.e != 0) then some p0 else if (p1.e != 0) then some p1 else aF (uI p0.n p1.n) fun y3 y4 => (some (⟨y3, y4⟩ : bb))
theorem Cm (p0 : bb) (p1 : bb) (r : bb) (h : mP p0 p1 = some r) : CT 213 [.agg [cl 1 aj p0.n, ag p0.e], .agg [cl 1 aj p1.n, ag p1.e], .c (.t (.v (.func (.func 239) #[] #[])))] [] (.agg [cl 1 aj r.n, ag r.e]) [] := by
 refine aw ae 0 Tryz.func213 rfl (fun _ _ _ => ?_)
 unfold mP at h
 refine QZ ae [(6, pX 2 2), (4, pX 1 2), (3, pX 0 2)] [0, 1, 2] [(2, .box 257 [ar, ag 0]), (1, .box 257 [cl 1 aj p1.n, ag p1.e]), (0, .box 257 [cl 1 aj p0.n, ag p0.e])] 3 [] (seq (block ?_))
 refine ah ae [(9, vb (p0.e != 0))] 7 ?_
 refine Q2 h ?_ ?_ <;> intro c1 h
 ·refine QZ ae [] [2] [(2, .box 257 [cl 1 aj p0.n, ag p0.e])] 9 [] (ret (QT (QW ?_)))
  apply au h (.agg [cl 1 aj p0.n, ag p0.e])
 ·refine ah ae [(14, vb (p1.e != 0))] 11 ?_
  refine Q2 h ?_ ?_ <;> intro c2 h
  ·refine QZ ae [] [2] [(2, .box 257 [cl 1 aj p1.n, ag p1.e])] 13 [] (ret (QT (QW ?_)))
   apply au h (.agg [cl 1 aj p1.n, ag p1.e])
  ·refine skip (QU (QX ?_))
   obtain ⟨y3, y4, e5, h⟩ := aK h
   refine aA ae [(8, af y4), (7, vl 1 aj y3)] 21 (Sw [hk (Ik p0.n p1.n (y3, y4) e5)]) ?_
   refine QZ ae [] [2] [(2, .box 257 [cl 1 aj y3, ag y4])] 25 [] (ret ?_)
   apply au h (.agg [cl 1 aj y3, ag y4])
def CO (x : bb) : List T := [.tree x.n.length 1 (aj x.n), .v (.int .i64 x.e)]
def CP (xs : List bb) : Nat → Nat → T := bJ iG CO xs
structure cF where
 Num : List Int
 Den : List Int
def JE : cF := ⟨([] : List Int), ([] : List Int)⟩
instance : Inhabited cF := ⟨JE⟩
def jF (y3 : bb) (y5 : bb) (x8 : Int) : Option (Int ⊕ (Unit ⊕ Int)) := if decide (x8 < (([y3, y5] : List bb).length : Int)) then if 0 ≤ x8 then if x8 < (([y3, y5] : List bb).length : Int) then if (((([y3, y5] : List bb).getD (0 + x8.toNat) iG).e) != 0) then some (.inr (.inr ((([y3, y5] : List bb).getD (0 + x8.toNat) iG).e))) else some (.inl (SB (x8 + 1))) else none else none else some (.inr (.inl ()))
def yj (y3 : bb) (y5 : bb) : Option (cF × Int) := some ((⟨y3.n, y5.n⟩ : cF), 0)
def CE (x14 : Int) : Option (cF × Int) := some ((⟨([] : List Int), ([] : List Int)⟩ : cF), x14)
def q9 (p0 : bb) (p1 : bb) : Option (cF × Int) := (qq p0 p1).bind fun y1 => ((mP p0 y1).bind fun y3 => ((mP p1 y1).bind fun y5 => (cD (loop (fun v : Int => jF y3 y5 v) 0) (fun t => yj y3 y5) (fun t => CE t))))
theorem IF (p0 : bb) (p1 : bb) (r : cF × Int) (h : q9 p0 p1 = some r) : CT 210 [.agg [cl 1 aj p0.n, ag p0.e], .agg [cl 1 aj p1.n, ag p1.e]] [] (.tup [.agg [cl 1 aj r.1.Num, cl 1 aj r.1.Den], af r.2]) [] := by
 refine aw ae 0 Tryz.func210 rfl (fun _ _ _ => ?_)
 unfold q9 at h
 refine QZ ae [(4, pX 2 2), (3, pX 1 2), (2, pX 0 2)] [0, 1, 2] [(2, .box 217 [ar, ar]), (1, .box 257 [cl 1 aj p1.n, ag p1.e]), (0, .box 257 [cl 1 aj p0.n, ag p0.e])] 4 [] ?_
 obtain ⟨y1, e2, h⟩ := ap h
 refine QZ ae [(6, pX 6 2)] [6] [(6, .box 257 [cl 1 aj y1.n, ag y1.e])] 8 (Ss [hk (H3 p0 p1 y1 e2)]) ?_
 refine ah ae [(7, .c (.t (.v (.func (.func 239) #[] #[]))))] 9 ?_
 obtain ⟨y3, e4, h⟩ := ap h
 obtain ⟨y5, e6, h⟩ := ap h
 refine Q1 ae gP [[], [], [], [], [], [], [], [], [15], [16], [15], [16]] [(9, pX 16 2), (8, pX 15 2)] [(16, .box 257 [cl 1 aj y5.n, ag y5.e]), (15, .box 257 [cl 1 aj y3.n, ag y3.e])] 19 (Su [hk (Cm p0 y1 y3 e4), hn, hn, hn, hk (Cm p1 y1 y5 e6)]) ?_
 refine seq ?_
 refine QZ ae [(27, af 0), (26, af (([y3, y5] : List bb).length : Int)), (25, rX 21 2 (([y3, y5] : List bb).length))] [21] [(21, .row 257 false 2 ([y3, y5] : List bb).length (CP ([y3, y5] : List bb)))] 24 (Ss [bB iG CO 2 (fun _ => rfl) ([y3, y5] : List bb)]) (block ?_)
 refine Q4 h (fun v => ⟨[(4, pX 0 2), (8, pX 1 2), (9, pX 2 2), (25, rX 3 2 (([y3, y5] : List bb).length)), (26, af (([y3, y5] : List bb).length : Int)), (27, af v)], [(0, .box 217 [ar, ar]), (1, .box 257 [cl 1 aj y3.n, ag y3.e]), (2, .box 257 [cl 1 aj y5.n, ag y5.e]), (3, .row 257 false 2 ([y3, y5] : List bb).length (CP ([y3, y5] : List bb)))], 4⟩) (fun t => (.exit 0, ⟨[(4, pX 0 2), (8, pX 1 2), (9, pX 2 2)], [(0, .box 217 [ar, ar]), (1, .box 257 [cl 1 aj y3.n, ag y3.e]), (2, .box 257 [cl 1 aj y5.n, ag y5.e])], 3⟩)) (fun t => (.ret, ⟨[(4, pX 0 2), (5, af t)], [(0, .box 217 [ar, ar])], 1⟩)) (ai [(0, 2), (1, 15), (2, 16), (3, 21)]) (fun _ => tv) (fun _ => tv) ?_ (fun t h => ?_) (fun x14 h => ?_)
 ·clear h
  intro x8 o h
  unfold jF at h
  refine ah ae [(28, vb (decide (x8 < (([y3, y5] : List bb).length : Int))))] 5 (seq ?_)
  refine Q2 h ?_ ?_ <;> intro c10 h
  ·refine skip (QX ?_)
   refine seq (block ?_)
   obtain ⟨g11, g12, h⟩ := aJ h
   refine QZ ae [(11, pX 7 2)] [7] [(7, .box 257 [cl 1 aj ((([y3, y5] : List bb).getD (0 + x8.toNat) iG).n), ag ((([y3, y5] : List bb).getD (0 + x8.toNat) iG).e)])] 9 [hq g11 g12, ho (p := (0 + x8.toNat) < ([y3, y5] : List bb).length) (by have h1 : 0 ≤ x8 := g11; have h2 : x8 < (([y3, y5] : List bb).length : Int) := g12; omega)] ?_
   refine ah ae [(33, vb (((([y3, y5] : List bb).getD (0 + x8.toNat) iG).e) != 0))] 12 ?_
   refine Q2 h ?_ ?_ <;> intro c13 h
   ·refine Q1 ae gP [[], [], [], [0]] [(5, af ((([y3, y5] : List bb).getD (0 + x8.toNat) iG).e))] [(0, .box 217 [ar, ar])] 17 [] ?_
    refine ret (QT (QW ?_))
    exact aX h rfl (ai [(0, 0)])
   ·refine skip (QU (QX ?_))
    refine ba ae [(27, af (SB (x8 + 1)))] 14 ?_
    exact bh h (ai [(0, 0), (1, 1), (2, 2), (3, 3)])
  ·refine exit (QR ?_)
   exact aX h rfl (ai [(0, 0), (1, 1), (2, 2)])
 ·replace h : yj y3 y5 = some r := h
  unfold yj at h
  show (_ : XQ) (.exit 0) _
  refine QO (QX ?_)
  refine QZ ae [(5, af 0)] [0] [(0, .box 217 [cl 1 aj y3.n, cl 1 aj y5.n])] 10 [] (ret ?_)
  apply au h (.tup [.agg [cl 1 aj y3.n, cl 1 aj y5.n], af 0])
 ·unfold CE at h
  show (_ : XQ) (.ret) _
  refine QT (QW ?_)
  obtain rfl := ay h
  exact b6 (.inr rfl) [] 0 (.tup [.agg [cl 1 aj ([] : List Int), cl 1 aj ([] : List Int)], af x14]) (fV (id := 0) (ty := 217) (cs := [ar, ar]) (ds := [cl 1 aj ([] : List Int), cl 1 aj ([] : List Int)]) (by kernel_rfl) ⟨bv.nil rfl, bv.nil rfl, tv⟩)
def rc (p0 : List Int) (p1 : List Int) (x1 : Bool) : Option (cF × Int) := if x1 then some ((⟨([] : List Int), ([] : List Int)⟩ : cF), 20) else if ((p1.length : Int) == 0) then some ((⟨([] : List Int), ([] : List Int)⟩ : cF), 9) else (iW p0).bind fun y4 => ((iW p1).bind fun y6 => (aF (q9 y4 y6) fun y8 y9 => (some (y8, y9))))
def oy (p0 : List Int) (p1 : List Int) : Option (cF × Int) := (fT p0).bind fun y11 => (if (!y11) then rc p0 p1 true else (fT p1).bind fun y14 => (rc p0 p1 (!y14)))
theorem Jc (p0 : List Int) (p1 : List Int) (r : cF × Int) (h : oy p0 p1 = some r) : CT 164 [vl 1 aj p0, vl 1 aj p1] [] (.tup [.agg [cl 1 aj r.1.Num, cl 1 aj r.1.Den], af r.2]) [] := by
 refine aw ae 0 Tryz.func164 rfl (fun _ _ _ => ?_)
 unfold oy at h
 refine QZ ae [(4, pX 0 2)] [0] [(0, .box 217 [ar, ar])] 2 [] (seq (block (seq ?_)))
 refine AW.join (ι := Bool) (fun v => ⟨[(0, vl 1 aj p0), (1, vl 1 aj p1), (4, pX 0 2), (6, vb v)], [(0, .box 217 [ar, ar])], 1⟩) (fun v : Bool => rc p0 p1 v = some r) (fun x1 h => ?_) ?_
 ·unfold rc at h
  refine QX ?_
  refine Q2 h ?_ ?_ <;> intro c2 h
  ·refine QZ ae [(5, af 20)] [0] [(0, .box 217 [ar, ar])] 4 [] (ret (QT (QW ?_)))
   obtain rfl := ay h
   exact b6 (.inr rfl) [] 0 (.tup [.agg [cl 1 aj ([] : List Int), cl 1 aj ([] : List Int)], af 20]) (fV (id := 0) (ty := 217) (cs := [ar, ar]) (ds := [cl 1 aj ([] : List Int), cl 1 aj ([] : List Int)]) (by kernel_rfl) ⟨bv.nil rfl, bv.nil rfl, tv⟩)
  ·refine ah ae [(16, vb ((p1.length : Int) == 0))] 5 ?_
   refine Q2 h ?_ ?_ <;> intro c3 h
   ·refine QZ ae [(5, af 9)] [0] [(0, .box 217 [ar, ar])] 8 [] (ret (QT (QW ?_)))
    obtain rfl := ay h
    exact b6 (.inr rfl) [] 0 (.tup [.agg [cl 1 aj ([] : List Int), cl 1 aj ([] : List Int)], af 9]) (fV (id := 0) (ty := 217) (cs := [ar, ar]) (ds := [cl 1 aj ([] : List Int), cl 1 aj ([] : List Int)]) (by kernel_rfl) ⟨bv.nil rfl, bv.nil rfl, tv⟩)
   ·refine skip (QU (QX ?_))
    obtain ⟨y4, e5, h⟩ := ap h
    obtain ⟨y6, e7, h⟩ := ap h
    obtain ⟨y8, y9, e10, h⟩ := aK h
    refine QZ ae [(5, af y9)] [0] [(0, .box 217 [cl 1 aj y8.Num, cl 1 aj y8.Den])] 11 [hn, hk (rA p0 y4 e5), hn, hk (rA p1 y6 e7), hk (IF y4 y6 (y8, y9) e10)] (ret ?_)
    apply au h (.tup [.agg [cl 1 aj y8.Num, cl 1 aj y8.Den], af y9])
 ·obtain ⟨y11, e12, h⟩ := ap h
  rcases aI h with ⟨c13, h⟩ | ⟨c13, h⟩
  ·refine ax ae [(6, vb true)] 10 [hn, hk (gp p0 y11 e12), ht c13] ?_
   exact jl true h (ai [(0, 0)])
  ·obtain ⟨y14, e15, h⟩ := ap h
   refine ax ae [(6, vb (!y14))] 9 [hn, hk (gp p0 y11 e12), hf c13, hn, hn, hk (gp p1 y14 e15)] ?_
   exact jl (!y14) h (ai [(0, 0)])
def sD (p0 : bW) (p1 : Int) : Option (cF × Int) := (me p0).bind fun y1 => (if (y1 != 0) then some ((⟨([] : List Int), ([] : List Int)⟩ : cF), y1) else aF (ns p1 (p0.Match.length : Int)) fun y4 y5 => (if (y5 != 0) then some ((⟨([] : List Int), ([] : List Int)⟩ : cF), y5) else (pb p0.Prior p0.Match y4).bind fun y8 => ((pb (SB (65536 - p0.Prior)) p0.Random y4).bind fun y10 => (aF (jU y8 y10) fun y12 y13 => (if (y13 != 0) then some ((⟨([] : List Int), ([] : List Int)⟩ : cF), y13) else aF (oy y8 y12) fun y16 y17 => (some (y16, y17)))))))
theorem Jt (p0 : bW) (p1 : Int) (r : cF × Int) (h : sD p0 p1 = some r) : CT 130 [.agg [ag p0.Prior, cl 1 al p0.Match, cl 1 al p0.Random], af p1] [] (.tup [.agg [cl 1 aj r.1.Num, cl 1 aj r.1.Den], af r.2]) [] := by
 refine aw ae 0 Tryz.func130 rfl (fun _ _ _ => ?_)
 unfold sD at h
 refine QZ ae [(4, pX 1 2), (2, pX 0 3)] [0, 1] [(1, .box 217 [ar, ar]), (0, .box 42 [ag p0.Prior, cl 1 al p0.Match, cl 1 al p0.Random])] 3 [] (seq ?_)
 obtain ⟨y1, e2, h⟩ := ap h
 refine aA ae [(6, af y1)] 5 [hn, hk (vD p0 y1 e2)] ?_
 refine ah ae [(15, vb (y1 != 0))] 7 ?_
 refine Q2 h ?_ ?_ <;> intro c3 h
 ·refine QZ ae [(5, af y1)] [1] [(1, .box 217 [ar, ar])] 11 [] (ret (QW ?_))
  obtain rfl := ay h
  exact b6 (.inr rfl) [] 0 (.tup [.agg [cl 1 aj ([] : List Int), cl 1 aj ([] : List Int)], af y1]) (fV (id := 1) (ty := 217) (cs := [ar, ar]) (ds := [cl 1 aj ([] : List Int), cl 1 aj ([] : List Int)]) (by kernel_rfl) ⟨bv.nil rfl, bv.nil rfl, tv⟩)
 ·refine skip (QX ?_)
  obtain ⟨y4, y5, e6, h⟩ := aK h
  refine QZ ae [(8, af y5), (7, rX 11 1 y4.length)] [11] [(11, .row 3 false 1 y4.length (al y4))] 17 (Sv [hm [] [] 1 (Cv p1 (p0.Match.length : Int) (y4, y5) e6) ⟨bS fb _ _ _, tv⟩]) (seq ?_)
  refine ah ae [(27, vb (y5 != 0))] 19 ?_
  refine Q2 h ?_ ?_ <;> intro c7 h
  ·refine QZ ae [(5, af y5)] [1] [(1, .box 217 [ar, ar])] 23 [] (ret (QW ?_))
   obtain rfl := ay h
   exact b6 (.inr rfl) [] 0 (.tup [.agg [cl 1 aj ([] : List Int), cl 1 aj ([] : List Int)], af y5]) (fV (id := 1) (ty := 217) (cs := [ar, ar]) (ds := [cl 1 aj ([] : List Int), cl 1 aj ([] : List Int)]) (by kernel_rfl) ⟨bv.nil rfl, bv.nil rfl, tv⟩)
  ·refine skip (QX ?_)
   obtain ⟨y8, e9, h⟩ := ap h
   obtain ⟨y10, e11, h⟩ := ap h
   refine Q1 ae gP [[], [], [], [], [], [11]] [(10, vl 1 aj y10), (9, vl 1 aj y8)] [] 32 (Sw [hg [] [11] false 0 (q := (True) ∧ (True) ∧ (0 + y4.length ≤ y4.length) ∧ (True)) ⟨tv, tv, Ax, tv⟩ (a0 := [af p0.Prior, vl 1 al p0.Match, vl 1 al y4]) (DK p0.Prior p0.Match y4 y8 e9) ⟨aN.refl _, aN.refl _, aN.refl _, tv⟩ (fun h => by cases h), hn, hn, hn, hn, hn, hn, hg [] [] false 0 (q := (True) ∧ (True) ∧ (0 + y4.length ≤ y4.length) ∧ (True)) ⟨tv, tv, Ax, tv⟩ (a0 := [af (SB (65536 - p0.Prior)), vl 1 al p0.Random, vl 1 al y4]) (DK (SB (65536 - p0.Prior)) p0.Random y4 y10 e11) ⟨aN.refl _, aN.refl _, aN.refl _, tv⟩ (fun h => by cases h)]) ?_
   obtain ⟨y12, y13, e14, h⟩ := aK h
   refine aA ae [(8, af y13), (11, vl 1 aj y12)] 39 (Ss [hk (Dl y8 y10 (y12, y13) e14)]) (seq ?_)
   refine ah ae [(50, vb (y13 != 0))] 41 ?_
   refine Q2 h ?_ ?_ <;> intro c15 h
   ·refine QZ ae [(5, af y13)] [1] [(1, .box 217 [ar, ar])] 45 [] (ret (QW ?_))
    obtain rfl := ay h
    exact b6 (.inr rfl) [] 0 (.tup [.agg [cl 1 aj ([] : List Int), cl 1 aj ([] : List Int)], af y13]) (fV (id := 1) (ty := 217) (cs := [ar, ar]) (ds := [cl 1 aj ([] : List Int), cl 1 aj ([] : List Int)]) (by kernel_rfl) ⟨bv.nil rfl, bv.nil rfl, tv⟩)
   ·refine skip (QX ?_)
    obtain ⟨y16, y17, e18, h⟩ := aK h
    refine QZ ae [(5, af y17)] [1] [(1, .box 217 [cl 1 aj y16.Num, cl 1 aj y16.Den])] 47 (Ss [hk (Jc y8 y12 (y16, y17) e18)]) (ret ?_)
    apply au h (.tup [.agg [cl 1 aj y16.Num, cl 1 aj y16.Den], af y17])
def jG (x7 : Bool) : Option Bool := some x7
def rQ (p0 : cF) : Option Bool := aF (jV p0.Num p0.Den) fun y1 y2 => (aF (jJ 1) fun y4 y5 => (if (y2 == 0) then if decide ((p0.Den.length : Int) > 0) then (nN y1 y4).bind fun y10 => (jG (y10 == 0)) else jG false else jG false))
theorem IY (p0 : cF) (r : Bool) (h : rQ p0 = some r) : CT 165 [.agg [cl 1 aj p0.Num, cl 1 aj p0.Den]] [] (vb r) [] := by
 refine aw ae 0 Tryz.func165 rfl (fun _ _ _ => ?_)
 unfold rQ at h
 refine QZ ae [(1, pX 0 2)] [0] [(0, .box 217 [cl 1 aj p0.Num, cl 1 aj p0.Den])] 2 [] ?_
 obtain ⟨y1, y2, e3, h⟩ := aK h
 refine QZ ae [(4, af y2), (3, rX 6 1 y1.length)] [6] [(6, .row 243 false 1 y1.length (aj y1))] 12 (Sv [hm [] [] 1 (Dm p0.Num p0.Den (y1, y2) e3) ⟨bS iw _ _ _, tv⟩]) ?_
 obtain ⟨y4, y5, e6, h⟩ := aK h
 refine aA ae [(5, vl 1 aj y4)] 17 [hk (uH 1 (y4, y5) e6)] (seq ?_)
 refine AW.join (ι := Bool) (fun v => ⟨[(2, vb v)], [], 0⟩) (fun v : Bool => jG v = some r) (fun x7 h => ?_) ?_
 ·unfold jG at h
  refine QX (ret ?_)
  apply au h (vb x7)
 ·rcases aI h with ⟨c8, h⟩ | ⟨c8, h⟩
  ·rcases aI h with ⟨c9, h⟩ | ⟨c9, h⟩
   ·obtain ⟨y10, e11, h⟩ := ap h
    refine ax ae [(2, vb (y10 == 0))] 31 [hn, ht c8, hn, hn, hn, hn, ht c9, hn, hn, hn, hn, hg [] [] true 0 (q := (0 + y1.length ≤ y1.length) ∧ (True) ∧ (True)) ⟨Ax, tv, tv⟩ (a0 := [vl 1 aj y1, vl 1 aj y4]) (CC y1 y4 y10 e11) ⟨aN.refl _, aN.refl _, tv⟩ (fun _ => tv)] ?_
    exact jl (y10 == 0) h
   ·refine ax ae [(2, vb false)] 32 [hn, ht c8, hn, hn, hn, hn, hf c9] ?_
    exact jl false h
  ·refine ax ae [(2, vb false)] 32 [hn, hf c8] ?_
   exact jl false h
def oi (p0 : Int) : Option bb := aF (jJ p0) fun y1 y2 => (some (⟨y1, y2⟩ : bb))
theorem CQ (p0 : Int) (r : bb) (h : oi p0 = some r) : CT 168 [af p0] [] (.agg [cl 1 aj r.n, ag r.e]) [] := by
 refine aw ae 0 Tryz.func168 rfl (fun _ _ _ => ?_)
 unfold oi at h
 refine QZ ae [(2, pX 0 2)] [0] [(0, .box 257 [ar, ag 0])] 1 [] ?_
 obtain ⟨y1, y2, e3, h⟩ := aK h
 refine aA ae [(4, af y2), (3, vl 1 aj y1)] 7 [hn, hk (uH p0 (y1, y2) e3)] ?_
 refine QZ ae [] [0] [(0, .box 257 [cl 1 aj y1, ag y2])] 11 [] (ret ?_)
 apply au h (.agg [cl 1 aj y1, ag y2])
def uw (p0 : bb) (p1 : bb) : Option bb := if (p0.e != 0) then some p0 else if (p1.e != 0) then some p1 else aF (lW p0.n p1.n) fun y3 y4 => (some (⟨y3, y4⟩ : bb))
theorem H4 (p0 : bb) (p1 : bb) (r : bb) (h : uw p0 p1 = some r) : CT 213 [.agg [cl 1 aj p0.n, ag p0.e], .agg [cl 1 aj p1.n, ag p1.e], .c (.t (.v (.func (.func 206) #[] #[])))] [] (.agg [cl 1 aj r.n, ag r.e]) [] := by
 refine aw ae 0 Tryz.func213 rfl (fun _ _ _ => ?_)
 unfold uw at h
 refine QZ ae [(6, pX 2 2), (4, pX 1 2), (3, pX 0 2)] [0, 1, 2] [(2, .box 257 [ar, ag 0]), (1, .box 257 [cl 1 aj p1.n, ag p1.e]), (0, .box 257 [cl 1 aj p0.n, ag p0.e])] 3 [] (seq (block ?_))
 refine ah ae [(9, vb (p0.e != 0))] 7 ?_
 refine Q2 h ?_ ?_ <;> intro c1 h
 ·refine QZ ae [] [2] [(2, .box 257 [cl 1 aj p0.n, ag p0.e])] 9 [] (ret (QT (QW ?_)))
  apply au h (.agg [cl 1 aj p0.n, ag p0.e])
 ·refine ah ae [(14, vb (p1.e != 0))] 11 ?_
  refine Q2 h ?_ ?_ <;> intro c2 h
  ·refine QZ ae [] [2] [(2, .box 257 [cl 1 aj p1.n, ag p1.e])] 13 [] (ret (QT (QW ?_)))
   apply au h (.agg [cl 1 aj p1.n, ag p1.e])
  ·refine skip (QU (QX ?_))
   obtain ⟨y3, y4, e5, h⟩ := aK h
   refine aA ae [(8, af y4), (7, vl 1 aj y3)] 21 (Sw [hk (Dk p0.n p1.n (y3, y4) e5)]) ?_
   refine QZ ae [] [2] [(2, .box 257 [cl 1 aj y3, ag y4])] 25 [] (ret ?_)
   apply au h (.agg [cl 1 aj y3, ag y4])
def iE (p0 : bb) (p1 : bb) : Option bb := (uw p0 p1).bind fun y1 => (some y1)
theorem Co (p0 : bb) (p1 : bb) (r : bb) (h : iE p0 p1 = some r) : CT 167 [.agg [cl 1 aj p0.n, ag p0.e], .agg [cl 1 aj p1.n, ag p1.e]] [] (.agg [cl 1 aj r.n, ag r.e]) [] := by
 refine aw ae 0 Tryz.func167 rfl (fun _ _ _ => ?_)
 unfold iE at h
 refine QZ ae [(4, pX 2 2), (3, pX 1 2), (2, pX 0 2)] [0, 1, 2] [(2, .box 257 [ar, ag 0]), (1, .box 257 [cl 1 aj p1.n, ag p1.e]), (0, .box 257 [cl 1 aj p0.n, ag p0.e])] 3 [] ?_
 obtain ⟨y1, e2, h⟩ := ap h
 refine QZ ae [] [2] [(2, .box 257 [cl 1 aj y1.n, ag y1.e])] 6 (Ss [hk (H4 p0 p1 y1 e2)]) (ret ?_)
 apply au h (.agg [cl 1 aj y1.n, ag y1.e])
def ux (p0 : bb) (p1 : bb) : Option bb := if (p0.e != 0) then some p0 else if (p1.e != 0) then some p1 else aF (jU p0.n p1.n) fun y3 y4 => (some (⟨y3, y4⟩ : bb))
theorem H5 (p0 : bb) (p1 : bb) (r : bb) (h : ux p0 p1 = some r) : CT 213 [.agg [cl 1 aj p0.n, ag p0.e], .agg [cl 1 aj p1.n, ag p1.e], .c (.t (.v (.func (.func 163) #[] #[])))] [] (.agg [cl 1 aj r.n, ag r.e]) [] := by
 refine aw ae 0 Tryz.func213 rfl (fun _ _ _ => ?_)
 unfold ux at h
 refine QZ ae [(6, pX 2 2), (4, pX 1 2), (3, pX 0 2)] [0, 1, 2] [(2, .box 257 [ar, ag 0]), (1, .box 257 [cl 1 aj p1.n, ag p1.e]), (0, .box 257 [cl 1 aj p0.n, ag p0.e])] 3 [] (seq (block ?_))
 refine ah ae [(9, vb (p0.e != 0))] 7 ?_
 refine Q2 h ?_ ?_ <;> intro c1 h
 ·refine QZ ae [] [2] [(2, .box 257 [cl 1 aj p0.n, ag p0.e])] 9 [] (ret (QT (QW ?_)))
  apply au h (.agg [cl 1 aj p0.n, ag p0.e])
 ·refine ah ae [(14, vb (p1.e != 0))] 11 ?_
  refine Q2 h ?_ ?_ <;> intro c2 h
  ·refine QZ ae [] [2] [(2, .box 257 [cl 1 aj p1.n, ag p1.e])] 13 [] (ret (QT (QW ?_)))
   apply au h (.agg [cl 1 aj p1.n, ag p1.e])
  ·refine skip (QU (QX ?_))
   obtain ⟨y3, y4, e5, h⟩ := aK h
   refine aA ae [(8, af y4), (7, vl 1 aj y3)] 21 (Sw [hk (Dl p0.n p1.n (y3, y4) e5)]) ?_
   refine QZ ae [] [2] [(2, .box 257 [cl 1 aj y3, ag y4])] 25 [] (ret ?_)
   apply au h (.agg [cl 1 aj y3, ag y4])
def ng (p0 : bb) (p1 : bb) : Option bb := (ux p0 p1).bind fun y1 => (some y1)
theorem Ig (p0 : bb) (p1 : bb) (r : bb) (h : ng p0 p1 = some r) : CT 169 [.agg [cl 1 aj p0.n, ag p0.e], .agg [cl 1 aj p1.n, ag p1.e]] [] (.agg [cl 1 aj r.n, ag r.e]) [] := by
 refine aw ae 0 Tryz.func169 rfl (fun _ _ _ => ?_)
 unfold ng at h
 refine QZ ae [(4, pX 2 2), (3, pX 1 2), (2, pX 0 2)] [0, 1, 2] [(2, .box 257 [ar, ag 0]), (1, .box 257 [cl 1 aj p1.n, ag p1.e]), (0, .box 257 [cl 1 aj p0.n, ag p0.e])] 3 [] ?_
 obtain ⟨y1, e2, h⟩ := ap h
 refine QZ ae [] [2] [(2, .box 257 [cl 1 aj y1.n, ag y1.e])] 6 (Ss [hk (H5 p0 p1 y1 e2)]) (ret ?_)
 apply au h (.agg [cl 1 aj y1.n, ag y1.e])
def fR (p0 : List Int) (x5 : Int) (x6 : Int) : Option ((Int × Int) ⊕ Int) := if decide (x6 < (p0.length : Int)) then if 0 ≤ x6 then if x6 < (p0.length : Int) then if 0 ≤ (SB (32 * x6)) then (some (cw .i64 x5 (ck .i64 (SB (p0.getD x6.toNat 0)) (SB (32 * x6))))).bind fun z12 => (some (.inl (z12, SB (x6 + 1)))) else none else none else none else some (.inr x5)
def lL (p0 : List Int) (x1 : Bool) : Option (Int × Bool) := if x1 then some (0, false) else (loop (fun v : Int × Int => fR p0 v.1 v.2) (0, 0)).bind fun x14 => (some (x14, true))
def sK (p0 : List Int) : Option (Int × Bool) := (fT p0).bind fun y16 => (if (!y16) then lL p0 true else if decide ((p0.length : Int) > 2) then lL p0 true else if ((p0.length : Int) == 2) then if (1 : Int) < (p0.length : Int) then lL p0 (decide ((p0.getD 1 0) > 2147483647)) else none else lL p0 false)
theorem JF (p0 : List Int) (r : Int × Bool) (h : sK p0 = some r) : CT 171 [vl 1 aj p0] [] (.tup [af r.1, vb r.2]) [] := by
 refine aw ae 0 Tryz.func171 rfl (fun _ _ _ => ?_)
 unfold sK at h
 refine ah ae [] 2 (seq (seq ?_))
 refine AW.join (ι := Bool) (fun v => ⟨[(0, vl 1 aj p0), (25, vb v)], [], 0⟩) (fun v : Bool => lL p0 v = some r) (fun x1 h => ?_) ?_
 ·unfold lL at h
  refine QX ?_
  refine Q2 h ?_ ?_ <;> intro c2 h
  ·refine ah ae [(3, vb false), (2, af 0)] 2 (ret (QW ?_))
   apply au h (.tup [af 0, vb false])
  ·refine skip (QX ?_)
   refine ah ae [(4, af 0)] 1 (seq ?_)
   refine ah ae [(28, af 0), (27, af (p0.length : Int)), (26, vl 1 aj p0)] 4 (block ?_)
   obtain ⟨x14, l15, h⟩ := ap h
   refine Q3 l15 (fun v => ⟨[(4, af v.1), (26, vl 1 aj p0), (27, af (p0.length : Int)), (28, af v.2)], [], 0⟩) (fun t : Int => (.exit 0, ⟨[(4, af t)], [], 0⟩)) (ai []) (fun _ => tv) ?_ ?_
   ·clear l15 h
    intro v o h
    obtain ⟨x5, x6⟩ := v
    replace h : fR p0 x5 x6 = some o := h
    unfold fR at h
    refine ah ae [(29, vb (decide (x6 < (p0.length : Int))))] 1 (seq ?_)
    refine Q2 h ?_ ?_ <;> intro c8 h
    ·refine skip (QX ?_)
     refine seq (block ?_)
     obtain ⟨g9, g10, h⟩ := aJ h
     refine aA ae [(6, eZ (p0.getD x6.toNat 0)), (5, af x6)] 6 [hn, hq g9 g10] ?_
     obtain ⟨g11, h⟩ := aY h
     obtain ⟨z12, n13, h⟩ := ap h
     replace n13 := ay n13
     refine ax ae [(4, af z12)] 14 (Sw [ho g11]) ?_ (by subst n13; kernel_rfl)
     refine QU (QX ?_)
     refine ba ae [(28, af (SB (x6 + 1)))] 16 ?_
     exact bh h (ai [])
    ·refine exit (QR ?_)
     exact aX h rfl (ai [])
   ·show (_ : XQ) (.exit 0) _
    refine QO (QX ?_)
    refine ah ae [(3, vb true), (2, af x14)] 3 (ret ?_)
    apply au h (.tup [af x14, vb true])
 ·obtain ⟨y16, e17, h⟩ := ap h
  rcases aI h with ⟨c18, h⟩ | ⟨c18, h⟩
  ·refine ax ae [(25, vb true)] 20 [hn, hk (gp p0 y16 e17), ht c18] ?_
   exact jl true h
  ·rcases aI h with ⟨c19, h⟩ | ⟨c19, h⟩
   ·refine ax ae [(25, vb true)] 20 [hn, hk (gp p0 y16 e17), hf c18, hn, hn, hn, ht c19] ?_
    exact jl true h
   ·rcases aI h with ⟨c20, h⟩ | ⟨c20, h⟩
    ·obtain ⟨g21, h⟩ := aY h
     refine ax ae [(25, vb (decide ((p0.getD 1 0) > 2147483647)))] 20 [hn, hk (gp p0 y16 e17), hf c18, hn, hn, hn, hf c19, hn, hn, hn, hn, ht c20, hn, hn, ho (p := (0 ≤ (1 : Int)) ∧ ((1 : Int) < (p0.length : Int))) (⟨(by decide), g21⟩)] ?_
     exact jl (decide ((p0.getD 1 0) > 2147483647)) h (ai [])
    ·refine ax ae [(25, vb false)] 20 [hn, hk (gp p0 y16 e17), hf c18, hn, hn, hn, hf c19, hn, hn, hn, hn, hf c20] ?_
     exact jl false h
def qW (y14 : bb) (y20 : bb) (x22 : Bool) : Option (Int × Int) := if x22 then some (0, 1) else ko (lK y14.n y20.n) fun y24 y25 y26 => (aF (sK y24) fun y28 y29 => (if (!y29) then some (0, 1) else some (y28, 0)))
def qX (p0 : cF) (p1 : Int) (x4 : Bool) : Option (Int × Int) := if x4 then some (0, 2) else (iW p0.Num).bind fun y6 => ((oi (SB (2 * p1))).bind fun y8 => ((iE y6 y8).bind fun y10 => ((iW p0.Den).bind fun y12 => ((ng y10 y12).bind fun y14 => ((oi 2).bind fun y16 => ((iW p0.Den).bind fun y18 => ((iE y16 y18).bind fun y20 => (if (y14.e != 0) then qW y14 y20 true else qW y14 y20 (y20.e != 0)))))))))
def rR (p0 : cF) (p1 : Int) : Option (Int × Int) := (rQ p0).bind fun y1 => (if (!y1) then some (0, 20) else if decide (p1 < 1) then qX p0 p1 true else qX p0 p1 (decide (p1 > 4294967296)))
theorem IZ (p0 : cF) (p1 : Int) (r : Int × Int) (h : rR p0 p1 = some r) : CT 131 [.agg [cl 1 aj p0.Num, cl 1 aj p0.Den], af p1] [] (.tup [af r.1, af r.2]) [] := by
 refine aw ae 0 Tryz.func131 rfl (fun _ _ _ => ?_)
 unfold rR at h
 refine QZ ae [(2, pX 0 2)] [0] [(0, .box 217 [cl 1 aj p0.Num, cl 1 aj p0.Den])] 3 [] (seq (block ?_))
 obtain ⟨y1, e2, h⟩ := ap h
 refine aA ae [(13, vb (!y1))] 6 [hn, hk (IY p0 y1 e2)] ?_
 refine Q2 h ?_ ?_ <;> intro c3 h
 ·refine ah ae [(5, af 20), (4, af 0)] 8 (ret (QT (QW ?_)))
  apply au h (.tup [af 0, af 20])
 ·refine seq ?_
  refine AW.join (ι := Bool) (fun v => ⟨[(1, af p1), (2, pX 0 2), (17, vb v)], [(0, .box 217 [cl 1 aj p0.Num, cl 1 aj p0.Den])], 1⟩) (fun v : Bool => qX p0 p1 v = some r) (fun x4 h => ?_) ?_
  ·unfold qX at h
   refine QX ?_
   refine Q2 h ?_ ?_ <;> intro c5 h
   ·refine ah ae [(5, af 2), (4, af 0)] 3 (ret (QT (QW ?_)))
    apply au h (.tup [af 0, af 2])
   ·refine skip (QU (QX ?_))
    obtain ⟨y6, e7, h⟩ := ap h
    obtain ⟨y8, e9, h⟩ := ap h
    obtain ⟨y10, e11, h⟩ := ap h
    obtain ⟨y12, e13, h⟩ := ap h
    obtain ⟨y14, e15, h⟩ := ap h
    refine Q1 ae gP [[], [], [], [], [], [], [], [], [], [], [], [7], [7]] [(6, pX 7 2)] [(7, .box 257 [cl 1 aj y14.n, ag y14.e])] 9 (Ss [hk (rA p0.Num y6 e7), hn, hn, hk (CQ (SB (2 * p1)) y8 e9), hk (Co y6 y8 y10 e11), hn, hn, hk (rA p0.Den y12 e13), hk (Ig y10 y12 y14 e15)]) ?_
    obtain ⟨y16, e17, h⟩ := ap h
    obtain ⟨y18, e19, h⟩ := ap h
    obtain ⟨y20, e21, h⟩ := ap h
    refine Q1 ae gP [[], [], [], [], [], [11], [11]] [(7, pX 11 2)] [(11, .box 257 [cl 1 aj y20.n, ag y20.e])] 13 [hk (CQ 2 y16 e17), hn, hn, hk (rA p0.Den y18 e19), hk (Co y16 y18 y20 e21)] ?_
    refine seq (seq ?_)
    refine AW.join (ι := Bool) (fun v => ⟨[(6, pX 0 2), (7, pX 1 2), (47, vb v)], [(0, .box 257 [cl 1 aj y14.n, ag y14.e]), (1, .box 257 [cl 1 aj y20.n, ag y20.e])], 2⟩) (fun v : Bool => qW y14 y20 v = some r) (fun x22 h => ?_) ?_
    ·unfold qW at h
     refine QX ?_
     refine Q2 h ?_ ?_ <;> intro c23 h
     ·refine ah ae [(5, af 1), (4, af 0)] 4 (ret (QW ?_))
      apply au h (.tup [af 0, af 1])
     ·refine skip (QX ?_)
      obtain ⟨y24, y25, y26, e27, h⟩ := sL h
      refine aA ae [(8, vl 1 aj y24)] 13 (Sv [hk (CN y14.n y20.n (y24, y25, y26) e27)]) ?_
      obtain ⟨y28, y29, e30, h⟩ := aK h
      refine aA ae [(12, vb y29), (11, af y28)] 19 [hn, hk (JF y24 (y28, y29) e30)] (seq ?_)
      refine ah ae [(63, vb (!y29))] 21 ?_
      refine Q2 h ?_ ?_ <;> intro c31 h
      ·refine ah ae [(5, af 1), (4, af 0)] 23 (ret (QW ?_))
       apply au h (.tup [af 0, af 1])
      ·refine skip (QX ?_)
       refine ah ae [(5, af 0), (4, af y28)] 24 (ret ?_)
       apply au h (.tup [af y28, af 0])
    ·rcases aI h with ⟨c32, h⟩ | ⟨c32, h⟩
     ·refine ax ae [(47, vb true)] 21 (Ss [ht c32]) ?_
      exact jl true h (ai [(0, 7), (1, 11)])
     ·refine ax ae [(47, vb (y20.e != 0))] 21 (Ss [hf c32]) ?_
      exact jl (y20.e != 0) h (ai [(0, 7), (1, 11)])
  ·rcases aI h with ⟨c33, h⟩ | ⟨c33, h⟩
   ·refine ax ae [(17, vb true)] 13 [hn, ht c33] ?_
    exact jl true h (ai [(0, 0)])
   ·refine ax ae [(17, vb (decide (p1 > 4294967296)))] 13 [hn, hf c33] ?_
    exact jl (decide (p1 > 4294967296)) h (ai [(0, 0)])
def tf (p0 : bW) (p1 : Int) : Option (Int × Int) := aF (sD p0 p1) fun y1 y2 => (if (y2 != 0) then some (0, y2) else aF (rR y1 1073741824) fun y5 y6 => (some (y5, y6)))
theorem Kk (p0 : bW) (p1 : Int) (r : Int × Int) (h : tf p0 p1 = some r) : CT 89 [.agg [ag p0.Prior, cl 1 al p0.Match, cl 1 al p0.Random], af p1] [] (.tup [af r.1, af r.2]) [] := by
 refine aw ae 0 Tryz.func89 rfl (fun _ _ _ => ?_)
 unfold tf at h
 refine QZ ae [(2, pX 0 3)] [0] [(0, .box 42 [ag p0.Prior, cl 1 al p0.Match, cl 1 al p0.Random])] 3 [] ?_
 obtain ⟨y1, y2, e3, h⟩ := aK h
 refine QZ ae [(7, af y2), (6, pX 8 2)] [8] [(8, .box 217 [cl 1 aj y1.Num, cl 1 aj y1.Den])] 11 (Ss [hk (Jt p0 p1 (y1, y2) e3)]) (seq ?_)
 refine ah ae [(15, vb (y2 != 0))] 13 ?_
 refine Q2 h ?_ ?_ <;> intro c4 h
 ·refine ah ae [(5, af y2), (4, af 0)] 16 (ret (QW ?_))
  apply au h (.tup [af 0, af y2])
 ·refine skip (QX ?_)
  obtain ⟨y5, y6, e7, h⟩ := aK h
  refine aA ae [(5, af y6), (4, af y5)] 18 [hn, hk (IZ y1 1073741824 (y5, y6) e7)] (ret ?_)
  apply au h (.tup [af y5, af y6])
def nU (p0 : bI) (p1 : Int) (p2 : Int) (z1 : Int) (x3 : Int) (x4 : Int) : Option bI := some (⟨SB (p0.match_ + (SB (p1 * p2))), x3, z1, x4⟩ : bI)
def oK (p0 : bI) (p1 : Int) (p2 : Int) (p3 : Bool) : Option bI := (some (SB (p0.random + (SB (p1 * (SB (1073741824 - p2))))))).bind fun z1 => (if p3 then (some (SB (p0.matchAgree + (SB (p1 * p2))))).bind fun z6 => ((some (SB (p0.randomAgree + (SB (p1 * (SB (1073741824 - p2))))))).bind fun z8 => (nU p0 p1 p2 z1 z6 z8)) else nU p0 p1 p2 z1 p0.matchAgree p0.randomAgree)
theorem Df (p0 : bI) (p1 : Int) (p2 : Int) (p3 : Bool) (r : bI) (h : oK p0 p1 p2 p3 = some r) : CT 90 [.agg [ag p0.match_, ag p0.matchAgree, ag p0.random, ag p0.randomAgree], af p1, af p2, vb p3] [] (.agg [ag r.match_, ag r.matchAgree, ag r.random, ag r.randomAgree]) [] := by
 refine aw ae 0 Tryz.func90 rfl (fun _ _ _ => ?_)
 unfold oK at h
 refine QZ ae [(8, pX 1 4), (4, pX 0 4)] [0, 1] [(1, .box 166 [ag 0, ag 0, ag 0, ag 0]), (0, .box 166 [ag p0.match_, ag p0.matchAgree, ag p0.random, ag p0.randomAgree])] 2 [] ?_
 refine QZ ae [] [0] [(0, .box 166 [ag (SB (p0.match_ + (SB (p1 * p2)))), ag p0.matchAgree, ag p0.random, ag p0.randomAgree])] 10 [] ?_
 obtain ⟨z1, n2, h⟩ := ap h
 replace n2 := ay n2
 refine QZ ae [] [0] [(0, .box 166 [ag (SB (p0.match_ + (SB (p1 * p2)))), ag p0.matchAgree, ag z1, ag p0.randomAgree])] 19 [] ?_ (by subst n2; kernel_rfl)
 refine seq ?_
 refine AW.join (ι := Int × Int) (fun v => ⟨[(4, pX 0 4), (8, pX 1 4)], [(0, .box 166 [ag (SB (p0.match_ + (SB (p1 * p2)))), ag v.1, ag z1, ag v.2]), (1, .box 166 [ag 0, ag 0, ag 0, ag 0])], 2⟩) (fun v : Int × Int => nU p0 p1 p2 z1 v.1 v.2 = some r) (fun v h => ?_) ?_
 ·obtain ⟨x3, x4⟩ := v
  replace h : nU p0 p1 p2 z1 x3 x4 = some r := h
  unfold nU at h
  refine QX ?_
  refine QZ ae [] [1] [(1, .box 166 [ag (SB (p0.match_ + (SB (p1 * p2)))), ag x3, ag z1, ag x4])] 4 [] (ret ?_)
  apply au h (.agg [ag (SB (p0.match_ + (SB (p1 * p2)))), ag x3, ag z1, ag x4])
 ·refine ah ae [(24, vb p3)] 20 ?_
  refine Q2 h ?_ ?_ <;> intro c5 h
  ·obtain ⟨z6, n7, h⟩ := ap h
   replace n7 := ay n7
   refine QZ ae [] [0] [(0, .box 166 [ag (SB (p0.match_ + (SB (p1 * p2)))), ag z6, ag z1, ag p0.randomAgree])] 28 [] ?_ (by subst n7; kernel_rfl)
   obtain ⟨z8, n9, h⟩ := ap h
   replace n9 := ay n9
   refine QY ae [] [0] [(0, .box 166 [ag (SB (p0.match_ + (SB (p1 * p2)))), ag z6, ag z1, ag z8])] 37 [] ?_ (by subst n9; kernel_rfl)
   exact jl (z6, z8) h (ai [(0, 0), (1, 1)])
  ·refine skip ?_
   exact jl (p0.matchAgree, p0.randomAgree) h (ai [(0, 0), (1, 1)])
def lZ (p0 : Int) (p1 : Int) (p2 : Int) : Option Int := if (p1 == 0) then some p2 else if (SB (2 * p1)) ≠ 0 then (some ((if (65535 : Int) < (if (1 : Int) > (SB ((SB ((SB (131072 * p0)) + p1)).tdiv (SB (2 * p1)))) then 1 else SB ((SB ((SB (131072 * p0)) + p1)).tdiv (SB (2 * p1)))) then 65535 else if (1 : Int) > (SB ((SB ((SB (131072 * p0)) + p1)).tdiv (SB (2 * p1)))) then 1 else SB ((SB ((SB (131072 * p0)) + p1)).tdiv (SB (2 * p1)))))).bind fun z3 => (some z3) else none
theorem yF (p0 : Int) (p1 : Int) (p2 : Int) (r : Int) (h : lZ p0 p1 p2 = some r) : CT 91 [af p0, af p1, af p2] [] (af r) [] := by
 refine aw ae 0 Tryz.func91 rfl (fun _ _ _ => ?_)
 unfold lZ at h
 refine ah ae [] 1 (seq ?_)
 refine ah ae [(8, vb (p1 == 0))] 3 ?_
 refine Q2 h ?_ ?_ <;> intro c1 h
 ·refine ah ae [(6, af p2)] 5 (ret (QW ?_))
  apply au h (af p2)
 ·refine skip (QX ?_)
  obtain ⟨g2, h⟩ := aY h
  obtain ⟨z3, n4, h⟩ := ap h
  replace n4 := ay n4
  refine aA ae [(6, af z3)] 13 (Sy [ho g2]) ?_ (by subst n4; kernel_rfl)
  refine ret ?_
  apply au h (af z3)
def oY (x10 : Int) (x21 : List bI) (x22 : Int) (x23 : Int) (x24 : Int) (x25 : Int) : Option ((List bI × Int × Int × Int × Int × Int) ⊕ (List bI × Int × Int × Int × Int)) := some (.inl (x21, SB (x10 + 1), x22, x23, x24, x25))
def sP (x40 : Int) (x43 : List bI) : Option ((List bI × Int) ⊕ List bI) := some (.inl (x43, SB (x40 + 1)))
def oZ (p1 : List Int) (x10 : Int) (y29 : Int) (y32 : List Int) (x39 : List bI) (x40 : Int) : Option ((List bI × Int) ⊕ List bI) := if decide (x40 < (y32.length : Int)) then if 0 ≤ x40 then if x40 < (y32.length : Int) then if decide ((y32.getD (0 + x40.toNat) 0) > 0) then if x40 < (x39.length : Int) then (oK (x39.getD (0 + x40.toNat) cL) (p1.getD x10.toNat 0) y29 ((y32.getD (0 + x40.toNat) 0) == 2)).bind fun y48 => (sP x40 (x39.set (0 + x40.toNat) y48)) else none else sP x40 x39 else none else none else some (.inr x39)
def o5 (p0 : bW) (p1 : List Int) (x9 : List bI) (x10 : Int) (x11 : Int) (x12 : Int) (x13 : Int) (x14 : Int) : Option ((List bI × Int × Int × Int × Int × Int) ⊕ (List bI × Int × Int × Int × Int)) := if decide (x10 < (p1.length : Int)) then if 0 ≤ x10 then if x10 < (p1.length : Int) then if ((p1.getD x10.toNat 0) == 0) then oY x10 x9 x11 x12 x13 x14 else aF (tf p0 x10) fun y29 y30 => (aF (ns x10 (x9.length : Int)) fun y32 y33 => ((oK (⟨x11, x12, x13, x14⟩ : bI) (p1.getD x10.toNat 0) y29 true).bind fun y35 => ((loop (fun v : List bI × Int => oZ p1 x10 y29 y32 v.1 v.2) (x9, 0)).bind fun x50 => (oY x10 x50 y35.match_ y35.matchAgree y35.random y35.randomAgree)))) else none else none else some (.inr (x9, x11, x12, x13, x14))
def o6 (p0 : bW) (x52 : List bI) (x62 : Int) (x63 : List Int) (x64 : List Int) : Option ((Int × List Int × List Int) ⊕ (List Int × List Int)) := if decide (x62 < (x52.length : Int)) then if 0 ≤ x62 then if x62 < (x52.length : Int) then if x62 < (p0.Match.length : Int) then (lZ ((x52.getD (0 + x62.toNat) cL).matchAgree) ((x52.getD (0 + x62.toNat) cL).match_) (p0.Match.getD x62.toNat 0)).bind fun y71 => (if x63.length + [y71].length ≤ 1099511627776 then if x62 < (p0.Random.length : Int) then (lZ ((x52.getD (0 + x62.toNat) cL).randomAgree) ((x52.getD (0 + x62.toNat) cL).random) (p0.Random.getD x62.toNat 0)).bind fun y75 => (if x64.length + [y75].length ≤ 1099511627776 then some (.inl (SB (x62 + 1), (x63 ++ [y71]), (x64 ++ [y75]))) else none) else none else none) else none else none else none else some (.inr (x63, x64))
def tD (p0 : bW) (p1 : List Int) : Option bW := if 0 ≤ (p0.Match.length : Int) then if (p0.Match.length : Int) ≤ 1099511627776 then fJ (loop (fun v : List bI × Int × Int × Int × Int × Int => o5 p0 p1 v.1 v.2.1 v.2.2.1 v.2.2.2.1 v.2.2.2.2.1 v.2.2.2.2.2) ((List.replicate ((p0.Match.length : Int).toNat) (cL : bI)), 0, 0, 0, 0, 0)) fun x52 x53 x54 x55 x56 => ((lZ x53 (SB (x53 + x55)) p0.Prior).bind fun y57 => (aF (loop (fun v : Int × List Int × List Int => o6 p0 x52 v.1 v.2.1 v.2.2) (0, ([] : List Int), ([] : List Int))) fun x78 x79 => (some (⟨y57, x78, x79⟩ : bW)))) else none else none
theorem KL (p0 : bW) (p1 : List Int) (r : bW) (h : tD p0 p1 = some r) : CT 46 [.agg [ag p0.Prior, cl 1 al p0.Match, cl 1 al p0.Random], vl 1 al p1] [] (.agg [ag r.Prior, .ref 0 1 0 r.Match.length, .ref 1 1 0 r.Random.length]) [(0, .row 3 false 1 r.Match.length (al r.Match)), (1, .row 3 false 1 r.Random.length (al r.Random))] := by
 refine aw ae 0 Tryz.func46 rfl (fun _ _ _ => ?_)
 unfold tD at h
 refine QZ ae [(4, pX 1 3), (2, pX 0 3)] [0, 1] [(1, .box 42 [ag 0, ar, ar]), (0, .box 42 [ag p0.Prior, cl 1 al p0.Match, cl 1 al p0.Random])] 2 [] ?_
 refine QZ ae [(5, pX 2 4)] [2] [(2, .box 166 [ag 0, ag 0, ag 0, ag 0])] 3 [] ?_
 obtain ⟨g1, g2, h⟩ := aJ h
 refine QZ ae [(6, .c (.ref 6 4 0 ((List.replicate ((p0.Match.length : Int).toNat) (cL : bI)).length)))] [6] [(6, .row 166 false 4 (List.replicate ((p0.Match.length : Int).toNat) (cL : bI)).length (hO (List.replicate ((p0.Match.length : Int).toNat) (cL : bI))))] 8 (Su [gM cL zv 4 32 [.int .i64 0, .int .i64 0, .int .i64 0, .int .i64 0] rfl rfl (p0.Match.length : Int) (p0.Match.length : Int) g1 (Int.le_refl _) g2 (by decide)]) (seq ?_)
 refine ah ae [(24, af 0), (23, af (p1.length : Int)), (22, vl 1 al p1)] 11 (block ?_)
 obtain ⟨x52, x53, x54, x55, x56, l81, h⟩ := gZ h
 refine Q3 l81 (fun v => ⟨[(2, pX 0 3), (4, pX 1 3), (5, pX 2 4), (6, rX 3 4 v.1.length), (22, vl 1 al p1), (23, af (p1.length : Int)), (24, af v.2.1)], [(0, .box 42 [ag p0.Prior, cl 1 al p0.Match, cl 1 al p0.Random]), (1, .box 42 [ag 0, ar, ar]), (2, .box 166 [ag v.2.2.1, ag v.2.2.2.1, ag v.2.2.2.2.1, ag v.2.2.2.2.2]), (3, .row 166 false 4 v.1.length (hO v.1))], 4⟩) (fun t : (List bI) × Int × Int × Int × Int => (.exit 0, ⟨[(2, pX 0 3), (4, pX 1 3), (5, pX 2 4), (6, rX 3 4 t.1.length)], [(0, .box 42 [ag p0.Prior, cl 1 al p0.Match, cl 1 al p0.Random]), (1, .box 42 [ag 0, ar, ar]), (2, .box 166 [ag t.2.1, ag t.2.2.1, ag t.2.2.2.1, ag t.2.2.2.2]), (3, .row 166 false 4 t.1.length (hO t.1))], 4⟩)) (ai [(0, 0), (1, 1), (2, 2), (3, 6)]) (fun _ => tv) ?_ ?_
 ·clear l81 h
  intro v o h
  obtain ⟨x9, x10, x11, x12, x13, x14⟩ := v
  replace h : o5 p0 p1 x9 x10 x11 x12 x13 x14 = some o := h
  unfold o5 at h
  refine ah ae [(25, vb (decide (x10 < (p1.length : Int))))] 5 (seq ?_)
  refine Q2 h ?_ ?_ <;> intro c20 h
  ·refine skip (QX (seq ?_))
   refine AW.join (ι := (List bI) × Int × Int × Int × Int) (fun v => ⟨[(2, pX 0 3), (4, pX 1 3), (5, pX 2 4), (6, rX 3 4 v.1.length), (22, vl 1 al p1), (23, af (p1.length : Int)), (24, af x10)], [(0, .box 42 [ag p0.Prior, cl 1 al p0.Match, cl 1 al p0.Random]), (1, .box 42 [ag 0, ar, ar]), (2, .box 166 [ag v.2.1, ag v.2.2.1, ag v.2.2.2.1, ag v.2.2.2.2]), (3, .row 166 false 4 v.1.length (hO v.1))], 4⟩) (fun v : (List bI) × Int × Int × Int × Int => oY x10 v.1 v.2.1 v.2.2.1 v.2.2.2.1 v.2.2.2.2 = some o) (fun v h => ?_) ?_
   ·obtain ⟨x21, x22, x23, x24, x25⟩ := v
    replace h : oY x10 x21 x22 x23 x24 x25 = some o := h
    unfold oY at h
    refine QX ?_
    refine ba ae [(24, af (SB (x10 + 1)))] 6 ?_
    exact bh h (ai [(0, 0), (1, 1), (2, 2), (3, 3)])
   ·refine block ?_
    obtain ⟨g26, g27, h⟩ := aJ h
    refine aA ae [(8, af (p1.getD x10.toNat 0)), (7, af x10)] 10 [hn, hq g26 g27] (seq ?_)
    refine ah ae [(30, vb ((p1.getD x10.toNat 0) == 0))] 12 ?_
    refine Q2 h ?_ ?_ <;> intro c28 h
    ·refine exit (QR (QO ?_))
     exact jl (x9, x11, x12, x13, x14) h (ai [(0, 0), (1, 1), (2, 2), (3, 3)])
    ·refine skip (QX ?_)
     obtain ⟨y29, y30, e31, h⟩ := aK h
     refine aA ae [(9, af y29)] 19 (Ss [hk (Kk p0 x10 (y29, y30) e31)]) ?_
     obtain ⟨y32, y33, e34, h⟩ := aK h
     refine QZ ae [(11, rX 22 1 y32.length)] [22] [(22, .row 3 false 1 y32.length (al y32))] 28 (Su [hm [] [] 1 (Cv x10 (x9.length : Int) (y32, y33) e34) ⟨bS fb _ _ _, tv⟩]) ?_
     obtain ⟨y35, e36, h⟩ := ap h
     refine QZ ae [] [2] [(2, .box 166 [ag y35.match_, ag y35.matchAgree, ag y35.random, ag y35.randomAgree])] 32 (Su [hk (Df (⟨x11, x12, x13, x14⟩ : bI) (p1.getD x10.toNat 0) y29 true y35 e36)]) ?_
     refine ah ae [(50, af 0), (49, af (y32.length : Int)), (48, rX 22 1 y32.length)] 35 (block ?_)
     obtain ⟨x50, l51, h⟩ := ap h
     refine Q3 l51 (fun v => ⟨[(2, pX 0 3), (4, pX 1 3), (5, pX 2 4), (6, rX 3 4 v.1.length), (8, af (p1.getD x10.toNat 0)), (9, af y29), (22, vl 1 al p1), (23, af (p1.length : Int)), (24, af x10), (48, rX 4 1 y32.length), (49, af (y32.length : Int)), (50, af v.2)], [(0, .box 42 [ag p0.Prior, cl 1 al p0.Match, cl 1 al p0.Random]), (1, .box 42 [ag 0, ar, ar]), (2, .box 166 [ag y35.match_, ag y35.matchAgree, ag y35.random, ag y35.randomAgree]), (3, .row 166 false 4 v.1.length (hO v.1)), (4, .row 3 false 1 y32.length (al y32))], 5⟩) (fun t : List bI => (.exit 2, ⟨[(2, pX 0 3), (4, pX 1 3), (5, pX 2 4), (6, rX 3 4 t.length), (22, vl 1 al p1), (23, af (p1.length : Int)), (24, af x10)], [(0, .box 42 [ag p0.Prior, cl 1 al p0.Match, cl 1 al p0.Random]), (1, .box 42 [ag 0, ar, ar]), (2, .box 166 [ag y35.match_, ag y35.matchAgree, ag y35.random, ag y35.randomAgree]), (3, .row 166 false 4 t.length (hO t))], 4⟩)) (ai [(0, 0), (1, 1), (2, 2), (3, 3), (4, 22)]) (fun _ => tv) ?_ ?_
     ·clear l51 h
      intro v o h
      obtain ⟨x39, x40⟩ := v
      replace h : oZ p1 x10 y29 y32 x39 x40 = some o := h
      unfold oZ at h
      refine ah ae [(51, vb (decide (x40 < (y32.length : Int))))] 6 (seq ?_)
      refine Q2 h ?_ ?_ <;> intro c42 h
      ·refine skip (QX (seq ?_))
       refine AW.join (ι := List bI) (fun v => ⟨[(2, pX 0 3), (4, pX 1 3), (5, pX 2 4), (6, rX 3 4 v.length), (8, af (p1.getD x10.toNat 0)), (9, af y29), (22, vl 1 al p1), (23, af (p1.length : Int)), (24, af x10), (48, rX 4 1 y32.length), (49, af (y32.length : Int)), (50, af x40)], [(0, .box 42 [ag p0.Prior, cl 1 al p0.Match, cl 1 al p0.Random]), (1, .box 42 [ag 0, ar, ar]), (2, .box 166 [ag y35.match_, ag y35.matchAgree, ag y35.random, ag y35.randomAgree]), (3, .row 166 false 4 v.length (hO v)), (4, .row 3 false 1 y32.length (al y32))], 5⟩) (fun v : List bI => sP x40 v = some o) (fun x43 h => ?_) ?_
       ·unfold sP at h
        refine QX ?_
        refine ba ae [(50, af (SB (x40 + 1)))] 7 ?_
        exact bh h (ai [(0, 0), (1, 1), (2, 2), (3, 3), (4, 4)])
       ·refine block ?_
        obtain ⟨g44, g45, h⟩ := aJ h
        refine aA ae [(14, af (y32.getD (0 + x40.toNat) 0)), (13, af x40)] 11 [hn, hq g44 g45, ho (p := (0 + x40.toNat) < y32.length) (by have h1 : 0 ≤ x40 := g44; have h2 : x40 < (y32.length : Int) := g45; omega)] ?_
        refine ah ae [(56, vb (decide ((y32.getD (0 + x40.toNat) 0) > 0)))] 13 ?_
        refine Q2 h ?_ ?_ <;> intro c46 h
        ·obtain ⟨g47, h⟩ := aY h
         obtain ⟨y48, e49, h⟩ := ap h
         refine QY ae [] [3] [(3, .row 166 false 4 x39.length (hO (x39.set (0 + x40.toNat) y48)))] 25 (Sv [hq g44 g47, ho (p := (0 + x40.toNat) < x39.length) (by have h1 : 0 ≤ x40 := g44; have h2 : x40 < (x39.length : Int) := g47; omega), hn, hn, hn, hn, hk (Df (x39.getD (0 + x40.toNat) cL) (p1.getD x10.toNat 0) y29 ((y32.getD (0 + x40.toNat) 0) == 2) y48 e49), hq g44 g47, hset cL zv x39 (0 + x40.toNat) y48 (n := x39.length) (by have h1 : 0 ≤ x40 := g44; have h2 : x40 < (x39.length : Int) := g47; omega) rfl]) ?_
         refine QU ?_
         exact jl (x39.set (0 + x40.toNat) y48) h (Conv.trans (cV [(6, .c (.ref 3 4 0 ((x39.set (0 + x40.toNat) y48).length)))] ⟨⟨.c (.ref 3 4 0 x39.length), by kernel_rfl, bU.len (by simp only [R7])⟩, tv⟩) (Conv.trans (eN 3 166 false 4 x39.length ((x39.set (0 + x40.toNat) y48).length) (hO (x39.set (0 + x40.toNat) y48)) (by kernel_rfl) (by simp only [R7])) (ai [(0, 0), (1, 1), (2, 2), (3, 3), (4, 4)])))
        ·refine skip (QU ?_)
         exact jl x39 h (ai [(0, 0), (1, 1), (2, 2), (3, 3), (4, 4)])
      ·refine exit (QR ?_)
       exact aX h rfl (ai [(0, 0), (1, 1), (2, 2), (3, 3)])
     ·show (_ : XQ) (.exit 2) _
      refine QO (QU ?_)
      exact jl (x50, y35.match_, y35.matchAgree, y35.random, y35.randomAgree) h (ai [(0, 0), (1, 1), (2, 2), (3, 3)])
  ·refine exit (QR ?_)
   exact aX h rfl (ai [(0, 0), (1, 1), (2, 2), (3, 3)])
 ·show (_ : XQ) (.exit 0) _
  refine QO (QX ?_)
  obtain ⟨y57, e58, h⟩ := ap h
  refine QZ ae [(15, pX 14 3)] [14] [(14, .box 42 [ag y57, ar, ar])] 16 [hn, hn, hn, hn, hn, hn, hn, hn, hn, hk (yF x53 (SB (x53 + x55)) p0.Prior y57 e58)] (seq ?_)
  refine ah ae [(84, af 0), (83, af (x52.length : Int)), (82, rX 3 4 x52.length)] 19 (block ?_)
  obtain ⟨x78, x79, l80, h⟩ := aK h
  refine Q3 l80 (fun v => ⟨[(2, pX 0 3), (4, pX 1 3), (15, pX 2 3), (82, rX 3 4 x52.length), (83, af (x52.length : Int)), (84, af v.1)], [(0, .box 42 [ag p0.Prior, cl 1 al p0.Match, cl 1 al p0.Random]), (1, .box 42 [ag 0, ar, ar]), (2, .box 42 [ag y57, .ref 4 1 0 v.2.1.length, .ref 5 1 0 v.2.2.length]), (3, .row 166 false 4 x52.length (hO x52)), (4, .row 3 false 1 v.2.1.length (al v.2.1)), (5, .row 3 false 1 v.2.2.length (al v.2.2))], 6⟩) (fun t : (List Int) × (List Int) => (.exit 4, ⟨[(4, pX 0 3), (15, pX 1 3)], [(0, .box 42 [ag 0, ar, ar]), (1, .box 42 [ag y57, .ref 2 1 0 t.1.length, .ref 3 1 0 t.2.length]), (2, .row 3 false 1 t.1.length (al t.1)), (3, .row 3 false 1 t.2.length (al t.2))], 4⟩)) (Conv.trans (dr (id := 14) (ty0 := 42) (cs := [ag y57, ar, ar]) 1 (ty := 3) (sz := 1) (n := ([] : List Int).length) (f := al ([] : List Int)) (by kernel_rfl) (by kernel_rfl) rfl) (Conv.trans (dr (id := 14) (ty0 := 42) (cs := [ag y57, .ref 19 1 0 (([] : List Int).length), ar]) 2 (ty := 3) (sz := 1) (n := ([] : List Int).length) (f := al ([] : List Int)) (by kernel_rfl) (by kernel_rfl) rfl) (ai [(0, 0), (1, 1), (2, 14), (3, 3), (4, 19), (5, 20)]))) (fun _ => tv) ?_ ?_
  ·clear l80 h
   intro v o h
   obtain ⟨x62, x63, x64⟩ := v
   replace h : o6 p0 x52 x62 x63 x64 = some o := h
   unfold o6 at h
   refine ah ae [(85, vb (decide (x62 < (x52.length : Int))))] 7 (seq ?_)
   refine Q2 h ?_ ?_ <;> intro c67 h
   ·refine skip (QX ?_)
    refine seq (block ?_)
    obtain ⟨g68, g69, h⟩ := aJ h
    refine QZ ae [(16, af x62), (17, pX 10 4)] [10] [(10, .box 166 [ag ((x52.getD (0 + x62.toNat) cL).match_), ag ((x52.getD (0 + x62.toNat) cL).matchAgree), ag ((x52.getD (0 + x62.toNat) cL).random), ag ((x52.getD (0 + x62.toNat) cL).randomAgree)])] 13 [hn, hq g68 g69, ho (p := (0 + x62.toNat) < x52.length) (by have h1 : 0 ≤ x62 := g68; have h2 : x62 < (x52.length : Int) := g69; omega)] ?_
    obtain ⟨g70, h⟩ := aY h
    obtain ⟨y71, e72, h⟩ := ap h
    obtain ⟨g73, h⟩ := aY h
    refine Q1 ae gP [[], [], [], [], [], [], [], [], [], [], [], [], [24], [25, 4], [], [2]] [] [(2, .box 42 [ag y57, .ref 25 1 0 ((x63 ++ [y71]).length), .ref 5 1 0 x64.length]), (25, .row 3 false 1 (x63 ++ [y71]).length (al (x63 ++ [y71])))] 28 [hn, hn, hn, hn, hn, hn, hn, hn, hn, hq g68 g70, hn, hk (yF ((x52.getD (0 + x62.toNat) cL).matchAgree) ((x52.getD (0 + x62.toNat) cL).match_) (p0.Match.getD x62.toNat 0) y71 e72), bB 0 dj 1 (fun _ => rfl) [y71], cP 0 dj 1 8 x63 [y71] g73 (by decide)] ?_
    obtain ⟨g74, h⟩ := aY h
    obtain ⟨y75, e76, h⟩ := ap h
    obtain ⟨g77, h⟩ := aY h
    refine Q0 ae gP [[], [], [], [], [], [], [], [], [], [], [], [], [39], [40, 5], [], [2]] [] [(2, .box 42 [ag y57, .ref 25 1 0 ((x63 ++ [y71]).length), .ref 40 1 0 ((x64 ++ [y75]).length)]), (40, .row 3 false 1 (x64 ++ [y75]).length (al (x64 ++ [y75])))] 43 [hn, hn, hn, hn, hn, hn, hn, hn, hn, hq g68 g74, hn, hk (yF ((x52.getD (0 + x62.toNat) cL).randomAgree) ((x52.getD (0 + x62.toNat) cL).random) (p0.Random.getD x62.toNat 0) y75 e76), bB 0 dj 1 (fun _ => rfl) [y75], cP 0 dj 1 8 x64 [y75] g77 (by decide)] ?_
    refine QU (QX ?_)
    refine ba ae [(84, af (SB (x62 + 1)))] 45 ?_
    exact bh h (ai [(0, 0), (1, 1), (2, 2), (3, 3), (4, 25), (5, 40)])
   ·refine exit (QR ?_)
    exact aX h rfl (ai [(0, 1), (1, 2), (2, 4), (3, 5)])
  ·show (_ : XQ) (.exit 4) _
   refine QO (QX ?_)
   refine QZ ae [] [0] [(0, .box 42 [ag y57, .ref 2 1 0 x78.length, .ref 3 1 0 x79.length])] 6 [] (ret ?_)
   obtain rfl := ay h
   exact be (.inr rfl) [(0, 2), (1, 3)] 2 (.agg [ag y57, .ref 2 1 0 x78.length, .ref 3 1 0 x79.length])
def nh (p0 : List Int) (p1 : List Int) (x3 : Int) : Option (Int ⊕ (Unit ⊕ Unit)) := if decide (x3 < (p0.length : Int)) then if 0 ≤ x3 then if x3 < (p0.length : Int) then if x3 < (p1.length : Int) then if ((p0.getD x3.toNat 0) != (p1.getD x3.toNat 0)) then some (.inr (.inr ())) else some (.inl (SB (x3 + 1))) else none else none else none else some (.inr (.inl ()))
def uJ : Option Bool := some true
def uK : Option Bool := some false
def nD (p0 : List Int) (p1 : List Int) : Option Bool := if ((p0.length : Int) != (p1.length : Int)) then some false else cD (loop (fun v : Int => nh p0 p1 v) 0) (fun t => uJ) (fun t => uK)
theorem yg (p0 : List Int) (p1 : List Int) (r : Bool) (h : nD p0 p1 = some r) : CT 92 [vl 1 al p0, vl 1 al p1] [] (vb r) [] := by
 refine aw ae 0 Tryz.func92 rfl (fun _ _ _ => ?_)
 unfold nD at h
 refine ah ae [] 1 (seq ?_)
 refine ah ae [(10, vb ((p0.length : Int) != (p1.length : Int)))] 6 ?_
 refine Q2 h ?_ ?_ <;> intro c1 h
 ·refine ah ae [(4, vb false)] 7 (ret (QW ?_))
  apply au h (vb false)
 ·refine skip (QX (seq ?_))
  refine ah ae [(13, af 0), (12, af (p0.length : Int))] 9 (block ?_)
  refine Q4 h (fun v => ⟨[(0, vl 1 al p0), (1, vl 1 al p1), (12, af (p0.length : Int)), (13, af v)], [], 0⟩) (fun t => (.exit 0, ⟨[], [], 0⟩)) (fun t => (.ret, ⟨[(4, vb false)], [], 0⟩)) (ai []) (fun _ => tv) (fun _ => tv) ?_ (fun t h => ?_) (fun t h => ?_)
  ·clear h
   intro x3 o h
   unfold nh at h
   refine ah ae [(14, vb (decide (x3 < (p0.length : Int))))] 1 (seq ?_)
   refine Q2 h ?_ ?_ <;> intro c4 h
   ·refine skip (QX ?_)
    refine seq (block ?_)
    refine ah ae [(5, af x3)] 3 ?_
    obtain ⟨g5, g6, h⟩ := aJ h
    obtain ⟨g7, h⟩ := aY h
    refine Q1 ae gP [] [(24, vb ((p0.getD x3.toNat 0) != (p1.getD x3.toNat 0)))] [] 12 (Ss [hq g5 g6, hn, hn, hn, hq g5 g7]) ?_
    refine Q2 h ?_ ?_ <;> intro c8 h
    ·refine ah ae [(4, vb false)] 13 (ret (QT (QW ?_)))
     exact aX h rfl (ai [])
    ·refine skip (QU (QX ?_))
     refine ba ae [(13, af (SB (x3 + 1)))] 14 ?_
     exact bh h (ai [])
   ·refine exit (QR ?_)
    exact aX h rfl (ai [])
  ·replace h : uJ = some r := h
   unfold uJ at h
   show (_ : XQ) (.exit 0) _
   refine QO (QX ?_)
   refine ah ae [(4, vb true)] 1 (ret ?_)
   apply au h (vb true)
  ·replace h : uK = some r := h
   unfold uK at h
   show (_ : XQ) (.ret) _
   refine QT (QW ?_)
   apply au h (vb false)
theorem Qt : Tryz.prog.follows .mixedOrders = true := by kernel_rfl
def nE (x1 : Bool) : Option Bool := some x1
def vv (p0 : bW) (p1 : bW) : Option Bool := if (p0.Prior == p1.Prior) then (nD p0.Match p1.Match).bind fun y3 => (if y3 then (nD p0.Random p1.Random).bind fun y6 => (nE y6) else nE false) else nE false
theorem Jd (p0 : bW) (p1 : bW) (r : Bool) (h : vv p0 p1 = some r) : CT 47 [.agg [ag p0.Prior, cl 1 al p0.Match, cl 1 al p0.Random], .agg [ag p1.Prior, cl 1 al p1.Match, cl 1 al p1.Random]] [] (vb r) [] := by
 refine aw ae 0 Tryz.func47 rfl (fun _ _ _ => ?_)
 unfold vv at h
 refine QZ ae [(3, pX 1 3), (2, pX 0 3)] [0, 1] [(1, .box 110 [ag p1.Prior, cl 1 al p1.Match, cl 1 al p1.Random]), (0, .box 110 [ag p0.Prior, cl 1 al p0.Match, cl 1 al p0.Random])] 3 [] (seq ?_)
 refine AW.join (ι := Bool) (fun v => ⟨[(4, vb v)], [], 0⟩) (fun v : Bool => nE v = some r) (fun x1 h => ?_) ?_
 ·unfold nE at h
  refine QX (ret ?_)
  apply au h (vb x1)
 ·rcases aI h with ⟨c2, h⟩ | ⟨c2, h⟩
  ·obtain ⟨y3, e4, h⟩ := ap h
   rcases aI h with ⟨c5, hs⟩ | ⟨c5, hs⟩
   ·clear h; subst c5; have h := hs; clear hs
    obtain ⟨y6, e7, h⟩ := ap h
    refine ax ae [(4, vb y6)] 21 (Sv [ht c2, hn, hn, hn, hn, hn, hk (yg p0.Match p1.Match true e4), hn, hn, hn, hn, hn, hn, hk (yg p0.Random p1.Random y6 e7)]) ?_
    exact jl y6 h
   ·clear h; subst c5; have h := hs; clear hs
    refine ax ae [(4, vb false)] 22 (Sv [ht c2, hn, hn, hn, hn, hn, hk (yg p0.Match p1.Match false e4)]) ?_
    exact jl false h
  ·refine ax ae [(4, vb false)] 23 (Sv [hf c2]) ?_
   exact jl false h
def pu (p0 : bW) (p1 : bW) : Option Bool := (vv p0 p1).bind fun y1 => (some y1)
theorem vK (p0 : bW) (p1 : bW) (r : Bool) (h : pu p0 p1 = some r) : CT 16 [.agg [ag p0.Prior, cl 1 al p0.Match, cl 1 al p0.Random], .agg [ag p1.Prior, cl 1 al p1.Match, cl 1 al p1.Random]] [] (vb r) [] := by
 refine aw ae 0 Tryz.func16 rfl (fun _ _ _ => ?_)
 unfold pu at h
 refine QZ ae [(3, pX 1 3), (2, pX 0 3)] [0, 1] [(1, .box 42 [ag p1.Prior, cl 1 al p1.Match, cl 1 al p1.Random]), (0, .box 42 [ag p0.Prior, cl 1 al p0.Match, cl 1 al p0.Random])] 3 [] ?_
 obtain ⟨y1, e2, h⟩ := ap h
 refine aA ae [(4, vb y1)] 6 (Ss [hk (Jd p0 p1 y1 e2)]) (ret ?_)
 apply au h (vb y1)
def j0 (p1 : List Int) (p2 : Int) (x14 : Int) (x15 : Int) (x16 : List Int) (x17 : List Int) : Option ((Int × Int × List Int × List Int) ⊕ ((Int × List Int × List Int) ⊕ (Int × Int × List Int × List Int))) := if decide (x14 < p2) then (tD (⟨x15, x16, x17⟩ : bW) p1).bind fun y26 => ((pu (⟨x15, x16, x17⟩ : bW) y26).bind fun y28 => (if y28 then some (.inr (.inr (x14, x15, x16, x17))) else some (.inl (SB (x14 + 1), y26.Prior, y26.Match, y26.Random)))) else some (.inr (.inl (x15, x16, x17)))
def sU (p2 : Int) (x31 : Int) (x32 : List Int) (x33 : List Int) : Option (bW × Int × Int) := some ((⟨x31, x32, x33⟩ : bW), p2, 0)
def wg (x34 : Int) (x35 : Int) (x36 : List Int) (x37 : List Int) : Option (bW × Int × Int) := some ((⟨x35, x36, x37⟩ : bW), x34, 0)
def sV (p0 : bW) (p1 : List Int) (p2 : Int) (x4 : Bool) : Option (bW × Int × Int) := if x4 then some ((⟨0, ([] : List Int), ([] : List Int)⟩ : bW), 0, 2) else (nx p0.Match).bind fun y6 => ((nx p0.Random).bind fun y8 => (cD (loop (fun v : Int × Int × List Int × List Int => j0 p1 p2 v.1 v.2.1 v.2.2.1 v.2.2.2) (0, p0.Prior, y6, y8)) (fun t => sU p2 t.1 t.2.1 t.2.2) (fun t => wg t.1 t.2.1 t.2.2.1 t.2.2.2)))
def ml (p0 : bW) (p1 : List Int) (p2 : Int) : Option (bW × Int × Int) := (te p0 p1).bind fun y1 => (if (y1 != 0) then some ((⟨0, ([] : List Int), ([] : List Int)⟩ : bW), 0, y1) else if decide (p2 < 0) then sV p0 p1 p2 true else sV p0 p1 p2 (decide (p2 > 16)))
theorem EF (p0 : bW) (p1 : List Int) (p2 : Int) (r : bW × Int × Int) (h : ml p0 p1 p2 = some r) : CT 15 [.agg [ag p0.Prior, cl 1 al p0.Match, cl 1 al p0.Random], vl 1 al p1, af p2] [] (.tup [.agg [ag r.1.Prior, .ref 0 1 0 r.1.Match.length, .ref 1 1 0 r.1.Random.length], af r.2.1, af r.2.2]) [(0, .row 3 false 1 r.1.Match.length (al r.1.Match)), (1, .row 3 false 1 r.1.Random.length (al r.1.Random))] := by
 refine aw ae 0 Tryz.func15 rfl (fun _ _ _ => ?_)
 unfold ml at h
 refine QZ ae [(6, pX 1 3), (3, pX 0 3)] [0, 1] [(1, .box 42 [ag 0, ar, ar]), (0, .box 42 [ag p0.Prior, cl 1 al p0.Match, cl 1 al p0.Random])] 4 [] (seq ?_)
 obtain ⟨y1, e2, h⟩ := ap h
 refine aA ae [(9, af y1)] 7 (Ss [hk (Kj p0 p1 y1 e2)]) ?_
 refine ah ae [(16, vb (y1 != 0))] 9 ?_
 refine Q2 h ?_ ?_ <;> intro c3 h
 ·refine QZ ae [(8, af y1), (7, af 0)] [1] [(1, .box 42 [ag 0, ar, ar])] 14 [] (ret (QW ?_))
  obtain rfl := ay h
  exact b6 (.inr rfl) [(0, 14), (1, 15)] 2 (.tup [.agg [ag 0, .ref 14 1 0 (([] : List Int).length), .ref 15 1 0 (([] : List Int).length)], af 0, af y1]) (Conv.trans (dr (id := 1) (ty0 := 42) (cs := [ag 0, ar, ar]) 1 (ty := 3) (sz := 1) (n := ([] : List Int).length) (f := al ([] : List Int)) (by kernel_rfl) (by kernel_rfl) rfl) (dr (id := 1) (ty0 := 42) (cs := [ag 0, .ref 14 1 0 (([] : List Int).length), ar]) 2 (ty := 3) (sz := 1) (n := ([] : List Int).length) (f := al ([] : List Int)) (by kernel_rfl) (by kernel_rfl) rfl))
 ·refine skip (QX ?_)
  refine seq (seq ?_)
  refine AW.join (ι := Bool) (fun v => ⟨[(1, vl 1 al p1), (2, af p2), (3, pX 0 3), (6, pX 1 3), (24, vb v)], [(0, .box 42 [ag p0.Prior, cl 1 al p0.Match, cl 1 al p0.Random]), (1, .box 42 [ag 0, ar, ar])], 2⟩) (fun v : Bool => sV p0 p1 p2 v = some r) (fun x4 h => ?_) ?_
  ·unfold sV at h
   refine QX ?_
   refine Q2 h ?_ ?_ <;> intro c5 h
   ·refine QZ ae [(8, af 2), (7, af 0)] [1] [(1, .box 42 [ag 0, ar, ar])] 6 [] (ret (QW ?_))
    obtain rfl := ay h
    exact b6 (.inr rfl) [(0, 6), (1, 7)] 2 (.tup [.agg [ag 0, .ref 6 1 0 (([] : List Int).length), .ref 7 1 0 (([] : List Int).length)], af 0, af 2]) (Conv.trans (dr (id := 1) (ty0 := 42) (cs := [ag 0, ar, ar]) 1 (ty := 3) (sz := 1) (n := ([] : List Int).length) (f := al ([] : List Int)) (by kernel_rfl) (by kernel_rfl) rfl) (dr (id := 1) (ty0 := 42) (cs := [ag 0, .ref 6 1 0 (([] : List Int).length), ar]) 2 (ty := 3) (sz := 1) (n := ([] : List Int).length) (f := al ([] : List Int)) (by kernel_rfl) (by kernel_rfl) rfl))
   ·refine skip (QX ?_)
    obtain ⟨y6, e7, h⟩ := ap h
    obtain ⟨y8, e9, h⟩ := ap h
    refine Q1 ae Qt [[], [], [], [], [6], [], [], [9], [], [0]] [] [(0, .box 42 [ag p0.Prior, .ref 6 1 0 y6.length, .ref 9 1 0 y8.length]), (9, .row 3 false 1 y8.length (al y8)), (6, .row 3 false 1 y6.length (al y6))] 12 (Sv [hm [] [] 1 (Cy p0.Match y6 e7) ⟨bS fb _ _ _, tv⟩, hn, hn, hm [] [] 1 (Cy p0.Random y8 e9) ⟨bS fb _ _ _, tv⟩]) ?_
    refine seq ?_
    refine ah ae [(36, af 0), (35, af p2)] 14 (block ?_)
    refine Q4 h (fun v => ⟨[(1, vl 1 al p1), (2, af p2), (3, pX 0 3), (6, pX 1 3), (35, af p2), (36, af v.1)], [(0, .box 42 [ag v.2.1, .ref 2 1 0 v.2.2.1.length, .ref 3 1 0 v.2.2.2.length]), (1, .box 42 [ag 0, ar, ar]), (2, .row 3 false 1 v.2.2.1.length (al v.2.2.1)), (3, .row 3 false 1 v.2.2.2.length (al v.2.2.2))], 4⟩) (fun t => (.exit 0, ⟨[(2, af p2), (3, pX 0 3), (6, pX 1 3)], [(0, .box 42 [ag t.1, .ref 2 1 0 t.2.1.length, .ref 3 1 0 t.2.2.length]), (1, .box 42 [ag 0, ar, ar]), (2, .row 3 false 1 t.2.1.length (al t.2.1)), (3, .row 3 false 1 t.2.2.length (al t.2.2))], 4⟩)) (fun t => (.ret, ⟨[(6, pX 0 3), (7, af t.1), (8, af 0)], [(0, .box 42 [ag t.2.1, .ref 1 1 0 t.2.2.1.length, .ref 2 1 0 t.2.2.2.length]), (1, .row 3 false 1 t.2.2.1.length (al t.2.2.1)), (2, .row 3 false 1 t.2.2.2.length (al t.2.2.2))], 3⟩)) (ai [(0, 0), (1, 1), (2, 6), (3, 9)]) (fun _ => tv) (fun _ => tv) ?_ (fun t h => ?_) (fun t h => ?_)
    ·clear h
     intro v o h
     obtain ⟨x14, x15, x16, x17⟩ := v
     replace h : j0 p1 p2 x14 x15 x16 x17 = some o := h
     unfold j0 at h
     refine ah ae [(37, vb (decide (x14 < p2)))] 5 (seq ?_)
     refine Q2 h ?_ ?_ <;> intro c25 h
     ·refine skip (QX ?_)
      refine seq (block ?_)
      refine ah ae [(10, af x14)] 7 ?_
      obtain ⟨y26, e27, h⟩ := ap h
      refine QZ ae [(11, pX 11 3)] [9, 10, 11] [(11, .box 42 [ag y26.Prior, .ref 9 1 0 y26.Match.length, .ref 10 1 0 y26.Random.length]), (9, .row 3 false 1 y26.Match.length (al y26.Match)), (10, .row 3 false 1 y26.Random.length (al y26.Random))] 13 (Ss [hg [] [] true 2 (q := ((True) ∧ (0 + x16.length ≤ x16.length) ∧ (0 + x17.length ≤ x17.length) ∧ (True)) ∧ (True) ∧ (True)) ⟨⟨tv, Ax, Ax, tv⟩, tv, tv⟩ (a0 := [.agg [ag x15, cl 1 al x16, cl 1 al x17], vl 1 al p1]) (KL (⟨x15, x16, x17⟩ : bW) p1 y26 e27) ⟨aN.refl _, aN.refl _, tv⟩ (fun _ => ⟨bS fb _ _ _, bS fb _ _ _, tv⟩)]) (seq ?_)
      obtain ⟨y28, e29, h⟩ := ap h
      refine aA ae [(44, vb y28)] 15 (Ss [hg [] [] true 0 (q := ((True) ∧ (0 + x16.length ≤ x16.length) ∧ (0 + x17.length ≤ x17.length) ∧ (True)) ∧ ((True) ∧ (0 + y26.Match.length ≤ y26.Match.length) ∧ (0 + y26.Random.length ≤ y26.Random.length) ∧ (True)) ∧ (True)) ⟨⟨tv, Ax, Ax, tv⟩, ⟨tv, Ax, Ax, tv⟩, tv⟩ (a0 := [.agg [ag x15, cl 1 al x16, cl 1 al x17], .agg [ag y26.Prior, cl 1 al y26.Match, cl 1 al y26.Random]]) (vK (⟨x15, x16, x17⟩ : bW) y26 y28 e29) ⟨aN.refl _, aN.refl _, tv⟩ (fun _ => tv)]) ?_
      refine Q2 h ?_ ?_ <;> intro c30 h
      ·refine QZ ae [(8, af 0), (7, af x14)] [1] [(1, .box 42 [ag x15, .ref 2 1 0 x16.length, .ref 3 1 0 x17.length])] 20 [] (ret (QW ?_))
       refine QT (QW ?_)
       exact aX h rfl (ai [(0, 1), (1, 2), (2, 3)])
      ·refine skip (QX ?_)
       refine QY ae [] [0] [(0, .box 42 [ag y26.Prior, .ref 9 1 0 y26.Match.length, .ref 10 1 0 y26.Random.length])] 17 [] ?_
       refine QU (QX ?_)
       refine ba ae [(36, af (SB (x14 + 1)))] 19 ?_
       exact bh h (ai [(0, 0), (1, 1), (2, 9), (3, 10)])
     ·refine exit (QR ?_)
      exact aX h rfl (ai [(0, 0), (1, 1), (2, 2), (3, 3)])
    ·obtain ⟨x31, x32, x33⟩ := t
     replace h : sU p2 x31 x32 x33 = some r := h
     unfold sU at h
     show (_ : XQ) (.exit 0) _
     refine QO (QX ?_)
     refine QZ ae [(8, af 0), (7, af p2)] [1] [(1, .box 42 [ag x31, .ref 2 1 0 x32.length, .ref 3 1 0 x33.length])] 9 [] (ret ?_)
     obtain rfl := ay h
     exact be (.inr rfl) [(0, 2), (1, 3)] 2 (.tup [.agg [ag x31, .ref 2 1 0 x32.length, .ref 3 1 0 x33.length], af p2, af 0])
    ·obtain ⟨x34, x35, x36, x37⟩ := t
     replace h : wg x34 x35 x36 x37 = some r := h
     unfold wg at h
     show (_ : XQ) (.ret) _
     refine QT (QW ?_)
     obtain rfl := ay h
     exact be (.inr rfl) [(0, 1), (1, 2)] 2 (.tup [.agg [ag x35, .ref 1 1 0 x36.length, .ref 2 1 0 x37.length], af x34, af 0])
  ·rcases aI h with ⟨c39, h⟩ | ⟨c39, h⟩
   ·refine ax ae [(24, vb true)] 15 [hn, ht c39] ?_
    exact jl true h (ai [(0, 0), (1, 1)])
   ·refine ax ae [(24, vb (decide (p2 > 16)))] 15 [hn, hf c39] ?_
    exact jl (decide (p2 > 16)) h (ai [(0, 0), (1, 1)])
def sk (p0 : List Int) : Option Int := if decide ((p0.length : Int) > 243) then some 0 else aF (oO p0) fun y2 y3 => (some y2)
theorem Je (p0 : List Int) (r : Int) (h : sk p0 = some r) : CT 18 [vl 1 al p0] [] (af r) [] := by
 refine aw ae 0 Tryz.func18 rfl (fun _ _ _ => ?_)
 unfold sk at h
 refine ah ae [] 1 (seq ?_)
 refine ah ae [(7, vb (decide ((p0.length : Int) > 243)))] 4 ?_
 refine Q2 h ?_ ?_ <;> intro c1 h
 ·refine ah ae [(2, af 0)] 5 (ret (QW ?_))
  apply au h (af 0)
 ·refine skip (QX ?_)
  obtain ⟨y2, y3, e4, h⟩ := aK h
  refine aA ae [(3, af y2)] 10 [hn, hk (Dj p0 (y2, y3) e4)] ?_
  refine ah ae [(2, af y2)] 12 (ret ?_)
  apply au h (af y2)
end
end Go.Proofs.YtfmhbcfklokmaaaGreatDoor
namespace Go.Proofs.YtfmhbcfklokmaaaGreatDoor
open Vm
def bE (d : aP) : Prop := 0 ≤ d.at_ ∧ d.at_ ≤ 1000000 ∧ d.list.length ≤ 1000000
theorem HE (x : Int) : a7 .u64 x 1 = x / 2 := by
 show x.fdiv (2 ^ min (1 : Int).toNat 64) = _
 exact Int.fdiv_eq_ediv_of_nonneg _ (by decide)
theorem Av {d : aP} (h : bE d) : ∃ w d', lw d = some (w, d') ∧ 0 ≤ w ∧ w < 18446744073709551616 ∧ bE d' := by
 obtain ⟨h0, h1, h2⟩ := h
 unfold lw
 by_cases c : d.at_ < ((d.list.length : Nat) : Int)
 ·rw [if_pos (by simpa using c), if_pos h0, if_pos c]
  unfold ll
  refine ⟨_, _, rfl, ?_, ?_, ?_⟩
  ·unfold bq; exact tB _
  ·unfold bq; exact tC _
  ·refine ⟨?_, ?_, h2⟩
   ·show 0 ≤ SB (d.at_ + 1)
    rw [az]; omega
   ·show SB (d.at_ + 1) ≤ 1000000
    rw [az]; omega
 ·rw [if_neg (by simpa using c)]
  unfold ll
  refine ⟨_, _, rfl, ?_, ?_, h0, h1, h2⟩
  ·unfold bq; exact tB _
  ·unfold bq; exact tC _
theorem dT {d : aP} (h : bE d) {n : Int} (hn : 1 ≤ n) (hn2 : n ≤ 4611686018427387904) : ∃ v d', dz d n = some (v, d') ∧ 0 ≤ v ∧ v < n ∧ bE d' := by
 obtain ⟨w, d', e, h0, h1, h2⟩ := Av h
 unfold dz
 rw [if_neg (by simp; omega), e]
 refine ⟨_, d', by simp only [aF, Option.bind_some]; rw [aO], ?_, ?_, h2⟩
 ·rw [HE, az, dJ (by omega)]
  exact Int.emod_nonneg _ (by omega)
 ·rw [HE, az, dJ (by omega)]
  exact Int.emod_lt_of_pos _ (by omega)
theorem ii {d : aP} (h : bE d) {n : Int} (hn : 1 ≤ n) (hn2 : n ≤ 4611686018427387904) : ∃ v d', eQ d n = some (v, d') ∧ bE d' := by
 unfold eQ
 obtain ⟨v, d1, he, v0, v1, hd1⟩ := dT h hn hn2
 rw [he]; clear he; first | rw [aU] | rw [cz] | rw [cx] | rw [an]
 exact ⟨_, _, rfl, hd1⟩
theorem Ou {l : List Int} (h : l.length ≤ 400) : ∃ d, vI l = some d ∧ bE d := ⟨_, rfl, Int.le_refl 0, (by decide : (0 : Int) ≤ 1000000), RX h (by decide)⟩
open _root_.ByteArray (mk)
open IntKind (i64 u64 u32 u8)
theorem Ac {α σ τ : Type} (d : α) (f : α → Bool) (l : List α) (s : Nat → σ) (r : Nat → τ) {υ : Type} (e : υ) {step : σ → Option (σ ⊕ (υ ⊕ τ))} (hs : ∀ i : Nat, i < l.length → step (s i) = if f (l.getD i d) = true then some (.inr (.inr (r i))) else some (.inl (s (i + 1))))
  (he : step (s l.length) = some (.inr (.inl e))) {s0 : σ} (h0 : s0 = s 0 := by rfl) : loop step s0 = some (match l.findIdx? f with | some i => .inr (r i) | none => .inl e) := by
 subst h0
 have key : ∀ k j, j + k = l.length → loop step (s j) = some (match (l.drop j).findIdx? f with | some i => .inr (r (j + i)) | none => .inl e) := by
  intro k
  induction k with
  | zero =>
   intro j hj
   have : j = l.length := by omega
   subst this
   rw [dm he, List.drop_length]
   rfl
  | succ k ih =>
   intro j hj
   have hs := hs j (by omega)
   have hd : l.drop j = l.getD j d :: l.drop (j + 1) := by
    rw [List.drop_eq_getElem_cons (show j < l.length by omega), Re, Rf (show j < l.length by omega)]
    rfl
   rw [hd, List.findIdx?_cons]
   by_cases hf : f (l.getD j d) = true
   ·rw [if_pos hf] at hs
    rw [dm hs, if_pos hf]
    rfl
   ·rw [if_neg hf] at hs
    rw [dH hs, ih (j + 1) (by omega), if_neg hf]
    cases (l.drop (j + 1)).findIdx? f with
    | none => rfl
    | some i => simp only [Option.map_some]; rw [show j + (i + 1) = j + 1 + i by omega]
 have := key l.length 0 (by omega)
 rw [this, List.drop_zero]
 cases l.findIdx? f with
 | none => rfl
 | some i => simp only [R9]
theorem sW {α : Type} (d : α) {l : List α} {i : Nat} (h : i < l.length) : l.take (i + 1) = l.take i ++ [l.getD i d] := by
 rw [List.take_succ_eq_append_getElem h, Re, Rf h]
 rfl
theorem eR {α : Type} (d : α) {l : List α} {i : Nat} (h : i < l.length) : l.getD i d ∈ l := by
 rw [Re, Rf h]
 exact Sb h
theorem o7 (l : List UInt8) : dh (ak l) = l.map fun c => (c.toNat : Int) := rfl
theorem sX (l : List UInt8) : Vm.strOf (l.map fun c => (c.toNat : Int)) = ak l := by
 rw [← o7, Kg]
theorem fm (a b : List UInt8) : ak a ++ ak b = ak (a ++ b) := by
 rw [← zt, J3, o7, o7, o7, Sm]
theorem fF (l k : List UInt8) : ((ak l).toList == (ak k).toList) = decide (l = k) := by
 rw [ki]
 simp only [eT]
def cW (c : UInt8) : Bool := decide (97 ≤ c.toNat) && decide (c.toNat ≤ 122)
def kB (l : List UInt8) : Prop := ∀ c ∈ l, cW c = true
theorem Mj (c : UInt8) : sE (c.toNat : Int) = some (cW c) := by
 unfold sE rC cW
 by_cases h : 97 ≤ c.toNat
 ·rw [bG, RL h]
  simp only [Bool.true_and, Ri, decide_eq_decide]
  omega
 ·rw [ct, RJ h, Bool.false_and]
theorem EG (l : List UInt8) (h : l.length ≤ 1000) : jQ (ak l) = some (ak (l.filter cW)) := by
 unfold jQ
 rw [dI (fun i => (((l.take i).filter cW).map (fun c => (c.toNat : Int)), (i : Int))) l.length ((l.filter cW).map fun c => (c.toNat : Int)) (fun i hi => by
   simp only [rh, rf, Rj]
   rw [bO, eS, bG, aO, aO, Mj, an, sW 0 hi, List.filter_append, Sm, az (n := (i : Int) + 1)]
   have hl : ((List.filter cW (List.take i l)).map fun c => (c.toNat : Int)).length ≤ 1000 := by
    rw [RF]
    exact RX (List.length_filter_le _ _) (by rw [Ro]; omega)
   by_cases hc : cW (l.getD i 0) = true
   ·rw [if_pos hc, dK, List.filter_cons_of_pos hc]
    rfl
   ·rw [if_neg hc, List.filter_cons_of_neg hc]
    simp) (by
   simp only [rh]
   rw [bO, b8, Sa]) (by simp)]
 rw [an, sX]
theorem D5 {l : List UInt8} (hl : kB l) (h : l.length ≤ 1000) : jQ (ak l) = some (ak l) := by
 rw [EG l h, List.filter_eq_self.2 hl]
def HF (l : List UInt8) : Prop := l ≠ [] ∧ kB l ∧ l.length ≤ 64
theorem sY {l : List UInt8} (h : HF l) : hC (ak l) = some true := by
 obtain ⟨h0, h1, h2⟩ := h
 unfold hC ol
 rw [show (mk #[]) = ak [] from rfl, fF, RJ h0, bX, if_pos (by rw [bO]; simp only [RI]; omega), D5 h1 (by omega), an, fF, RL rfl]
theorem zw {l : List ByteArray} (hn : l.length ≤ 1000) (h : ∀ i, i < l.length → hC (l.getD i mt) = some true) (h2 : ∀ i, i + 1 < l.length → Op.bytesLess (l.getD i mt).toList (l.getD (i + 1) mt).toList = true) : oM l = some true := by
 unfold oM
 rw [dI (fun i => (i : Int)) l.length (.inl ()) (fun i hi => by
   simp only [vk, nW]
   rw [Rj, bG, aO, aO, h i hi, an, b8]
   cases i with
   | zero => rw [b8, b8, az]; rfl
   | succ j =>
    rw [bG, az (n := ((j + 1 : Nat) : Int) - 1), aO, aO, show (((j + 1 : Nat) : Int) - 1).toNat = j by omega, h2 j hi, b8, az]
    rfl) (by
   simp only [vk]
   rw [b8]) (by simp)]
 rfl
theorem GF (l : List aE) (hn : l.length ≤ 1000) (s : ByteArray) : ma l s = some (match l.findIdx? (fun p => p.From.toList == s.toList) with | some i => (i : Int) | none => -1) := by
 unfold ma uo
 rw [Ac bT (fun p => p.From.toList == s.toList) l (fun i => ((i : Int), s)) (fun i => ((i : Int), s)) s (fun i hi => by
   simp only [qm, vA, aU, Rj]
   rw [bG, aO, aO, az (n := (i : Int) + 1)]
   rfl) (by
   simp only [qm]
   rw [b8])]
 cases l.findIdx? (fun p => p.From.toList == s.toList) <;> rfl
theorem Mk {l : List aE} (hn : l.length ≤ 1000) (h : ∀ i, i < l.length → hC (l.getD i bT).From = some true ∧ hC (l.getD i bT).To = some true ∧ l.findIdx? (fun p => p.From.toList == (l.getD i bT).To.toList) = none) (h2 : ∀ i, i + 1 < l.length → Op.bytesLess (l.getD i bT).From.toList (l.getD (i + 1) bT).From.toList = true) : iX l = some true := by
 unfold iX
 rw [dI (fun i => (i : Int)) l.length (.inl ()) (fun i hi => by
   obtain ⟨g1, g2, g3⟩ := h i hi
   simp only [vm, jM]
   rw [Rj, bG, aO, aO, g1, an, b8, g2, an, b8, GF l hn, g3]
   cases i with
   | zero =>
    rw [aV, an, aV, az]; rfl
   | succ j =>
    rw [bG, az (n := ((j + 1 : Nat) : Int) - 1), aO, aO, show (((j + 1 : Nat) : Int) - 1).toNat = j by omega, h2 j hi, b8, an, aV, az]
    rfl) (by
   simp only [vm]
   rw [b8]) (by simp)]
 rfl
def kK (s : ByteArray) (l : List ByteArray) : Bool := l.any fun x => decide (x = s)
theorem AS {s : ByteArray} {l : List ByteArray} : kK s l = true ↔ s ∈ l := by
 unfold kK
 simp only [List.any_eq_true, RI]
 exact ⟨fun ⟨x, h, e⟩ => e ▸ h, fun h => ⟨s, h, rfl⟩⟩
theorem w6 {s : ByteArray} {l : List ByteArray} (h : s ∉ l) : kK s l = false := by
 cases hb : kK s l with
 | false => rfl
 | true => exact absurd (AS.1 hb) h
theorem Nr (l : List ByteArray) (hn : l.length ≤ 1000) (s : ByteArray) : qA l s = some (kK s l) := by
 unfold qA uG
 rw [Ac mt (fun x => s.toList == x.toList) l (fun i => (i : Int)) (fun i => (i : Int)) () (fun i hi => by
   simp only [uz, Rj]
   rw [bG, aO, aO, az (n := (i : Int) + 1)]
   rfl) (by
   simp only [uz]
   rw [b8])]
 cases hi : l.findIdx? (fun x => s.toList == x.toList) with
 | none =>
  have : s ∉ l := fun hm => by
   have := List.findIdx?_eq_none_iff.1 hi s hm
   rw [ki, RL rfl] at this
   cases this
  rw [w6 this]; rfl
 | some i =>
  obtain ⟨h1, h2, _⟩ := List.findIdx?_eq_some_iff_getElem.1 hi
  rw [ki, RI] at h2
  rw [AS.2 (show s ∈ l from h2 ▸ Sb h1)]
  show some (decide ((i : Int) ≥ 0)) = _
  rw [RL (by omega)]
theorem EH {r : aW} (hn : r.Titles.length ≤ 1000) (s : ByteArray) : oA r s = some (kK s r.Titles) := by
 unfold oA
 rw [Nr _ hn]
 rfl
def T2 : List ByteArray := [ak [100, 114], ak [118, 97, 110]]
def N2 : List aE := [⟨ak [97, 110, 110, 97], ak [97, 110, 110]⟩, ⟨ak [98, 111, 98], ak [114, 111, 98, 101, 114, 116]⟩]
def P2 : List aE := [⟨ak [114, 100], ak [114, 111, 97, 100]⟩, ⟨ak [115, 116], ak [115, 116, 114, 101, 101, 116]⟩]
structure cN (r : aW) : Prop where
 t : r.Titles = [] ∨ r.Titles = T2 ∨ r.Titles = [ak [100, 114]]
 n : r.Nicknames = [] ∨ r.Nicknames = N2
 s : r.Streets = [] ∨ r.Streets = P2
theorem cN.lt {r : aW} (h : cN r) : r.Titles.length ≤ 2 := by rcases h.t with e | e | e <;> rw [e] <;> decide
theorem cN.ln {r : aW} (h : cN r) : r.Nicknames.length ≤ 2 := by rcases h.n with e | e <;> rw [e] <;> decide
theorem cN.ls {r : aW} (h : cN r) : r.Streets.length ≤ 2 := by rcases h.s with e | e <;> rw [e] <;> decide
theorem tg (l : List UInt8) (h : (!l.isEmpty && l.all cW && decide (l.length ≤ 64)) = true) : HF l := by
 simp only [Rv, RI, Ru, Bool.not_eq_true'] at h
 refine ⟨?_, h.1.2, h.2⟩
 rintro rfl
 exact absurd h.1.1 (by decide)
theorem F3 (a b : List UInt8) : Op.bytesLess (ak a).toList (ak b).toList = Op.bytesLess a b := by
 rw [Go.ByteArray.toList_eq, Go.ByteArray.toList_eq, eS, eS]
theorem Ml {r : aW} (h : cN r) : oM r.Titles = some true := by
 rcases h.t with e | e | e <;> rw [e]
 ·exact zw (by decide) (fun i hi => absurd hi (RU _)) (fun i hi => absurd hi (RU _))
 ·refine zw (by decide) (fun i hi => ?_) (fun i hi => ?_)
  ·match i, hi with
   | 0, _ => exact sY (tg [100, 114] (by decide))
   | 1, _ => exact sY (tg [118, 97, 110] (by decide))
  ·match i, hi with
   | 0, _ => show Op.bytesLess (ak [100, 114]).toList (ak [118, 97, 110]).toList = true; rw [F3]; decide
 ·refine zw (by decide) (fun i hi => ?_) (fun i hi => absurd hi (by simp))
  match i, hi with
  | 0, _ => exact sY (tg [100, 114] (by decide))
theorem Ns (l : List (List UInt8 × List UInt8)) (s : List UInt8) : (l.map fun p => (⟨ak p.1, ak p.2⟩ : aE)).findIdx? (fun p => p.From.toList == (ak s).toList) = l.findIdx? (fun p => decide (p.1 = s)) := by
 rw [List.findIdx?_map]
 congr 1
 funext p
 exact fF _ _
def n2 : List (List UInt8 × List UInt8) := [([97, 110, 110, 97], [97, 110, 110]), ([98, 111, 98], [114, 111, 98, 101, 114, 116])]
def p2 : List (List UInt8 × List UInt8) := [([114, 100], [114, 111, 97, 100]), ([115, 116], [115, 116, 114, 101, 101, 116])]
def mI (l : List (List UInt8 × List UInt8)) : List aE := l.map fun p => ⟨ak p.1, ak p.2⟩
theorem wH {l : List (List UInt8 × List UInt8)} (h : l.all (fun p => !p.1.isEmpty && p.1.all cW && decide (p.1.length ≤ 64) && (!p.2.isEmpty && p.2.all cW && decide (p.2.length ≤ 64)) && (l.findIdx? (fun q => decide (q.1 = p.2))).isNone) = true) (hn : l.length ≤ 1000) (h2 : ∀ i, i + 1 < l.length → Op.bytesLess (l.getD i ([], [])).1 (l.getD (i + 1) ([], [])).1 = true) : iX (mI l) = some true := by
 have hg : ∀ i, (mI l).getD i bT = ⟨ak (l.getD i ([], [])).1, ak (l.getD i ([], [])).2⟩ := fun i => by
  unfold mI
  rw [Re, RO, Re]
  cases l[i]? <;> rfl
 refine Mk (by unfold mI; simpa using hn) (fun i hi => ?_) (fun i hi => ?_)
 ·rw [hg]
  have hi : i < l.length := by unfold mI at hi; simpa using hi
  have := Ru.1 h _ (eR ([], []) hi)
  simp only [Rv] at this
  refine ⟨sY (tg _ ?_), sY (tg _ ?_), ?_⟩
  ·simp only [Rv]; exact this.1.1
  ·simp only [Rv]; exact this.1.2
  ·unfold mI
   rw [Ns]
   exact Option.isNone_iff_eq_none.1 this.2
 ·rw [hg, hg, F3]
  exact h2 i (by unfold mI at hi; simpa using hi)
theorem Ov {r : aW} (h : cN r) : iX r.Nicknames = some true := by
 rcases h.n with e | e <;> rw [e]
 ·exact wH (l := []) (by decide) (by decide) (fun i hi => absurd hi (RU _))
 ·exact wH (l := n2) (by decide) (by decide) (fun i hi => by match i, hi with | 0, _ => decide)
theorem Mm {r : aW} (h : cN r) : iX r.Streets = some true := by
 rcases h.s with e | e <;> rw [e]
 ·exact wH (l := []) (by decide) (by decide) (fun i hi => absurd hi (RU _))
 ·exact wH (l := p2) (by decide) (by decide) (fun i hi => by match i, hi with | 0, _ => decide)
theorem D6 {r : aW} (h : cN r) {p : aE} (hp : p ∈ r.Nicknames) : p.To ∉ r.Titles := by
 rcases h.n with e | e <;> rw [e] at hp
 ·cases hp
 ·have hc : p = ⟨ak [97, 110, 110, 97], ak [97, 110, 110]⟩ ∨ p = ⟨ak [98, 111, 98], ak [114, 111, 98, 101, 114, 116]⟩ := by simpa [N2] using hp
  rcases h.t with e2 | e2 | e2 <;> rw [e2]
  ·exact RE
  ·unfold T2
   rcases hc with rfl | rfl <;> simp [eT]
  ·rcases hc with rfl | rfl <;> simp [eT]
theorem AT {r : aW} (h : cN r) : l8 r = some 0 := by
 have hlt := h.lt
 have hln := h.ln
 have hls := h.ls
 unfold l8 oo
 rw [ct, ct, ct, Ml h, an, aV, Ov h, an, aV, Mm h, an]
 unfold om ul un
 rw [aV, dI (fun i => ((i : Int), r.Titles, r.Nicknames, r.Streets)) r.Nicknames.length (.inl (r.Titles, r.Nicknames, r.Streets)) (fun i hi => by
   simp only [ql, vo, Rj]
   rw [bG, aO, aO, EH (show r.Titles.length ≤ 1000 by omega), w6 (D6 h (eR _ hi)), az (n := (i : Int) + 1)]
   rfl) (by
   simp only [ql]
   rw [b8]) (by simp)]
 rfl
def dq (l : List UInt8) : Prop := ∀ c ∈ l, 32 ≤ c.toNat ∧ c.toNat ≤ 126
theorem dq.ascii {l : List UInt8} (h : dq l) : ascii l := fun c hc => by have := h c hc; omega
theorem dq.get {l : List UInt8} (h : dq l) {i : Nat} (hi : i < l.length) : 32 ≤ (l.getD i 0).toNat ∧ (l.getD i 0).toNat ≤ 126 := h _ (eR 0 hi)
theorem GG {l : List UInt8} (h : dq l) {i : Nat} (hi : i < l.length) : pa (ak l) (i : Int) = some false := by
 have := h.get hi
 unfold pa lR
 rw [bO, eS, Rj, aO, aO, if_neg (by simp only [Sn]; omega)]
theorem Mn {l : List UInt8} (h : dq l) (hn : l.length ≤ 64) : sN (ak l) = some true := by
 unfold sN
 rw [dI (fun i => (i : Int)) l.length (.inl ()) (fun i hi => by
   have := h.get hi
   simp only [vp, rS, rT]
   rw [Rj, bO, eS, bG, GG h hi, an, aV, aO, aO, ct, ct, az]
   rfl) (by
   simp only [vp]
   rw [bO, b8]) (by simp)]
 show rU (ak l) = some true
 unfold rU
 rw [bO, RL (by omega)]
def bP (l : List UInt8) : List UInt8 := l.flatMap fun b => cT b.toNat
theorem Mo {b : UInt8} (h : b.toNat ≤ 126) : dq (cT b.toNat) := by
 intro c hc
 unfold cT at hc
 split at hc
 ·rename_i h1
  rw [Rn.1 hc]
  show 32 ≤ (UInt8.ofNat _).toNat ∧ (UInt8.ofNat _).toNat ≤ 126
  rw [UInt8.toNat_ofNat']
  omega
 ·split at hc
  ·rename_i h1
   rw [Rn.1 hc]
   show 32 ≤ (UInt8.ofNat _).toNat ∧ (UInt8.ofNat _).toNat ≤ 126
   rw [UInt8.toNat_ofNat']
   omega
  ·split at hc
   ·cases hc
   ·rw [Rn.1 hc]
    decide
theorem wI {l : List UInt8} (h : dq l) : dq (bP l) := by
 intro c hc
 obtain ⟨b, hb, hc⟩ := List.mem_flatMap.1 hc
 exact Mo (h b hb).2 c hc
theorem Mp (b : Nat) : (cT b).length ≤ 1 := by
 unfold cT
 repeat' split
 all_goals simp
theorem wJ (l : List UInt8) : (bP l).length ≤ l.length := by
 induction l with
 | nil => simp [bP]
 | cons b l ih =>
  have := Mp b.toNat
  unfold bP at ih ⊢
  rw [List.flatMap_cons, Rl, Rk]
  omega
theorem GH {l : List UInt8} (h : ascii l) : iu (ak l) = (cg l).map ak := by
 unfold iu
 rw [show pV = (fun x => x == 32) from rfl, Mc _ (by rw [eS]; exact h), eS]
theorem wh {l : List UInt8} (h : ascii l) (hn : l.length ≤ 1000000) : jS (ak l) = some ((cg l).map ak) := by
 unfold jS
 rw [bO, aO, GH h]
theorem Nt (l : List (List UInt8)) : pU (l.map ak) (mk #[32]) = ak (bM l) := by
 unfold pU
 rw [List.map_map, show ((fun x : ByteArray => x.data.toList) ∘ ak) = id from rfl, List.map_id, show (mk #[32]).data.toList = [32] from rfl, ED]
 rfl
theorem AU {l : List (List UInt8)} (hn : l.length ≤ 1000000) (h : (bM l).length ≤ 1000000) : iZ (l.map ak) = some (ak (bM l)) := by
 unfold iZ strings_Join
 rw [Nt, if_pos (by rw [RF, bO]; omega)]
 rfl
theorem F4 : ∀ (l : List UInt8) (st : List (List UInt8) × List UInt8), ((eK (l.foldl cU st)).map fun x => x.length + 1).sum ≤ (st.1.map fun x => x.length + 1).sum + st.2.length + l.length + 1
 | [], st => by
  unfold eK
  rw [List.foldl_nil]
  split
  ·simp only [Rm]; omega
  ·simp only [Sm, List.sum_append, Sq, List.map_nil, Sr, List.sum_nil, Rm]; omega
 | c :: l, st => by
  rw [Sp]
  refine RX (F4 l _) ?_
  unfold cU
  split
  ·split
   ·simp only [Rk]; omega
   ·simp only [Sm, List.sum_append, Sq, List.map_nil, Sr, List.sum_nil, Rk, Rm]; omega
  ·simp only [Rl, Rk, Rm]; omega
theorem wi (l : List UInt8) : ((cg l).map fun x => x.length + 1).sum ≤ l.length + 1 := by
 have := F4 l ([], [])
 simpa [cg] using this
theorem w7 (l : List (List UInt8)) : l.length ≤ (l.map fun x => x.length + 1).sum := by
 induction l with
 | nil => simp
 | cons x l ih => simp only [Rk, Sq, Sr]; omega
theorem Ow {l : List (List UInt8)} {w : List UInt8} (h : w ∈ l) : w.length + 1 ≤ (l.map fun x => x.length + 1).sum := by
 induction l with
 | nil => cases h
 | cons x l ih =>
  rw [Sq, Sr]
  rcases Ry.1 h with rfl | h
  ·omega
  ·have := ih h; omega
theorem j8 (l : List (List UInt8)) : (bM l).length ≤ (l.map fun x => x.length + 1).sum := by
 by_cases h : l = []
 ·subst h; simp [bM]
 ·have := E6 h
  omega
theorem AX {l : List UInt8} (h : dq l) (hn : l.length ≤ 64) : mc (ak l) = some (ak (bM (cg (bP l))), 0) := by
 have h1 := wi (bP l)
 have h2 := wJ l
 have h3 := w7 (cg (bP l))
 have h4 := j8 (cg (bP l))
 unfold mc uP
 rw [Mn h hn, an, an, if_pos ⟨by rw [bO]; omega, fun i hi => by rw [bO] at hi; rw [eS]; have := h.get hi; omega, fun i hi => GG h (by rw [bO] at hi; exact hi)⟩, if_pos rfl]
 rw [show gF (ak l) = ak (bP l) by
  unfold gF eG bP ak
  rw [show (ByteArray.mk l.toArray).size = l.length from rfl, Sa], GH (wI h).ascii, AU (by omega) (by omega)]
 rfl
theorem sZ {c : UInt8} (h : cW c = true) : cT c.toNat = [c] := by
 unfold cW at h
 simp only [Rv, RI] at h
 unfold cT
 rw [t8, aO]
 show [UInt8.ofNat c.toNat] = [c]
 rw [UInt8.ofNat_toNat]
theorem pc {c : UInt8} (h : cW c = true) : 32 ≤ c.toNat ∧ c.toNat ≤ 126 := by
 unfold cW at h
 simp only [Rv, RI] at h
 omega
def Bj (c : UInt8) : Prop := cT c.toNat = [c]
theorem E8 {l : List UInt8} (h : ∀ c ∈ l, Bj c) : bP l = l := by
 induction l with
 | nil => rfl
 | cons c l ih =>
  unfold bP at ih ⊢
  rw [List.flatMap_cons, h c Rw, ih fun x hx => h x (Rx _ hx)]
  rfl
noncomputable def pW (l : List aE) (t : List UInt8) : List UInt8 := match l.findIdx? (fun p => p.From.toList == (ak t).toList) with
 | some i => (l.getD i bT).To.data.toList
 | none => t
noncomputable def gK (r : aW) (t : List UInt8) : List UInt8 := pW r.Nicknames t
theorem Kl {r : aW} (h : r.Nicknames.length ≤ 1000) (t : List UInt8) : rD r (ak t) = some (ak (gK r t)) := by
 unfold rD gK pW
 rw [GF _ h, an]
 cases hf : r.Nicknames.findIdx? (fun p => p.From.toList == (ak t).toList) with
 | none => rfl
 | some i =>
  have := (List.findIdx?_eq_some_iff_getElem.1 hf).1
  simp only
  rw [bG, aO, aO, Rj, AQ]
noncomputable def gk (r : aW) (w : List UInt8) : Option (List UInt8) := if w.filter cW = [] then none else if kK (ak (w.filter cW)) r.Titles = true then none else some (gK r (w.filter cW))
noncomputable def dy (r : aW) (ws : List (List UInt8)) : List (List UInt8) := ws.filterMap (gk r)
theorem Ox {r : aW} (hr : cN r) (ws : List (List UInt8)) (hw : ws.length ≤ 1000) (hl : ∀ w ∈ ws, w.length ≤ 1000) : loop (fun v : (List ByteArray) × Int => no r (ws.map ak) v.1 v.2) (([] : am), 0) = some ((dy r ws).map ak) := by
 refine dI (fun i => ((dy r (ws.take i)).map ak, (i : Int))) ws.length _ (fun i hi => ?_) ?_ (by simp [dy])
 ·have hg : (ws.map ak).getD (0 + (i : Int).toNat) mt = ak (ws.getD i []) := by
   rw [R9, Rj, Re, RO, Re]
   cases ws[i]? <;> rfl
  have hk : ((dy r (ws.take i)).map ak).length ≤ 1000 := by
   rw [RF]
   exact RX (List.length_filterMap_le _ _) (by rw [Ro]; omega)
  have e : dy r (ws.take (i + 1)) = dy r (ws.take i) ++ (gk r (ws.getD i [])).toList := by
   rw [sW [] hi]
   unfold dy
   rw [List.filterMap_append, List.filterMap_cons]
   cases gk r (ws.getD i []) <;> rfl
  simp only [no, qO, qP]
  rw [RF, bG, aO, aO, hg, EG _ (hl _ (eR [] hi)), an, e, az (n := (i : Int) + 1), show (mk #[]) = ak [] from rfl, fF, EH (by have := hr.lt; omega), Kl (by have := hr.ln; omega)]
  unfold gk
  by_cases h1 : (ws.getD i []).filter cW = []
  ·rw [if_pos h1, RL h1, aV, aV]
   simp
  ·rw [if_neg h1, RJ h1, bX, an]
   cases hb : kK (ak ((ws.getD i []).filter cW)) r.Titles with
   | true => simp
   | false =>
    rw [bX, an, dK, aV]
    simp
 ·simp only [no]
  rw [RF, b8, Sa]
theorem Hq {r : aW} (hr : cN r) {l : List UInt8} (h : dq l) (hn : l.length ≤ 64) (h6 : (dy r (cg (bP l))).length ≤ 6) (h64 : (bM (dy r (cg (bP l)))).length ≤ 64) : jK r (ak l) = some (ak (bM (dy r (cg (bP l)))), 0) := by
 have h1 := wi (bP l)
 have h2 := wJ l
 have h3 := w7 (cg (bP l))
 have h4 := j8 (cg (bP l))
 have ha : ascii (bM (cg (bP l))) := iY (p := fun c => c.toNat < 128) (by decide) fun x hx c hc => zu (p := fun c => c.toNat < 128) (fun c hc => (wI h).ascii c hc) x hx c hc
 unfold jK
 rw [AT hr, an, aV, AX h hn, aU, aV, wh ha (by omega), an, jY (zX _)]
 rw [Ox hr _ (by omega) (fun w hw => ?_), an, AU (by omega) (by omega), an]
 ·unfold qQ
  rw [RF, bO, ct, ct]
 ·have := Ow hw
  omega
def tw (w : List UInt8) : Prop := w ≠ [] ∧ kB w ∧ w.length ≤ 8
theorem gA (l : List UInt8) (h : (!l.isEmpty && l.all cW && decide (l.length ≤ 8)) = true) : tw l := by
 simp only [Rv, RI, Ru, Bool.not_eq_true'] at h
 refine ⟨?_, h.1.2, h.2⟩
 rintro rfl
 exact absurd h.1.1 (by decide)
theorem tw.space {w : List UInt8} (h : tw w) : (32 : UInt8) ∉ w := fun hm => absurd (h.2.1 _ hm) (by decide)
theorem Q8 {l : List (List UInt8)} (h : ∀ w ∈ l, tw w) : okW l := fun w hw => ⟨(h w hw).1, (h w hw).space⟩
theorem BG (a b c d t : List UInt8) : ([⟨ak a, ak b⟩, ⟨ak c, ak d⟩] : List aE).findIdx? (fun p => p.From.toList == (ak t).toList) = if a = t then some 0 else if c = t then some 1 else none := by
 simp only [List.findIdx?_cons, List.findIdx?_nil, fF, Option.map_none]
 by_cases h1 : a = t
 ·simp [h1]
 ·by_cases h2 : c = t
  ·simp [h1, h2]
  ·simp [h1, h2]
theorem G8 (a b c d t : List UInt8) : pW [⟨ak a, ak b⟩, ⟨ak c, ak d⟩] t = if a = t then b else if c = t then d else t := by
 unfold pW
 rw [BG]
 by_cases h1 : a = t
 ·rw [if_pos h1, if_pos h1]; rfl
 ·rw [if_neg h1, if_neg h1]
  by_cases h2 : c = t
  ·rw [if_pos h2, if_pos h2]; rfl
  ·rw [if_neg h2, if_neg h2]
theorem Lq {r : aW} (h : cN r) (w : List UInt8) : gK r w = w ∧ (r.Nicknames.findIdx? (fun p => p.From.toList == (ak w).toList) = none) ∨ ∃ p ∈ r.Nicknames, gK r w = p.To.data.toList ∧ tw (gK r w) ∧ r.Nicknames.findIdx? (fun q => q.From.toList == (ak (gK r w)).toList) = none := by
 unfold gK
 rcases h.n with e | e <;> rw [e]
 ·exact .inl ⟨rfl, rfl⟩
 ·unfold N2
  rw [G8, BG, BG]
  by_cases h1 : ([97, 110, 110, 97] : List UInt8) = w
  ·rw [if_pos h1]
   exact .inr ⟨_, Rw, rfl, gA _ (by decide), by decide⟩
  ·rw [if_neg h1]
   by_cases h2 : ([98, 111, 98] : List UInt8) = w
   ·rw [if_pos h2]
    exact .inr ⟨_, Rx _ Rw, rfl, gA _ (by decide), by decide⟩
   ·rw [if_neg h2, if_neg h1, if_neg h2]
    exact .inl ⟨rfl, rfl⟩
def xz (r : aW) (w : List UInt8) : Prop := tw w ∧ gk r w = some w
theorem tw.filter {w : List UInt8} (h : tw w) : w.filter cW = w := List.filter_eq_self.2 h.2.1
theorem Oy {r : aW} {w : List UInt8} (h : r.Nicknames.findIdx? (fun p => p.From.toList == (ak w).toList) = none) : gK r w = w := by
 unfold gK pW
 rw [h]
theorem Bl {r : aW} (hr : cN r) {ws : List (List UInt8)} (h : ∀ w ∈ ws, tw w) : ∀ x ∈ dy r ws, xz r x := by
 intro x hx
 obtain ⟨w, hw, e⟩ := List.mem_filterMap.1 hx
 have ht := h w hw
 unfold gk at e
 rw [ht.filter, if_neg ht.1] at e
 split at e
 ·cases e
 ·rename_i hb
  obtain rfl := ay e
  rcases Lq hr w with ⟨e1, e2⟩ | ⟨p, hp, e1, e2, e3⟩
  ·rw [e1]
   refine ⟨ht, ?_⟩
   unfold gk
   rw [ht.filter, if_neg ht.1, if_neg hb, e1]
  ·refine ⟨e2, ?_⟩
   have hn := D6 hr hp
   rw [show p.To = ak (gK r w) by rw [e1, AQ]] at hn
   unfold gk
   rw [e2.filter, if_neg e2.1, w6 hn, aV, Oy e3]
theorem AY {r : aW} {ws : List (List UInt8)} (h : ∀ w ∈ ws, xz r w) : dy r ws = ws := by
 unfold dy
 induction ws with
 | nil => rfl
 | cons w ws ih => rw [List.filterMap_cons, (h w Rw).2, ih fun x hx => h x (Rx _ hx)]
theorem Bm {l : List (List UInt8)} (h : ∀ w ∈ l, tw w) : (l.map fun x => x.length + 1).sum ≤ 9 * l.length := by
 induction l with
 | nil => simp
 | cons x l ih =>
  have := ih fun y hy => h y (Rx _ hy)
  have := (h x Rw).2.2
  simp only [Sq, Sr, Rk]
  omega
theorem zx {l : List (List UInt8)} (h : ∀ w ∈ l, ∀ c ∈ w, Bj c) : bP (bM l) = bM l := E8 (iY (p := Bj) (show cT 32 = [32] from rfl) h)
theorem F5 {l : List (List UInt8)} (h : ∀ w ∈ l, tw w) : dq (bM l) := iY (p := fun c => 32 ≤ c.toNat ∧ c.toNat ≤ 126) (by decide) fun w hw c hc => pc ((h w hw).2.1 c hc)
theorem Nu {r : aW} (hr : cN r) {ws : List (List UInt8)} (h : ∀ w ∈ ws, xz r w) (hl : ws.length ≤ 6) : sG r (ak (bM ws)) = some true := by
 have ht : ∀ w ∈ ws, tw w := fun w hw => (h w hw).1
 have e1 : cg (bP (bM ws)) = ws := by rw [zx fun w hw c hc => sZ ((ht w hw).2.1 c hc), jY (Q8 ht)]
 have h1 := Bm ht
 have h2 := j8 ws
 have := Hq hr (F5 ht) (by omega) (by rw [e1, AY h]; exact hl) (by rw [e1, AY h]; omega)
 unfold sG rG
 rw [this, aU, bX, fF, e1, AY h, RL rfl]
theorem GI {r : aW} (hr : cN r) {l : List UInt8} (h : dq l) (hn : l.length ≤ 64) {ws : List (List UInt8)} (e : cg (bP l) = ws) (hw : ∀ w ∈ ws, tw w) (h6 : ws.length ≤ 6) : jK r (ak l) = some (ak (bM (dy r ws)), 0) := by
 have hf := Bl hr hw
 have h1 := Bm fun w hw => (hf w hw).1
 have h2 := j8 (dy r ws)
 have h3 : (dy r ws).length ≤ ws.length := List.length_filterMap_le _ _
 have := Hq hr h hn (by rw [e]; omega) (by rw [e]; omega)
 rw [e] at this
 exact this
noncomputable def dR (r : aW) (t : List UInt8) : List UInt8 := pW r.Streets t
theorem w8 {r : aW} (h : cN r) {w : List UInt8} (hw : tw w) : tw (dR r w) ∧ dR r (dR r w) = dR r w := by
 unfold dR
 rcases h.s with e | e <;> rw [e]
 ·exact ⟨hw, rfl⟩
 ·unfold P2
  simp only [G8]
  by_cases h1 : ([114, 100] : List UInt8) = w
  ·rw [if_pos h1]
   exact ⟨gA _ (by decide), by decide⟩
  ·rw [if_neg h1]
   by_cases h2 : ([115, 116] : List UInt8) = w
   ·rw [if_pos h2]
    exact ⟨gA _ (by decide), by decide⟩
   ·rw [if_neg h2, if_neg h1, if_neg h2]
    exact ⟨hw, rfl⟩
theorem Nv (l : List aE) (hn : l.length ≤ 1000) (s : ByteArray) : qh l s = some ((match l.findIdx? (fun p => p.From.toList == s.toList) with | some i => (i : Int) | none => -1), s) := by
 unfold qh
 rw [Ac bT (fun p => p.From.toList == s.toList) l (fun i => ((i : Int), s)) (fun i => ((i : Int), s)) s (fun i hi => by
   simp only [qg, uC, aU, Rj]
   rw [bG, aO, aO, az (n := (i : Int) + 1)]
   rfl) (by
   simp only [qg]
   rw [b8])]
 cases l.findIdx? (fun p => p.From.toList == s.toList) <;> rfl
theorem EI {l : List UInt8} (h : l ≠ []) : iM (ak l) = some (decide (48 ≤ (l.getD 0 0).toNat) && decide ((l.getD 0 0).toNat ≤ 57)) := by
 have hl : 0 < l.length := List.length_pos_iff.2 h
 unfold iM ni
 rw [show (mk #[]) = ak [] from rfl, fF, RJ h, bX, bO, eS, aO]
 by_cases h1 : 48 ≤ (l.getD 0 0).toNat
 ·rw [bG, RL h1]
  simp only [Bool.true_and, Ri, decide_eq_decide]
  omega
 ·rw [ct, RJ h1, Bool.false_and]
theorem zy {w : List UInt8} (h : tw w) : iM (ak w) = some false := by
 have hl : 0 < w.length := List.length_pos_iff.2 h.1
 have := h.2.1 _ (eR 0 hl)
 unfold cW at this
 simp only [Rv, RI] at this
 rw [EI h.1, RJ (p := (w.getD 0 0).toNat ≤ 57) (by omega), Bool.and_false]
theorem vR : iM (ak [49, 50]) = some true := by
 rw [EI (by decide)]
 rfl
theorem Nw : rY (ak [49, 50]) = some (ak [49, 50]) := by
 unfold rY uS qE qD uD
 rw [show (mk #[]) = ak [] from rfl, show (mk #[48]) = ak [48] from rfl, fF, fF, aV, aV, bX, bX, bX, bX, dm (t := ak [49, 50])]
 ·simp only [an]
  rw [vR, an, aV]
 ·simp only [xY, qy]
  rw [bX, bX, aV]
def Ce (r : aW) (w : List UInt8) (o : List UInt8) : Prop := w = [49, 50] ∧ o = w ∨ tw w ∧ o = dR r w
theorem GJ {r : aW} (hr : cN r) (y x : List ByteArray) (i : Nat) (hi : i < y.length) (hx : i < x.length) (hl : y.length ≤ 1000) {w o : List UInt8} (hw : x.getD i mt = ak w) (ho : Ce r w o) : na r y x (i : Int) = some (.inl (x.set i (ak o), ((i + 1 : Nat) : Int))) := by
 simp only [na, m9]
 rw [Rj, R9, hw, bG, aO, aO, Nv _ (by have := hr.ls; omega), aU, az (n := (i : Int) + 1)]
 rcases ho with ⟨rfl, rfl⟩ | ⟨ht, rfl⟩
 ·rw [vR, an, if_pos rfl, Nw, an]
  rfl
 ·rw [zy ht, an, aV]
  unfold dR pW
  cases hf : r.Streets.findIdx? (fun p => p.From.toList == (ak w).toList) with
  | none =>
   rw [aV]
   have : x.set i (ak w) = x := by
    rw [← hw]
    apply List.ext_getElem?
    intro k
    rw [Se]
    split
    ·rename_i hk
     subst hk
     first
     | rw [Re, Rf hx]; rfl
     | rw [if_pos hx, Re, Rf hx]; rfl
    ·rfl
   simp only [this]
   rfl
  | some k =>
   have := (List.findIdx?_eq_some_iff_getElem.1 hf).1
   simp only
   rw [bG, aO, aO, Rj, AQ]
   rfl
theorem GK {r : aW} (hr : cN r) {a b a' b' : List UInt8} (ha : Ce r a a') (hb : Ce r b b') : loop (fun v : (List ByteArray) × Int => na r [ak a, ak b] v.1 v.2) ([ak a, ak b], 0) = some [ak a', ak b'] := by
 rw [dH (s' := ([ak a', ak b], 1)) (GJ hr [ak a, ak b] [ak a, ak b] 0 (Nat.zero_lt_succ _) (Nat.zero_lt_succ _) (show 2 ≤ 1000 by decide) rfl ha), dH (s' := ([ak a', ak b'], 2)) (GJ hr [ak a, ak b] [ak a', ak b] 1 (show 1 < 2 by decide) (show 1 < 2 by decide) (show 2 ≤ 1000 by decide) rfl hb)]
 exact dm rfl
theorem GL {w : List UInt8} (h : tw w) (b : Bool) : kQ (if b = true then [ak [49, 50], ak w] else [ak w, ak [49, 50]]) = some ([ak [49, 50]], [ak w]) := by
 have e2 : ∀ x y z, iC x y z 2 = some (.inr (y, z)) ∨ 3 ≤ x.length := fun x y z => by
  by_cases hx : 3 ≤ x.length
  ·exact .inr hx
  ·left
   simp only [iC]
   rw [ct]
 unfold kQ
 cases b with
 | true =>
  rw [if_pos rfl, dH (s' := ([ak [49, 50]], [], 1)), dH (s' := ([ak [49, 50]], [ak w], 2)), dm ((e2 _ _ _).resolve_right (by simp))]
  ·rfl
  ·simp only [iC, iB]
   rw [if_pos (by simp), bX, if_pos (by simp), show ([ak [49, 50], ak w] : am).getD (1 : Int).toNat mt = ak w from rfl, zy h]
   rfl
  ·simp only [iC, iB]
   rw [if_pos (by simp), bX, if_pos (by simp), show ([ak [49, 50], ak w] : am).getD (0 : Int).toNat mt = ak [49, 50] from rfl, vR]
   rfl
 | false =>
  rw [aV, dH (s' := ([], [ak w], 1)), dH (s' := ([ak [49, 50]], [ak w], 2)), dm ((e2 _ _ _).resolve_right (by simp))]
  ·rfl
  ·simp only [iC, iB]
   rw [if_pos (by simp), bX, if_pos (by simp), show ([ak w, ak [49, 50]] : am).getD (1 : Int).toNat mt = ak [49, 50] from rfl, vR]
   rfl
  ·simp only [iC, iB]
   rw [if_pos (by simp), bX, if_pos (by simp), show ([ak w, ak [49, 50]] : am).getD (0 : Int).toNat mt = ak w from rfl, zy h]
   rfl
theorem BH {r : aW} (hr : cN r) {l w : List UInt8} (h : dq l) (hn : l.length ≤ 64) (hw : tw w) (b : Bool) (e : cg (bP l) = if b = true then [[49, 50], w] else [w, [49, 50]]) : iH r (ak l) = some (ak (bM [dR r w, [49, 50]]), 0) := by
 have h1 := wi (bP l)
 have h2 := wJ l
 have h3 := w7 (cg (bP l))
 have h4 := j8 (cg (bP l))
 have ha : ascii (bM (cg (bP l))) := iY (p := fun c => c.toNat < 128) (by decide) fun x hx c hc => zu (p := fun c => c.toNat < 128) (fun c hc => (wI h).ascii c hc) x hx c hc
 obtain ⟨hs, _⟩ := w8 hr hw
 have hj : (bM [dR r w, [49, 50]]).length ≤ 64 := by
  have := hs.2.2
  simp only [bM, Rl, Rk, Rm]
  omega
 unfold iH
 rw [AT hr, an, aV, AX h hn, aU, aV, wh ha (by omega), an, jY (zX _), e]
 have key : ∀ x30 : List ByteArray, x30.length = 2 → kQ x30 = some ([ak [49, 50]], [ak (dR r w)]) → (aF (kQ x30) fun y31 y32 => (if y32.length + y31.length ≤ 1099511627776 then ((iZ (y32 ++ y31)).bind fun y35 => (if (decide ((x30.length : Int) > 6)) = true then (li y35 true) else (li y35 (decide ((y35.size : Int) > 64))))) else none)) = some (ak (bM [dR r w, [49, 50]]), 0) := by
  intro x hx hp
  rw [hp, aU, if_pos (by simp), show ([ak (dR r w)] ++ [ak [49, 50]] : am) = [dR r w, [49, 50]].map ak from rfl, AU (by simp) (by omega), an, hx, aV, bO]
  unfold li
  rw [ct]
 cases b with
 | true =>
  rw [if_pos rfl, show ([[49, 50], w] : List (List UInt8)).map ak = [ak [49, 50], ak w] from rfl, GK hr (.inl ⟨rfl, rfl⟩) (.inr ⟨hw, rfl⟩), an]
  exact key _ rfl (GL hs true)
 | false =>
  rw [aV, show ([w, [49, 50]] : List (List UInt8)).map ak = [ak w, ak [49, 50]] from rfl, GK hr (.inr ⟨hw, rfl⟩) (.inl ⟨rfl, rfl⟩), an]
  exact key _ rfl (GL hs false)
theorem E9 {w : List UInt8} (hw : tw w) : cg (bP (bM [w, [49, 50]])) = [w, [49, 50]] := by
 rw [zx fun x hx c hc => ?_, jY fun x hx => ?_]
 ·rcases Ry.1 hx with rfl | hx
  ·exact ⟨hw.1, hw.space⟩
  ·rw [Rn.1 hx]; decide
 ·rcases Ry.1 hx with rfl | hx
  ·exact sZ (hw.2.1 c hc)
  ·rw [Rn.1 hx] at hc
   have : c = 49 ∨ c = 50 := by simpa using hc
   rcases this with rfl | rfl <;> exact rfl
theorem Mq {w : List UInt8} (hw : tw w) : cg (bP ([49, 50, 44, 32] ++ w)) = [[49, 50], w] := by
 have e : bP ([49, 50, 44, 32] ++ w) = [49, 50, 32, 32] ++ w := by
  unfold bP
  rw [List.flatMap_append]
  exact congrArg ([49, 50, 32, 32] ++ ·) (E8 fun c hc => sZ (hw.2.1 c hc))
 rw [e]
 unfold cg
 rw [Sk, show List.foldl cU ([], []) ([49, 50, 32, 32] : List UInt8) = ([[49, 50]], []) from rfl, zW w hw.space]
 unfold eK
 rw [R8, if_neg hw.1]
 rfl
theorem Bn {w : List UInt8} (hw : tw w) : dq (bM [w, [49, 50]]) ∧ dq ([49, 50, 44, 32] ++ w) := by
 constructor
 ·refine iY (p := fun c => 32 ≤ c.toNat ∧ c.toNat ≤ 126) (by decide) fun x hx c hc => ?_
  rcases Ry.1 hx with rfl | hx
  ·exact pc (hw.2.1 c hc)
  ·rw [Rn.1 hx] at hc
   have : c = 49 ∨ c = 50 := by simpa using hc
   rcases this with rfl | rfl <;> decide
 ·intro c hc
  rcases Rz.1 hc with hc | hc
  ·have : c = 49 ∨ c = 50 ∨ c = 44 ∨ c = 32 := by simpa using hc
   rcases this with rfl | rfl | rfl | rfl <;> decide
  ·exact pc (hw.2.1 c hc)
theorem Bo {w : List UInt8} (hw : tw w) : (bM [w, [49, 50]]).length ≤ 12 := by
 have := hw.2.2
 simp only [bM, Rl, Rk, Rm]
 omega
theorem Oz {r : aW} (hr : cN r) {w : List UInt8} (hw : tw w) : iH r (ak (w ++ [32, 49, 50])) = some (ak (bM [dR r w, [49, 50]]), 0) ∧ iH r (ak ([49, 50, 44, 32] ++ w)) = some (ak (bM [dR r w, [49, 50]]), 0) := by
 have := hw.2.2
 have := Bo hw
 exact ⟨BH hr (l := bM [w, [49, 50]]) (Bn hw).1 (by omega) hw false (E9 hw), BH hr (Bn hw).2 (by simp only [Rl, Rk, Rm]; omega) hw true (Mq hw)⟩
theorem Mr {r : aW} (hr : cN r) {w : List UInt8} (hw : tw w) : rI r (ak (bM [dR r w, [49, 50]])) = some true := by
 obtain ⟨h1, h2⟩ := w8 hr hw
 have := Bo h1
 unfold rI qS
 rw [BH hr (Bn h1).1 (by omega) h1 false (E9 h1), aU, bX, h2, fF, RL rfl]
theorem AZ {l o : List UInt8} (h : (l.all (fun c => decide (32 ≤ c.toNat) && decide (c.toNat ≤ 126)) && decide (l.length ≤ 64) && decide ((cg (bP l)).flatten = o) && decide (o.length ≤ 12)) = true) : iR (ak l) = some (ak o, 0) := by
 simp only [Rv, RI, Ru] at h
 obtain ⟨⟨⟨h0, h1⟩, h2⟩, h3⟩ := h
 have k1 := wi (bP l)
 have k2 := wJ l
 have k3 := w7 (cg (bP l))
 have k4 := j8 (cg (bP l))
 have hp : dq l := h0
 have ha : ascii (bM (cg (bP l))) := iY (p := fun c => c.toNat < 128) (by decide) fun x hx c hc => zu (p := fun c => c.toNat < 128) (fun c hc => (wI hp).ascii c hc) x hx c hc
 have hj : pU ((cg (bP l)).map ak) (mk #[]) = ak o := by
  unfold pU
  rw [List.map_map, show ((fun x : ByteArray => x.data.toList) ∘ ak) = id from rfl, List.map_id, show (mk #[]).data.toList = [] from rfl, ← h2]
  have : ∀ k : List (List UInt8), Lib.join k [] = k.flatten := fun k => by
   match k with
   | [] => rfl
   | x :: k =>
    rw [Lib.join_cons, List.flatten_cons]
    congr 1
    induction k with
    | nil => rfl
    | cons y k ih => simp [Lib.joinTail] at ih ⊢; try simp [ih]
  rw [this]
  rfl
 unfold iR strings_Join
 rw [AX hp h1, aU, aV, wh ha (by omega), an, jY (zX _), hj, RF, if_pos ⟨by omega, by rw [bO]; omega⟩, an, bO, ct]
theorem Pl : iR (ak [97, 98, 32, 49, 50]) = some (ak [97, 98, 49, 50], 0) := AZ (by decide)
theorem Pm : iR (ak [65, 45, 66, 49, 50]) = some (ak [97, 98, 49, 50], 0) := AZ (by decide)
theorem KM : rH (ak [97, 98, 49, 50]) = some true := by
 unfold rH qR
 rw [AZ (l := [97, 98, 49, 50]) (o := [97, 98, 49, 50]) (by decide), aU, bX, fF, RL rfl]
theorem mJ {n : Int} (h0 : 0 ≤ n) (h1 : n < 256) : IntKind.u8.wrap n = n := by
 simp only [IntKind.wrap, IntKind.bits, IntKind.signed]
 simp
 omega
def d2 (n : Nat) : List UInt8 := [UInt8.ofNat (48 + n / 10), UInt8.ofNat (48 + n % 10)]
theorem gu {n : Nat} (h : n < 10) : (UInt8.ofNat (48 + n)).toNat = 48 + n := by
 rw [UInt8.toNat_ofNat']; omega
theorem w9 {n : Int} {k : Nat} (h : n = (k : Int)) (hk : k < 100) : jT n = some (ak (d2 k)) := by
 subst h
 unfold jT
 rw [fk (by omega), az (n := (k : Int) / 10), dJ (a := (k : Int) / 10) (by omega), dJ (a := (k : Int)) (by omega), az, az, mJ (by omega) (by omega), mJ (by omega) (by omega), ← sX]
 unfold d2
 rw [Sq, Sq, List.map_nil, gu (by omega), gu (by omega)]
 rw [show (48 + (k : Int) / 10 % 10) = ((48 + k / 10 : Nat) : Int) by omega, show (48 + (k : Int) % 10) = ((48 + k % 10 : Nat) : Int) by omega]
def fq (l : List UInt8) : Nat := l.foldl (fun a c => 10 * a + (c.toNat - 48)) 0
def kC (l : List UInt8) : Prop := ∀ c ∈ l, 48 ≤ c.toNat ∧ c.toNat ≤ 57
theorem xa {n : Nat} (h : n < 100) : kC (d2 n) := by
 intro c hc
 have : c = UInt8.ofNat (48 + n / 10) ∨ c = UInt8.ofNat (48 + n % 10) := by simpa [d2] using hc
 rcases this with rfl | rfl
 ·rw [gu (by omega)]; omega
 ·rw [gu (by omega)]; omega
theorem kC.app {a b : List UInt8} (ha : kC a) (hb : kC b) : kC (a ++ b) := fun c hc => (Rz.1 hc).elim (ha c) (hb c)
theorem F6 : ∀ (l : List UInt8) (a : Nat), kC l → l.foldl (fun a c => 10 * a + (c.toNat - 48)) a < (a + 1) * 10 ^ l.length
 | [], a, _ => by simp
 | c :: l, a, h => by
  have h1 := F6 l (10 * a + (c.toNat - 48)) fun x hx => h x (Rx _ hx)
  have h2 := h c Rw
  rw [Sp, Rk, Nat.pow_succ]
  refine RY h1 ?_
  rw [show (a + 1) * (10 ^ l.length * 10) = (10 * (a + 1)) * 10 ^ l.length by rw [Nat.mul_comm (10 ^ l.length) 10, ← Nat.mul_assoc, Nat.mul_comm (a + 1) 10]]
  exact RQ _ (by omega)
theorem OA {l : List UInt8} {k : Nat} (h : kC l) (hl : l.length ≤ k) : fq l < 10 ^ k := by
 have := F6 l 0 h
 rw [R9, Nat.one_mul] at this
 exact RY this (Nat.pow_le_pow_right (by decide) hl)
theorem Ms (l : List UInt8) (c : UInt8) : fq (l ++ [c]) = 10 * fq l + (c.toNat - 48) := by
 unfold fq
 rw [Sk]
 rfl
theorem Ad {l : List UInt8} (h : kC l) (hl : l.length ≤ 8) : lU (ak l) = some (fq l : Int) := by
 unfold lU
 rw [dI (fun i => ((fq (l.take i) : Int), (i : Int))) l.length (.inl (fq l : Int)) (fun i hi => by
   have hc := h _ (eR 0 hi)
   have h1 : fq (l.take i) < 10 ^ 8 := OA (fun c hc => h c (List.mem_of_mem_take hc)) (by rw [Ro]; omega)
   simp only [rF, rE]
   rw [bO, eS, Rj, bG, aO, aO, ct, ct, aO, aO, an, sW 0 hi, Ms, az (n := (i : Int) + 1), mJ (by omega) (by omega), az (n := 10 * (fq (l.take i) : Int)), az (n := ((l.getD i 0).toNat : Int) - 48), az]
   congr 4
   omega) (by
   simp only [rF]
   rw [bO, b8, Sa]) (by simp [fq])]
 rfl
theorem A1 {n : Nat} (h : n < 100) : fq (d2 n) = n := by
 unfold fq d2
 simp only [Sp, List.foldl_nil]
 rw [gu (by omega), gu (by omega)]
 omega
theorem Nx {n k : Nat} (h : n < 100) (hk : k < 100) : fq (d2 n ++ d2 k) = 100 * n + k := by
 have := A1 h
 unfold fq at this ⊢
 rw [Sk, this]
 unfold d2
 simp only [Sp, List.foldl_nil]
 rw [gu (by omega), gu (by omega)]
 omega
def gQ (c y m d : Nat) : cI := ⟨((100 * c + y : Nat) : Int), (m : Int), (d : Int)⟩
theorem G9 {c y m d : Nat} (hc : 18 ≤ c ∧ c ≤ 21) (hy : y < 100) (hm : 1 ≤ m ∧ m ≤ 12) (hd : 1 ≤ d ∧ d ≤ 28) : oT (gQ c y m d) = some true := by
 have hdays : ∃ k : Int, sT ((100 * c + y : Nat) : Int) (m : Int) = some k ∧ 28 ≤ k := by
  have hk : ∀ i : Nat, i < 12 → 28 ≤ ([31, 28, 31, 30, 31, 30, 31, 31, 30, 31, 30, 31] : List Int).getD i 0 ∧ ([31, 28, 31, 30, 31, 30, 31, 31, 30, 31, 30, 31] : List Int).getD i 0 ≤ 31 := by decide
  unfold sT sn sl
  have hm' : (((m : Int) - 1).toNat) < 12 := by omega
  have := hk _ hm'
  rw [az (n := (m : Int) - 1), aO, aO]
  by_cases h2 : ((m : Int) == 2) = true
  ·rw [if_pos h2]
   have : ∃ b, sS ((100 * c + y : Nat) : Int) = some b := by
    unfold sS oB
    split
    ·split <;> exact ⟨_, rfl⟩
    ·exact ⟨_, rfl⟩
   obtain ⟨b, hb⟩ := this
   rw [hb, an]
   cases b with
   | true =>
    rw [if_pos rfl, an, az]
    exact ⟨_, rfl, by omega⟩
   | false =>
    rw [aV]
    exact ⟨_, rfl, by omega⟩
  ·rw [if_neg h2, aV]
   exact ⟨_, rfl, by omega⟩
 obtain ⟨k, hk, hk2⟩ := hdays
 unfold oT iP gQ
 simp only
 rw [bG, bG, bG, bG, bG, hk, an, RL (by omega)]
theorem wV {c y m d : Nat} (hc : 18 ≤ c ∧ c ≤ 21) (hy : y < 100) (hm : 1 ≤ m ∧ m ≤ 12) (hd : 1 ≤ d ∧ d ≤ 28) {x1 x2 x3 : List UInt8} (h1 : x1 = d2 c ++ d2 y) (h2 : x2 = d2 m) (h3 : x3 = d2 d) : gt (ak x1) (ak x2) (ak x3) = some (gQ c y m d, 0) := by
 subst h1 h2 h3
 unfold gt
 rw [Ad ((xa (by omega)).app (xa hy)) (by simp [d2]), an, Ad (xa (by omega)) (by simp [d2]), an, Ad (xa (by omega)) (by simp [d2]), an, Nx (by omega) hy, A1 (by omega), A1 (by omega)]
 have := G9 hc hy hm hd
 unfold gQ at this
 rw [this, an, aV]
 rfl
theorem pw (l : List UInt8) (i j : Nat) : (ak l).extract i j = ak ((l.drop i).take (j - i)) := by
 rw [← zt, JJ, o7, o7, List.map_take, List.map_drop]
def wr (c y m d f : Nat) : List UInt8 := if f = 0 then d2 c ++ d2 y ++ [45] ++ d2 m ++ [45] ++ d2 d else if f = 1 then d2 d ++ [46] ++ d2 m ++ [46] ++ (d2 c ++ d2 y) else d2 m ++ [47] ++ d2 d ++ [47] ++ (d2 c ++ d2 y)
theorem OB (a b c d e f g h : UInt8) {R : cI} (hm : gt (ak [a, b, c, d]) (ak [e, f]) (ak [g, h]) = some (R, 0)) : hJ (ak [a, b, c, d, 45, e, f, 45, g, h]) = some (R, 0) := by
 unfold hJ lN
 simp only [pw, bO, eS, Rk, Rm, List.drop_succ_cons, List.drop_zero, List.take_succ_cons, List.take_zero]
 simp
 rw [hm]
 rfl
theorem OC (a b c d e f g h : UInt8) (hd : d.toNat ≠ 45) {R : cI} (hm : gt (ak [e, f, g, h]) (ak [c, d]) (ak [a, b]) = some (R, 0)) : hJ (ak [a, b, 46, c, d, 46, e, f, g, h]) = some (R, 0) := by
 unfold hJ lN oq
 simp only [pw, bO, eS, Rk, Rm, List.drop_succ_cons, List.drop_zero, List.take_succ_cons, List.take_zero]
 simp
 rw [t8, hm]
 rfl
theorem OD (a b c d e f g h : UInt8) (hd : d.toNat ≠ 45) {R : cI} (hm : gt (ak [e, f, g, h]) (ak [a, b]) (ak [c, d]) = some (R, 0)) : hJ (ak [a, b, 47, c, d, 47, e, f, g, h]) = some (R, 0) := by
 unfold hJ lN oq rW
 simp only [pw, bO, eS, Rk, Rm, List.drop_succ_cons, List.drop_zero, List.take_succ_cons, List.take_zero]
 simp
 rw [t8, hm]
 rfl
theorem Ny {c y m d : Nat} (hc : 18 ≤ c ∧ c ≤ 21) (hy : y < 100) (hm : 1 ≤ m ∧ m ≤ 12) (hd : 1 ≤ d ∧ d ≤ 28) (f : Nat) : hJ (ak (wr c y m d f)) = some (gQ c y m d, 0) := by
 have n45 : ∀ {n : Nat}, n < 10 → (UInt8.ofNat (48 + n)).toNat ≠ 45 := fun hn => by rw [gu hn]; omega
 unfold wr
 by_cases h0 : f = 0
 ·rw [if_pos h0]
  exact OB _ _ _ _ _ _ _ _ (wV hc hy hm hd rfl rfl rfl)
 ·rw [if_neg h0]
  by_cases h1 : f = 1
  ·rw [if_pos h1]
   exact OC _ _ _ _ _ _ _ _ (n45 (by omega)) (wV hc hy hm hd rfl rfl rfl)
  ·rw [if_neg h1]
   exact OD _ _ _ _ _ _ _ _ (n45 (by omega)) (wV hc hy hm hd rfl rfl rfl)
def fC (c y m d : Nat) : List UInt8 := d2 c ++ d2 y ++ d2 m ++ d2 d
theorem Bp {n : Nat} (h : n < 100) : eL (n : Int) 2 = (d2 n).map fun c => (c.toNat : Int) := by
 unfold d2
 simp only [eL, R8, List.cons_append, Sq, List.map_nil]
 rw [fk (by omega), az (n := (n : Int) / 10), dJ (a := (n : Int) / 10) (by omega), dJ (a := (n : Int)) (by omega), az, az, mJ (by omega) (by omega), mJ (by omega) (by omega), gu (by omega), gu (by omega)]
 rw [show (48 + (n : Int) / 10 % 10) = ((48 + n / 10 : Nat) : Int) by omega, show (48 + (n : Int) % 10) = ((48 + n % 10 : Nat) : Int) by omega]
theorem Pn {c y : Nat} (hc : 18 ≤ c ∧ c ≤ 21) (h : y < 100) : eL ((100 * c + y : Nat) : Int) 4 = (d2 c ++ d2 y).map fun c => (c.toNat : Int) := by
 have e : eL ((100 * c + y : Nat) : Int) 4 = eL (c : Int) 2 ++ (eL (y : Int) 2) := by
  simp only [eL, R8, List.cons_append]
  rw [fk (a := ((100 * c + y : Nat) : Int)) (by omega), az (n := ((100 * c + y : Nat) : Int) / 10), fk (a := ((100 * c + y : Nat) : Int) / 10) (by omega), az (n := ((100 * c + y : Nat) : Int) / 10 / 10), show ((100 * c + y : Nat) : Int) / 10 / 10 = (c : Int) by omega, dJ (a := ((100 * c + y : Nat) : Int)) (by omega), dJ (a := ((100 * c + y : Nat) : Int) / 10) (by omega), fk (a := (y : Int)) (by omega), az (n := (y : Int) / 10), dJ (a := (y : Int) / 10) (by omega), dJ (a := (y : Int)) (by omega), show ((100 * c + y : Nat) : Int) / 10 % 10 = (y : Int) / 10 % 10 by omega, show ((100 * c + y : Nat) : Int) % 10 = (y : Int) % 10 by omega]
 rw [e, Sm, ← Bp h, ← Bp (n := c) (by omega)]
theorem PW {c y : Nat} (hc : 18 ≤ c ∧ c ≤ 21) (h : y < 100) : vB ((100 * c + y : Nat) : Int) 4 = some ((d2 c ++ d2 y).map fun c => (c.toNat : Int)) := by
 unfold vB jR
 rw [bX, ← Pn hc h]
 rfl
theorem Hr {n : Nat} (h : n < 100) (l : List UInt8) (hl : l.length ≤ 100) : jR (l.map fun c => (c.toNat : Int)) (n : Int) 2 = some ((l ++ d2 n).map fun c => (c.toNat : Int)) := by
 unfold jR
 rw [if_pos ⟨by decide, by rw [RF]; exact hl⟩, Sm, ← Bp h]
 rfl
theorem Mt {c y m d : Nat} (hc : 18 ≤ c ∧ c ≤ 21) (hy : y < 100) (hm : 1 ≤ m ∧ m ≤ 12) (hd : 1 ≤ d ∧ d ≤ 28) : sF (gQ c y m d) = some (ak (fC c y m d), 0) := by
 have h := G9 hc hy hm hd
 unfold gQ at h ⊢
 unfold sF
 rw [h, an, aV, PW hc hy, an, Hr (by omega) _ (by simp [d2]), an, Hr (by omega) _ (by simp [d2]), an, sX]
 rfl
theorem Ha (r : aW) {c y m d : Nat} (hc : 18 ≤ c ∧ c ≤ 21) (hy : y < 100) (hm : 1 ≤ m ∧ m ≤ 12) (hd : 1 ≤ d ∧ d ≤ 28) (f : Nat) : oU r (ak (wr c y m d f)) = some (ak (fC c y m d), 0) := by
 unfold oU
 rw [Ny hc hy hm hd f, aU, aV, Mt hc hy hm hd]
 rfl
theorem Lr (r : aW) {c y m d : Nat} (hc : 18 ≤ c ∧ c ≤ 21) (hy : y < 100) (hm : 1 ≤ m ∧ m ≤ 12) (hd : 1 ≤ d ∧ d ≤ 28) : rk r (ak (fC c y m d)) = some true := by
 unfold rk v7
 rw [show (ak (fC c y m d)).size = 8 from rfl, aV, bX, bX, bX, pw, pw, pw, wV hc hy hm hd (x1 := (fC c y m d |>.drop 0).take (4 - 0)) (x2 := (fC c y m d |>.drop 4).take (6 - 4)) (x3 := (fC c y m d |>.drop 6).take (8 - 6)) rfl rfl rfl]
 rfl
theorem Qg {f : Nat} (h : f < 3) : sJ (f : Int) 3 = some (f : Int) := by
 unfold sJ
 rw [aV, bX, dJ (a := (f : Int)) (by omega), az, dJ (by omega)]
 congr 1
 omega
theorem EJ {c y m d f : Nat} (hc : 18 ≤ c ∧ c ≤ 21) (hy : y < 100) (hm : 1 ≤ m ∧ m ≤ 12) (hd : 1 ≤ d ∧ d ≤ 28) (hf : f < 3) : nK (gQ c y m d) (f : Int) = some (ak (wr c y m d f)) := by
 unfold nK gQ
 simp only
 rw [fk (a := ((100 * c + y : Nat) : Int)) (by omega), dJ (a := ((100 * c + y : Nat) : Int)) (by omega), az, w9 (k := c) (by omega) (by omega), an, w9 (k := y) (by omega) hy, an, w9 (k := m) rfl (by omega), an, w9 (k := d) rfl (by omega), an, Qg hf, an]
 rw [show (mk #[45]) = ak [45] from rfl, show (mk #[46]) = ak [46] from rfl, show (mk #[47]) = ak [47] from rfl]
 simp only [fm]
 simp only [bO, Rl, show ∀ n, (d2 n).length = 2 from fun n => rfl, Rk, Rm]
 have h : f = 0 ∨ f = 1 ∨ f = 2 := by omega
 unfold wr
 rcases h with rfl | rfl | rfl <;> simp [show 3 ≤ ce by decide, show 4 ≤ ce by decide, show 5 ≤ ce by decide, show 6 ≤ ce by decide, show 7 ≤ ce by decide, show 8 ≤ ce by decide, show 10 ≤ ce by decide]
theorem Mu {d : aP} (h : bE d) : ∃ r d', qI d = some (r, d') ∧ cN r ∧ bE d' := by
 have k3 : ∀ {t n s} {d : aP}, bE d → (t = [] ∨ t = T2 ∨ t = [ak [100, 114]]) → (n = [] ∨ n = N2) → (s = [] ∨ s = P2) → ∃ r d', m6 t n d.list d.at_ d.state s = some (r, d') ∧ cN r ∧ bE d' := fun h ht hn hs => ⟨_, _, rfl, ⟨ht, hn, hs⟩, h⟩
 have k2 : ∀ {t n} {d : aP}, bE d → (t = [] ∨ t = T2 ∨ t = [ak [100, 114]]) → (n = [] ∨ n = N2) → ∃ r d', k8 t d.list d.at_ d.state n = some (r, d') ∧ cN r ∧ bE d' := by
  intro t n d h ht hn
  unfold k8
  obtain ⟨v, d1, he, hd1⟩ := ii h (n := 2) (by decide) (by decide)
  rw [he]; clear he; first | rw [aU] | rw [cz] | rw [cx] | rw [an]
  split
  ·exact k3 hd1 ht hn (.inr rfl)
  ·exact k3 hd1 ht hn (.inl rfl)
 have k1 : ∀ {t} {d : aP}, bE d → (t = [] ∨ t = T2 ∨ t = [ak [100, 114]]) → ∃ r d', k9 d.list d.at_ d.state t = some (r, d') ∧ cN r ∧ bE d' := by
  intro t d h ht
  unfold k9
  obtain ⟨v, d1, he, hd1⟩ := ii h (n := 2) (by decide) (by decide)
  rw [he]; clear he; first | rw [aU] | rw [cz] | rw [cx] | rw [an]
  split
  ·exact k2 hd1 ht (.inr rfl)
  ·exact k2 hd1 ht (.inl rfl)
 unfold qI
 obtain ⟨v, d1, he, hd1⟩ := ii h (n := 2) (by decide) (by decide)
 rw [he]; clear he; first | rw [aU] | rw [cz] | rw [cx] | rw [an]
 split
 ·exact k1 hd1 (.inr (.inl rfl))
 ·exact k1 hd1 (.inl rfl)
theorem Aw {d : aP} (h : bE d) {l : List ByteArray} (h0 : 1 ≤ l.length) (h1 : l.length ≤ 100) : ∃ s d', lx d l = some (s, d') ∧ s ∈ l ∧ bE d' := by
 unfold lx
 obtain ⟨v, d1, he, v0, v1, hd1⟩ := dT h (n := (l.length : Int)) (by omega) (by omega)
 rw [he]; clear he; first | rw [aU] | rw [cz] | rw [cx] | rw [an]
 rw [if_pos v0, if_pos v1]
 exact ⟨_, _, rfl, eR _ (by omega), hd1⟩
def Cf : List (List UInt8) := [[114, 111, 98, 101, 114, 116], [98, 111, 98], [97, 110, 110], [97, 110, 110, 97], [114, 117, 112, 101, 114, 116], [109, 97, 114, 105, 97], [112, 101, 116, 101, 114], [100, 114], [106, 111], [97, 115, 104, 99, 114, 97, 102, 116], [108, 105]]
def Cg : List (List UInt8) := [[115, 109, 105, 116, 104], [115, 99, 104, 109, 105, 100, 116], [109, 105, 108, 108, 101, 114], [111, 110, 101, 105, 108, 108], [115, 116, 114, 97, 117, 115, 115], [118, 97, 110], [109, 97, 105, 110], [115, 116], [115, 116, 114, 101, 101, 116], [114, 100], [112, 97, 114, 107]]
theorem GM {l : List (List UInt8)} (h : l.all (fun l => !l.isEmpty && l.all cW && decide (l.length ≤ 8)) = true) {s : ByteArray} (hs : s ∈ l.map ak) : ∃ w, s = ak w ∧ tw w := by
 obtain ⟨w, hw, rfl⟩ := R6.1 hs
 exact ⟨w, rfl, gA _ (Ru.1 h w hw)⟩
theorem zz {d : aP} (h : bE d) : ∃ s d', lr d = some (s, d') ∧ (∃ w, s = ak w ∧ tw w) ∧ bE d' := by
 have hM : 1000 ≤ ce := by decide
 unfold lr
 obtain ⟨b, d1, he, hd1⟩ := ii h (n := 6) (by decide) (by decide)
 rw [he]; clear he; first | rw [aU] | rw [cz] | rw [cx] | rw [an]
 split
 ·obtain ⟨k, d2, he, k0, k1, hd2⟩ := dT hd1 (n := 5) (by decide) (by decide)
  rw [he]; clear he; first | rw [aU] | rw [cz] | rw [cx] | rw [an]
  rw [az (n := 1 + k)]
  obtain ⟨n, rfl⟩ : ∃ n : Nat, k = n := ⟨k.toNat, by omega⟩
  obtain ⟨t, e, w, d3, rfl, hw, hl, hd3⟩ := cC (step := fun v : ByteArray × Int × (List Int) × Int × Int => m8 v.1 v.2.1 v.2.2.1 v.2.2.2.1 v.2.2.2.2) (n + 1) (fun i s => ∃ w d, s = (ak w, ((n + 1 : Nat) : Int) - i, d.list, d.at_, d.state) ∧ kB w ∧ w.length = i ∧ bE d) (fun t => ∃ w d, t = (ak w, d.list, d.at_, d.state) ∧ kB w ∧ w.length = n + 1 ∧ bE d) (fun i hi s hs => by
    obtain ⟨w, d, rfl, hw, hl, hd⟩ := hs
    left
    simp only [m8]
    rw [bG]
    obtain ⟨c, d', he, c0, c1, hd'⟩ := dT hd (n := 26) (by decide) (by decide)
    rw [he]; clear he; first | rw [aU] | rw [cz] | rw [cx] | rw [an]
    have e1 : Vm.strOf ([u8.wrap (SB (97 + c))] : List Int) = ak [UInt8.ofNat (97 + c.toNat)] := by
     rw [az, mJ (by omega) (by omega), ← sX, Sq, List.map_nil, UInt8.toNat_ofNat', show (97 + c) = (((97 + c.toNat) % 2 ^ 8 : Nat) : Int) by omega]
    rw [e1, if_pos (by rw [bO, bO]; simp only [Rq]; omega), fm, az]
    refine ⟨_, rfl, _, d', by rw [show (((n + 1 : Nat) : Int) - (i : Int) - 1) = ((n + 1 : Nat) : Int) - ((i + 1 : Nat) : Int) by omega], ?_, by rw [Rl, hl]; rfl, hd'⟩
    intro x hx
    rcases Rz.1 hx with hx | hx
    ·exact hw x hx
    ·rw [Rn.1 hx]
     unfold cW
     rw [UInt8.toNat_ofNat', RL (by omega), RL (by omega)]
     rfl) (fun s hs => by
    obtain ⟨w, d, rfl, hw, hl, hd⟩ := hs
    simp only [m8]
    rw [b8]
    exact ⟨_, rfl, w, d, rfl, hw, hl, hd⟩) (s := ((mk #[]), 1 + (n : Int), d2.list, d2.at_, d2.state)) ⟨[], d2, by rw [show (1 + (n : Int)) = ((n + 1 : Nat) : Int) - ((0 : Nat) : Int) by omega]; rfl, fun x hx => absurd hx RE, rfl, hd2⟩
  rw [e, cx]
  exact ⟨_, _, rfl, ⟨w, rfl, fun h0 => absurd (h0 ▸ hl) (by simp), hw, by omega⟩, hd3⟩
 ·obtain ⟨c, d2, he, hd2⟩ := ii hd1 (n := 2) (by decide) (by decide)
  rw [he]; clear he; first | rw [aU] | rw [cz] | rw [cx] | rw [an]
  split
  ·rw [show rZ = some (Cf.map ak) from rfl, an, an]
   obtain ⟨v, d3, he, v0, v1, hd3⟩ := dT hd2 (n := ((Cf.map ak).length : Int)) (by decide) (by decide)
   rw [he]; clear he; first | rw [aU] | rw [cz] | rw [cx] | rw [an]
   rw [if_pos v0, if_pos v1]
   exact ⟨_, _, rfl, GM (l := Cf) (by decide) (eR _ (by omega)), hd3⟩
  ·rw [show rL = some (Cg.map ak) from rfl, an, an]
   obtain ⟨v, d3, he, v0, v1, hd3⟩ := dT hd2 (n := ((Cg.map ak).length : Int)) (by decide) (by decide)
   rw [he]; clear he; first | rw [aU] | rw [cz] | rw [cx] | rw [an]
   rw [if_pos v0, if_pos v1]
   exact ⟨_, _, rfl, GM (l := Cg) (by decide) (eR _ (by omega)), hd3⟩
def HJ (l : List UInt8) : Prop := ∀ c ∈ l, cW c = true ∨ c = 32
theorem Fa (a b : List UInt8) : bP (a ++ b) = bP a ++ bP b := List.flatMap_append
theorem Nz (st : List (List UInt8) × List UInt8) : cU (cU st 32) 32 = cU st 32 := by
 unfold cU
 simp only [if_true]
 split
 ·rename_i h; simp [h]
 ·simp
theorem OF (st : List (List UInt8) × List UInt8) : eK (cU st 32) = eK st := by
 unfold cU eK
 simp only [if_true]
 split
 ·rename_i h; simp [h]
 ·simp
def fd (st : List (List UInt8) × List UInt8) (l : List UInt8) : List (List UInt8) × List UInt8 := (bP l).foldl cU st
theorem Po (st) (a b : List UInt8) : fd st (a ++ b) = fd (fd st a) b := by
 unfold fd
 rw [Fa, Sk]
theorem D7 {c : UInt8} (h : cW c = true) : cT (c - 32).toNat = [c] ∧ 32 ≤ (c - 32).toNat ∧ (c - 32).toNat ≤ 126 := by
 unfold cW at h
 simp only [Rv, RI] at h
 have e : (c - 32).toNat = c.toNat - 32 := by
  rw [UInt8.toNat_sub_of_le]
  ·rfl
  ·rw [UInt8.le_iff_toNat_le]; show 32 ≤ _; omega
 rw [e]
 refine ⟨?_, by omega, by omega⟩
 unfold cT
 rw [aO, show c.toNat - 32 + 32 = c.toNat by omega]
 show [UInt8.ofNat c.toNat] = [c]
 rw [UInt8.ofNat_toNat]
structure fc (l : List UInt8) (i : Nat) (s : ByteArray) : Prop where
 ex : ∃ o, s = ak o ∧ dq o ∧ o.length ≤ 2 * i + 1 ∧ fd ([], []) o = (l.take i).foldl cU ([], [])
theorem fc.step {l : List UInt8} {i : Nat} {s : ByteArray} (h : fc l i s) (hi : i < l.length) {k : List UInt8} (hp : dq k) (hl : k.length ≤ 2) (hf : ∀ st, fd st k = cU st (l.getD i 0)) : fc l (i + 1) (s ++ ak k) := by
 obtain ⟨o, rfl, h1, h2, h3⟩ := h
 refine ⟨o ++ k, fm _ _, ?_, by rw [Rl]; omega, ?_⟩
 ·intro c hc
  exact (Rz.1 hc).elim (h1 c) (hp c)
 ·rw [Po, hf, h3, sW 0 hi, Sk]
  rfl
theorem fc.len {l : List UInt8} {i : Nat} {s : ByteArray} (h : fc l i s) : s.size ≤ 2 * i + 1 := by
 obtain ⟨o, rfl, h1, h2, h3⟩ := h
 exact h2
abbrev Qu := (ByteArray × Int × (List Int) × Int × Int) ⊕ (ByteArray × (List Int) × Int × Int)
def xD (l : List UInt8) (i : Nat) (r : Option Qu) : Prop := ∃ (s : ByteArray) (d : aP), r = some (.inl (s, ((i + 1 : Nat) : Int), d.list, d.at_, d.state)) ∧ fc l (i + 1) s ∧ bE d
theorem BI {l : List UInt8} {i : Nat} (hi : i ≤ 1000) {s : ByteArray} (h : fc l (i + 1) s) {d : aP} (hd : bE d) : xD l i (jB (i : Int) s d.list d.at_ d.state) := by
 unfold jB
 rw [az (n := (i : Int) + 1)]
 exact ⟨s, d, rfl, h, hd⟩
def ug (c x : UInt8) : Prop := cT x.toNat = [c] ∧ c ≠ 32 ∧ 32 ≤ x.toNat ∧ x.toNat ≤ 126
theorem Pp {c x : UInt8} (h : ug c x) (st) : fd st [x] = cU st c := by
 unfold fd bP
 rw [List.flatMap_cons, h.1]
 rfl
theorem Pq {c x : UInt8} (h : ug c x) (st) : fd st [x, 39] = cU st c := by
 unfold fd bP
 rw [List.flatMap_cons, h.1]
 rfl
theorem Hs {l : List UInt8} {i : Nat} (hi : i < l.length) (hl : l.length ≤ 100) {s : ByteArray} (h : fc l i s) {x : UInt8} (hx : ug (l.getD i 0) x) {d : aP} (hd : bE d) : xD l i (lf (ak l) s (i : Int) (x.toNat : Int) d.list d.at_ d.state) := by
 have hM : 1000 ≤ ce := by decide
 have hs := h.len
 have e1 : Vm.strOf ([(x.toNat : Int)] : List Int) = ak [x] := sX [x]
 have p1 : dq [x] := fun c hc => by rw [Rn.1 hc]; exact hx.2.2
 have k4 : ∀ (b : Bool) {d : aP}, bE d → xD l i (jC s (i : Int) (x.toNat : Int) b d.list d.at_ d.state) := by
  intro b d hd
  unfold jC
  rw [e1]
  cases b with
  | true =>
   rw [if_pos rfl, if_pos (by rw [ByteArray.size_append, bO]; show _ + 1 ≤ _; simp only [Rq]; omega), show (s ++ ak [x]) ++ (mk #[39]) = s ++ ak [x, 39] from (ByteArray.append_assoc).trans (congrArg (s ++ ·) (fm [x] [39]))]
   refine BI (by omega) (h.step hi ?_ (by simp) (Pq hx)) hd
   intro c hc
   have : c = x ∨ c = 39 := by simpa using hc
   rcases this with rfl | rfl
   ·exact hx.2.2
   ·decide
  | false =>
   rw [aV]
   exact BI (by omega) (h.step hi p1 (by simp) (Pp hx)) hd
 unfold lf
 rw [e1, bO, bO, dK]
 obtain ⟨v, d1, he, hd1⟩ := ii hd (n := 20) (by decide) (by decide)
 rw [he]; clear he; first | rw [aU] | rw [cz] | rw [cx] | rw [an]
 rw [az (n := (i : Int) + 1)]
 split
 ·split
  ·rename_i hc
   simp only [RI] at hc
   rw [aO, if_pos hc]
   exact k4 _ hd1
  ·exact k4 _ hd1
 ·exact k4 _ hd1
theorem NA {l : List UInt8} {i : Nat} {s : ByteArray} (h : fc l i s) (hi : i < l.length) (h32 : l.getD i 0 = 32) {y : ByteArray} (hy : y ∈ [ak [32], ak [45], ak [44, 32], ak [46], ak [32, 32], ak [47]]) : fc l (i + 1) (s ++ y) ∧ y.size ≤ 2 := by
 have hp : ∀ k : List UInt8, (k.all (fun c => decide (32 ≤ c.toNat) && decide (c.toNat ≤ 126)) && decide (k.length ≤ 2) && (decide (bP k = [32]) || decide (bP k = [32, 32]))) = true → fc l (i + 1) (s ++ ak k) ∧ (ak k).size ≤ 2 := by
  intro k hk
  simp only [Rv, Bool.or_eq_true, RI, Ru] at hk
  refine ⟨h.step hi hk.1.1 hk.1.2 fun st => ?_, hk.1.2⟩
  rw [h32]
  unfold fd
  rcases hk.2 with e | e <;> rw [e]
  ·rfl
  ·exact Nz st
 have : y = ak [32] ∨ y = ak [45] ∨ y = ak [44, 32] ∨ y = ak [46] ∨ y = ak [32, 32] ∨ y = ak [47] := by simpa using hy
 rcases this with rfl | rfl | rfl | rfl | rfl | rfl <;> exact hp _ (by decide)
theorem Mv {d : aP} (hd : bE d) {l : List UInt8} (hl : HJ l) (hn : l.length ≤ 30) : ∃ s d', qK d (ak l) = some (s, d') ∧ (∃ o, s = ak o ∧ dq o ∧ o.length ≤ 64 ∧ cg (bP o) = cg l) ∧ bE d' := by
 have hM : 1000 ≤ ce := by decide
 unfold qK
 obtain ⟨y, d1, he, hy, hd1⟩ := Aw hd (l := [mk #[], mk #[], mk #[32], mk #[45]]) (by decide) (by decide)
 rw [he]; clear he; first | rw [aU] | rw [cz] | rw [cx] | rw [an]
 have h0 : fc l 0 y := by
  have hp : ∀ k : List UInt8, (k.all (fun c => decide (32 ≤ c.toNat) && decide (c.toNat ≤ 126)) && decide (k.length ≤ 1) && decide (fd ([], []) k = ([], []))) = true → fc l 0 (ak k) := by
   intro k hk
   simp only [Rv, RI, Ru] at hk
   exact ⟨k, rfl, hk.1.1, hk.1.2, hk.2⟩
  have : y = ak [] ∨ y = ak [] ∨ y = ak [32] ∨ y = ak [45] := by
   rcases Ry.1 hy with e | hy
   ·exact .inl e
   ·rcases Ry.1 hy with e | hy
    ·exact .inl e
    ·rcases Ry.1 hy with e | hy
     ·exact .inr (.inr (.inl e))
     ·exact .inr (.inr (.inr (Rn.1 hy)))
  rcases this with rfl | rfl | rfl | rfl <;> exact hp _ (by decide)
 obtain ⟨t, e, s, d2, rfl, hs, hd2⟩ := cC (step := fun v : ByteArray × Int × (List Int) × Int × Int => lh (ak l) v.1 v.2.1 v.2.2.1 v.2.2.2.1 v.2.2.2.2) l.length (fun i s => ∃ (t : ByteArray) (d : aP), s = (t, (i : Int), d.list, d.at_, d.state) ∧ fc l i t ∧ bE d) (fun t => ∃ (s : ByteArray) (d : aP), t = (s, d.list, d.at_, d.state) ∧ fc l l.length s ∧ bE d) (fun i hi s hs => by
   obtain ⟨t, d, rfl, ht, hd⟩ := hs
   left
   suffices H : xD l i (lh (ak l) t (i : Int) d.list d.at_ d.state) by
    obtain ⟨t', d', e, h1, h2⟩ := H
    exact ⟨_, e, t', d', rfl, h1, h2⟩
   have htl := ht.len
   have hc := hl _ (eR 0 hi)
   unfold lh
   rw [bO, eS, Rj, bG, aO, aO]
   by_cases h32 : l.getD i 0 = 32
   ·rw [h32, bX]
    obtain ⟨z, d3, ez, hz, hd3⟩ := Aw hd (l := [mk #[32], mk #[45], mk #[44, 32], mk #[46], mk #[32, 32], mk #[47]]) (by decide) (by decide)
    obtain ⟨g1, g2⟩ := NA ht hi h32 (y := z) hz
    rw [ez, aU, aO]
    exact BI (by omega) g1 hd3
   ·have hlow := hc.resolve_right h32
    have hlow2 := hlow
    unfold cW at hlow2
    simp only [Rv, RI] at hlow2
    have d1 : ug (l.getD i 0) (l.getD i 0) := ⟨sZ hlow, h32, pc hlow⟩
    have d2 : ug (l.getD i 0) (l.getD i 0 - 32) := ⟨(D7 hlow).1, h32, (D7 hlow).2⟩
    rw [if_neg (by simp only [Sn]; omega), bG, bG]
    obtain ⟨v, d3, ev, hd3⟩ := ii hd (n := 3) (by decide) (by decide)
    rw [ev, aU]
    unfold lg
    rw [eS, Rj]
    cases v with
    | true =>
     have e : u8.wrap (((l.getD i 0).toNat : Int) - 32) = ((l.getD i 0 - 32).toNat : Int) := by
      rw [mJ (by omega) (by omega), UInt8.toNat_sub_of_le]
      ·show _ = (((l.getD i 0).toNat - 32 : Nat) : Int); omega
      ·rw [UInt8.le_iff_toNat_le]; show 32 ≤ _; omega
     rw [if_pos rfl, an, e]
     exact Hs hi (by omega) ht d2 hd3
    | false =>
     rw [aV]
     exact Hs hi (by omega) ht d1 hd3) (fun s hs => by
   obtain ⟨t, d, rfl, ht, hd⟩ := hs
   refine ⟨(t, d.list, d.at_, d.state), ?_, t, d, rfl, ht, hd⟩
   simp only [lh]
   rw [bO, b8]) (s := (y, 0, d1.list, d1.at_, d1.state)) ⟨y, d1, rfl, h0, hd1⟩
 rw [e, cx]
 obtain ⟨z, d3, he, hzm, hd3⟩ := Aw hd2 (l := [mk #[], mk #[], mk #[32], mk #[46]]) (by decide) (by decide)
 rw [he]; clear he; first | rw [aU] | rw [cz] | rw [cx] | rw [an]
 obtain ⟨o, rfl, h1, h2, h3⟩ := hs
 have hp : ∀ k : List UInt8, (k.all (fun c => decide (32 ≤ c.toNat) && decide (c.toNat ≤ 126)) && decide (k.length ≤ 1) && (decide (bP k = []) || decide (bP k = [32]))) = true → ∃ s d', (if (ak o).size + (ak k).size ≤ ce then (some ((ak o ++ ak k), d3)) else none) = some (s, d') ∧ (∃ o, s = ak o ∧ dq o ∧ o.length ≤ 64 ∧ cg (bP o) = cg l) ∧ bE d' := by
  intro k hk
  simp only [Rv, Bool.or_eq_true, RI, Ru] at hk
  obtain ⟨⟨g1, g2⟩, g3⟩ := hk
  rw [if_pos (by rw [bO, bO]; omega)]
  refine ⟨_, _, rfl, ⟨o ++ k, fm _ _, fun c hc => (Rz.1 hc).elim (h1 c) (g1 c), by rw [Rl]; omega, ?_⟩, hd3⟩
  unfold cg
  rw [Fa, Sk]
  unfold fd at h3
  rw [h3, Sa]
  rcases g3 with e | e <;> rw [e]
  ·rfl
  ·exact OF _
 have : z = ak [] ∨ z = ak [32] ∨ z = ak [46] := by
  rcases Ry.1 hzm with e | hy
  ·exact .inl e
  ·rcases Ry.1 hy with e | hy
   ·exact .inl e
   ·rcases Ry.1 hy with e | hy
    ·exact .inr (.inl e)
    ·exact .inr (.inr (Rn.1 hy))
 rcases this with rfl | rfl | rfl <;> exact hp _ (by decide)
abbrev fld (s : aS) (i : Nat) : aC := s.Fields.getD i bD
structure dW (s : aS) : Prop where
 r : cN s.Rules
 n0 : 1 ≤ s.Fields.length
 n1 : s.Fields.length ≤ 4
 w : ∀ i, i < s.Fields.length → lT (fld s i).Name = some true
 u : ∀ i j, i < j → j < s.Fields.length → (fld s i).Name ≠ (fld s j).Name
 k : ∀ i, i < s.Fields.length → 1 ≤ (fld s i).Kind ∧ (fld s i).Kind ≤ 4
theorem pd {l : List UInt8} (h0 : l ≠ []) (h1 : kB l) (h2 : l.length ≤ 12) : lT (ak l) = some true := by
 unfold lT nV
 rw [show (mk #[]) = ak [] from rfl, fF, RJ h0, bX, if_pos (by rw [bO]; simp only [RI]; omega), D5 h1 (by omega), an, fF, RL rfl]
theorem PX {l : List aC} (hn : l.length ≤ 1000) (x : aC) (h : ∀ i, i < l.length → (l.getD i bD).Name ≠ x.Name) : mM l x = some (false, x) := by
 unfold mM uk
 rw [dI (fun i => ((i : Int), x.Name, x.Kind)) l.length (.inl (x.Name, x.Kind)) (fun i hi => by
   simp only [qi, uX, aU]
   rw [Rj, bG, aO, aO, ki, RJ (h i hi), aV, az (n := (i : Int) + 1)]
   rfl) (by
   simp only [qi]
   rw [b8]) (by simp)]
 rfl
theorem j5 {s : aS} (h : dW s) : eB s = some 0 := by
 have h0 := h.n0
 have h1 := h.n1
 unfold eB rj
 rw [ct, ct, dI (fun i => (i : Int)) s.Fields.length (.inl ()) (fun i hi => by
   have hk : 1 ≤ (s.Fields.getD i bD).Kind ∧ (s.Fields.getD i bD).Kind ≤ 4 := h.k i hi
   have e : mM (s.Fields.take i) (s.Fields.getD i bD) = some (false, s.Fields.getD i bD) := PX (by rw [Ro]; omega) _ fun j hj => by
    rw [Ro] at hj
    have : (s.Fields.take i).getD j bD = s.Fields.getD j bD := by
     rw [Re, List.getElem?_take_of_lt (by omega), Re]
    rw [this]
    exact h.u j i (by omega) hi
   simp only [uZ, lE]
   rw [Rj, bG, aO, aO, aO, e, aU, h.w i hi, an, aV, aV, ct, ct, az (n := (i : Int) + 1)]
   rfl) (by
   simp only [uZ]
   rw [b8]) (by simp)]
 show ri s = _
 unfold ri
 rw [AT h.r]
 rfl
def il (r : aW) (k : Int) (raw v : ByteArray) : Prop := raw ≠ ak [] ∧ (k = 1 ∧ jK r raw = some (v, 0) ∨ k = 2 ∧ oU r raw = some (v, 0) ∨ k = 3 ∧ iR raw = some (v, 0) ∨ k = 4 ∧ iH r raw = some (v, 0))
theorem NC {s : aS} (h : dW s) {i : Nat} (hi : i < s.Fields.length) {raw v : ByteArray} (hv : il s.Rules (fld s i).Kind raw v) : qY s (i : Int) raw = some (v, 0) := by
 obtain ⟨h0, hv⟩ := hv
 have e : (raw.toList == (mk #[]).toList) = false := by
  rw [show (mk #[]) = ak [] from rfl, ki, RJ h0]
 unfold qY
 rw [j5 h, an, aO, Rj, e]
 rcases hv with ⟨k, e⟩ | ⟨k, e⟩ | ⟨k, e⟩ | ⟨k, e⟩ <;> simp only [fld] at k <;> rw [k]
 ·rw [if_pos rfl, aV, e]
 ·rw [aV, if_pos rfl, aV, e]
 ·rw [aV, aV, if_pos rfl, aV]
  unfold u4
  rw [e]
  rfl
 ·rw [aV, aV, aV, if_pos rfl, aV, e]
def NF (r : aW) (k : Int) (v : ByteArray) : Prop := k = 1 ∧ (∃ ws, v = ak (bM ws) ∧ (∀ w ∈ ws, xz r w) ∧ ws.length ≤ 2) ∨ k = 2 ∧ (∃ c y m d, v = ak (fC c y m d) ∧ (18 ≤ c ∧ c ≤ 21) ∧ y < 100 ∧ (1 ≤ m ∧ m ≤ 12) ∧ 1 ≤ d ∧ d ≤ 28) ∨ k = 3 ∧ v = ak [97, 98, 49, 50] ∨ k = 4 ∧ ∃ w, v = ak (bM [dR r w, [49, 50]]) ∧ tw w
theorem EK {s : aS} (h : dW s) {i : Nat} (hi : i < s.Fields.length) {v : ByteArray} (hv : NF s.Rules (fld s i).Kind v) : lO s (i : Int) v = some true := by
 unfold lO
 rw [j5 h, an, aO, Rj]
 rcases hv with ⟨k, ws, rfl, hw, hl⟩ | ⟨k, c, y, m, d, rfl, hc, hy, hm, hd⟩ | ⟨k, rfl⟩ | ⟨k, w, rfl, hw⟩ <;> simp only [fld] at k <;> rw [k]
 ·rw [if_pos rfl]
  split
  ·rfl
  ·exact Nu h.r hw (by omega)
 ·rw [aV, if_pos rfl]
  split
  ·rfl
  ·exact Lr _ hc hy hm hd
 ·rw [aV, aV, if_pos rfl]
  split
  ·rfl
  ·unfold u5
   rw [KM]
   rfl
 ·rw [aV, aV, aV, if_pos rfl]
  split
  ·rfl
  ·exact Mr h.r hw
theorem DW {i v : Int} (hi : 1 ≤ i ∧ i ≤ 1048576) (hv : 1 ≤ v ∧ v ≤ 1048576) : nF i v = some true := by
 unfold nF lm
 rw [bG, bG, bG, RL (by omega)]
theorem OG {α : Type} (d z : α) {l : List α} {n i : Nat} (hl : l.length = n) (hi : i < n) : (l.take i ++ List.replicate (n - i) z).set i (l.getD i d) = l.take (i + 1) ++ List.replicate (n - (i + 1)) z := by
 have h1 : (l.take i).length = i := by rw [Ro]; omega
 rw [List.set_append_right _ _ (by omega), h1, Nat.sub_self, show n - i = (n - (i + 1)) + 1 by omega, List.replicate_succ, List.set_cons_zero, sW d (by omega), RP]
 rfl
theorem wK {s : aS} (h : dW s) {id ver : Int} (hi : 1 ≤ id ∧ id ≤ 1048576) (hv : 1 ≤ ver ∧ ver ≤ 1048576) {raws vs : List ByteArray} (hr : raws.length = s.Fields.length) (hl : vs.length = s.Fields.length) (hn : ∀ i, i < s.Fields.length → il s.Rules (fld s i).Kind (raws.getD i mt) (vs.getD i mt)) : fU s id ver raws = some (⟨id, ver, vs⟩, 0) := by
 have h1 := h.n1
 unfold fU
 rw [j5 h, an, aV, if_neg (by simp only [bne_iff_ne, ne_eq]; omega), DW hi hv, an, aV, aO, aO, dI (fun i => ((i : Int), vs.take i ++ List.replicate (s.Fields.length - i) mt)) s.Fields.length (.inl vs) (fun i hi => by
   have hlen : (vs.take i ++ List.replicate (s.Fields.length - i) mt).length = s.Fields.length := by
    rw [Rl, Ro, RG]; omega
   simp only [rJ]
   rw [Rj, bG, aO, aO, NC h hi (hn i hi), aU, aV, hlen, aO, R9, OG mt mt hl hi, az (n := (i : Int) + 1)]
   rfl) (by
   simp only [rJ]
   rw [ct, Nat.sub_self, List.replicate_zero, List.append_nil, Sf (by omega)]) (by rw [Rj, hr]; simp)]
 rfl
structure gG (s : aS) (x : aL) : Prop where
 i : 1 ≤ x.ID ∧ x.ID ≤ 1048576
 v : 1 ≤ x.Version ∧ x.Version ≤ 1048576
 l : x.Values.length = s.Fields.length
 f : ∀ i, i < s.Fields.length → NF s.Rules (fld s i).Kind (x.Values.getD i mt)
theorem Fb {s : aS} (h : dW s) {x : aL} (hx : gG s x) : oD s x = some 0 := by
 have h1 := h.n1
 have hl := hx.l
 unfold oD rp
 rw [DW hx.i hx.v, an, aV, if_neg (by simp only [bne_iff_ne, ne_eq]; omega), dI (fun i => (i : Int)) s.Fields.length (.inl ()) (fun i hi => by
   simp only [vc]
   rw [Rj, bG, aO, aO, EK h hi (hx.f i hi), an, aV, az (n := (i : Int) + 1)]
   rfl) (by
   simp only [vc]
   rw [ct]) (by simp)]
 rfl
theorem Fc {s : aS} (h : dW s) {x : aL} (hx : gG s x) : sq s x = some 0 := by
 unfold sq
 rw [j5 h, an, aV, Fb h hx]
 rfl
abbrev recD (l : List aL) (i : Nat) : aL := l.getD i bL
structure pL (s : aS) (l : List aL) : Prop where
 n : l.length ≤ 64
 ok : ∀ i, i < l.length → gG s (recD l i)
 up : ∀ i, i + 1 < l.length → (recD l i).ID < (recD l (i + 1)).ID
theorem OH {s : aS} (h : dW s) {l : List aL} (hl : pL s l) : sO s l = some 0 := by
 have hn := hl.n
 unfold sO
 rw [j5 h, an, aV, ct, dI (fun i => (i : Int)) l.length (.inl ()) (fun i hi => by
   simp only [vu, sa]
   rw [Rj, bG, aO, aO, Fb h (hl.ok i hi), an, aV]
   cases i with
   | zero => rw [aV, aV, az]; rfl
   | succ j =>
    have : (l.getD j bL).ID < (l.getD (j + 1) bL).ID := hl.up j hi
    rw [bG, az (n := ((j + 1 : Nat) : Int) - 1), aO, aO, show (((j + 1 : Nat) : Int) - 1).toNat = j by omega, ct, az]
    rfl) (by
   simp only [vu]
   rw [b8]) (by simp)]
 rfl
def kL : List (List UInt8) := [[102, 97, 109, 105, 108, 121], [103, 105, 118, 101, 110], [98, 105, 114, 116, 104], [115, 116, 114, 101, 101, 116], [99, 111, 100, 101]]
structure kD (F : List aC) (i : Nat) : Prop where
 l : F.length = i
 f : ∀ j, j < i → (F.getD j bD).Name = (kL.map ak).getD j mt ∧ 1 ≤ (F.getD j bD).Kind ∧ (F.getD j bD).Kind ≤ 4
theorem hZ {α : Type} (d x : α) {l : List α} {j : Nat} (h : j < l.length + 1) : (l ++ [x]).getD j d = if j < l.length then l.getD j d else x := by
 split
 ·rename_i hj
  rw [Re, RA hj, Re]
 ·rw [show j = l.length by omega, Re, RD (by omega), Nat.sub_self]
  rfl
theorem kD.snoc {F : List aC} {i : Nat} (h : kD F i) {k : Int} (h1 : 1 ≤ k) (h4 : k ≤ 4) : kD (F ++ [⟨(kL.map ak).getD i mt, k⟩]) (i + 1) := by
 have hl := h.l
 refine ⟨by rw [Rl, hl]; rfl, fun j hj => ?_⟩
 rw [hZ _ _ (by omega)]
 split
 ·exact h.f j (by omega)
 ·rw [show j = i by omega]
  exact ⟨rfl, h1, h4⟩
theorem kD.sc {F : List aC} {n : Nat} (h : kD F n) (h1 : 1 ≤ n) (h4 : n ≤ 4) {r : aW} (hr : cN r) : dW ⟨F, r⟩ := by
 have hl := h.l
 refine ⟨hr, by simp only; omega, by simp only; omega, fun i hi => ?_, fun i j hij hj => ?_, fun i hi => (h.f i (by simp only at hi; omega)).2⟩
 ·have hi : i < n := by simp only at hi; omega
  show lT (F.getD i bD).Name = _
  rw [(h.f i hi).1]
  have : i = 0 ∨ i = 1 ∨ i = 2 ∨ i = 3 := by omega
  rcases this with rfl | rfl | rfl | rfl
  ·exact pd (l := [102, 97, 109, 105, 108, 121]) (by decide) (gA _ (by decide)).2.1 (by decide)
  ·exact pd (l := [103, 105, 118, 101, 110]) (by decide) (gA _ (by decide)).2.1 (by decide)
  ·exact pd (l := [98, 105, 114, 116, 104]) (by decide) (gA _ (by decide)).2.1 (by decide)
  ·exact pd (l := [115, 116, 114, 101, 101, 116]) (by decide) (gA _ (by decide)).2.1 (by decide)
 ·have hj : j < n := by simp only at hj; omega
  show (F.getD i bD).Name ≠ (F.getD j bD).Name
  rw [(h.f i (by omega)).1, (h.f j hj).1]
  have hg : ∀ k, (kL.map ak).getD k mt = ak (kL.getD k []) := fun k => by
   rw [Re, RO, Re]
   cases kL[k]? <;> rfl
  rw [hg, hg, ne_eq, eT]
  have key : ∀ a b : Fin 4, a.val < b.val → kL.getD a.val [] ≠ kL.getD b.val [] := by decide
  exact key ⟨i, by omega⟩ ⟨j, by omega⟩ hij
theorem Ls {d : aP} (h : bE d) : ∃ s d', qF d = some (s, d') ∧ dW s ∧ bE d' := by
 unfold qF
 obtain ⟨r, d1, he, hr, hd1⟩ := Mu h
 rw [he]; clear he; first | rw [aU] | rw [cz] | rw [cx] | rw [an]
 obtain ⟨v, d2, he, v0, v1, hd2⟩ := dT hd1 (n := 4) (by decide) (by decide)
 rw [he]; clear he; first | rw [aU] | rw [cz] | rw [cx] | rw [an]
 obtain ⟨n, rfl⟩ : ∃ n : Nat, v = n := ⟨v.toNat, by omega⟩
 have hnm : [(mk #[102, 97, 109, 105, 108, 121]), (mk #[103, 105, 118, 101, 110]), (mk #[98, 105, 114, 116, 104]), (mk #[115, 116, 114, 101, 101, 116]), (mk #[99, 111, 100, 101])] = kL.map ak := rfl
 obtain ⟨t, e, F, d3, rfl, hF, hd3⟩ := cC (step := fun v : Int × (List Int) × Int × Int × (List aC) => mW (n : Int) v.1 v.2.1 v.2.2.1 v.2.2.2.1 v.2.2.2.2) (n + 1) (fun i s => ∃ (F : List aC) (d : aP), s = ((i : Int), d.list, d.at_, d.state, F) ∧ kD F i ∧ bE d) (fun t => ∃ (F : List aC) (d : aP), t = (d.list, d.at_, d.state, F) ∧ kD F (n + 1) ∧ bE d) (fun i hi s hs => by
   obtain ⟨F, d, rfl, hF, hd⟩ := hs
   left
   have hl := hF.l
   have k2 : ∀ {k : Int} {d : aP}, 1 ≤ k → k ≤ 4 → bE d → ∃ s', kV (i : Int) F k d.list d.at_ d.state = some (.inl s') ∧ ∃ (F : List aC) (d : aP), s' = (((i + 1 : Nat) : Int), d.list, d.at_, d.state, F) ∧ kD F (i + 1) ∧ bE d := by
    intro k d k0 k1 hd
    unfold kV
    rw [hnm, Rj, R9, if_pos (by rw [RF]; show (i : Int) < 5; omega), dK, az (n := (i : Int) + 1)]
    exact ⟨_, rfl, _, d, rfl, hF.snoc k0 k1, hd⟩
   simp only [mW]
   rw [az (n := 1 + (n : Int)), bG, aO, if_pos (by show (i : Int) < 5; omega)]
   obtain ⟨b, d4, e4, hd4⟩ := ii hd (n := 4) (by decide) (by decide)
   rw [e4, aU]
   split
   ·obtain ⟨k, d5, e5, k0, k1, hd5⟩ := dT hd4 (n := 4) (by decide) (by decide)
    rw [e5, aU, az (n := 1 + k)]
    exact k2 (by omega) (by omega) hd5
   ·have hk : ∀ a : Fin 5, 1 ≤ ([1, 1, 2, 4, 3] : List Int).getD (0 + a.val) 0 ∧ ([1, 1, 2, 4, 3] : List Int).getD (0 + a.val) 0 ≤ 4 := by decide
    have := hk ⟨i, by omega⟩
    rw [Rj]
    exact k2 this.1 this.2 hd4) (fun s hs => by
   obtain ⟨F, d, rfl, hF, hd⟩ := hs
   simp only [mW]
   rw [az (n := 1 + (n : Int)), ct]
   exact ⟨_, rfl, F, d, rfl, hF, hd⟩) (s := (0, d2.list, d2.at_, d2.state, [])) ⟨[], d2, rfl, ⟨rfl, fun j hj => absurd hj (RU _)⟩, hd2⟩
 rw [e, cx]
 exact ⟨_, _, rfl, hF.sc (by omega) (by omega) hr, hd3⟩
abbrev xE (p : List aD) (i : Nat) : aD := p.getD i dk
structure jw (n : Nat) (i : Nat) (x : aD) : Prop where
 l : 64 ≤ x.Length ∧ x.Length ≤ 192 ∧ x.Length % 64 = 0
 h : 1 ≤ x.Hashes ∧ x.Hashes ≤ 6
 s : x.Salt = -1 ∨ 0 ≤ x.Salt ∧ x.Salt < n ∧ x.Salt ≠ i
structure kG (n : Nat) (p : List aD) : Prop where
 l : p.length = n
 f : ∀ i, i < n → jw n i (p.getD i dk)
theorem Lt {d : aP} (h : bE d) {n : Nat} (h1 : 1 ≤ n) (h4 : n ≤ 4) : ∃ p d', qz d (n : Int) = some (p, d') ∧ kG n p ∧ bE d' := by
 unfold qz
 obtain ⟨t, e, F, d3, rfl, hF, hd3⟩ := cC (step := fun v : (List aD) × Int × (List Int) × Int × Int => mT (n : Int) v.1 v.2.1 v.2.2.1 v.2.2.2.1 v.2.2.2.2) n (fun i s => ∃ (F : List aD) (d : aP), s = (F, (i : Int), d.list, d.at_, d.state) ∧ (F.length = i ∧ ∀ j, j < i → jw n j (F.getD j dk)) ∧ bE d) (fun t => ∃ (F : List aD) (d : aP), t = (F, d.list, d.at_, d.state) ∧ kG n F ∧ bE d) (fun i hi s hs => by
   obtain ⟨F, d, rfl, ⟨hl, hF⟩, hd⟩ := hs
   left
   simp only [mT]
   rw [bG]
   obtain ⟨a, d4, e4, a0, a1, hd4⟩ := dT hd (n := 3) (by decide) (by decide)
   rw [e4, aU]
   obtain ⟨b, d5, e5, b0, b1, hd5⟩ := dT hd4 (n := 6) (by decide) (by decide)
   rw [e5, aU]
   have k2 : ∀ {k : Int} {d : aP}, (k = -1 ∨ 0 ≤ k ∧ k < n ∧ k ≠ i) → bE d → ∃ s', kT F (i : Int) a b d.list d.at_ d.state k = some (.inl s') ∧ ∃ (F : List aD) (d : aP), s' = (F, ((i + 1 : Nat) : Int), d.list, d.at_, d.state) ∧ (F.length = i + 1 ∧ ∀ j, j < i + 1 → jw n j (F.getD j dk)) ∧ bE d := by
    intro k d hk hd
    unfold kT
    rw [dK, az (n := 1 + a), az (n := 1 + b), az (n := 64 * (1 + a)), az (n := (i : Int) + 1)]
    refine ⟨_, rfl, _, d, rfl, ⟨by rw [Rl, hl]; rfl, fun j hj => ?_⟩, hd⟩
    rw [hZ _ _ (by omega)]
    split
    ·exact hF j (by omega)
    ·rw [show j = i by omega]
     exact ⟨by simp only; omega, by simp only; omega, hk⟩
   have k3 : ∀ {c : Bool} {d : aP}, (c = true → 2 ≤ n) → bE d → ∃ s', kU (n : Int) F (i : Int) a b c d.list d.at_ d.state = some (.inl s') ∧ ∃ (F : List aD) (d : aP), s' = (F, ((i + 1 : Nat) : Int), d.list, d.at_, d.state) ∧ (F.length = i + 1 ∧ ∀ j, j < i + 1 → jw n j (F.getD j dk)) ∧ bE d := by
    intro c d hc hd
    unfold kU
    cases c with
    | false =>
     rw [aV]
     exact k2 (.inl rfl) hd
    | true =>
     have := hc rfl
     rw [if_pos rfl, aO, az (n := (i : Int) + 1), dJ (by omega)]
     have m0 := Int.emod_nonneg ((i : Int) + 1) (show (n : Int) ≠ 0 by omega)
     have m1 := Int.emod_lt_of_pos ((i : Int) + 1) (show 0 < (n : Int) by omega)
     refine k2 (.inr ⟨m0, m1, ?_⟩) hd
     by_cases hh : i + 1 < n
     ·rw [Int.emod_eq_of_lt (by omega) (by omega)]; omega
     ·rw [show (i : Int) + 1 = n by omega, Int.emod_self]; omega
   split
   ·obtain ⟨c, d6, e6, hd6⟩ := ii hd5 (n := 3) (by decide) (by decide)
    rw [e6, aU]
    rename_i hg
    exact k3 (fun _ => by simp only [RI] at hg; omega) hd6
   ·exact k3 (fun h => by cases h) hd5) (fun s hs => by
   obtain ⟨F, d, rfl, ⟨hl, hF⟩, hd⟩ := hs
   simp only [mT]
   rw [ct]
   exact ⟨_, rfl, F, d, rfl, ⟨hl, hF⟩, hd⟩) (s := ([], 0, d.list, d.at_, d.state)) ⟨[], d, rfl, ⟨rfl, fun j hj => absurd hj (RU _)⟩, h⟩
 rw [e, cx]
 exact ⟨_, _, rfl, hF, hd3⟩
def Qh (k : bd) : Prop := (0 ≤ k.A ∧ k.A < 18446744073709551616) ∧ 0 ≤ k.B ∧ k.B < 18446744073709551616
theorem OI {d : aP} (h : bE d) : ∃ k d', qZ d = some (k, d') ∧ Qh k ∧ bE d' := by
 unfold qZ
 obtain ⟨a, d1, he, a0, a1, hd1⟩ := Av h
 rw [he]; clear he; first | rw [aU] | rw [cz] | rw [cx] | rw [an]
 obtain ⟨b, d2, he, b0, b1, hd2⟩ := Av hd1
 rw [he]; clear he; first | rw [aU] | rw [cz] | rw [cx] | rw [an]
 exact ⟨_, _, rfl, ⟨⟨a0, a1⟩, b0, b1⟩, hd2⟩
theorem Lu {n : Int} (h : 64 ≤ n ∧ n ≤ 192 ∧ n % 64 = 0) : gW n = some true := by
 unfold gW jH
 rw [bG, bG, dJ (by omega), h.2.2]
 rfl
theorem F7 {n : Int} (h : 64 ≤ n ∧ n ≤ 192 ∧ n % 64 = 0) : oW n = some (⟨n, List.replicate ((n / 64).toNat) 0⟩, 0) := by
 unfold oW
 rw [Lu h, an, aV, fk (by omega), az, aO, aO]
theorem zA {n i : Nat} (hn : n ≤ 4) {x : aD} (h : jw n i x) : lV x = some 0 := by
 have h1 := h.h
 have h2 := h.s
 unfold lV lH
 rw [F7 h.l, aU, aV, ct, ct, ct, ct]
theorem zB {s : aS} (h : dW s) {p : List aD} (hp : kG s.Fields.length p) : oC s p = some 0 := by
 have h1 := h.n1
 have hl := hp.l
 unfold oC
 rw [j5 h, an, aV, if_neg (by simp only [bne_iff_ne, ne_eq]; omega), dI (fun i => (i : Int)) s.Fields.length (.inl ()) (fun i hi => by
   have hx := hp.f i hi
   have hs := hx.s
   simp only [u9, nG]
   rw [Rj, bG, aO, aO, zA h1 hx, an, aV, ct, if_neg (by simp only [Sn]; omega), az (n := (i : Int) + 1)]
   rfl) (by
   simp only [u9]
   rw [ct]) (by simp)]
 rfl
theorem o8 {α β γ δ ε ζ : Type} (a : α) (b : β) (c : γ) (d : δ) (e : ε) (f : α → β → γ → δ → ε → Option ζ) : fJ (some (a, b, c, d, e)) f = f a b c d e := rfl
theorem Ht (c y m d f : Nat) : ak (wr c y m d f) ≠ ak [] := fun h => by
 have := congrArg List.length (eT.1 h)
 unfold wr at this
 split at this
 ·simp [d2] at this
 ·split at this <;> simp [d2] at this
abbrev bsD (l : List ByteArray) (i : Nat) : ByteArray := l.getD i mt
structure kM (s : aS) (a b v : List ByteArray) (i : Nat) : Prop where
 la : a.length = i
 lb : b.length = i
 lv : v.length = i
 f : ∀ j, j < i → il s.Rules (fld s j).Kind (bsD a j) (bsD v j) ∧ il s.Rules (fld s j).Kind (bsD b j) (bsD v j) ∧ NF s.Rules (fld s j).Kind (bsD v j)
theorem kM.snoc {s : aS} {a b v : List ByteArray} {i : Nat} (h : kM s a b v i) {x y z : ByteArray} (h1 : il s.Rules (fld s i).Kind x z) (h2 : il s.Rules (fld s i).Kind y z) (h3 : NF s.Rules (fld s i).Kind z) : kM s (a ++ [x]) (b ++ [y]) (v ++ [z]) (i + 1) := by
 have e1 := h.la
 have e2 := h.lb
 have e3 := h.lv
 refine ⟨by simp [e1], by simp [e2], by simp [e3], fun j hj => ?_⟩
 unfold bsD
 rw [hZ _ _ (by omega), hZ _ _ (by omega), hZ _ _ (by omega), e1, e2, e3]
 split
 ·exact h.f j (by assumption)
 ·rw [show j = i by omega]
  exact ⟨h1, h2, h3⟩
abbrev Qv := ((List ByteArray) × (List ByteArray) × Int × (List Int) × Int × Int) ⊕ ((List ByteArray) × (List ByteArray) × (List Int) × Int × Int)
def HK (s : aS) (i : Nat) (r : Option Qv) : Prop := ∃ (a b v : List ByteArray) (d : aP), r = some (.inl (a, b, ((i + 1 : Nat) : Int), d.list, d.at_, d.state)) ∧ kM s a b v (i + 1) ∧ bE d
theorem xo {s : aS} {a b v : List ByteArray} {i : Nat} (hi : i ≤ 100) (h : kM s a b v (i + 1)) {d : aP} (hd : bE d) : HK s i (iJ (i : Int) a b d.list d.at_ d.state) := by
 unfold iJ
 rw [az (n := (i : Int) + 1)]
 exact ⟨a, b, v, d, rfl, h, hd⟩
theorem Fe {r : aW} (hr : cN r) {w1 w2 : List UInt8} (h1 : tw w1) (h2 : tw w2) {l : List UInt8} (hp : dq l) (hn : l.length ≤ 64) (hw : cg (bP l) = [w1, w2]) : il r 1 (ak l) (ak (bM (dy r [w1, w2]))) ∧ NF r 1 (ak (bM (dy r [w1, w2]))) := by
 have ht : ∀ w ∈ [w1, w2], tw w := fun w hw => by
  rcases Ry.1 hw with rfl | hw
  ·exact h1
  ·rw [Rn.1 hw]; exact h2
 refine ⟨⟨fun e => ?_, .inl ⟨rfl, GI hr hp hn hw ht (by simp)⟩⟩, .inl ⟨rfl, _, rfl, Bl hr ht, List.length_filterMap_le _ _⟩⟩
 rw [eT.1 e] at hw
 cases hw
theorem OJ {s : aS} (hs : dW s) {a b v : List ByteArray} {i : Nat} (hi : i < s.Fields.length) (h : kM s a b v i) {d : aP} (hd : bE d) : HK s i (ly s a b (i : Int) d.list d.at_ d.state) := by
 have hM : 1000 ≤ ce := by decide
 have h4 := hs.n1
 have la := h.la
 have lb := h.lb
 unfold ly
 rw [Rj, bG, aO, aO]
 obtain ⟨g1, g2⟩ := hs.k i hi
 have hk : (fld s i).Kind = 1 ∨ (fld s i).Kind = 2 ∨ (fld s i).Kind = 3 ∨ (fld s i).Kind = 4 := by omega
 rw [show mk #[32] = ak [32] from rfl, show mk #[32, 49, 50] = ak [32, 49, 50] from rfl, show mk #[49, 50, 44, 32] = ak [49, 50, 44, 32] from rfl, show (s.Fields.getD i bD).Kind = (fld s i).Kind from rfl]
 rcases hk with k | k | k | k <;> rw [k]
 ·rw [bX]
  obtain ⟨t1, d1, he, ht1, hd1⟩ := zz hd
  rw [he]; clear he; first | rw [aU] | rw [cz] | rw [cx] | rw [an]
  obtain ⟨w1, rfl, hw1⟩ := ht1
  rw [bO, bO, if_pos (by have := hw1.2.2; simp only [Rq]; omega)]
  obtain ⟨t2, d2, he, ht2, hd2⟩ := zz hd1
  rw [he]; clear he; first | rw [aU] | rw [cz] | rw [cx] | rw [an]
  obtain ⟨w2, rfl, hw2⟩ := ht2
  have l1 := hw1.2.2
  have l2 := hw2.2.2
  rw [fm, bO, bO, fm, if_pos (by simp only [Rl, Rq]; omega), dK]
  have ej : w1 ++ [32] ++ w2 = bM [w1, w2] := by simp [bM]
  have ht : ∀ w ∈ [w1, w2], tw w := fun w hw => by
   rcases Ry.1 hw with rfl | hw
   ·exact hw1
   ·rw [Rn.1 hw]; exact hw2
  have el : (w1 ++ [32] ++ w2).length ≤ 30 := by simp only [Rl, Rq]; omega
  have hww : cg (w1 ++ [32] ++ w2) = [w1, w2] := by rw [ej, jY (Q8 ht)]
  have hwf : cg (bP (w1 ++ [32] ++ w2)) = [w1, w2] := by
   rw [ej, zx fun w hw c hc => sZ ((ht w hw).2.1 c hc), jY (Q8 ht)]
  have hlsp : HJ (w1 ++ [32] ++ w2) := by
   rw [ej]
   exact iY (p := fun c => cW c = true ∨ c = 32) (.inr rfl) fun w hw c hc => .inl ((ht w hw).2.1 c hc)
  obtain ⟨o, d3, he, ho, hd3⟩ := Mv hd2 hlsp el
  rw [he]; clear he; first | rw [aU] | rw [cz] | rw [cx] | rw [an]
  obtain ⟨o, rfl, o1, o2, o3⟩ := ho
  rw [dK]
  have n1 := Fe hs.r hw1 hw2 (by rw [ej]; exact F5 ht) (by omega) hwf
  have n2 := Fe hs.r hw1 hw2 o1 o2 (o3.trans hww)
  exact xo (by omega) (h.snoc (k ▸ n1.1) (k ▸ n2.1) (k ▸ n1.2)) hd3
 ·rw [aV, bX]
  obtain ⟨y, d1, he, y0, y1, hd1⟩ := dT hd (n := 20) (by decide) (by decide)
  rw [he]; clear he; first | rw [aU] | rw [cz] | rw [cx] | rw [an]
  obtain ⟨m, d2, he, m0, m1, hd2⟩ := dT hd1 (n := 12) (by decide) (by decide)
  rw [he]; clear he; first | rw [aU] | rw [cz] | rw [cx] | rw [an]
  obtain ⟨e, d3, he, e0, e1, hd3⟩ := dT hd2 (n := 28) (by decide) (by decide)
  rw [he]; clear he; first | rw [aU] | rw [cz] | rw [cx] | rw [an]
  obtain ⟨f, d4, he, f0, f1, hd4⟩ := dT hd3 (n := 3) (by decide) (by decide)
  rw [he]; clear he; first | rw [aU] | rw [cz] | rw [cx] | rw [an]
  obtain ⟨y, rfl⟩ : ∃ n : Nat, y = n := ⟨y.toNat, by omega⟩
  obtain ⟨m, rfl⟩ : ∃ n : Nat, m = n := ⟨m.toNat, by omega⟩
  obtain ⟨e, rfl⟩ : ∃ n : Nat, e = n := ⟨e.toNat, by omega⟩
  obtain ⟨f, rfl⟩ : ∃ n : Nat, f = n := ⟨f.toNat, by omega⟩
  have ed : (⟨SB (1980 + (y : Int)), SB (1 + (m : Int)), SB (1 + (e : Int))⟩ : cI) = gQ 19 (80 + y) (1 + m) (1 + e) := by
   rw [az, az, az]
   unfold gQ
   congr 1 <;> omega
  rw [ed, EJ (by omega) (by omega) (by omega) (by omega) (by omega), an, dK]
  obtain ⟨g, d5, he, g0, g1, hd5⟩ := dT hd4 (n := 3) (by decide) (by decide)
  rw [he]; clear he; first | rw [aU] | rw [cz] | rw [cx] | rw [an]
  obtain ⟨g, rfl⟩ : ∃ n : Nat, g = n := ⟨g.toNat, by omega⟩
  rw [EJ (by omega) (by omega) (by omega) (by omega) (by omega), an, dK]
  have n1 : ∀ f, il s.Rules 2 (ak (wr 19 (80 + y) (1 + m) (1 + e) f)) (ak (fC 19 (80 + y) (1 + m) (1 + e))) := fun f => ⟨Ht _ _ _ _ f, .inr (.inl ⟨rfl, Ha _ (by omega) (by omega) (by omega) (by omega) f⟩)⟩
  exact xo (by omega) (h.snoc (k ▸ n1 f) (k ▸ n1 g) (k ▸ .inr (.inl ⟨rfl, _, _, _, _, rfl, by omega, by omega, by omega, by omega⟩))) hd5
 ·rw [aV, aV, aV, dK, dK]
  refine xo (v := v ++ [ak [97, 98, 49, 50]]) (by omega) (h.snoc (k ▸ ⟨?_, .inr (.inr (.inl ⟨rfl, Pl⟩))⟩) (k ▸ ⟨?_, .inr (.inr (.inl ⟨rfl, Pm⟩))⟩) (k ▸ .inr (.inr (.inl ⟨rfl, rfl⟩)))) hd
  ·intro h; have := (eT (a := [97, 98, 32, 49, 50])).1 h; cases this
  ·intro h; have := (eT (a := [65, 45, 66, 49, 50])).1 h; cases this
 ·rw [aV, aV, bX]
  obtain ⟨t1, d1, he, ht1, hd1⟩ := zz hd
  rw [he]; clear he; first | rw [aU] | rw [cz] | rw [cx] | rw [an]
  obtain ⟨w1, rfl, hw1⟩ := ht1
  have l1 := hw1.2.2
  rw [fm, fm, bO, bO, bO, if_pos (by simp only [Rk, Rm]; omega), dK, if_pos (by simp only [Rk, Rm]; omega), dK]
  obtain ⟨n1, n2⟩ := Oz hs.r hw1
  refine xo (v := v ++ [ak (bM [dR s.Rules w1, [49, 50]])]) (by omega) (h.snoc (k ▸ ⟨?_, .inr (.inr (.inr ⟨rfl, n1⟩))⟩) (k ▸ ⟨?_, .inr (.inr (.inr ⟨rfl, n2⟩))⟩) (k ▸ .inr (.inr (.inr ⟨rfl, _, rfl, hw1⟩)))) hd1
  ·intro h; have := eT.1 h; simp at this
  ·intro h; have := eT.1 h; simp at this
structure mE (s : aS) (a b : List aL) (i : Nat) : Prop where
 la : a.length = i
 lb : b.length = i
 f : ∀ j, j < i → ∃ v, recD a j = ⟨1 + (j : Int), 1, v⟩ ∧ recD b j = ⟨100 + (j : Int), 3, v⟩ ∧ v.length = s.Fields.length ∧ ∀ q, q < s.Fields.length → NF s.Rules (fld s q).Kind (v.getD q mt)
theorem mE.a {s : aS} {a b : List aL} {i : Nat} (h : mE s a b i) (hi : i ≤ 60) : pL s a := by
 have hl := h.la
 refine ⟨by omega, fun j hj => ?_, fun j hj => ?_⟩
 ·obtain ⟨v, e1, e2, e3, e4⟩ := h.f j (by omega)
  rw [e1]
  exact ⟨by simp only; omega, by simp only; omega, e3, e4⟩
 ·obtain ⟨v, e1, _⟩ := h.f j (by omega)
  obtain ⟨v', e1', _⟩ := h.f (j + 1) (by omega)
  rw [e1, e1']
  simp only
  omega
theorem mE.b {s : aS} {a b : List aL} {i : Nat} (h : mE s a b i) (hi : i ≤ 60) : pL s b := by
 have hl := h.lb
 refine ⟨by omega, fun j hj => ?_, fun j hj => ?_⟩
 ·obtain ⟨v, e1, e2, e3, e4⟩ := h.f j (by omega)
  rw [e2]
  exact ⟨by simp only; omega, by simp only; omega, e3, e4⟩
 ·obtain ⟨v, _, e1, _⟩ := h.f j (by omega)
  obtain ⟨v', _, e1', _⟩ := h.f (j + 1) (by omega)
  rw [e1, e1']
  simp only
  omega
theorem KN {s : aS} (hs : dW s) {d : aP} (hd : bE d) : ∃ a b d', rM d s 4 = some (a, b, d') ∧ (∃ n, n ≤ 4 ∧ mE s a b n) ∧ bE d' := by
 have h4 := hs.n1
 unfold rM
 obtain ⟨v, d1, he, v0, v1, hd1⟩ := dT hd (n := 4) (by decide) (by decide)
 rw [he]; clear he; first | rw [aU] | rw [cz] | rw [cx] | rw [an]
 obtain ⟨n, rfl⟩ : ∃ n : Nat, v = n := ⟨v.toNat, by omega⟩
 rw [az (n := 1 + (n : Int))]
 obtain ⟨t, e, a, b, d3, rfl, hF, hd3⟩ := cC (step := fun v : (List aL) × (List aL) × Int × (List Int) × Int × Int => nr s v.1 v.2.1 v.2.2.1 v.2.2.2.1 v.2.2.2.2.1 v.2.2.2.2.2) (n + 1) (fun i t => ∃ (a b : List aL) (d : aP), t = (a, b, ((n + 1 : Nat) : Int) - i, d.list, d.at_, d.state) ∧ mE s a b i ∧ bE d) (fun t => ∃ (a b : List aL) (d : aP), t = (a, b, d.list, d.at_, d.state) ∧ mE s a b (n + 1) ∧ bE d) (fun i hi t ht => by
   obtain ⟨a, b, d, rfl, hR, hd⟩ := ht
   left
   have la := hR.la
   have lb := hR.lb
   obtain ⟨t, e, A, B, V, d3, rfl, hW, hd3⟩ := cC (step := fun v : (List ByteArray) × (List ByteArray) × Int × (List Int) × Int × Int => ly s v.1 v.2.1 v.2.2.1 v.2.2.2.1 v.2.2.2.2.1 v.2.2.2.2.2) s.Fields.length (fun i t => ∃ (a b v : List ByteArray) (d : aP), t = (a, b, (i : Int), d.list, d.at_, d.state) ∧ kM s a b v i ∧ bE d) (fun t => ∃ (a b v : List ByteArray) (d : aP), t = (a, b, d.list, d.at_, d.state) ∧ kM s a b v s.Fields.length ∧ bE d) (fun i hi t ht => by
     obtain ⟨a, b, v, d, rfl, hW, hd⟩ := ht
     left
     obtain ⟨a', b', v', d', e, h1, h2⟩ := OJ hs hi hW hd
     exact ⟨_, e, a', b', v', d', rfl, h1, h2⟩) (fun t ht => by
     obtain ⟨a, b, v, d, rfl, hW, hd⟩ := ht
     refine ⟨(a, b, d.list, d.at_, d.state), ?_, a, b, v, d, rfl, hW, hd⟩
     simp only [ly]
     rw [b8]) (s := ([], [], 0, d.list, d.at_, d.state)) ⟨[], [], [], d, rfl, ⟨rfl, rfl, rfl, fun j hj => absurd hj (RU _)⟩, hd⟩
   simp only [nr]
   rw [bG, e, o8, la, lb, az (n := 1 + (i : Int)), az (n := 100 + (i : Int)), wK hs (by omega) (by decide) hW.la hW.lv (fun q hq => (hW.f q hq).1), aU, wK hs (by omega) (by decide) hW.lb hW.lv (fun q hq => (hW.f q hq).2.1), aU, bX]
   unfold qU nq
   rw [bX, dK, dK, az]
   refine ⟨_, rfl, _, _, d3, by rw [show ((n + 1 : Nat) : Int) - i - 1 = ((n + 1 : Nat) : Int) - ((i + 1 : Nat) : Int) by omega], ⟨by simp [la], by simp [lb], fun j hj => ?_⟩, hd3⟩
   unfold recD
   rw [hZ _ _ (by omega), hZ _ _ (by omega), la, lb]
   split
   ·exact hR.f j (by assumption)
   ·rw [show j = i by omega]
    exact ⟨V, rfl, rfl, hW.lv, fun q hq => (hW.f q hq).2.2⟩) (fun t ht => by
   obtain ⟨a, b, d, rfl, hR, hd⟩ := ht
   simp only [nr]
   rw [b8]
   exact ⟨_, rfl, a, b, d, rfl, hR, hd⟩) (s := ([], [], 1 + (n : Int), d1.list, d1.at_, d1.state)) ⟨[], [], d1, by rw [show ((n + 1 : Nat) : Int) - ((0 : Nat) : Int) = 1 + (n : Int) by omega], ⟨rfl, rfl, fun j hj => absurd hj (RU _)⟩, hd1⟩
 rw [e, o8]
 exact ⟨_, _, _, rfl, ⟨n + 1, by omega, hF⟩, hd3⟩
def cX : Nat → Nat → Nat
 | 0, _ => 0
 | f + 1, x => x % 2 + cX f (x / 2)
theorem s6 (a b c d : Nat) (hb : b < 256) (hd : d < 256) : (256 * a + b) &&& (256 * c + d) = 256 * (a &&& c) + (b &&& d) := by
 apply Nat.eq_of_testBit_eq
 intro j
 have hb' : b < 2 ^ 8 := hb
 have hd' : d < 2 ^ 8 := hd
 have hbd : b &&& d < 2 ^ 8 := Nat.and_lt_two_pow _ hd'
 rw [show (256 : Nat) = 2 ^ 8 from rfl, Nat.testBit_and, Nat.testBit_two_pow_mul_add _ hb', Nat.testBit_two_pow_mul_add _ hd', Nat.testBit_two_pow_mul_add _ hbd]
 split <;> simp [Nat.testBit_and]
def rep (m : Nat) : Nat → Nat
 | 0 => 0
 | k + 1 => 256 * rep m k + m
theorem Ay (m k : Nat) : rep m (k + 1) = 256 * rep m k + m := rfl
def sA (k x : Nat) : Nat := (x / 2 &&& rep 85 k) + (x &&& rep 85 k)
def sB (k x : Nat) : Nat := (x / 4 &&& rep 51 k) + (x &&& rep 51 k)
def sC (k x : Nat) : Nat := (x / 16 + x) &&& rep 15 k
theorem PY : ∀ l, l < 256 → ∀ c, c < 2 → (128 * c + l / 2) &&& 85 = (l / 2) &&& 85 := by decide +kernel
theorem Pr : ∀ l, l < 256 → ((l / 2) &&& 85) + (l &&& 85) < 171 := by decide +kernel
theorem PZ : ∀ l, l < 171 → ∀ c, c < 4 → (64 * c + l / 4) &&& 51 = (l / 4) &&& 51 := by decide +kernel
theorem OK (k h l : Nat) (hl : l < 256) : sA (k + 1) (256 * h + l) = 256 * sA k h + (((l / 2) &&& 85) + (l &&& 85)) := by
 unfold sA
 rw [Ay]
 rw [show (256 * h + l) / 2 = 256 * (h / 2) + (128 * (h % 2) + l / 2) by omega, s6 _ _ _ _ (by omega) (by omega), s6 _ _ _ _ hl (by omega), PY l hl _ (by omega)]
 omega
theorem OL (k h l : Nat) (hl : l < 171) : sB (k + 1) (256 * h + l) = 256 * sB k h + (((l / 4) &&& 51) + (l &&& 51)) := by
 unfold sB
 rw [Ay]
 rw [show (256 * h + l) / 4 = 256 * (h / 4) + (64 * (h % 4) + l / 4) by omega, s6 _ _ _ _ (by omega) (by omega), s6 _ _ _ _ (by omega) (by omega), PZ l hl _ (by omega)]
 omega
def xF : Nat → Nat → Prop
 | 0, x => x = 0
 | k + 1, x => x % 16 ≤ 4 ∧ x / 16 % 16 ≤ 4 ∧ xF k (x / 256)
theorem P1 : ∀ c, c < 5 → ∀ u, u < 5 → ∀ v, v < 5 → (16 * c + (16 * u + v) / 16 + (16 * u + v)) &&& 15 = u + v := by decide +kernel
theorem OM {k x : Nat} (h : xF k x) : x % 16 ≤ 4 := by
 cases k with
 | zero => have : x = 0 := h; omega
 | succ k => exact h.1
theorem ON (k h l : Nat) (hl : l < 256) (h0 : l % 16 ≤ 4) (h1 : l / 16 ≤ 4) (hn : xF k h) : sC (k + 1) (256 * h + l) = 256 * sC k h + (l / 16 + l % 16) := by
 unfold sC
 rw [Ay]
 have hc := OM hn
 have e := P1 (h % 16) (by omega) (l / 16) (by omega) (l % 16) (by omega)
 rw [show 16 * (l / 16) + l % 16 = l by omega] at e
 rw [show (256 * h + l) / 16 + (256 * h + l) = 256 * (h / 16 + h) + (16 * (h % 16) + l / 16 + l) by omega, s6 _ _ _ _ (by omega) (by omega), e]
def jg : Nat → Nat → Nat
 | 0, _ => 0
 | k + 1, x => 256 * jg k (x / 256) + cX 8 (x % 256)
theorem P3 : ∀ l, l < 256 → ((((l / 2) &&& 85) + (l &&& 85)) / 4 &&& 51) + ((((l / 2) &&& 85) + (l &&& 85)) &&& 51) < 256 ∧ (((((l / 2) &&& 85) + (l &&& 85)) / 4 &&& 51) + ((((l / 2) &&& 85) + (l &&& 85)) &&& 51)) % 16 ≤ 4 ∧
    (((((l / 2) &&& 85) + (l &&& 85)) / 4 &&& 51) + ((((l / 2) &&& 85) + (l &&& 85)) &&& 51)) / 16 ≤ 4 ∧
    (((((l / 2) &&& 85) + (l &&& 85)) / 4 &&& 51) + ((((l / 2) &&& 85) + (l &&& 85)) &&& 51)) / 16 + (((((l / 2) &&& 85) + (l &&& 85)) / 4 &&& 51) + ((((l / 2) &&& 85) + (l &&& 85)) &&& 51)) % 16 = cX 8 l := by decide +kernel
theorem Qi (k : Nat) : ∀ x, x < 256 ^ k → xF k (sB k (sA k x)) ∧ sC k (sB k (sA k x)) = jg k x := by
  induction k with
  | zero => intro x hx; have : x = 0 := by simpa using hx
            subst this; exact ⟨rfl, rfl⟩
  | succ k ih =>
    intro x hx
    have hx' : x / 256 < 256 ^ k := by rw [Nat.pow_succ] at hx; omega
    obtain ⟨i1, i2⟩ := ih _ hx'
    have hl : x % 256 < 256 := Nat.mod_lt _ (by omega)
    obtain ⟨b1, b2, b3, b4⟩ := P3 _ hl
    have hd : x = 256 * (x / 256) + x % 256 := by omega
    have e1 : sB (k + 1) (sA (k + 1) x) = 256 * sB k (sA k (x / 256)) + ((((x % 256 / 2) &&& 85) + (x % 256 &&& 85)) / 4 &&& 51) + ((((x % 256 / 2) &&& 85) + (x % 256 &&& 85)) &&& 51) := by
      conv => lhs; rw [hd]
      rw [OK _ _ _ hl, OL _ _ _ (Pr _ hl)]
      omega
    rw [e1]
    generalize ((((x % 256 / 2) &&& 85) + (x % 256 &&& 85)) / 4 &&& 51) = p at *
    generalize ((((x % 256 / 2) &&& 85) + (x % 256 &&& 85)) &&& 51) = q at *
    rw [Nat.add_assoc]
    refine ⟨⟨by omega, by omega, ?_⟩, ?_⟩
    · rw [show (256 * sB k (sA k (x / 256)) + (p + q)) / 256 = sB k (sA k (x / 256)) by omega]; exact i1
    · rw [ON _ _ _ b1 b2 b3 i1, i2, b4]; rfl
theorem Lv (f : Nat) : ∀ n x, cX (f + n) x = cX f x + cX n (x / 2 ^ f) := by
 induction f with
 | zero => intro n x; simp [cX]
 | succ f ih =>
  intro n x
  rw [show f + 1 + n = (f + n) + 1 by omega, cX, cX, ih, Nat.div_div_eq_div_mul, Nat.pow_succ, Nat.mul_comm 2]
  omega
theorem ND (f : Nat) : ∀ x, cX f (x % 2 ^ f) = cX f x := by
 induction f with
 | zero => intro x; rfl
 | succ f ih =>
  intro x
  have h1 : x % 2 ^ (f + 1) % 2 = x % 2 := Nat.mod_mod_of_dvd _ (by rw [Nat.pow_succ]; exact Nat.dvd_mul_left ..)
  have h2 : x % 2 ^ (f + 1) / 2 = x / 2 % 2 ^ f := by rw [Nat.pow_succ, Nat.mul_comm]; exact Nat.mod_mul_right_div_self ..
  rw [cX, cX, h1, h2, ih]
theorem A2 (f : Nat) : ∀ x, cX f x ≤ f := by
 induction f with
 | zero => intro x; simp [cX]
 | succ f ih => intro x; have := ih (x / 2); rw [cX]; omega
def ku : Nat → Nat → Nat
 | 0, _ => 0
 | k + 1, x => x % 256 + ku k (x / 256)
theorem Km (k : Nat) : ∀ x, ku k (jg k x) = cX (8 * k) x := by
 induction k with
 | zero => intro x; rfl
 | succ k ih =>
  intro x
  have h := A2 8 (x % 256)
  have hm := ND 8 x
  rw [show (2 : Nat) ^ 8 = 256 from rfl] at hm
  rw [jg, ku, show (256 * jg k (x / 256) + cX 8 (x % 256)) / 256 = jg k (x / 256) by omega, ih, show 8 * (k + 1) = 8 + 8 * k by omega, Lv 8, show (2 : Nat) ^ 8 = 256 from rfl, ← hm]
  omega
def BJ : Nat → Nat → Prop
 | 0, y => y = 0
 | k + 1, y => ∃ c z, c ≤ 8 ∧ BJ k z ∧ y = c + 256 * z
theorem Kn (k : Nat) : ∀ x, BJ k (jg k x) := by
 induction k with
 | zero => intro x; rfl
 | succ k ih => intro x; exact ⟨_, _, A2 8 (x % 256), ih (x / 256), by rw [jg]; omega⟩
theorem dv (a b m : Nat) (h : a < m) : (a + m * b) / m = b := by
 rw [Nat.add_mul_div_left _ _ (by omega), Nat.div_eq_of_lt h, Nat.zero_add]
theorem jZ (k c z : Nat) (h : c ≤ 8) : ku (k + 1) (c + 256 * z) = c + ku k z := by
 rw [ku, dv c z 256 (by omega), Nat.add_mul_mod_self_left, Nat.mod_eq_of_lt (by omega)]
set_option maxHeartbeats 2000000 in
theorem Lw (y : Nat) (h : BJ 8 y) :
  ∃ z u v, y + y / 256 = z ∧ z + z / 65536 = u ∧ u + u / 4294967296 = v ∧ v % 128 = ku 8 y ∧ z < 18446744073709551616 ∧ u < 18446744073709551616 ∧ v < 18446744073709551616 := by
 obtain ⟨c0, y1, l0, ⟨c1, y2, l1, ⟨c2, y3, l2, ⟨c3, y4, l3, ⟨c4, y5, l4, ⟨c5, y6, l5, ⟨c6, y7, l6, ⟨c7, y8, l7, h8, rfl⟩, rfl⟩, rfl⟩, rfl⟩, rfl⟩, rfl⟩, rfl⟩, rfl⟩ := h
 have h8 : y8 = 0 := h8
 subst h8
 rw [jZ _ _ _ l0, jZ _ _ _ l1, jZ _ _ _ l2, jZ _ _ _ l3, jZ _ _ _ l4, jZ _ _ _ l5, jZ _ _ _ l6, jZ _ _ _ l7, dv c0 _ 256 (by omega)]
 have ez : c0 + 256 * (c1 + 256 * (c2 + 256 * (c3 + 256 * (c4 + 256 * (c5 + 256 * (c6 + 256 * (c7 + 256 * 0))))))) + (c1 + 256 * (c2 + 256 * (c3 + 256 * (c4 + 256 * (c5 + 256 * (c6 + 256 * (c7 + 256 * 0))))))) =
   ((c0 + c1) + 256 * (c1 + c2)) + 65536 * (((c2 + c3) + 256 * (c3 + c4)) + 65536 * (((c4 + c5) + 256 * (c5 + c6)) + 65536 * ((c6 + c7) + 256 * c7))) := by omega
 rw [ez]
 have eu : ((c0 + c1) + 256 * (c1 + c2)) + 65536 * (((c2 + c3) + 256 * (c3 + c4)) + 65536 * (((c4 + c5) + 256 * (c5 + c6)) + 65536 * ((c6 + c7) + 256 * c7))) + (((c2 + c3) + 256 * (c3 + c4)) + 65536 * (((c4 + c5) + 256 * (c5 + c6)) + 65536 * ((c6 + c7) + 256 * c7))) =
   ((c0 + c1 + c2 + c3) + 256 * (c1 + c2 + c3 + c4) + 65536 * (c2 + c3 + c4 + c5) + 16777216 * (c3 + c4 + c5 + c6)) + 4294967296 * ((c4 + c5 + c6 + c7) + 256 * (c5 + c6 + c7) + 65536 * (c6 + c7) + 16777216 * c7) := by omega
 have ev : ((c0 + c1 + c2 + c3) + 256 * (c1 + c2 + c3 + c4) + 65536 * (c2 + c3 + c4 + c5) + 16777216 * (c3 + c4 + c5 + c6)) + 4294967296 * ((c4 + c5 + c6 + c7) + 256 * (c5 + c6 + c7) + 65536 * (c6 + c7) + 16777216 * c7) + ((c4 + c5 + c6 + c7) + 256 * (c5 + c6 + c7) + 65536 * (c6 + c7) + 16777216 * c7) =
   (c0 + c1 + c2 + c3 + c4 + c5 + c6 + c7) + 128 * (2 * (c1 + c2 + c3 + c4 + c5 + c6 + c7) + 512 * (c2 + c3 + c4 + c5 + c6 + c7) + 131072 * (c3 + c4 + c5 + c6 + c7) + 33554432 * ((c4 + c5 + c6 + c7) + 256 * (c5 + c6 + c7) + 65536 * (c6 + c7) + 16777216 * c7)) := by omega
 refine ⟨_, _, _, rfl, rfl, rfl, ?_, ?_, ?_, ?_⟩
 ·rw [dv ((c0 + c1) + 256 * (c1 + c2)) _ 65536 (by omega), eu, dv ((c0 + c1 + c2 + c3) + 256 * (c1 + c2 + c3 + c4) + 65536 * (c2 + c3 + c4 + c5) + 16777216 * (c3 + c4 + c5 + c6)) _ 4294967296 (by omega), ev, Nat.add_mul_mod_self_left, Nat.mod_eq_of_lt (by omega)]
  have t0 : ku 0 0 = 0 := rfl
  rw [t0]
  omega
 ·omega
 ·rw [dv ((c0 + c1) + 256 * (c1 + c2)) _ 65536 (by omega), eu]; omega
 ·rw [dv ((c0 + c1) + 256 * (c1 + c2)) _ 65536 (by omega), eu, dv ((c0 + c1 + c2 + c3) + 256 * (c1 + c2 + c3 + c4) + 65536 * (c2 + c3 + c4 + c5) + 16777216 * (c3 + c4 + c5 + c6)) _ 4294967296 (by omega), ev]; omega
end Go.Proofs.YtfmhbcfklokmaaaGreatDoor
namespace Go.Proofs.YtfmhbcfklokmaaaGreatDoor
namespace Vm
theorem mm {x y : Nat} (hx : x < 18446744073709551616) (hy : y < 18446744073709551616) : cn .u64 x y = ((x &&& y : Nat) : Int) := by
 have h : x &&& y < 18446744073709551616 := Nat.lt_of_le_of_lt Nat.and_le_left hx
 show IntKind.u64.wrap ((BitVec.ofInt 64 (x : Int) &&& BitVec.ofInt 64 (y : Int)).toNat : Int) = _
 simp only [BitVec.ofInt_natCast, BitVec.toNat_and, BitVec.toNat_ofNat]
 rw [show (2 : Nat) ^ 64 = 18446744073709551616 from rfl, Nat.mod_eq_of_lt hx, Nat.mod_eq_of_lt hy]
 exact cJ (by omega) (by omega)
theorem P4 {x y : Nat} (hx : x < 18446744073709551616) (hy : y < 18446744073709551616) : cw .u64 x y = ((x ||| y : Nat) : Int) := by
 have h : x ||| y < 2 ^ 64 := Nat.or_lt_two_pow hx hy
 show IntKind.u64.wrap ((BitVec.ofInt 64 (x : Int) ||| BitVec.ofInt 64 (y : Int)).toNat : Int) = _
 simp only [BitVec.ofInt_natCast, BitVec.toNat_or, BitVec.toNat_ofNat]
 rw [show (2 : Nat) ^ 64 = 18446744073709551616 from rfl, Nat.mod_eq_of_lt hx, Nat.mod_eq_of_lt hy]
 exact cJ (by omega) (by omega)
theorem pM (x : Nat) {s : Nat} (hs : s ≤ 64) : a7 .u64 x s = ((x / 2 ^ s : Nat) : Int) := by
 show (x : Int).fdiv (2 ^ min (s : Int).toNat 64) = _
 simp only [Rj, Nat.min_eq_left hs]
 rw [show ((2 : Int) ^ s) = ((2 ^ s : Nat) : Int) by simp, Int.fdiv_eq_ediv_of_nonneg _ (Int.natCast_nonneg _)]
 rfl
theorem Ps (x : Nat) {s : Nat} (hs : s ≤ 64) : ck .u64 x s = ((x * 2 ^ s % 18446744073709551616 : Nat) : Int) := by
 show IntKind.u64.wrap ((x : Int) * 2 ^ min (s : Int).toNat 64) = _
 simp only [Rj, Nat.min_eq_left hs]
 rw [show ((2 : Int) ^ s) = ((2 ^ s : Nat) : Int) by simp, gw]
 omega
theorem pN (x y : Nat) : IntKind.u64.wrap ((x : Int) + (y : Int)) = (((x + y) % 18446744073709551616 : Nat) : Int) := by
 rw [gw]; omega
end Vm
end Go.Proofs.YtfmhbcfklokmaaaGreatDoor
namespace Go.Proofs.YtfmhbcfklokmaaaGreatDoor
open Vm
theorem OO (v : Nat) (hv : v < 18446744073709551616) : cn .i64 (SB (v : Int)) 127 = ((v % 128 : Nat) : Int) := by
 have h1 : BitVec.ofInt 64 (SB (v : Int)) = BitVec.ofNat 64 v := by
  apply BitVec.eq_of_toNat_eq
  rw [BitVec.toNat_ofInt, BitVec.toNat_ofNat, Oo]
  omega
 show SB ((BitVec.ofInt 64 (SB (v : Int)) &&& BitVec.ofInt 64 (127 : Int)).toNat : Int) = _
 rw [h1, show BitVec.ofInt 64 (127 : Int) = BitVec.ofNat 64 127 from rfl]
 simp only [BitVec.toNat_and, BitVec.toNat_ofNat]
 rw [show (2 : Nat) ^ 64 = 18446744073709551616 from rfl, Nat.mod_eq_of_lt hv, show (127 : Nat) % 18446744073709551616 = 2 ^ 7 - 1 from rfl, Nat.and_two_pow_sub_one_eq_mod]
 exact az
theorem OP {x : Nat} (hx : x < 18446744073709551616) : nw x = some ((cX 64 x : Nat) : Int) := by
 obtain ⟨hn, hs⟩ := Qi 8 x (by simpa using hx)
 have r85 : rep 85 8 = 6148914691236517205 := rfl
 have r51 : rep 51 8 = 3689348814741910323 := rfl
 have r15 : rep 15 8 = 1085102592571150095 := rfl
 have hA : sA 8 x ≤ 12297829382473034410 := by
  have h1 : x / 2 &&& 6148914691236517205 ≤ 6148914691236517205 := Nat.and_le_right
  have h2 : x &&& 6148914691236517205 ≤ 6148914691236517205 := Nat.and_le_right
  rw [sA, r85]; omega
 have hB : sB 8 (sA 8 x) ≤ 7378697629483820646 := by
  have h1 : sA 8 x / 4 &&& 3689348814741910323 ≤ 3689348814741910323 := Nat.and_le_right
  have h2 : sA 8 x &&& 3689348814741910323 ≤ 3689348814741910323 := Nat.and_le_right
  rw [sB, r51]; omega
 have e1 : IntKind.u64.wrap (cn .u64 (a7 .u64 (x : Int) 1) 6148914691236517205 + cn .u64 (x : Int) 6148914691236517205) = ((sA 8 x : Nat) : Int) := by
  have g := pM x (s := 1) (by decide)
  have g1 := mm (x := x / 2) (y := 6148914691236517205) (by omega) (by decide)
  have g2 := mm (x := x) (y := 6148914691236517205) hx (by decide)
  rw [show ((1 : Nat) : Int) = 1 from rfl] at g
  rw [show ((6148914691236517205 : Nat) : Int) = 6148914691236517205 from rfl] at g1 g2
  rw [g, show x / 2 ^ 1 = x / 2 from rfl, g1, g2, pN, ← r85]
  rw [Nat.mod_eq_of_lt (by rw [sA] at hA; omega)]; rfl
 generalize sA 8 x = A at *
 have e2 : IntKind.u64.wrap (cn .u64 (a7 .u64 (A : Int) 2) 3689348814741910323 + cn .u64 (A : Int) 3689348814741910323) = ((sB 8 A : Nat) : Int) := by
  have g := pM A (s := 2) (by decide)
  have g1 := mm (x := A / 4) (y := 3689348814741910323) (by omega) (by decide)
  have g2 := mm (x := A) (y := 3689348814741910323) (by omega) (by decide)
  rw [show ((2 : Nat) : Int) = 2 from rfl] at g
  rw [show ((3689348814741910323 : Nat) : Int) = 3689348814741910323 from rfl] at g1 g2
  rw [g, show A / 2 ^ 2 = A / 4 from rfl, g1, g2, pN, ← r51]
  rw [Nat.mod_eq_of_lt (by rw [sB] at hB; omega)]; rfl
 generalize sB 8 A = B at *
 have e3 : cn .u64 (IntKind.u64.wrap (a7 .u64 (B : Int) 4 + (B : Int))) 1085102592571150095 = ((sC 8 B : Nat) : Int) := by
  have g := pM B (s := 4) (by decide)
  have g1 := mm (x := B / 16 + B) (y := 1085102592571150095) (by omega) (by decide)
  rw [show ((4 : Nat) : Int) = 4 from rfl] at g
  rw [show ((1085102592571150095 : Nat) : Int) = 1085102592571150095 from rfl] at g1
  rw [g, show B / 2 ^ 4 = B / 16 from rfl, pN, Nat.mod_eq_of_lt (by omega), g1, ← r15]; rfl
 rw [hs] at e3
 have hsm := Kn 8 x
 obtain ⟨z, u, v, f1, f2, f3, f4, l1, l2, l3⟩ := Lw _ hsm
 rw [Km] at f4
 generalize jg 8 x = C at *
 have e4 : IntKind.u64.wrap ((C : Int) + a7 .u64 (C : Int) 8) = ((z : Nat) : Int) := by
  have g := pM C (s := 8) (by decide)
  rw [show ((8 : Nat) : Int) = 8 from rfl] at g
  rw [g, pN, show C / 2 ^ 8 = C / 256 from rfl, f1, Nat.mod_eq_of_lt l1]
 have e5 : IntKind.u64.wrap ((z : Int) + a7 .u64 (z : Int) 16) = ((u : Nat) : Int) := by
  have g := pM z (s := 16) (by decide)
  rw [show ((16 : Nat) : Int) = 16 from rfl] at g
  rw [g, pN, show z / 2 ^ 16 = z / 65536 from rfl, f2, Nat.mod_eq_of_lt l2]
 have e6 : IntKind.u64.wrap ((u : Int) + a7 .u64 (u : Int) 32) = ((v : Nat) : Int) := by
  have g := pM u (s := 32) (by decide)
  rw [show ((32 : Nat) : Int) = 32 from rfl] at g
  rw [g, pN, show u / 2 ^ 32 = u / 4294967296 from rfl, f3, Nat.mod_eq_of_lt l3]
 unfold nw
 simp only [Option.bind_some, e1, e2, e3, e4, e5, e6]
 rw [OO v l3, f4]
end Go.Proofs.YtfmhbcfklokmaaaGreatDoor
