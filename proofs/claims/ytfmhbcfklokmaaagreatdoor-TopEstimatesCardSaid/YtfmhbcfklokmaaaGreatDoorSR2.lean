/- Lemmas for the statement TopEstimates: Go functions told as pure functions, and laws about these; texts joined and shortened by a program of mine; no condition. -/
import Derived.Test.YtfmhbcfklokmaaaGreatDoorSR1
import Derived.Test.YtfmhbcfklokmaaaGreatDoorRows
set_option linter.unusedVariables false
set_option linter.unusedSimpArgs false
set_option linter.defProp false
namespace Go.Proofs.YtfmhbcfklokmaaaGreatDoor
open Vm
open AW (block cond exit ret seq skip)
open _root_.ByteArray (mk)
open IntKind (i64 u64 u32 u8)
set_option maxRecDepth 100000
set_option maxHeartbeats 10000000
noncomputable section
def Qc : List (Nat × TI) := [(2, ⟨.int .i64, 1, 8, [.int .i64 0], false⟩), (3, ⟨.int .i64, 1, 8, [.int .i64 0], false⟩), (4, ⟨.bool, 1, 1, [.bool false], false⟩), (5, ⟨.int .u8, 1, 1, [.int .u8 0], false⟩), (9, ⟨.str, 1, 16, [.string ⟨#[]⟩], false⟩), (22, ⟨.slice 3, 1, 24, [.slice none 0 0], false⟩), (25, ⟨.ptr 89, 1, 8, [.pointer none], false⟩), (27, ⟨.slice 82, 1, 24, [.slice none 0 0], false⟩), (28, ⟨.slice 9, 1, 24, [.slice none 0 0], false⟩), (29, ⟨.slice 149, 1, 24, [.slice none 0 0], false⟩), (31, ⟨.struct [(28, 0), (29, 1), (29, 2)], 3, 72, [.slice none 0 0, .slice none 0 0, .slice none 0 0], false⟩), (33, ⟨.struct [(27, 0), (31, 1)], 4, 96, [.slice none 0 0, .slice none 0 0, .slice none 0 0, .slice none 0 0], false⟩), (35, ⟨.slice 84, 1, 24, [.slice none 0 0], false⟩), (37, ⟨.int .u64, 1, 8, [.int .u64 0], false⟩), (39, ⟨.struct [(37, 0), (37, 1)], 2, 16, [.int .u64 0, .int .u64 0], true⟩), (42, ⟨.struct [(3, 0), (22, 1), (22, 2)], 3, 56, [.int .i64 0, .slice none 0 0, .slice none 0 0], false⟩), (44, ⟨.slice 53, 1, 24, [.slice none 0 0], false⟩), (47, ⟨.slice 70, 1, 24, [.slice none 0 0], false⟩), (48, ⟨.int .i64, 1, 8, [.int .i64 0], false⟩), (51, ⟨.slice 55, 1, 24, [.slice none 0 0], false⟩), (53, ⟨.struct [(3, 0), (3, 1), (28, 2)], 3, 40, [.int .i64 0, .int .i64 0, .slice none 0 0], false⟩), (55, ⟨.struct [(3, 0), (3, 1)], 2, 16, [.int .i64 0, .int .i64 0], true⟩), (68, ⟨.slice 126, 1, 24, [.slice none 0 0], false⟩), (70, ⟨.struct [(3, 0), (3, 1), (68, 2)], 3, 40, [.int .i64 0, .int .i64 0, .slice none 0 0], false⟩), (82, ⟨.struct [(9, 0), (3, 1)], 2, 24, [.string ⟨#[]⟩, .int .i64 0], true⟩), (84, ⟨.struct [(3, 0), (3, 1), (3, 2)], 3, 24, [.int .i64 0, .int .i64 0, .int .i64 0], true⟩), (89, ⟨.struct [(22, 0), (3, 1), (37, 2)], 3, 40, [.slice none 0 0, .int .i64 0, .int .u64 0], false⟩), (97, ⟨.struct [(3, 0), (3, 1), (3, 2)], 3, 24, [.int .i64 0, .int .i64 0, .int .i64 0], true⟩), (110, ⟨.struct [(3, 0), (22, 1), (22, 2)], 3, 56, [.int .i64 0, .slice none 0 0, .slice none 0 0], false⟩), (124, ⟨.slice 37, 1, 24, [.slice none 0 0], false⟩), (126, ⟨.struct [(3, 0), (124, 1)], 2, 32, [.int .i64 0, .slice none 0 0], false⟩), (129, ⟨.arr 6 3, 6, 48, [.int .i64 0, .int .i64 0, .int .i64 0, .int .i64 0, .int .i64 0, .int .i64 0], true⟩), (149, ⟨.struct [(9, 0), (9, 1)], 2, 32, [.string ⟨#[]⟩, .string ⟨#[]⟩], true⟩), (150, ⟨.int .u64, 1, 8, [.int .u64 0], false⟩), (151, ⟨.slice 5, 1, 24, [.slice none 0 0], false⟩), (166, ⟨.struct [(3, 0), (3, 1), (3, 2), (3, 3)], 4, 32, [.int .i64 0, .int .i64 0, .int .i64 0, .int .i64 0], true⟩), (167, ⟨.slice 166, 1, 24, [.slice none 0 0], false⟩), (190, ⟨.other, 1, 8, [.nilFunc], false⟩), (191, ⟨.other, 1, 8, [.nilFunc], false⟩), (192, ⟨.other, 1, 8, [.nilFunc], false⟩), (194, ⟨.struct [(9, 0), (190, 1), (191, 2), (192, 3)], 4, 40, [.string ⟨#[]⟩, .nilFunc, .nilFunc, .nilFunc], false⟩), (205, ⟨.struct [(3, 0), (4, 1), (9, 2)], 3, 32, [.int .i64 0, .bool false, .string ⟨#[]⟩], true⟩), (210, ⟨.slice 47, 1, 24, [.slice none 0 0], false⟩), (215, ⟨.slice 243, 1, 24, [.slice none 0 0], false⟩), (217, ⟨.struct [(215, 0), (215, 1)], 2, 48, [.slice none 0 0, .slice none 0 0], false⟩), (243, ⟨.int .u32, 1, 4, [.int .u32 0], false⟩), (244, ⟨.arr 5 194, 20, 200, [.string ⟨#[]⟩, .nilFunc, .nilFunc, .nilFunc, .string ⟨#[]⟩, .nilFunc, .nilFunc, .nilFunc, .string ⟨#[]⟩, .nilFunc, .nilFunc, .nilFunc, .string ⟨#[]⟩, .nilFunc, .nilFunc, .nilFunc, .string ⟨#[]⟩, .nilFunc, .nilFunc, .nilFunc], false⟩), (257, ⟨.struct [(215, 0), (48, 1)], 2, 32, [.slice none 0 0, .int .i64 0], false⟩), (266, ⟨.struct [(37, 0), (37, 1), (37, 2), (37, 3)], 4, 32, [.int .u64 0, .int .u64 0, .int .u64 0, .int .u64 0], true⟩), (295, ⟨.arr 24 5, 24, 24, [.int .u8 0, .int .u8 0, .int .u8 0, .int .u8 0, .int .u8 0, .int .u8 0, .int .u8 0, .int .u8 0, .int .u8 0, .int .u8 0, .int .u8 0, .int .u8 0, .int .u8 0, .int .u8 0, .int .u8 0, .int .u8 0, .int .u8 0, .int .u8 0, .int .u8 0, .int .u8 0, .int .u8 0, .int .u8 0, .int .u8 0, .int .u8 0], true⟩), (310, ⟨.slice 257, 1, 24, [.slice none 0 0], false⟩), (321, ⟨.arr 64 9, 64, 1024, .replicate 64 (.string ⟨#[]⟩), true⟩), (325, ⟨.struct [(323, 0), (151, 1)], 2, 32, [.pointer none, .slice none 0 0], false⟩), (363, ⟨.arr 12 3, 12, 96, [.int .i64 0, .int .i64 0, .int .i64 0, .int .i64 0, .int .i64 0, .int .i64 0, .int .i64 0, .int .i64 0, .int .i64 0, .int .i64 0, .int .i64 0, .int .i64 0], true⟩)]
theorem ae : bH Tryz.prog (Vm.look Qc) := On
theorem eO : Tryz.prog.follows .mixedOrders = true := by kernel_rfl
def Es (x : ByteArray) : List T := [.v (.string x)]
abbrev mt := ByteArray.empty
def Rs (xs : List ByteArray) : Nat → Nat → T := bJ mt Es xs
theorem Vs : ∀ x, kA (Es x) := fun _ => ⟨tv, tv⟩
structure aC where
 Name : ByteArray
 Kind : Int
def bD : aC := ⟨mt, 0⟩
instance : Inhabited aC := ⟨bD⟩
def vz (x : aC) : List T := [.v (.string x.Name), .v (.int .i64 x.Kind)]
def cZ (xs : List aC) : Nat → Nat → T := bJ bD vz xs
structure aD where
 Length : Int
 Hashes : Int
 Salt : Int
def dk : aD := ⟨0, 0, 0⟩
instance : Inhabited aD := ⟨dk⟩
def uO (x : aD) : List T := [.v (.int .i64 x.Length), .v (.int .i64 x.Hashes), .v (.int .i64 x.Salt)]
def cA (xs : List aD) : Nat → Nat → T := bJ dk uO xs
structure aE where
 From : ByteArray
 To : ByteArray
def bT : aE := ⟨mt, mt⟩
instance : Inhabited aE := ⟨bT⟩
structure aW where
 Titles : List ByteArray
 Nicknames : List aE
 Streets : List aE
def DV : aW := ⟨([] : am), ([] : List aE), ([] : List aE)⟩
instance : Inhabited aW := ⟨DV⟩
structure aS where
 Fields : List aC
 Rules : aW
def J4 : aS := ⟨([] : List aC), DV⟩
instance : Inhabited aS := ⟨J4⟩
def ze (x : aE) : List T := [.v (.string x.From), .v (.string x.To)]
def bA (xs : List aE) : Nat → Nat → T := bJ bT ze xs
noncomputable def uX (p0 : aC) (pc0 : aC) : Option (Bool × aC) := some ((p0.Name.toList == pc0.Name.toList), pc0)
abbrev CT (f : FuncId) (a : List AV) (b : List (Nat × aQ)) (o : AV) (d : List (Nat × aQ)) : Prop := d7 Tryz.prog f a b o d
theorem IG (p0 : aC) (pc0 : aC) (r : Bool × aC) (h : uX p0 pc0 = some r) : CT 70 [.agg [cs p0.Name, ag p0.Kind], .c (.ptr 0 2 0 0)] [(0, .box 82 [cs pc0.Name, ag pc0.Kind])] (vb r.1) [(0, .box 82 [cs r.2.Name, ag r.2.Kind])] := by
 refine aw ae 1 Tryz.func70 rfl (fun _ _ _ => ?_)
 unfold uX at h
 refine QZ ae [(2, pX 1 2)] [1] [(1, .box 82 [cs p0.Name, ag p0.Kind])] 3 [] ?_
 refine ah ae [(3, vb (p0.Name.toList == pc0.Name.toList))] 9 (ret ?_)
 obtain rfl := ay h
 exact be (.inr rfl) [(0, 0)] 1 (vb (p0.Name.toList == pc0.Name.toList))
noncomputable def qi (p0 : List aC) (x4 : Int) (x5 : ByteArray) (x6 : Int) : Option ((Int × ByteArray × Int) ⊕ ((ByteArray × Int) ⊕ (Int × ByteArray × Int))) := if decide (x4 < (p0.length : Int)) then if 0 ≤ x4 then if x4 < (p0.length : Int) then aF (uX (p0.getD x4.toNat bD) (⟨x5, x6⟩ : aC)) fun y15 y16 => (if y15 then some (.inr (.inr (x4, y16.Name, y16.Kind))) else some (.inl (SB (x4 + 1), y16.Name, y16.Kind))) else none else none else some (.inr (.inl (x5, x6)))
noncomputable def xI (x19 : ByteArray) (x20 : Int) : Option (Int × aC) := some ((-1), (⟨x19, x20⟩ : aC))
noncomputable def xJ (x21 : Int) (x22 : ByteArray) (x23 : Int) : Option (Int × aC) := some (x21, (⟨x22, x23⟩ : aC))
noncomputable def uk (p0 : List aC) (p1d0 : aC) : Option (Int × aC) := cD (loop (fun v : Int × ByteArray × Int => qi p0 v.1 v.2.1 v.2.2) (0, p1d0.Name, p1d0.Kind)) (fun t => xI t.1 t.2) (fun t => xJ t.1 t.2.1 t.2.2)
theorem HQ (p0 : List aC) (p1d0 : aC) (r : Int × aC) (h : uk p0 p1d0 = some r) : CT 113 [vl 2 cZ p0, .clo 70 [] [.c (.ptr 0 2 0 0)]] [(0, .box 82 [cs p1d0.Name, ag p1d0.Kind])] (af r.1) [(0, .box 82 [cs r.2.Name, ag r.2.Kind])] := by
 refine aw ae 1 Tryz.func113 rfl (fun _ _ _ => ?_)
 unfold uk at h
 refine ah ae [] 2 (seq ?_)
 refine ah ae [(8, af 0), (7, af (p0.length : Int))] 5 (block ?_)
 refine Q4 h (fun v => ⟨[(0, vl 2 cZ p0), (1, .clo 70 [] [.c (.ptr 0 2 0 0)]), (7, af (p0.length : Int)), (8, af v.1)], [(0, .box 82 [cs v.2.1, ag v.2.2])], 1⟩) (fun t => (.exit 0, ⟨[], [(0, .box 82 [cs t.1, ag t.2])], 1⟩)) (fun t => (.ret, ⟨[(4, af t.1)], [(0, .box 82 [cs t.2.1, ag t.2.2])], 1⟩)) (ai [(0, 0)]) (fun _ => tv) (fun _ => tv) ?_ (fun t h => ?_) (fun t h => ?_)
 ·clear h
  intro v o h
  obtain ⟨x4, x5, x6⟩ := v
  replace h : qi p0 x4 x5 x6 = some o := h
  unfold qi at h
  refine ah ae [(9, vb (decide (x4 < (p0.length : Int))))] 2 (seq ?_)
  refine Q2 h ?_ ?_ <;> intro c12 h
  ·refine skip (QX ?_)
   refine seq (block ?_)
   refine ah ae [(5, af x4)] 4 ?_
   obtain ⟨g13, g14, h⟩ := aJ h
   obtain ⟨y15, y16, e17, h⟩ := aK h
   refine QZ ae [(16, vb y15)] [0] [(0, .box 82 [cs y16.Name, ag y16.Kind])] 9 (Su [hq g13 g14, hn, hm [0] [] 0 (IG (p0.getD x4.toNat bD) (⟨x5, x6⟩ : aC) (y15, y16) e17) ⟨rfl, tv⟩]) ?_
   refine Q2 h ?_ ?_ <;> intro c18 h
   ·refine ah ae [(4, af x4)] 11 (ret (QT (QW ?_)))
    exact aX h rfl (ai [(0, 0)])
   ·refine skip (QU (QX ?_))
    refine ba ae [(8, af (SB (x4 + 1)))] 11 ?_
    exact bh h (ai [(0, 0)])
  ·refine exit (QR ?_)
   exact aX h rfl (ai [(0, 0)])
 ·obtain ⟨x19, x20⟩ := t
  replace h : xI x19 x20 = some r := h
  unfold xI at h
  show (_ : XQ) (.exit 0) _
  refine QO (QX ?_)
  refine ah ae [(4, af (-1))] 2 (ret ?_)
  obtain rfl := ay h
  exact be (.inr rfl) [(0, 0)] 1 (af (-1))
 ·obtain ⟨x21, x22, x23⟩ := t
  replace h : xJ x21 x22 x23 = some r := h
  unfold xJ at h
  show (_ : XQ) (.ret) _
  refine QT (QW ?_)
  obtain rfl := ay h
  exact be (.inr rfl) [(0, 0)] 1 (af x21)
def mM (p0 : List aC) (p1d0 : aC) : Option (Bool × aC) := aF (uk p0 p1d0) fun y1 y2 => (some (decide (y1 ≥ 0), y2))
theorem HM (p0 : List aC) (p1d0 : aC) (r : Bool × aC) (h : mM p0 p1d0 = some r) : CT 69 [vl 2 cZ p0, .clo 70 [] [.c (.ptr 0 2 0 0)]] [(0, .box 82 [cs p1d0.Name, ag p1d0.Kind])] (vb r.1) [(0, .box 82 [cs r.2.Name, ag r.2.Kind])] := by
 refine aw ae 1 Tryz.func69 rfl (fun _ _ _ => ?_)
 unfold mM at h
 refine ah ae [] 2 ?_
 obtain ⟨y1, y2, e3, h⟩ := aK h
 refine QZ ae [(4, vb (decide (y1 ≥ 0)))] [0] [(0, .box 82 [cs y2.Name, ag y2.Kind])] 6 (Ss [hm [0] [] 0 (HQ p0 p1d0 (y1, y2) e3) ⟨rfl, tv⟩]) (ret ?_)
 obtain rfl := ay h
 exact be (.inr rfl) [(0, 0)] 1 (vb (decide (y1 ≥ 0)))
def rC (x1 : Bool) : Option Bool := some x1
def sE (p0 : Int) : Option Bool := if decide (p0 ≥ 97) then rC (decide (p0 ≤ 122)) else rC false
theorem Jw (p0 : Int) (r : Bool) (h : sE p0 = some r) : CT 155 [jv p0] [] (vb r) [] := by
 refine aw ae 0 Tryz.func155 rfl (fun _ _ _ => ?_)
 unfold sE at h
 refine ah ae [] 1 (seq ?_)
 refine AW.join (ι := Bool) (fun v => ⟨[(2, vb v)], [], 0⟩) (fun v : Bool => rC v = some r) (fun x1 h => ?_) ?_
 ·unfold rC at h
  refine QX (ret ?_)
  apply au h (vb x1)
 ·rcases aI h with ⟨c2, h⟩ | ⟨c2, h⟩
  ·refine ax ae [(2, vb (decide (p0 ≤ 122)))] 8 [hn, ht c2] ?_
   exact jl (decide (p0 ≤ 122)) h
  ·refine ax ae [(2, vb false)] 8 [hn, hf c2] ?_
   exact jl false h
def fB (x : Int) : List T := [.v (.int .u8 x)]
def bQ (xs : List Int) : Nat → Nat → T := bJ 0 fB xs
theorem Cc : ∀ x, kA (fB x) := fun _ => ⟨tv, tv⟩
def rf (x4 : Int) (x7 : List Int) : Option ((List Int × Int) ⊕ List Int) := some (.inl (x7, SB (x4 + 1)))
noncomputable def rh (p0 : ByteArray) (x3 : List Int) (x4 : Int) : Option ((List Int × Int) ⊕ List Int) := if decide (x4 < (p0.size : Int)) then if 0 ≤ x4 then if x4 < (p0.size : Int) then (sE ((p0.data.toList.getD x4.toNat 0).toNat : Int)).bind fun y10 => (if y10 then if x3.length + ([((p0.data.toList.getD x4.toNat 0).toNat : Int)] : List Int).length ≤ 1099511627776 then rf x4 (x3 ++ ([((p0.data.toList.getD x4.toNat 0).toNat : Int)] : List Int)) else none else rf x4 x3) else none else none else some (.inr x3)
noncomputable def jQ (p0 : ByteArray) : Option ByteArray := (loop (fun v : List Int × Int => rh p0 v.1 v.2) (([] : List Int), 0)).bind fun x14 => (some (Vm.strOf x14))
theorem ym (p0 : ByteArray) (r : ByteArray) (h : jQ p0 = some r) : CT 114 [vs p0] [] (vs r) [] := by
 refine aw ae 0 Tryz.func114 rfl (fun _ _ _ => ?_)
 unfold jQ at h
 refine ah ae [] 1 ?_
 refine ah ae [(3, .c (ar))] 2 (seq ?_)
 refine ah ae [(7, af 0), (6, af (p0.size : Int))] 5 (block ?_)
 obtain ⟨x14, l15, h⟩ := ap h
 refine Q3 l15 (fun v => ⟨[(0, vs p0), (3, rX 0 1 v.1.length), (6, af (p0.size : Int)), (7, af v.2)], [(0, .row 5 false 1 v.1.length (bQ v.1))], 1⟩) (fun t : List Int => (.exit 0, ⟨[(3, rX 0 1 t.length)], [(0, .row 5 false 1 t.length (bQ t))], 1⟩)) (Conv.trans (cG (t := 3) (ty := 5) (sz := 1) (n := ([] : List Int).length) (f := bQ ([] : List Int)) (by kernel_rfl) rfl) (ai [(0, 5)])) (fun _ => tv) ?_ ?_
 ·clear l15 h
  intro v o h
  obtain ⟨x3, x4⟩ := v
  replace h : rh p0 x3 x4 = some o := h
  unfold rh at h
  refine ah ae [(8, vb (decide (x4 < (p0.size : Int))))] 2 (seq ?_)
  refine Q2 h ?_ ?_ <;> intro c6 h
  ·refine skip (QX (seq ?_))
   refine AW.join (ι := List Int) (fun v => ⟨[(0, vs p0), (3, rX 0 1 v.length), (6, af (p0.size : Int)), (7, af x4)], [(0, .row 5 false 1 v.length (bQ v))], 1⟩) (fun v : List Int => rf x4 v = some o) (fun x7 h => ?_) ?_
   ·unfold rf at h
    refine QX ?_
    refine ba ae [(7, af (SB (x4 + 1)))] 3 ?_
    exact bh h (ai [(0, 0)])
   ·refine block ?_
    refine ah ae [(4, af x4)] 4 ?_
    obtain ⟨g8, g9, h⟩ := aJ h
    obtain ⟨y10, e11, h⟩ := ap h
    refine aA ae [(13, vb y10)] 7 (Ss [hq g8 g9, hk (Jw ((p0.data.toList.getD x4.toNat 0).toNat : Int) y10 e11)]) ?_
    refine Q2 h ?_ ?_ <;> intro c12 h
    ·obtain ⟨g13, h⟩ := aY h
     refine QY ae [(3, .c (.ref 12 1 0 ((x3 ++ ([((p0.data.toList.getD x4.toNat 0).toNat : Int)] : List Int)).length)))] [0, 11, 12] [(12, .row 5 false 1 (x3 ++ ([((p0.data.toList.getD x4.toNat 0).toNat : Int)] : List Int)).length (bQ (x3 ++ ([((p0.data.toList.getD x4.toNat 0).toNat : Int)] : List Int))))] 14 (Su [hq g8 g9, bB 0 fB 1 (fun _ => rfl) ([((p0.data.toList.getD x4.toNat 0).toNat : Int)] : List Int), cP 0 fB 1 1 x3 ([((p0.data.toList.getD x4.toNat 0).toNat : Int)] : List Int) g13 (by decide)]) ?_
     refine QU ?_
     exact jl (x3 ++ ([((p0.data.toList.getD x4.toNat 0).toNat : Int)] : List Int)) h (ai [(0, 12)])
    ·refine skip (QU ?_)
     exact jl x3 h (ai [(0, 0)])
  ·refine exit (QR ?_)
   exact aX h rfl (ai [(0, 0)])
 ·show (_ : XQ) (.exit 0) _
  refine QO (QX ?_)
  refine aA ae [(2, vs (Vm.strOf x14))] 4 [hn, hi (fun i => x14.getD i 0) (p := (0 + x14.length ≤ x14.length) ∧ ∀ i, i < x14.length → (fun i j => bQ x14 (0 + i) j) i 0 = .v (.int .u8 (x14.getD i 0))) (⟨Ax, fun i _ => by simp only [R9] <;> rfl⟩)] (ret ?_)
  apply au h (vs (Vm.strOf x14))
def nV (x1 : Bool) : Option Bool := some x1
noncomputable def lT (p0 : ByteArray) : Option Bool := if (!(p0.toList == (mk #[]).toList)) then if decide ((p0.size : Int) ≤ 12) then (jQ p0).bind fun y4 => (nV (y4.toList == p0.toList)) else nV false else nV false
theorem uY (p0 : ByteArray) (r : Bool) (h : lT p0 = some r) : CT 71 [vs p0] [] (vb r) [] := by
 refine aw ae 0 Tryz.func71 rfl (fun _ _ _ => ?_)
 unfold lT at h
 refine ah ae [] 1 (seq ?_)
 refine AW.join (ι := Bool) (fun v => ⟨[(2, vb v)], [], 0⟩) (fun v : Bool => nV v = some r) (fun x1 h => ?_) ?_
 ·unfold nV at h
  refine QX (ret ?_)
  apply au h (vb x1)
 ·rcases aI h with ⟨c2, h⟩ | ⟨c2, h⟩
  ·rcases aI h with ⟨c3, h⟩ | ⟨c3, h⟩
   ·obtain ⟨y4, e5, h⟩ := ap h
    refine ax ae [(2, vb (y4.toList == p0.toList))] 14 [hn, ht c2, hn, hn, hn, ht c3, hn, hn, hn, hk (ym p0 y4 e5)] ?_
    exact jl (y4.toList == p0.toList) h
   ·refine ax ae [(2, vb false)] 15 [hn, ht c2, hn, hn, hn, hf c3] ?_
    exact jl false h
  ·refine ax ae [(2, vb false)] 15 [hn, hf c2] ?_
   exact jl false h
def ol (x1 : Bool) : Option Bool := some x1
noncomputable def hC (p0 : ByteArray) : Option Bool := if (!(p0.toList == (mk #[]).toList)) then if decide ((p0.size : Int) ≤ 64) then (jQ p0).bind fun y4 => (ol (y4.toList == p0.toList)) else ol false else ol false
theorem fQ (p0 : ByteArray) (r : Bool) (h : hC p0 = some r) : CT 156 [vs p0] [] (vb r) [] := by
 refine aw ae 0 Tryz.func156 rfl (fun _ _ _ => ?_)
 unfold hC at h
 refine ah ae [] 1 (seq ?_)
 refine AW.join (ι := Bool) (fun v => ⟨[(2, vb v)], [], 0⟩) (fun v : Bool => ol v = some r) (fun x1 h => ?_) ?_
 ·unfold ol at h
  refine QX (ret ?_)
  apply au h (vb x1)
 ·rcases aI h with ⟨c2, h⟩ | ⟨c2, h⟩
  ·rcases aI h with ⟨c3, h⟩ | ⟨c3, h⟩
   ·obtain ⟨y4, e5, h⟩ := ap h
    refine ax ae [(2, vb (y4.toList == p0.toList))] 14 [hn, ht c2, hn, hn, hn, ht c3, hn, hn, hn, hk (ym p0 y4 e5)] ?_
    exact jl (y4.toList == p0.toList) h
   ·refine ax ae [(2, vb false)] 15 [hn, ht c2, hn, hn, hn, hf c3] ?_
    exact jl false h
  ·refine ax ae [(2, vb false)] 15 [hn, hf c2] ?_
   exact jl false h
def nW (x2 : Int) (x6 : Bool) : Option (Int ⊕ (Unit ⊕ Unit)) := if x6 then some (.inr (.inr ())) else some (.inl (SB (x2 + 1)))
noncomputable def vk (p0 : List ByteArray) (x2 : Int) : Option (Int ⊕ (Unit ⊕ Unit)) := if decide (x2 < (p0.length : Int)) then if 0 ≤ x2 then if x2 < (p0.length : Int) then (hC (p0.getD x2.toNat mt)).bind fun y8 => (if (!y8) then nW x2 true else if decide (x2 > 0) then if 0 ≤ (SB (x2 - 1)) then if (SB (x2 - 1)) < (p0.length : Int) then nW x2 (!(Op.bytesLess (p0.getD ((SB (x2 - 1)).toNat) mt).toList (p0.getD x2.toNat mt).toList)) else none else none else nW x2 false) else none else none else some (.inr (.inl ()))
def yG : Option Bool := some true
def yH : Option Bool := some false
noncomputable def oM (p0 : List ByteArray) : Option Bool := cD (loop (fun v : Int => vk p0 v) 0) (fun t => yG) (fun t => yH)
theorem yy (p0 : List ByteArray) (r : Bool) (h : oM p0 = some r) : CT 115 [vl 1 Rs p0] [] (vb r) [] := by
 refine aw ae 0 Tryz.func115 rfl (fun _ _ _ => ?_)
 unfold oM at h
 refine ah ae [] 1 (seq ?_)
 refine ah ae [(7, af 0), (6, af (p0.length : Int)), (5, vl 1 Rs p0)] 4 (block ?_)
 refine Q4 h (fun v => ⟨[(0, vl 1 Rs p0), (5, vl 1 Rs p0), (6, af (p0.length : Int)), (7, af v)], [], 0⟩) (fun t => (.exit 0, ⟨[], [], 0⟩)) (fun t => (.ret, ⟨[(2, vb false)], [], 0⟩)) (ai []) (fun _ => tv) (fun _ => tv) ?_ (fun t h => ?_) (fun t h => ?_)
 ·clear h
  intro x2 o h
  unfold vk at h
  refine ah ae [(8, vb (decide (x2 < (p0.length : Int))))] 1 (seq ?_)
  refine Q2 h ?_ ?_ <;> intro c3 h
  ·refine skip (QX ?_)
   refine seq (block ?_)
   obtain ⟨g4, g5, h⟩ := aJ h
   refine aA ae [(4, vs (p0.getD x2.toNat mt)), (3, af x2)] 6 [hn, hq g4 g5] (seq ?_)
   refine AW.join (ι := Bool) (fun v => ⟨[(0, vl 1 Rs p0), (5, vl 1 Rs p0), (6, af (p0.length : Int)), (7, af x2), (27, vb v)], [], 0⟩) (fun v : Bool => nW x2 v = some o) (fun x6 h => ?_) ?_
   ·unfold nW at h
    refine QX ?_
    refine Q2 h ?_ ?_ <;> intro c7 h
    ·refine ah ae [(2, vb false)] 1 (ret (QT (QW ?_)))
     exact aX h rfl (ai [])
    ·refine skip (QU (QX ?_))
     refine ba ae [(7, af (SB (x2 + 1)))] 2 ?_
     exact bh h (ai [])
   ·obtain ⟨y8, e9, h⟩ := ap h
    rcases aI h with ⟨c10, h⟩ | ⟨c10, h⟩
    ·refine ax ae [(27, vb true)] 21 [hn, hk (fQ (p0.getD x2.toNat mt) y8 e9), ht c10] ?_
     exact jl true h
    ·rcases aI h with ⟨c11, h⟩ | ⟨c11, h⟩
     ·obtain ⟨g12, g13, h⟩ := aJ h
      refine ax ae [(27, vb (!(Op.bytesLess (p0.getD ((SB (x2 - 1)).toNat) mt).toList (p0.getD x2.toNat mt).toList)))] 21 [hn, hk (fQ (p0.getD x2.toNat mt) y8 e9), hf c10, hn, hn, ht c11, hn, hn, hn, hn, hq g12 g13] ?_
      exact jl (!(Op.bytesLess (p0.getD ((SB (x2 - 1)).toNat) mt).toList (p0.getD x2.toNat mt).toList)) h (ai [])
     ·refine ax ae [(27, vb false)] 21 [hn, hk (fQ (p0.getD x2.toNat mt) y8 e9), hf c10, hn, hn, hf c11] ?_
      exact jl false h
  ·refine exit (QR ?_)
   exact aX h rfl (ai [])
 ·replace h : yG = some r := h
  unfold yG at h
  show (_ : XQ) (.exit 0) _
  refine QO (QX ?_)
  refine ah ae [(2, vb true)] 1 (ret ?_)
  apply au h (vb true)
 ·replace h : yH = some r := h
  unfold yH at h
  show (_ : XQ) (.ret) _
  refine QT (QW ?_)
  apply au h (vb false)
noncomputable def vA (p0 : aE) (pc0 : ByteArray) : Option (Bool × ByteArray) := some ((p0.From.toList == pc0.toList), pc0)
theorem Ji (p0 : aE) (pc0 : ByteArray) (r : Bool × ByteArray) (h : vA p0 pc0 = some r) : CT 203 [.agg [cs p0.From, cs p0.To], .c (.ptr 0 1 0 0)] [(0, .box 9 [cs pc0])] (vb r.1) [(0, .box 9 [cs r.2])] := by
 refine aw ae 1 Tryz.func203 rfl (fun _ _ _ => ?_)
 unfold vA at h
 refine QZ ae [(2, pX 1 2)] [1] [(1, .box 149 [cs p0.From, cs p0.To])] 3 [] ?_
 refine ah ae [(3, vb (p0.From.toList == pc0.toList))] 8 (ret ?_)
 obtain rfl := ay h
 exact be (.inr rfl) [(0, 0)] 1 (vb (p0.From.toList == pc0.toList))
noncomputable def qm (p0 : List aE) (x3 : Int) (x4 : ByteArray) : Option ((Int × ByteArray) ⊕ (ByteArray ⊕ (Int × ByteArray))) := if decide (x3 < (p0.length : Int)) then if 0 ≤ x3 then if x3 < (p0.length : Int) then aF (vA (p0.getD x3.toNat bT) x4) fun y11 y12 => (if y11 then some (.inr (.inr (x3, y12))) else some (.inl (SB (x3 + 1), y12))) else none else none else some (.inr (.inl x4))
noncomputable def Cn (x15 : ByteArray) : Option (Int × ByteArray) := some ((-1), x15)
noncomputable def xO (x16 : Int) (x17 : ByteArray) : Option (Int × ByteArray) := some (x16, x17)
noncomputable def uo (p0 : List aE) (p1d0 : ByteArray) : Option (Int × ByteArray) := cD (loop (fun v : Int × ByteArray => qm p0 v.1 v.2) (0, p1d0)) (fun t => Cn t) (fun t => xO t.1 t.2)
theorem HW (p0 : List aE) (p1d0 : ByteArray) (r : Int × ByteArray) (h : uo p0 p1d0 = some r) : CT 158 [vl 2 bA p0, .clo 203 [] [.c (.ptr 0 1 0 0)]] [(0, .box 9 [cs p1d0])] (af r.1) [(0, .box 9 [cs r.2])] := by
 refine aw ae 1 Tryz.func158 rfl (fun _ _ _ => ?_)
 unfold uo at h
 refine ah ae [] 2 (seq ?_)
 refine ah ae [(8, af 0), (7, af (p0.length : Int))] 5 (block ?_)
 refine Q4 h (fun v => ⟨[(0, vl 2 bA p0), (1, .clo 203 [] [.c (.ptr 0 1 0 0)]), (7, af (p0.length : Int)), (8, af v.1)], [(0, .box 9 [cs v.2])], 1⟩) (fun t => (.exit 0, ⟨[], [(0, .box 9 [cs t])], 1⟩)) (fun t => (.ret, ⟨[(4, af t.1)], [(0, .box 9 [cs t.2])], 1⟩)) (ai [(0, 0)]) (fun _ => tv) (fun _ => tv) ?_ (fun x15 h => ?_) (fun t h => ?_)
 ·clear h
  intro v o h
  obtain ⟨x3, x4⟩ := v
  replace h : qm p0 x3 x4 = some o := h
  unfold qm at h
  refine ah ae [(9, vb (decide (x3 < (p0.length : Int))))] 2 (seq ?_)
  refine Q2 h ?_ ?_ <;> intro c8 h
  ·refine skip (QX ?_)
   refine seq (block ?_)
   refine ah ae [(5, af x3)] 4 ?_
   obtain ⟨g9, g10, h⟩ := aJ h
   obtain ⟨y11, y12, e13, h⟩ := aK h
   refine QZ ae [(16, vb y11)] [0] [(0, .box 9 [cs y12])] 9 (Su [hq g9 g10, hn, hm [0] [] 0 (Ji (p0.getD x3.toNat bT) x4 (y11, y12) e13) ⟨rfl, tv⟩]) ?_
   refine Q2 h ?_ ?_ <;> intro c14 h
   ·refine ah ae [(4, af x3)] 11 (ret (QT (QW ?_)))
    exact aX h rfl (ai [(0, 0)])
   ·refine skip (QU (QX ?_))
    refine ba ae [(8, af (SB (x3 + 1)))] 11 ?_
    exact bh h (ai [(0, 0)])
  ·refine exit (QR ?_)
   exact aX h rfl (ai [(0, 0)])
 ·unfold Cn at h
  show (_ : XQ) (.exit 0) _
  refine QO (QX ?_)
  refine ah ae [(4, af (-1))] 2 (ret ?_)
  obtain rfl := ay h
  exact be (.inr rfl) [(0, 0)] 1 (af (-1))
 ·obtain ⟨x16, x17⟩ := t
  replace h : xO x16 x17 = some r := h
  unfold xO at h
  show (_ : XQ) (.ret) _
  refine QT (QW ?_)
  obtain rfl := ay h
  exact be (.inr rfl) [(0, 0)] 1 (af x16)
noncomputable def ma (p0 : List aE) (p1 : ByteArray) : Option Int := aF (uo p0 p1) fun y1 y2 => (some y1)
theorem yN (p0 : List aE) (p1 : ByteArray) (r : Int) (h : ma p0 p1 = some r) : CT 157 [vl 2 bA p0, vs p1] [] (af r) [] := by
 refine aw ae 0 Tryz.func157 rfl (fun _ _ _ => ?_)
 unfold ma at h
 refine QZ ae [(3, pX 0 1)] [0] [(0, .box 9 [cs p1])] 2 [] ?_
 obtain ⟨y1, y2, e3, h⟩ := aK h
 refine QZ ae [(4, af y1)] [0] [] 5 (Ss [hm [0] [] 0 (HW p0 p1 (y1, y2) e3) ⟨rfl, tv⟩]) (ret ?_)
 apply au h (af y1)
def jM (x2 : Int) (x6 : Bool) : Option (Int ⊕ (Unit ⊕ Unit)) := if x6 then some (.inr (.inr ())) else some (.inl (SB (x2 + 1)))
noncomputable def vm (p0 : List aE) (x2 : Int) : Option (Int ⊕ (Unit ⊕ Unit)) := if decide (x2 < (p0.length : Int)) then if 0 ≤ x2 then if x2 < (p0.length : Int) then (hC ((p0.getD x2.toNat bT).From)).bind fun y8 => (if (!y8) then jM x2 true else (hC ((p0.getD x2.toNat bT).To)).bind fun y11 => (if (!y11) then jM x2 true else if decide (x2 > 0) then if 0 ≤ (SB (x2 - 1)) then if (SB (x2 - 1)) < (p0.length : Int) then if (!(Op.bytesLess ((p0.getD ((SB (x2 - 1)).toNat) bT).From).toList ((p0.getD x2.toNat bT).From).toList)) = true then jM x2 true else (ma p0 ((p0.getD x2.toNat bT).To)).bind fun y18 => (jM x2 (decide (y18 ≥ 0))) else none else none else (ma p0 ((p0.getD x2.toNat bT).To)).bind fun y20 => (jM x2 (decide (y20 ≥ 0))))) else none else none else some (.inr (.inl ()))
def yO : Option Bool := some true
def yP : Option Bool := some false
def iX (p0 : List aE) : Option Bool := cD (loop (fun v : Int => vm p0 v) 0) (fun t => yO) (fun t => yP)
theorem yI (p0 : List aE) (r : Bool) (h : iX p0 = some r) : CT 116 [vl 2 bA p0] [] (vb r) [] := by
 refine aw ae 0 Tryz.func116 rfl (fun _ _ _ => ?_)
 unfold iX at h
 refine ah ae [] 1 (seq ?_)
 refine ah ae [(7, af 0), (6, af (p0.length : Int)), (5, vl 2 bA p0)] 4 (block ?_)
 refine Q4 h (fun v => ⟨[(0, vl 2 bA p0), (5, vl 2 bA p0), (6, af (p0.length : Int)), (7, af v)], [], 0⟩) (fun t => (.exit 0, ⟨[], [], 0⟩)) (fun t => (.ret, ⟨[(2, vb false)], [], 0⟩)) (ai []) (fun _ => tv) (fun _ => tv) ?_ (fun t h => ?_) (fun t h => ?_)
 ·clear h
  intro x2 o h
  unfold vm at h
  refine ah ae [(8, vb (decide (x2 < (p0.length : Int))))] 1 (seq ?_)
  refine Q2 h ?_ ?_ <;> intro c3 h
  ·refine skip (QX ?_)
   refine seq (block ?_)
   obtain ⟨g4, g5, h⟩ := aJ h
   refine QZ ae [(3, af x2), (4, pX 4 2)] [4] [(4, .box 149 [cs ((p0.getD x2.toNat bT).From), cs ((p0.getD x2.toNat bT).To)])] 7 [hn, hq g4 g5] (seq ?_)
   refine AW.join (ι := Bool) (fun v => ⟨[(0, vl 2 bA p0), (5, vl 2 bA p0), (6, af (p0.length : Int)), (7, af x2), (43, vb v)], [], 0⟩) (fun v : Bool => jM x2 v = some o) (fun x6 h => ?_) ?_
   ·unfold jM at h
    refine QX ?_
    refine Q2 h ?_ ?_ <;> intro c7 h
    ·refine ah ae [(2, vb false)] 1 (ret (QT (QW ?_)))
     exact aX h rfl (ai [])
    ·refine skip (QU (QX ?_))
     refine ba ae [(7, af (SB (x2 + 1)))] 2 ?_
     exact bh h (ai [])
   ·obtain ⟨y8, e9, h⟩ := ap h
    rcases aI h with ⟨c10, h⟩ | ⟨c10, h⟩
    ·refine Q0 ae eO [] [(43, vb true)] [] 38 (Ss [hk (fQ ((p0.getD x2.toNat bT).From) y8 e9), ht c10]) ?_
     exact jl true h
    ·obtain ⟨y11, e12, h⟩ := ap h
     rcases aI h with ⟨c13, h⟩ | ⟨c13, h⟩
     ·refine Q0 ae eO [] [(43, vb true)] [] 37 (Ss [hk (fQ ((p0.getD x2.toNat bT).From) y8 e9), hf c10, hn, hn, hn, hk (fQ ((p0.getD x2.toNat bT).To) y11 e12), ht c13]) ?_
      exact jl true h
     ·rcases aI h with ⟨c14, h⟩ | ⟨c14, h⟩
      ·obtain ⟨g15, g16, h⟩ := aJ h
       rcases aI h with ⟨c17, h⟩ | ⟨c17, h⟩
       ·refine Q0 ae eO [] [(43, vb true)] [] 37 (Ss [hk (fQ ((p0.getD x2.toNat bT).From) y8 e9), hf c10, hn, hn, hn, hk (fQ ((p0.getD x2.toNat bT).To) y11 e12), hf c13, hn, hn, hn, ht c14, hn, hn, hn, hn, hq g15 g16, hn, hn, hn, hn, ht c17]) ?_
        exact jl true h
       ·obtain ⟨y18, e19, h⟩ := ap h
        refine Q0 ae eO [] [(43, vb (decide (y18 ≥ 0)))] [] 36 (Ss [hk (fQ ((p0.getD x2.toNat bT).From) y8 e9), hf c10, hn, hn, hn, hk (fQ ((p0.getD x2.toNat bT).To) y11 e12), hf c13, hn, hn, hn, ht c14, hn, hn, hn, hn, hq g15 g16, hn, hn, hn, hn, hf c17, hn, hn, hn, hn, hn, hn, hk (yN p0 ((p0.getD x2.toNat bT).To) y18 e19)]) ?_
        exact jl (decide (y18 ≥ 0)) h
      ·obtain ⟨y20, e21, h⟩ := ap h
       refine Q0 ae eO [] [(43, vb (decide (y20 ≥ 0)))] [] 36 (Ss [hk (fQ ((p0.getD x2.toNat bT).From) y8 e9), hf c10, hn, hn, hn, hk (fQ ((p0.getD x2.toNat bT).To) y11 e12), hf c13, hn, hn, hn, hf c14, hn, hn, hn, hn, hn, hn, hn, hn, hn, hn, hn, hn, hn, hn, hn, hn, hk (yN p0 ((p0.getD x2.toNat bT).To) y20 e21)]) ?_
       exact jl (decide (y20 ≥ 0)) h
  ·refine exit (QR ?_)
   exact aX h rfl (ai [])
 ·replace h : yO = some r := h
  unfold yO at h
  show (_ : XQ) (.exit 0) _
  refine QO (QX ?_)
  refine ah ae [(2, vb true)] 1 (ret ?_)
  apply au h (vb true)
 ·replace h : yP = some r := h
  unfold yP at h
  show (_ : XQ) (.ret) _
  refine QT (QW ?_)
  apply au h (vb false)
noncomputable def uz (p0 : List ByteArray) (p1 : ByteArray) (x2 : Int) : Option (Int ⊕ (Unit ⊕ Int)) := if decide (x2 < (p0.length : Int)) then if 0 ≤ x2 then if x2 < (p0.length : Int) then if (p1.toList == (p0.getD x2.toNat mt).toList) then some (.inr (.inr x2)) else some (.inl (SB (x2 + 1))) else none else none else some (.inr (.inl ()))
def xZ : Option Int := some (-1)
def Cq (x8 : Int) : Option Int := some x8
noncomputable def uG (p0 : List ByteArray) (p1 : ByteArray) : Option Int := cD (loop (fun v : Int => uz p0 p1 v) 0) (fun t => xZ) (fun t => Cq t)
theorem Ih (p0 : List ByteArray) (p1 : ByteArray) (r : Int) (h : uG p0 p1 = some r) : CT 141 [vl 1 Rs p0, vs p1] [] (af r) [] := by
 refine aw ae 0 Tryz.func141 rfl (fun _ _ _ => ?_)
 unfold uG at h
 refine ah ae [] 1 (seq ?_)
 refine ah ae [(8, af 0), (7, af (p0.length : Int))] 4 (block ?_)
 refine Q4 h (fun v => ⟨[(0, vl 1 Rs p0), (1, vs p1), (7, af (p0.length : Int)), (8, af v)], [], 0⟩) (fun t => (.exit 0, ⟨[], [], 0⟩)) (fun t => (.ret, ⟨[(4, af t)], [], 0⟩)) (ai []) (fun _ => tv) (fun _ => tv) ?_ (fun t h => ?_) (fun x8 h => ?_)
 ·clear h
  intro x2 o h
  unfold uz at h
  refine ah ae [(9, vb (decide (x2 < (p0.length : Int))))] 1 (seq ?_)
  refine Q2 h ?_ ?_ <;> intro c4 h
  ·refine skip (QX ?_)
   refine seq (block ?_)
   refine ah ae [(5, af x2)] 3 ?_
   obtain ⟨g5, g6, h⟩ := aJ h
   refine aA ae [(16, vb (p1.toList == (p0.getD x2.toNat mt).toList))] 9 (Su [hq g5 g6]) ?_
   refine Q2 h ?_ ?_ <;> intro c7 h
   ·refine ah ae [(4, af x2)] 11 (ret (QT (QW ?_)))
    exact aX h rfl (ai [])
   ·refine skip (QU (QX ?_))
    refine ba ae [(8, af (SB (x2 + 1)))] 11 ?_
    exact bh h (ai [])
  ·refine exit (QR ?_)
   exact aX h rfl (ai [])
 ·replace h : xZ = some r := h
  unfold xZ at h
  show (_ : XQ) (.exit 0) _
  refine QO (QX ?_)
  refine ah ae [(4, af (-1))] 1 (ret ?_)
  apply au h (af (-1))
 ·unfold Cq at h
  show (_ : XQ) (.ret) _
  refine QT (QW ?_)
  apply au h (af x8)
noncomputable def qA (p0 : List ByteArray) (p1 : ByteArray) : Option Bool := (uG p0 p1).bind fun y1 => (some (decide (y1 ≥ 0)))
theorem Ib (p0 : List ByteArray) (p1 : ByteArray) (r : Bool) (h : qA p0 p1 = some r) : CT 103 [vl 1 Rs p0, vs p1] [] (vb r) [] := by
 refine aw ae 0 Tryz.func103 rfl (fun _ _ _ => ?_)
 unfold qA at h
 refine ah ae [] 1 ?_
 obtain ⟨y1, e2, h⟩ := ap h
 refine aA ae [(4, vb (decide (y1 ≥ 0)))] 5 (Ss [hk (Ih p0 p1 y1 e2)]) (ret ?_)
 apply au h (vb (decide (y1 ≥ 0)))
noncomputable def oA (p0 : aW) (p1 : ByteArray) : Option Bool := (qA p0.Titles p1).bind fun y1 => (some y1)
abbrev cK (x : aW) : List C := [cl 1 Rs x.Titles, cl 2 bA x.Nicknames, cl 2 bA x.Streets]
theorem C5 (p0 : aW) (p1 : ByteArray) (r : Bool) (h : oA p0 p1 = some r) : CT 119 [.agg (cK p0), vs p1] [] (vb r) [] := by
 refine aw ae 0 Tryz.func119 rfl (fun _ _ _ => ?_)
 unfold oA at h
 refine QZ ae [(2, pX 0 3)] [0] [(0, .box 31 (cK p0))] 2 [] ?_
 obtain ⟨y1, e2, h⟩ := ap h
 refine aA ae [(4, vb y1)] 6 (Su [hk (Ib p0.Titles p1 y1 e2)]) (ret ?_)
 apply au h (vb y1)
def vo (p0 : aE) (pc0 : aW) : Option (Bool × aW) := (oA pc0 p0.To).bind fun y1 => (some (y1, pc0))
theorem I2 (p0 : aE) (pc0 : aW) (r : Bool × aW) (h : vo p0 pc0 = some r) : CT 118 [.agg [cs p0.From, cs p0.To], .c (.ptr 0 3 0 0)] [(0, .box 31 (cK pc0))] (vb r.1) [(0, .box 31 (cK r.2))] := by
 refine aw ae 1 Tryz.func118 rfl (fun _ _ _ => ?_)
 unfold vo at h
 refine QZ ae [(2, pX 1 2)] [1] [(1, .box 149 [cs p0.From, cs p0.To])] 3 [] ?_
 obtain ⟨y1, e2, h⟩ := ap h
 refine aA ae [(3, vb y1)] 7 (Su [hk (C5 pc0 p0.To y1 e2)]) (ret ?_)
 obtain rfl := ay h
 exact be (.inr rfl) [(0, 0)] 1 (vb y1)
noncomputable def ql (p0 : List aE) (x5 : Int) (x6 : List ByteArray) (x7 : List aE) (x8 : List aE) : Option ((Int × List ByteArray × List aE × List aE) ⊕ ((List ByteArray × List aE × List aE) ⊕ (Int × List ByteArray × List aE × List aE))) := if decide (x5 < (p0.length : Int)) then if 0 ≤ x5 then if x5 < (p0.length : Int) then aF (vo (p0.getD x5.toNat bT) (⟨x6, x7, x8⟩ : aW)) fun y19 y20 => (if y19 then some (.inr (.inr (x5, y20.Titles, y20.Nicknames, y20.Streets))) else some (.inl (SB (x5 + 1), y20.Titles, y20.Nicknames, y20.Streets))) else none else none else some (.inr (.inl (x6, x7, x8)))
noncomputable def xM (x23 : List ByteArray) (x24 : List aE) (x25 : List aE) : Option (Int × aW) := some ((-1), (⟨x23, x24, x25⟩ : aW))
noncomputable def xN (x26 : Int) (x27 : List ByteArray) (x28 : List aE) (x29 : List aE) : Option (Int × aW) := some (x26, (⟨x27, x28, x29⟩ : aW))
noncomputable def un (p0 : List aE) (p1d0 : aW) : Option (Int × aW) := cD (loop (fun v : Int × List ByteArray × List aE × List aE => ql p0 v.1 v.2.1 v.2.2.1 v.2.2.2) (0, p1d0.Titles, p1d0.Nicknames, p1d0.Streets)) (fun t => xM t.1 t.2.1 t.2.2) (fun t => xN t.1 t.2.1 t.2.2.1 t.2.2.2)
theorem HU (p0 : List aE) (p1d0 : aW) (r : Int × aW) (h : un p0 p1d0 = some r) : CT 158 [vl 2 bA p0, .clo 118 [] [.c (.ptr 0 3 0 0)]] [(0, .box 31 (cK p1d0))] (af r.1) [(0, .box 31 (cK r.2))] := by
 refine aw ae 1 Tryz.func158 rfl (fun _ _ _ => ?_)
 unfold un at h
 refine ah ae [] 2 (seq ?_)
 refine ah ae [(8, af 0), (7, af (p0.length : Int))] 5 (block ?_)
 refine Q4 h (fun v => ⟨[(0, vl 2 bA p0), (1, .clo 118 [] [.c (.ptr 0 3 0 0)]), (7, af (p0.length : Int)), (8, af v.1)], [(0, .box 31 [cl 1 Rs v.2.1, cl 2 bA v.2.2.1, cl 2 bA v.2.2.2])], 1⟩) (fun t => (.exit 0, ⟨[], [(0, .box 31 [cl 1 Rs t.1, cl 2 bA t.2.1, cl 2 bA t.2.2])], 1⟩)) (fun t => (.ret, ⟨[(4, af t.1)], [(0, .box 31 [cl 1 Rs t.2.1, cl 2 bA t.2.2.1, cl 2 bA t.2.2.2])], 1⟩)) (ai [(0, 0)]) (fun _ => tv) (fun _ => tv) ?_ (fun t h => ?_) (fun t h => ?_)
 ·clear h
  intro v o h
  obtain ⟨x5, x6, x7, x8⟩ := v
  replace h : ql p0 x5 x6 x7 x8 = some o := h
  unfold ql at h
  refine ah ae [(9, vb (decide (x5 < (p0.length : Int))))] 2 (seq ?_)
  refine Q2 h ?_ ?_ <;> intro c16 h
  ·refine skip (QX ?_)
   refine seq (block ?_)
   refine ah ae [(5, af x5)] 4 ?_
   obtain ⟨g17, g18, h⟩ := aJ h
   obtain ⟨y19, y20, e21, h⟩ := aK h
   refine QZ ae [(16, vb y19)] [0] [(0, .box 31 (cK y20))] 9 (Su [hq g17 g18, hn, hl [0] [] 0 (I2 (p0.getD x5.toNat bT) (⟨x6, x7, x8⟩ : aW) (y19, y20) e21)]) ?_
   refine Q2 h ?_ ?_ <;> intro c22 h
   ·refine ah ae [(4, af x5)] 11 (ret (QT (QW ?_)))
    exact aX h rfl (ai [(0, 0)])
   ·refine skip (QU (QX ?_))
    refine ba ae [(8, af (SB (x5 + 1)))] 11 ?_
    exact bh h (ai [(0, 0)])
  ·refine exit (QR ?_)
   exact aX h rfl (ai [(0, 0)])
 ·obtain ⟨x23, x24, x25⟩ := t
  replace h : xM x23 x24 x25 = some r := h
  unfold xM at h
  show (_ : XQ) (.exit 0) _
  refine QO (QX ?_)
  refine ah ae [(4, af (-1))] 2 (ret ?_)
  obtain rfl := ay h
  exact be (.inr rfl) [(0, 0)] 1 (af (-1))
 ·obtain ⟨x26, x27, x28, x29⟩ := t
  replace h : xN x26 x27 x28 x29 = some r := h
  unfold xN at h
  show (_ : XQ) (.ret) _
  refine QT (QW ?_)
  obtain rfl := ay h
  exact be (.inr rfl) [(0, 0)] 1 (af x26)
def ul (p0 : List aE) (p1d0 : aW) : Option (Bool × aW) := aF (un p0 p1d0) fun y1 y2 => (some (decide (y1 ≥ 0), y2))
theorem HR (p0 : List aE) (p1d0 : aW) (r : Bool × aW) (h : ul p0 p1d0 = some r) : CT 117 [vl 2 bA p0, .clo 118 [] [.c (.ptr 0 3 0 0)]] [(0, .box 31 (cK p1d0))] (vb r.1) [(0, .box 31 (cK r.2))] := by
 refine aw ae 1 Tryz.func117 rfl (fun _ _ _ => ?_)
 unfold ul at h
 refine ah ae [] 2 ?_
 obtain ⟨y1, y2, e3, h⟩ := aK h
 refine QZ ae [(4, vb (decide (y1 ≥ 0)))] [0] [(0, .box 31 (cK y2))] 6 (Ss [hl [0] [] 0 (HU p0 p1d0 (y1, y2) e3)]) (ret ?_)
 obtain rfl := ay h
 exact be (.inr rfl) [(0, 0)] 1 (vb (decide (y1 ≥ 0)))
def om (p0 : aW) (x3 : Bool) : Option Int := if x3 then some 5 else aF (ul p0.Nicknames p0) fun y5 y6 => (if y5 then some 5 else some 0)
def oo (p0 : aW) (x1 : Bool) : Option Int := if x1 then some 1 else (oM p0.Titles).bind fun y9 => (if (!y9) then om p0 true else (iX p0.Nicknames).bind fun y12 => (if (!y12) then om p0 true else (iX p0.Streets).bind fun y15 => (om p0 (!y15))))
def l8 (p0 : aW) : Option Int := if decide ((p0.Titles.length : Int) > 32) then oo p0 true else if decide ((p0.Nicknames.length : Int) > 32) then oo p0 true else oo p0 (decide ((p0.Streets.length : Int) > 32))
theorem yJ (p0 : aW) (r : Int) (h : l8 p0 = some r) : CT 72 [.agg (cK p0)] [] (af r) [] := by
 refine aw ae 0 Tryz.func72 rfl (fun _ _ _ => ?_)
 unfold l8 at h
 refine QZ ae [(1, pX 0 3)] [0] [(0, .box 31 (cK p0))] 2 [] (seq (block (seq ?_)))
 refine AW.join (ι := Bool) (fun v => ⟨[(1, pX 0 3), (3, vb v)], [(0, .box 31 (cK p0))], 1⟩) (fun v : Bool => oo p0 v = some r) (fun x1 h => ?_) ?_
 ·unfold oo at h
  refine QX ?_
  refine Q2 h ?_ ?_ <;> intro c2 h
  ·refine ah ae [(2, af 1)] 2 (ret (QT (QW ?_)))
   apply au h (af 1)
  ·refine seq ?_
   refine AW.join (ι := Bool) (fun v => ⟨[(1, pX 0 3), (20, vb v)], [(0, .box 31 (cK p0))], 1⟩) (fun v : Bool => om p0 v = some r) (fun x3 h => ?_) ?_
   ·unfold om at h
    refine QX ?_
    refine Q2 h ?_ ?_ <;> intro c4 h
    ·refine ah ae [(2, af 5)] 2 (ret (QT (QW ?_)))
     apply au h (af 5)
    ·obtain ⟨y5, y6, e7, h⟩ := aK h
     refine QZ ae [(37, vb y5)] [0] [] 5 (Su [hl [0] [] 0 (HR p0.Nicknames p0 (y5, y6) e7)]) ?_
     refine Q2 h ?_ ?_ <;> intro c8 h
     ·refine ah ae [(2, af 5)] 6 (ret (QT (QW ?_)))
      apply au h (af 5)
     ·refine skip (QU (QX ?_))
      refine ah ae [(2, af 0)] 6 (ret ?_)
      apply au h (af 0)
   ·obtain ⟨y9, e10, h⟩ := ap h
    rcases aI h with ⟨c11, h⟩ | ⟨c11, h⟩
    ·refine ax ae [(20, vb true)] 17 (Ss [hk (yy p0.Titles y9 e10), ht c11]) ?_
     exact jl true h (ai [(0, 0)])
    ·obtain ⟨y12, e13, h⟩ := ap h
     rcases aI h with ⟨c14, h⟩ | ⟨c14, h⟩
     ·refine ax ae [(20, vb true)] 16 (Ss [hk (yy p0.Titles y9 e10), hf c11, hn, hn, hn, hk (yI p0.Nicknames y12 e13), ht c14]) ?_
      exact jl true h (ai [(0, 0)])
     ·obtain ⟨y15, e16, h⟩ := ap h
      refine ax ae [(20, vb (!y15))] 15 (Ss [hk (yy p0.Titles y9 e10), hf c11, hn, hn, hn, hk (yI p0.Nicknames y12 e13), hf c14, hn, hn, hn, hn, hk (yI p0.Streets y15 e16)]) ?_
      exact jl (!y15) h (ai [(0, 0)])
 ·rcases aI h with ⟨c17, h⟩ | ⟨c17, h⟩
  ·refine ax ae [(3, vb true)] 19 (Su [ht c17]) ?_
   exact jl true h (ai [(0, 0)])
  ·rcases aI h with ⟨c18, h⟩ | ⟨c18, h⟩
   ·refine ax ae [(3, vb true)] 19 (Su [hf c17, hn, hn, hn, hn, ht c18]) ?_
    exact jl true h (ai [(0, 0)])
   ·refine ax ae [(3, vb (decide ((p0.Streets.length : Int) > 32)))] 19 (Su [hf c17, hn, hn, hn, hn, hf c18]) ?_
    exact jl (decide ((p0.Streets.length : Int) > 32)) h (ai [(0, 0)])
def lE (x4 : Int) (x12 : Bool) : Option (Int ⊕ (Unit ⊕ Unit)) := if x12 then some (.inr (.inr ())) else some (.inl (SB (x4 + 1)))
def uZ (p0 : aS) (x4 : Int) : Option (Int ⊕ (Unit ⊕ Unit)) := if decide (x4 < (p0.Fields.length : Int)) then if 0 ≤ x4 then if x4 < (p0.Fields.length : Int) then if x4.toNat ≤ p0.Fields.length then aF (mM (p0.Fields.take x4.toNat) (p0.Fields.getD x4.toNat bD)) fun y9 y10 => ((lT y10.Name).bind fun y14 => (if (!y14) then lE x4 true else if y9 then lE x4 true else if decide (y10.Kind < 1) then lE x4 true else lE x4 (decide (y10.Kind > 4)))) else none else none else none else some (.inr (.inl ()))
def ri (p0 : aS) : Option Int := (l8 p0.Rules).bind fun y19 => (some y19)
def yz : Option Int := some 6
def rj (p0 : aS) (x1 : Bool) : Option Int := if x1 then some 6 else cD (loop (fun v : Int => uZ p0 v) 0) (fun t => ri p0) (fun t => yz)
def eB (p0 : aS) : Option Int := if decide ((p0.Fields.length : Int) < 1) then rj p0 true else rj p0 (decide ((p0.Fields.length : Int) > 5))
abbrev bf (x : aS) : List C := [cl 2 cZ x.Fields, cl 1 Rs x.Rules.Titles, cl 2 bA x.Rules.Nicknames, cl 2 bA x.Rules.Streets]
theorem iK (p0 : aS) (r : Int) (h : eB p0 = some r) : CT 28 [.agg (bf p0)] [] (af r) [] := by
 refine aw ae 0 Tryz.func28 rfl (fun _ _ _ => ?_)
 unfold eB at h
 refine QZ ae [(1, pX 0 4)] [0] [(0, .box 33 (bf p0))] 2 [] (seq (seq ?_))
 refine AW.join (ι := Bool) (fun v => ⟨[(1, pX 0 4), (15, vb v)], [(0, .box 33 (bf p0))], 1⟩) (fun v : Bool => rj p0 v = some r) (fun x1 h => ?_) ?_
 ·unfold rj at h
  refine QX ?_
  refine Q2 h ?_ ?_ <;> intro c2 h
  ·refine ah ae [(2, af 6)] 2 (ret (QW ?_))
   apply au h (af 6)
  ·refine skip (QX (seq ?_))
   refine ah ae [(19, af 0), (18, af (p0.Fields.length : Int)), (17, vl 2 cZ p0.Fields)] 5 (block ?_)
   refine Q4 h (fun v => ⟨[(1, pX 0 4), (17, vl 2 cZ p0.Fields), (18, af (p0.Fields.length : Int)), (19, af v)], [(0, .box 33 (bf p0))], 1⟩) (fun t => (.exit 0, ⟨[(1, pX 0 4)], [(0, .box 33 (bf p0))], 1⟩)) (fun t => (.ret, ⟨[(2, af 6)], [], 0⟩)) (ai [(0, 0)]) (fun _ => tv) (fun _ => tv) ?_ (fun t h => ?_) (fun t h => ?_)
   ·clear h
    intro x4 o h
    unfold uZ at h
    refine ah ae [(20, vb (decide (x4 < (p0.Fields.length : Int))))] 2 (seq ?_)
    refine Q2 h ?_ ?_ <;> intro c5 h
    ·refine skip (QX ?_)
     refine seq (block ?_)
     obtain ⟨g6, g7, h⟩ := aJ h
     refine QZ ae [(3, af x4), (4, pX 5 2)] [5] [(5, .box 82 [cs ((p0.Fields.getD x4.toNat bD).Name), ag ((p0.Fields.getD x4.toNat bD).Kind)])] 8 [hn, hq g6 g7] ?_
     obtain ⟨g8, h⟩ := aY h
     obtain ⟨y9, y10, e11, h⟩ := aK h
     refine QZ ae [(5, vb y9)] [5] [(5, .box 82 [cs y10.Name, ag y10.Kind])] 14 (Su [ho (p := (True) ∧ (0 ≤ x4) ∧ (0 ≤ x4.toNat) ∧ (x4.toNat ≤ p0.Fields.length)) (⟨tv, g6, (Nat.zero_le _), g8⟩), hn, hg [5] [] true 0 (q := (True) ∧ ((True) ∧ ((True) ∧ (True))) ∧ (True)) ⟨tv, ⟨tv, ⟨tv, tv⟩⟩, tv⟩ (a0 := [.c (.t (.tree x4.toNat 2 (cZ p0.Fields))), .clo 70 [] [.c (.ptr 0 2 0 0)]]) (HM (p0.Fields.take x4.toNat) (p0.Fields.getD x4.toNat bD) (y9, y10) e11) ⟨aN.c (cu.tree (pj (by omega))), aN.refl _, tv⟩ (fun _ => ⟨rfl, tv⟩)]) (seq ?_)
     refine AW.join (ι := Bool) (fun v => ⟨[(1, pX 0 4), (17, vl 2 cZ p0.Fields), (18, af (p0.Fields.length : Int)), (19, af x4), (46, vb v)], [(0, .box 33 (bf p0))], 1⟩) (fun v : Bool => lE x4 v = some o) (fun x12 h => ?_) ?_
     ·unfold lE at h
      refine QX ?_
      refine Q2 h ?_ ?_ <;> intro c13 h
      ·refine ah ae [(2, af 6)] 2 (ret (QT (QW ?_)))
       exact aX h rfl (ai [])
      ·refine skip (QU (QX ?_))
       refine ba ae [(19, af (SB (x4 + 1)))] 3 ?_
       exact bh h (ai [(0, 0)])
     ·obtain ⟨y14, e15, h⟩ := ap h
      rcases aI h with ⟨c16, h⟩ | ⟨c16, h⟩
      ·refine ax ae [(46, vb true)] 30 (Ss [hk (uY y10.Name y14 e15), ht c16]) ?_
       exact jl true h (ai [(0, 0)])
      ·rcases aI h with ⟨c17, hs⟩ | ⟨c17, hs⟩
       ·clear h; subst c17; have h := hs; clear hs
        refine ax ae [(46, vb true)] 30 (Ss [hk (uY y10.Name y14 e15), hf c16]) ?_
        exact jl true h (ai [(0, 0)])
       ·clear h; subst c17; have h := hs; clear hs
        rcases aI h with ⟨c18, h⟩ | ⟨c18, h⟩
        ·refine ax ae [(46, vb true)] 30 (Ss [hk (uY y10.Name y14 e15), hf c16, hn, hn, hn, hn, hn, hn, ht c18]) ?_
         exact jl true h (ai [(0, 0)])
        ·refine ax ae [(46, vb (decide (y10.Kind > 4)))] 30 (Ss [hk (uY y10.Name y14 e15), hf c16, hn, hn, hn, hn, hn, hn, hf c18]) ?_
         exact jl (decide (y10.Kind > 4)) h (ai [(0, 0)])
    ·refine exit (QR ?_)
     exact aX h rfl (ai [(0, 0)])
   ·replace h : ri p0 = some r := h
    unfold ri at h
    show (_ : XQ) (.exit 0) _
    refine QO (QX ?_)
    obtain ⟨y19, e20, h⟩ := ap h
    refine aA ae [(2, af y19)] 4 (Ss [hk (yJ p0.Rules y19 e20)]) (ret ?_)
    apply au h (af y19)
   ·replace h : yz = some r := h
    unfold yz at h
    show (_ : XQ) (.ret) _
    refine QT (QW ?_)
    apply au h (af 6)
 ·rcases aI h with ⟨c22, h⟩ | ⟨c22, h⟩
  ·refine ax ae [(15, vb true)] 12 (Su [ht c22]) ?_
   exact jl true h (ai [(0, 0)])
  ·refine ax ae [(15, vb (decide ((p0.Fields.length : Int) > 5)))] 12 (Su [hf c22]) ?_
   exact jl (decide ((p0.Fields.length : Int) > 5)) h (ai [(0, 0)])
def lm (x1 : Bool) : Option Bool := some x1
def nF (p0 : Int) (p1 : Int) : Option Bool := if decide (p0 ≥ 1) then if decide (p0 ≤ 1048576) then if decide (p1 ≥ 1) then lm (decide (p1 ≤ 1048576)) else lm false else lm false else lm false
theorem yh (p0 : Int) (p1 : Int) (r : Bool) (h : nF p0 p1 = some r) : CT 67 [af p0, af p1] [] (vb r) [] := by
 refine aw ae 0 Tryz.func67 rfl (fun _ _ _ => ?_)
 unfold nF at h
 refine ah ae [] 1 (seq ?_)
 refine AW.join (ι := Bool) (fun v => ⟨[(4, vb v)], [], 0⟩) (fun v : Bool => lm v = some r) (fun x1 h => ?_) ?_
 ·unfold lm at h
  refine QX (ret ?_)
  apply au h (vb x1)
 ·rcases aI h with ⟨c2, h⟩ | ⟨c2, h⟩
  ·rcases aI h with ⟨c3, h⟩ | ⟨c3, h⟩
   ·rcases aI h with ⟨c4, h⟩ | ⟨c4, h⟩
    ·refine ax ae [(4, vb (decide (p1 ≤ 1048576)))] 16 [hn, ht c2, hn, hn, ht c3, hn, hn, hn, ht c4] ?_
     exact jl (decide (p1 ≤ 1048576)) h
    ·refine ax ae [(4, vb false)] 16 [hn, ht c2, hn, hn, ht c3, hn, hn, hn, hf c4] ?_
     exact jl false h
   ·refine ax ae [(4, vb false)] 16 [hn, ht c2, hn, hn, hf c3] ?_
    exact jl false h
  ·refine ax ae [(4, vb false)] 16 [hn, hf c2] ?_
   exact jl false h
def lR (x1 : Bool) : Option Bool := some x1
noncomputable def pa (p0 : ByteArray) (p1 : Int) : Option Bool := if 0 ≤ p1 then (if p1 < (p0.size : Int) then (if (((p0.data.toList.getD p1.toNat 0).toNat : Int) == 195) then (if decide ((SB (p1 + 1)) < (p0.size : Int)) then (if 0 ≤ (SB (p1 + 1)) then (if (SB (p1 + 1)) < (p0.size : Int) then (if (decide (((p0.data.toList.getD ((SB (p1 + 1)).toNat) 0).toNat : Int) ≥ 128)) = true then (lR (decide (((p0.data.toList.getD ((SB (p1 + 1)).toNat) 0).toNat : Int) ≤ 191))) else lR false) else none) else none) else lR false) else lR false) else none) else none
theorem DI (p0 : ByteArray) (p1 : Int) (r : Bool) (h : pa p0 p1 = some r) : CT 257 [vs p0, af p1] [] (vb r) [] := by
 refine aw ae 0 Tryz.func257 rfl (fun _ _ _ => ?_)
 unfold pa at h
 refine ah ae [] 1 (seq ?_)
 refine AW.join (ι := Bool) (fun v => ⟨[(4, vb v)], [], 0⟩) (fun v : Bool => lR v = some r) (fun x1 h => ?_) ?_
 ·unfold lR at h
  refine QX (ret ?_)
  apply au h (vb x1)
 ·obtain ⟨g2, g3, h⟩ := aJ h
  rcases aI h with ⟨c4, h⟩ | ⟨c4, h⟩
  ·rcases aI h with ⟨c5, h⟩ | ⟨c5, h⟩
   ·obtain ⟨g6, g7, h⟩ := aJ h
    rcases aI h with ⟨c8, h⟩ | ⟨c8, h⟩
    ·refine ax ae [(4, vb (decide (((p0.data.toList.getD ((SB (p1 + 1)).toNat) 0).toNat : Int) ≤ 191)))] 27 (Ss [hq g2 g3, ht c4, hn, hn, hn, hn, hn, ht c5, hn, hn, hn, hn, hn, hq g6 g7, ht c8, hn, hn, hn, hn, hn, hq g6 g7]) ?_
     exact jl (decide (((p0.data.toList.getD ((SB (p1 + 1)).toNat) 0).toNat : Int) ≤ 191)) h (ai [])
    ·refine ax ae [(4, vb false)] 27 (Ss [hq g2 g3, ht c4, hn, hn, hn, hn, hn, ht c5, hn, hn, hn, hn, hn, hq g6 g7, hf c8]) ?_
     exact jl false h
   ·refine ax ae [(4, vb false)] 27 (Ss [hq g2 g3, ht c4, hn, hn, hn, hn, hn, hf c5]) ?_
    exact jl false h
  ·refine ax ae [(4, vb false)] 27 (Ss [hq g2 g3, hf c4]) ?_
   exact jl false h
def rS (x4 : Int) : Option (Int ⊕ (Unit ⊕ Unit)) := some (.inl (SB (x4 + 1)))
def rT (x2 : Int) (x8 : Bool) : Option (Int ⊕ (Unit ⊕ Unit)) := if x8 then some (.inr (.inr ())) else rS x2
noncomputable def vp (p0 : ByteArray) (x2 : Int) : Option (Int ⊕ (Unit ⊕ Unit)) := if decide (x2 < (p0.size : Int)) then (pa p0 x2).bind fun y5 => (if y5 then rS (SB (x2 + 1)) else if 0 ≤ x2 then if x2 < (p0.size : Int) then if decide (((p0.data.toList.getD x2.toNat 0).toNat : Int) < 32) then rT x2 true else rT x2 (decide (((p0.data.toList.getD x2.toNat 0).toNat : Int) > 126)) else none else none) else some (.inr (.inl ()))
noncomputable def rU (p0 : ByteArray) : Option Bool := some (decide ((p0.size : Int) ≤ 64))
def yQ : Option Bool := some false
noncomputable def sN (p0 : ByteArray) : Option Bool := cD (loop (fun v : Int => vp p0 v) 0) (fun t => rU p0) (fun t => yQ)
theorem JM (p0 : ByteArray) (r : Bool) (h : sN p0 = some r) : CT 255 [vs p0] [] (vb r) [] := by
 refine aw ae 0 Tryz.func255 rfl (fun _ _ _ => ?_)
 unfold sN at h
 refine ah ae [] 1 (seq ?_)
 refine ah ae [(3, af 0)] 2 (block ?_)
 refine Q4 h (fun v => ⟨[(0, vs p0), (3, af v)], [], 0⟩) (fun t => (.exit 0, ⟨[(0, vs p0)], [], 0⟩)) (fun t => (.ret, ⟨[(2, vb false)], [], 0⟩)) (ai []) (fun _ => tv) (fun _ => tv) ?_ (fun t h => ?_) (fun t h => ?_)
 ·clear h
  intro x2 o h
  unfold vp at h
  refine seq ?_
  refine ah ae [(7, vb (decide (x2 < (p0.size : Int))))] 4 ?_
  refine Q2 h ?_ ?_ <;> intro c3 h
  ·refine skip (QX (seq ?_))
   refine AW.join (ι := Int) (fun v => ⟨[(0, vs p0), (3, af v)], [], 0⟩) (fun v : Int => rS v = some o) (fun x4 h => ?_) ?_
   ·unfold rS at h
    refine QX ?_
    refine ba ae [(3, af (SB (x4 + 1)))] 3 ?_
    exact bh h (ai [])
   ·refine block (block ?_)
    obtain ⟨y5, e6, h⟩ := ap h
    refine aA ae [(10, vb y5)] 7 (Ss [hk (DI p0 x2 y5 e6)]) ?_
    refine Q2 h ?_ ?_ <;> intro c7 h
    ·refine ba ae [(3, af (SB (x2 + 1)))] 10 ?_
     refine QU (QU ?_)
     exact jl (SB (x2 + 1)) h
    ·refine seq ?_
     refine AW.join (ι := Bool) (fun v => ⟨[(0, vs p0), (3, af x2), (16, vb v)], [], 0⟩) (fun v : Bool => rT x2 v = some o) (fun x8 h => ?_) ?_
     ·unfold rT at h
      refine QX ?_
      refine Q2 h ?_ ?_ <;> intro c9 h
      ·refine ah ae [(2, vb false)] 1 (ret (QT (QT ?_)))
       refine sQ ?_
       refine QW ?_
       exact aX h rfl (ai [])
      ·refine skip (QU (QU ?_))
       exact jl x2 h
     ·obtain ⟨g10, g11, h⟩ := aJ h
      rcases aI h with ⟨c12, h⟩ | ⟨c12, h⟩
      ·refine ax ae [(16, vb true)] 18 (Ss [hq g10 g11, ht c12]) ?_
       exact jl true h
      ·refine ax ae [(16, vb (decide (((p0.data.toList.getD x2.toNat 0).toNat : Int) > 126)))] 18 (Ss [hq g10 g11, hf c12, hn, hn, hn, hq g10 g11]) ?_
       exact jl (decide (((p0.data.toList.getD x2.toNat 0).toNat : Int) > 126)) h (ai [])
  ·refine exit (QR ?_)
   exact aX h rfl (ai [])
 ·replace h : rU p0 = some r := h
  unfold rU at h
  show (_ : XQ) (.exit 0) _
  refine QO (QX ?_)
  refine ah ae [(2, vb (decide ((p0.size : Int) ≤ 64)))] 4 (ret ?_)
  apply au h (vb (decide ((p0.size : Int) ≤ 64)))
 ·replace h : yQ = some r := h
  unfold yQ at h
  show (_ : XQ) (.ret) _
  refine QT (QW ?_)
  apply au h (vb false)
noncomputable def Qd : Operand → ByteArray
 | .const (.string s) => s
 | _ => mt
noncomputable def PV (c : Option Code) : List ByteArray := match c with
 | some (.seq _ (.seq (.region _ ops _) _)) => (match ops.toList with
  | o :: _ => (match o.op with
   | .build _ ps => ps.toList.map fun p => Qd p.2
   | _ => [])
  | [] => [])
 | _ => []
noncomputable def mD : List ByteArray := PV Tryz.f256.body
noncomputable def uP : Option (List ByteArray) := some mD
theorem E7 (l : List ByteArray) {i j : Nat} (hi : i < l.length) (hj : j < 1) : bn (dp (l.map fun s => .v (.string s)) 1 i j) (Rs l i j) := by
 obtain rfl : j = 0 := by omega
 have e : dp (l.map fun s => .v (.string s)) 1 i 0 = Rs l i 0 := by
  unfold dp Rs bJ Es
  simp [Re, Rf hi]
 rw [e]
 exact bn.refl _
theorem It (r : List ByteArray) (h : uP = some r) : CT 256 [] [] (.agg ((List.range 64).map fun i => cs (r.getD i mt))) [] := by
 have hl : mD.length = 64 := by kernel_rfl
 refine aw ae 0 Tryz.func256 rfl (fun _ _ _ => ?_)
 unfold uP at h
 refine QZ ae [(0, pX 0 1)] [0] [(0, .row 321 false 1 64 (Rs (List.replicate 64 mt)))] 1 [hr 64 (Rs (List.replicate 64 mt)) (p := 64 = 64 ∧ ∀ i, i < 64 → ∀ j, j < 1 → bn (dp ((List.replicate 64 mt).map fun s => .v (.string s)) 1 i j) (Rs (List.replicate 64 mt) i j)) ⟨rfl, fun i hi j hj => E7 _ (by simpa using hi) hj⟩] ?_
 refine QZ ae [] [0] [(0, .row 321 false 1 64 (Rs mD))] 3 [hn, hr 64 (Rs mD) (p := 64 = 64 ∧ ∀ i, i < 64 → ∀ j, j < 1 → bn (dp (mD.map fun s => .v (.string s)) 1 i j) (Rs mD i j)) ⟨rfl, fun i hi j hj => E7 _ (by rw [hl]; exact hi) hj⟩] (ret ?_)
 obtain rfl := ay h
 exact ⟨_, Conv.refl _ _, .inr rfl, gE.mk [] 0 (out0 := .agg ((List.range 64).map fun i => cs (mD.getD i mt))) (ps := [0 + 63 < 64]) (by kernel_rfl) ⟨by decide, tv⟩ (by kernel_rfl) (by kernel_rfl)⟩
section
open Go.RowKit
def Cd (n0 : Nat) (W : World) (q : Option Addr) (l : List ByteArray) : Prop := ∀ i, i < l.length → ∃ b o, q = some ⟨b, o, none⟩ ∧ b < n0 ∧ W.cell? ⟨b, o + i, none⟩ = some (.string (l.getD i mt))
theorem Ho {w : World} {ok : Nat → Prop} (hok : ∀ b, ok b → b < w.heap.size) {l : List ByteArray} {v : Value} (h : RV w ok (fun _ => none) (vl 1 Rs l) v) : ∃ q c, v = .slice q l.length c ∧ l.length ≤ c ∧ Cd w.heap.size w q l := by
 obtain ⟨q, c, rfl, hc, ha⟩ := h
 refine ⟨q, c, rfl, hc, fun i hi => ?_⟩
 obtain ⟨b, o, x, e, hb, hx, hr⟩ := ha i hi 0 (by decide)
 obtain ⟨rfl, _⟩ := (show RT w ok (.v (.string (l.getD i mt))) x from hr)
 exact ⟨b, o, e, hok b hb, by rw [← hx]; congr 2; omega⟩
def pU (l : List ByteArray) (s : ByteArray) : ByteArray := ⟨(Lib.join (l.map (·.data.toList)) s.data.toList).toArray⟩
noncomputable def strings_Join (p0 : List ByteArray) (p1 : ByteArray) : Option ByteArray := if p0.length ≤ 1000000 ∧ (pU p0 p1).size ≤ 1000000000 then some (pU p0 p1) else none
theorem C6 (p0 : List ByteArray) (p1 : ByteArray) (r : ByteArray) (h : strings_Join p0 p1 = some r) : CT 233 [vl 1 Rs p0, vs p1] [] (vs r) [] := by
 unfold strings_Join at h
 obtain ⟨⟨h1, h2⟩, h⟩ := aY h
 obtain rfl := ay h
 refine yV (n := 0) ⟨_, Tryz.func233, by kernel_rfl, rfl⟩ fun w ok vs' hok ha => ?_
 obtain ⟨l⟩ := vs'
 rcases l with _ | ⟨v0, _ | ⟨v1, _ | ⟨v2, l⟩⟩⟩
 ·exact ha.elim
 ·exact ha.2.elim
 ·obtain ⟨a0, ⟨rfl, _⟩, _⟩ := ha
  obtain ⟨q, c, rfl, hc, hd⟩ := Ho hok a0
  have hj : (Lib.join (p0.map (·.data.toList)) p1.data.toList).length ≤ 140737488355328 := RX h2 (by decide)
  by_cases h0 : p0.length = 0
  ·obtain rfl := RH.1 h0
   refine callsIn_wide.2 (Calls.mono (Ix q c p1 w) ?_)
   rintro e w' ⟨rfl, rfl⟩
   exact ⟨_, rfl, Below.refl _ _, fun _ _ => ⟨rfl, rfl⟩⟩
  ·obtain ⟨b, o, rfl, hb, _⟩ := hd 0 (by omega)
   refine callsIn_wide.2 (Calls.mono (Jv b o c p0 p1 w (fun j x hj => ?_) hb (by omega) hc hj) ?_)
   ·have hjl := (List.getElem?_eq_some_iff.1 hj).1
    obtain ⟨b', o', e, _, hx⟩ := hd j hjl
    simp only [Ri, Addr.mk.injEq] at e
    obtain ⟨rfl, rfl, _⟩ := e
    rw [hx, Re, hj]
    rfl
   ·rintro e w' ⟨rfl, hB⟩
    exact ⟨_, rfl, hB, fun _ _ => ⟨rfl, rfl⟩⟩
 ·exact ha.2.2.elim
end
noncomputable def iZ (p0 : List ByteArray) : Option ByteArray := (strings_Join p0 (mk #[32])).bind fun y1 => (some y1)
theorem yR (p0 : List ByteArray) (r : ByteArray) (h : iZ p0 = some r) : CT 228 [vl 1 Rs p0] [] (vs r) [] := by
 refine aw ae 0 Tryz.func228 rfl (fun _ _ _ => ?_)
 unfold iZ at h
 refine ah ae [] 1 ?_
 obtain ⟨y1, e2, h⟩ := ap h
 refine aA ae [(2, vs y1)] 3 [hn, hk (C6 p0 (mk #[32]) y1 e2)] (ret ?_)
 apply au h (vs y1)
section
open Go.RowKit
def pV (x : Nat) : Bool := x == 32
def iu (s : ByteArray) : List ByteArray := Lib.goFieldsP pV s
theorem Nn (w : World) : PredAt Tryz.prog 248 #[] encR pV w := fun W x _ => by
 unfold FnGives
 refine calls_of_wp Tryz.func248 rfl ?_
 simp only [Tryz.ntmps248, Rt, Rk, Rm, Nat.reduceAdd, Nat.reduceSub, Array.replicate_succ, Array.replicate_zero, List.push_toArray, List.append_toArray, R8, List.cons_append]
 go_wp2
 go_ret
 refine ⟨?_, 0, rfl⟩
 have : ((x : Int) == 32) = pV x := by
  unfold pV
  by_cases e : x = 32
  ·subst e; rfl
  ·rw [show (x == 32) = false by simpa using e, beq_eq_false_iff_ne]
   omega
 rw [this]
 rfl
theorem AR {l : List ByteArray} : ∀ i, i < l.length → ∀ j, j < 1 → ∃ x, (l.map Value.string)[i * 1 + j]? = some x ∧ ∀ (w : World) (ok : Nat → Prop), RT w ok (Rs l i j) x := fun i hi j hj => by
 obtain rfl : j = 0 := by omega
 refine ⟨.string (l.getD i mt), ?_, fun w ok => ⟨rfl, rfl⟩⟩
 simp [Re, Rf hi]
theorem D4 (p0 : ByteArray) (h1 : Hid (p0.size ≤ 1000000000)) (w : World) : Calls Tryz.prog 216 #[.string p0] w fun e' w' => ∃ v, e' = .returned v ∧ Below w.heap.size w w' ∧ w'.ownsRow w.heap.size 9 1 v (iu p0).length ((iu p0).map Value.string) := by
 have h1 := h1.out
 refine calls_of_wp Tryz.func216 rfl ?_
 simp only [Tryz.ntmps216, Rt, Rk, Rm, Nat.reduceAdd, Nat.reduceSub, Array.replicate_succ, Array.replicate_zero, List.push_toArray, List.append_toArray, R8, List.cons_append]
 go_wp2_with (go_at_call 247; refine (Is 248 #[] (enters_of Tryz.func248 (by kernel_rfl) rfl) pV p0 _ (by omega) (Nn _)).mono ?_; rintro e w' ⟨A, rfl, hA, hrow, hB⟩)
 go_ret
 exact ⟨_, rfl, hB, hrow⟩
noncomputable def jS (p0 : ByteArray) : Option (List ByteArray) := if p0.size ≤ 1000000000 then some (iu p0) else none
theorem u3 (p0 : ByteArray) (r : List ByteArray) (h : jS p0 = some r) : CT 216 [vs p0] [] (.c (.ref 0 1 0 r.length)) [(0, .row 9 false 1 r.length (Rs r))] := by
 unfold jS at h
 obtain ⟨h1, h⟩ := aY h
 obtain rfl := ay h
 refine Ex (xs := (iu p0).map Value.string) ⟨_, Tryz.func216, by kernel_rfl, rfl⟩ (by simp) (by decide) AR fun w ok vs' hok ha => ?_
 obtain ⟨l⟩ := vs'
 rcases l with _ | ⟨v0, _ | ⟨v1, l⟩⟩
 ·exact ha.elim
 ·obtain ⟨⟨rfl, _⟩, _⟩ := ha
  exact D4 p0 h1 w
 ·exact ha.2.elim
end
section
open Go.RowKit
def cT (b : Nat) : List UInt8 := if 65 ≤ b ∧ b ≤ 90 then [(b + 32).toUInt8] else if (97 ≤ b ∧ b ≤ 122) ∨ (48 ≤ b ∧ b ≤ 57) then [b.toUInt8] else if b = 39 then [] else [32]
theorem Ll (b : Nat) (hb : b < 128) (w : World) : Calls Tryz.prog 259 #[.int .u8 b] w fun e w' => e = .returned (.string ⟨(cT b).toArray⟩) ∧ ∃ q, w' = w.drewN q := by
 refine calls_of_wp Tryz.func259 rfl ?_
 simp only [Tryz.ntmps259, Rt, Rk, Rm, Nat.reduceAdd, Nat.reduceSub, Array.replicate_succ, Array.replicate_zero, List.push_toArray, List.append_toArray, R8, List.cons_append]
 have en : ∀ k : Nat, k < 128 → Utf8.encode (k : Int) = ⟨#[k.toUInt8]⟩ := fun k hk => by
  have v : Utf8.valid (k : Int) = true := by simp [Utf8.valid]; omega
  simp [Utf8.encode, v, hk]
 by_cases h1 : 65 ≤ b ∧ b ≤ 90
 ·have g1 : (65 : Int) ≤ b := by omega
  have g2 : (b : Int) ≤ 90 := by omega
  go_wp2
  go_ret
  refine ⟨?_, 0, rfl⟩
  have e : (b : Int) - 65 + 97 = ((b + 32 : Nat) : Int) := by omega
  show Ending.returned (Value.string (Utf8.encode ((b : Int) - 65 + 97))) = _
  rw [e, en _ (by omega)]
  unfold cT
  rw [if_pos h1]
 ·by_cases h2 : (97 ≤ b ∧ b ≤ 122) ∨ (48 ≤ b ∧ b ≤ 57)
  ·have n1 : ¬ ((65 : Int) ≤ b ∧ (b : Int) ≤ 90) := by omega
   rcases h2 with h2 | h2
   ·have g1 : (65 : Int) ≤ b := by omega
    have g2 : ¬ (b : Int) ≤ 90 := by omega
    have g3 : (97 : Int) ≤ b := by omega
    have g4 : (b : Int) ≤ 122 := by omega
    go_wp2
    go_ret
    refine ⟨?_, 0, rfl⟩
    show Ending.returned (Value.string _) = _
    unfold cT
    rw [if_neg h1, if_pos (.inl h2)]
   ·have g1 : ¬ (65 : Int) ≤ b := by omega
    have g3 : ¬ (97 : Int) ≤ b := by omega
    have g4 : (48 : Int) ≤ b := by omega
    have g5 : (b : Int) ≤ 57 := by omega
    go_wp2
    go_ret
    refine ⟨?_, 0, rfl⟩
    show Ending.returned (Value.string _) = _
    unfold cT
    rw [if_neg h1, if_pos (.inr h2)]
  ·by_cases h3 : b = 39
   ·subst h3
    go_wp2
    go_ret
    exact ⟨rfl, 0, rfl⟩
   ·have h3' : ¬ (b : Int) = 39 := by omega
    go_wp2
    all_goals first | (exfalso; omega) | go_ret
    all_goals (refine ⟨?_, 0, rfl⟩; show Ending.returned (Value.string _) = _; unfold cT; rw [if_neg h1, if_neg h2, if_neg h3])
def eG (p : ByteArray) (i : Nat) : List UInt8 := (p.data.toList.take i).flatMap fun b => cT b.toNat
def gF (p : ByteArray) : ByteArray := ⟨(eG p p.size).toArray⟩
def xn (v : Bool) (r : ByteArray) : Array Value := if v = true then #[.string r, .int .i64 0] else #[.string ⟨#[]⟩, .int .i64 3]
@[reducible] noncomputable def uf (w : World) (ok : Nat → Prop) (nt : Nat) : Fx := ⟨⟨Tryz.prog, ⟨w, ok, fun _ => none⟩, fun b => ∃ id cap, (fun _ => none : Vm.Ren) id = some (.aT b cap), nt⟩, 0, fun id h => absurd rfl h⟩
@[reducible] noncomputable def dQ (w : World) (nt : Nat) : Fx := uf w (fun _ => False) nt
theorem Qe {w : World} {ok : Nat → Prop} {nt n : Nat} {tm : List (Nat × AV)} {a : Act} (hok : ∀ b, ok b → b < w.heap.size) (htm : ∀ t av, Vm.look tm t = some av → RV w ok (fun _ => none) av (a.tmps.getD t undef)) (hs : a.tmps.size = nt) (hd : a.defers = []) : cr (uf w ok nt).toCx (fun _ => none) ⟨tm, [], n⟩ a w :=
 B3 hok (fun id h => absurd rfl h) htm (fun id blk h => by cases h) (fun i j b c c' h => by cases h) hs hd
theorem Qf {w w' : World} {ok : Nat → Prop} {nt : Nat} {ρ : Vm.Ren} {S : St} {a : Act} (R : cr (uf w ok nt).toCx ρ S a w') : Below w.heap.size w w' := ⟨R.upd.os, R.upd.tape, R.upd.output, R.upd.size, fun b hb => R.upd.block b hb fun ⟨_, _, h⟩ => by cases h⟩
theorem JN (B b : Nat) (bs : List Value) (s : ByteArray) (w : World) (h : Lib.IsBuilder 325 5 B b bs w) (hlen : bs.length + s.size ≤ 140737488355328) (hBw : B ≤ w.heap.size) :
 Calls Tryz.prog 258 #[.pointer (some ⟨b, 0, none⟩), .string s] w fun e w' => e = .returned (.tuple #[.int .i64 s.size, .nilIface]) ∧ (Lib.BuilderAt 325 5 B b (.pointer (some ⟨b, 0, none⟩)) (bs ++ Lib.strCells s) w' ∧ Below B w w') := Any.Builder_WriteString { vP with } uB B b bs s w h hlen hBw
theorem Lm (B b : Nat) (l : List UInt8) (w : World) (h : Lib.IsBuilder 325 5 B b (Lib.byteCells l) w) (hBw : B ≤ w.heap.size) :
 Calls Tryz.prog 260 #[.pointer (some ⟨b, 0, none⟩)] w fun e w' => e = .returned (.string ⟨l.toArray⟩) ∧ Below B w w' := Any.Builder_String_any { vP with } uB B b l w h hBw
theorem No {w w0 : World} {v : Value} {l : List ByteArray} {B : Nat} (h : w.ownsRow B 9 1 v l.length (l.map Value.string)) : RV w (fun b => b < w.heap.size) (fun _ => none) (vl 1 Rs l) v := by
 rcases h.2 with ⟨rfl, e⟩ | ⟨g, cap, cur, rfl, hb, hg, hn, hm, hs, ht⟩
 ·exact ⟨none, 0, by rw [e], by omega, fun i hi => by omega⟩
 ·refine ⟨_, cap, rfl, hn, fun i hi j hj => ?_⟩
  obtain ⟨x, x1, x2⟩ := AR (l := l) i hi j hj
  refine ⟨g, 0, x, rfl, tq hg, ?_, x2 _ _⟩
  rw [cell_of_row w _ _ cur 9 (0, 0) hg]
  rw [← ht, List.getElem?_take] at x1
  split at x1
  ·simpa using x1
  ·cases x1
theorem BF {w : World} {nt n : Nat} {tm : List (Nat × AV)} {a : Act} (htm : ∀ t av, Vm.look tm t = some av → RV w (fun _ => False) (fun _ => none) av (a.tmps.getD t undef)) (hs : a.tmps.size = nt) (hd : a.defers = []) : cr (dQ w nt).toCx (fun _ => none) ⟨tm, [], n⟩ a w :=
 B3 (fun _ h => h.elim) (fun id h => absurd rfl h) htm (fun id blk h => by cases h) (fun i j b c c' h => by cases h) hs hd
theorem pY {w w' : World} {nt : Nat} {ρ : Vm.Ren} {S : St} {a : Act} (R : cr (dQ w nt).toCx ρ S a w') : Below w.heap.size w w' := ⟨R.upd.os, R.upd.tape, R.upd.output, R.upd.size, fun b hb => R.upd.block b hb fun ⟨_, _, h⟩ => by cases h⟩
theorem Au {T e B b : Nat} {bs : List Value} {w w' : World} (h : Lib.IsBuilder T e B b bs w) (hB : Below w.heap.size w w') : Lib.IsBuilder T e B b bs w' := by
 have key : ∀ p, Lib.BuilderAt T e B b p bs w → Lib.BuilderAt T e B b p bs w' := fun p ⟨h1, v, h2, h3, h4⟩ => by
  refine ⟨h1, v, (hB.block b (tq h2)).trans h2, ⟨h3.1, ?_⟩, h4⟩
  rcases h3.2 with h0 | ⟨g, cap, cur, e1, e2, e3, e4⟩
  ·exact .inl h0
  ·exact .inr ⟨g, cap, cur, e1, e2, (hB.block g (tq e3)).trans e3, e4⟩
 exact h.elim (fun x => .inl (key _ x)) (fun x => .inr (key _ x))
structure kJ (p0 : ByteArray) (b i : Nat) (a : Act) : Prop where
 sz : a.tmps.size = 37
 df : a.defers = []
 t0 : a.tmps.getD 0 undef = .string p0
 t5 : a.tmps.getD 5 undef = .pointer (some ⟨b, 0, none⟩)
 t6 : a.tmps.getD 6 undef = .int .i64 (i : Int)
theorem kJ.rep {p0 : ByteArray} {b i n : Nat} {a : Act} (h : kJ p0 b i a) (w : World) : cr (dQ w 37).toCx (fun _ => none) ⟨[(0, vs p0), (5, .c (.t (.v (.pointer (some ⟨b, 0, none⟩))))), (6, af (i : Int))], [], n⟩ a w := by
 refine BF (fun t av ht => ?_) h.sz h.df
 match t, ht with
 | 0, ht => obtain rfl := ay ht; exact ⟨h.t0, rfl⟩
 | 5, ht => obtain rfl := ay ht; exact ⟨h.t5, rfl⟩
 | 6, ht => obtain rfl := ay ht; exact ⟨h.t6, rfl⟩
 | 1, ht => cases ht
 | 2, ht => cases ht
 | 3, ht => cases ht
 | 4, ht => cases ht
 | n + 7, ht => cases ht
theorem kJ.of {p0 : ByteArray} {b i n : Nat} {a : Act} {w w' : World} {ρ : Vm.Ren} (R : cr (dQ w 37).toCx ρ ⟨[(0, vs p0), (5, .c (.t (.v (.pointer (some ⟨b, 0, none⟩))))), (6, af (i : Int))], [], n⟩ a w') : kJ p0 b i a := ⟨R.size, R.defers, (R.tmp 0 _ rfl).1, (R.tmp 5 _ rfl).1, (R.tmp 6 _ rfl).1⟩
theorem EE (b : Nat) : (cT b).length ≤ 1 := by
 unfold cT
 repeat' split
 all_goals simp
theorem F1 (l : List UInt8) : (l.flatMap fun b => cT b.toNat).length ≤ l.length := by
 induction l with
 | nil => simp
 | cons x l ih =>
  have := EE x.toNat
  rw [List.flatMap_cons, Rl, Rk]
  omega
theorem Ln {p : ByteArray} {i : Nat} (h : i < p.size) : eG p (i + 1) = eG p i ++ cT (p.data.toList.getD i 0).toNat := by
 have hl : i < p.data.toList.length := by rw [Array.length_toList]; exact h
 unfold eG
 rw [List.take_add_one, Re, Rf hl, List.flatMap_append]
 simp
theorem Md (b : Nat) (hb : b < 128) : CT 259 [.c (.t (.v (.int .u8 (b : Int))))] [] (vs ⟨(cT b).toArray⟩) [] := by
 refine yV (n := 0) ⟨_, Tryz.func259, by kernel_rfl, rfl⟩ fun w ok vs' hok ha => ?_
 obtain ⟨l⟩ := vs'
 rcases l with _ | ⟨v0, _ | ⟨v1, l⟩⟩
 ·exact ha.elim
 ·obtain ⟨⟨rfl, _⟩, _⟩ := ha
  refine callsIn_wide.2 (Calls.mono (Ll b hb w) ?_)
  rintro e w' ⟨rfl, q, rfl⟩
  exact ⟨_, rfl, below_drewN' (Below.refl _ _) q, fun _ _ => ⟨rfl, rfl⟩⟩
 ·exact ha.2.elim
theorem Me (p0 : ByteArray) (hp : p0.size ≤ 1000) (ha : ∀ i, i < p0.size → (p0.data.toList.getD i 0).toNat < 128) (v : Bool) (r : ByteArray) (tb : List ByteArray) (kv : CT 255 [vs p0] [] (vb v) []) (kt : CT 256 [] [] (.agg ((List.range 64).map fun i => cs (tb.getD i mt))) []) (kp : ∀ i : Nat, i < p0.size → CT 257 [vs p0, af i] [] (vb false) [])
  (kj : v = true → CT 228 [vl 1 Rs (iu (gF p0))] [] (vs r) []) (w : World) :
  Calls Tryz.prog 226 #[.string p0] w fun e w' => e = .returned (.tuple (xn v r)) ∧ Below w.heap.size w w' := by
 refine calls_of_wp Tryz.func226 rfl ?_
 have hsz : Tryz.f226.ntmps = 37 := by kernel_rfl
 have R0 : cr (dQ w 37).toCx (fun _ => none) ⟨[(0, vs p0)], [], 1⟩ { tmps := #[.string p0] ++ Array.replicate (Tryz.f226.ntmps - 1) undef, defers := [] } w := by
  refine BF (fun t av ht => ?_) (by rw [hsz]; simp) rfl
  match t, ht with
  | 0, ht => obtain rfl := ay ht; exact ⟨Nl rfl, rfl⟩
  | n + 1, ht => cases ht
 refine wp_seq (fo (c := dQ w 37) (x := .normal) (Sx := ⟨[(0, vs p0)], [], 1⟩) (ba ae [] 3 ⟨rfl, ai []⟩) R0 fun ρ1 a1 w1 R1 => ?_)
 by_cases hv : v = true
 rotate_left
 ·have hv : v = false := by cases v <;> simp_all
  refine wp_seq (wp_seq (fo (c := dQ w 37) (x := .normal) (Sx := ⟨[(9, vb true)], [], 1⟩) (ax ae [(9, vb true)] 3 [hn, hl [] [] 0 (hv ▸ kv)] ⟨rfl, ai []⟩) R1 fun ρ2 a2 w2 R2 => wp_cond_true (cO R2 (x := .tmp 9) (by kernel_rfl)) ?_))
  refine wp_seq (fo (c := dQ w 37) (x := .normal) (Sx := ⟨[(2, vs ⟨#[]⟩), (3, af 3)], [], 1⟩) (ba ae [(2, vs ⟨#[]⟩), (3, af 3)] 3 ⟨rfl, ai []⟩) R2 fun ρ3 a3 w3 R3 => wp_ret ?_)
  obtain ⟨u, e1, e2⟩ := Ap (fn := Tryz.f226) (out := .tup [vs ⟨#[]⟩, af 3]) (ps := [True, True]) ae R3 (by kernel_rfl) ⟨tv, tv, tv⟩
  refine ⟨R3.defers, u, e1, ?_, pY R3⟩
  obtain ⟨⟨ys⟩, rfl, h1⟩ := e2
  rcases ys with _ | ⟨y0, _ | ⟨y1, _ | ⟨y2, ys⟩⟩⟩
  ·exact h1.elim
  ·exact h1.2.elim
  ·obtain ⟨⟨rfl, _⟩, ⟨rfl, _⟩, _⟩ := h1
   unfold xn
   rw [if_neg (by rw [hv]; decide)]
  ·exact h1.2.2.elim
 refine wp_seq (wp_seq (fo (c := dQ w 37) (x := .normal) (Sx := ⟨[(0, vs p0), (9, vb false)], [], 1⟩) (ax ae [(9, vb false)] 3 [hn, hl [] [] 0 (hv ▸ kv)] ⟨rfl, ai []⟩) R1 fun ρ2 a2 w2 R2 => wp_cond_false (cO R2 (x := .tmp 9) (by kernel_rfl)) (wp_skip ?_)))
 refine wp_seq (fo (c := dQ w 37) (x := .normal) (Sx := ⟨[(0, vs p0)], [], 1⟩) (QY ae [] [1] [] 3 [hl [] [] 0 kt] ⟨rfl, ai []⟩) R2 fun ρ3 a3 w3 R3 => ?_)
 refine wp_seq (fo (c := dQ w 37) (x := .normal) (Sx := ⟨[(0, vs p0), (5, pX 1 2)], [(1, .box 325 [.t (.v (.pointer none)), ar])], 2⟩) (QY ae [(5, pX 1 2)] [1] [(1, .box 325 [.t (.v (.pointer none)), ar])] 2 [] ⟨rfl, ai [(1, 1)]⟩) R3 fun ρ4 a4 w4 R4 => ?_)
 refine wp_seq (wp_seq (fo (c := dQ w 37) (x := .normal) (Sx := ⟨[(0, vs p0), (5, pX 1 2), (6, af 0)], [(1, .box 325 [.t (.v (.pointer none)), ar])], 2⟩) (ba ae [(6, af 0)] 3 ⟨rfl, ai [(1, 1)]⟩) R4 fun ρ5 a5 w5 R5 => ?_))
 obtain ⟨b, T5, I5⟩ : ∃ b, kJ p0 b 0 a5 ∧ Lib.IsBuilder 325 5 w.heap.size b [] w5 := by
  obtain ⟨l, l1, ⟨b, us, rfl, u1, u2⟩, l3⟩ := R5.heap 1 _ rfl
  obtain ⟨b', cap, q1, q2⟩ := R5.tmp 5 _ rfl
  rw [l1] at q1
  injection q1 with q1
  injection q1 with q1
  subst q1
  refine ⟨b, ⟨R5.size, R5.defers, (R5.tmp 0 _ rfl).1, q2, (R5.tmp 6 _ rfl).1⟩, .inl ⟨?_, .slice none 0 0, ?_, World.ownsRow_nil _ _ _ _, by simp [Value.ownBlock]⟩⟩
  ·exact (l3 b 1 rfl).2.resolve_right fun ⟨_, _, h⟩ => by cases h
  ·obtain ⟨us⟩ := us
   rcases us with _ | ⟨x0, _ | ⟨x1, _ | ⟨x2, us⟩⟩⟩
   ·exact u2.elim
   ·exact u2.2.elim
   ·obtain ⟨⟨rfl, _⟩, ⟨rfl, _⟩, _⟩ := u2
    exact u1
   ·exact u2.2.2.elim
 have B5 := pY R5
 clear R0 R1 R2 R3 R4 R5
 refine wp_block (wp_loop (fun a w' => ∃ i, i ≤ p0.size ∧ kJ p0 b i a ∧ Lib.IsBuilder 325 5 w.heap.size b (Lib.byteCells (eG p0 i)) w' ∧ Below w.heap.size w w') (fun a _ => p0.size - (intOf (a.tmps.getD 6 undef)).toNat) ⟨0, Nat.zero_le _, T5, I5, B5⟩ ?_)
 rintro a w' ⟨i, hi, hT, hI, hB⟩
 by_cases hlt : i < p0.size
 ·have hd : decide ((i : Int) < (p0.size : Int)) = true := by simp; omega
  refine wp_seq (wp_seq (fo (c := dQ w' 37) (x := .normal) (Sx := ⟨[(0, vs p0), (5, .c (.t (.v (.pointer (some ⟨b, 0, none⟩))))), (6, af (i : Int)), (14, vb (decide ((i : Int) < (p0.size : Int))))], [], 1⟩) (ba ae [(14, vb (decide ((i : Int) < (p0.size : Int))))] 5 ⟨rfl, ai []⟩) (hT.rep (n := 1) w') fun ρa aa wa Ra => wp_cond_true ((cO Ra (x := .tmp 14) (v := .bool (decide ((i : Int) < (p0.size : Int)))) rfl).trans (by rw [hd])) (wp_skip ?_)))
  refine wp_seq (wp_block (wp_seq (wp_seq (fo (c := dQ w' 37) (x := .normal) (Sx := ⟨[(0, vs p0), (5, .c (.t (.v (.pointer (some ⟨b, 0, none⟩))))), (6, af (i : Int)), (19, vb false)], [], 1⟩) (ax ae [(19, vb false)] 3 (Ss [hl [] [] 0 (kp i hlt)]) ⟨rfl, ai []⟩) Ra fun ρb ab wb Rb => wp_cond_false (cO Rb (x := .tmp 19) (by kernel_rfl)) (wp_skip ?_)))))
  have g1 : 0 ≤ (i : Int) := by omega
  have g2 : (i : Int) < (p0.size : Int) := by omega
  refine Lj (c := dQ w' 37) (Sx := ⟨[(0, vs p0), (5, .c (.t (.v (.pointer (some ⟨b, 0, none⟩))))), (6, af (i : Int)), (32, vs ⟨(cT (p0.data.toList.getD i 0).toNat).toArray⟩)], [], 1⟩) ae 4 1 [] (Ss [hq g1 g2, hl [] [] 0 (Md (p0.data.toList.getD i 0).toNat (ha i hlt))]) (by kernel_rfl) Rb fun ρc ac wc Rc => ?_
  show wpOps _ _ _ [4] _ _
  rw [wpOps_cons]
  have hlen := F1 (p0.data.toList.take i)
  have hpl := EE (p0.data.toList.getD i 0).toNat
  have e5 : ac.eval (.tmp 5) = .pointer (some ⟨b, 0, none⟩) := cO Rc rfl
  have e32 : ac.eval (.tmp 32) = .string ⟨(cT (p0.data.toList.getD i 0).toNat).toArray⟩ := cO Rc rfl
  have Bc := pY Rc
  refine zV (c := dQ w' 37) Rc (o := _) (d := 33) (f := 258) rfl rfl rfl rfl rfl ⟨_, Tryz.func258, by kernel_rfl, rfl⟩ (vs := #[.pointer (some ⟨b, 0, none⟩), .string ⟨(cT (p0.data.toList.getD i 0).toNat).toArray⟩]) ?_ ?_
  ·simp only [List.map_toArray, Sq, List.map_nil, e5, e32]
  refine Calls.mono (JN w.heap.size b (Lib.byteCells (eG p0 i)) ⟨(cT (p0.data.toList.getD i 0).toNat).toArray⟩ wc (Au hI Bc) ?_ ?_) ?_
  ·rw [Lib.byteCells_length]
   unfold eG
   rw [Ro] at hlen
   show _ + (cT (p0.data.toList.getD i 0).toNat).toArray.size ≤ _
   rw [Rt]
   omega
  ·have := hB.size
   have := Bc.size
   omega
  rintro e w2 ⟨rfl, h2, h3⟩
  obtain ⟨v, hv⟩ : ∃ v, Value.tuple #[.int .i64 (((⟨(cT (p0.data.toList.getD i 0).toNat).toArray⟩ : ByteArray).size : Nat) : Int), .nilIface] = v := ⟨_, rfl⟩
  refine ⟨v, by rw [← hv], ?_⟩
  clear hv
  have hv : Lib.IsBuilder 325 5 w.heap.size b (Lib.byteCells (eG p0 (i + 1))) w2 ∧ Below w.heap.size w w2 := by
   refine ⟨.inr ?_, (hB.trans (Bc.mono hB.size)).trans h3⟩
   rw [Ln hlt]
   have : Lib.byteCells (eG p0 i ++ cT (p0.data.toList.getD i 0).toNat) = Lib.byteCells (eG p0 i) ++ Lib.strCells ⟨(cT (p0.data.toList.getD i 0).toNat).toArray⟩ := by simp [Lib.byteCells, Lib.strCells]
   rw [this]
   exact h2
  have hsz := Rc.size
  have T2 : kJ p0 b i (ac.put (some 33) v) := ⟨by rw [fj]; exact Rc.size, by rw [fE]; exact Rc.defers, by rw [fY v (by decide)]; exact (Rc.tmp 0 _ rfl).1, by rw [fY v (by decide)]; exact (Rc.tmp 5 _ rfl).1, by rw [fY v (by decide)]; exact (Rc.tmp 6 _ rfl).1⟩
  refine fo (c := dQ w2 37) (x := .normal) (Sx := ⟨[(0, vs p0), (5, .c (.t (.v (.pointer (some ⟨b, 0, none⟩))))), (6, af (SB ((i : Int) + 1)))], [], 1⟩) (ba ae [(6, af (SB ((i : Int) + 1)))] 4 ⟨rfl, ai []⟩) (T2.rep (n := 1) w2) fun ρd ad wd Rd => ?_
  have hw : SB ((i : Int) + 1) = ((i + 1 : Nat) : Int) := by rw [PU (by omega) (by omega)]; rfl
  rw [hw] at Rd
  have T3 := kJ.of Rd
  refine ⟨⟨i + 1, by omega, T3, Au hv.1 (pY Rd), hv.2.trans ((pY Rd).mono hv.2.size)⟩, ?_⟩
  rw [T3.t6, hT.t6]
  simp only [intOf, Rj]
  omega
 ·obtain rfl : i = p0.size := by omega
  have hd : decide ((p0.size : Int) < (p0.size : Int)) = false := by simp
  refine wp_seq (wp_seq (fo (c := dQ w' 37) (x := .normal) (Sx := ⟨[(0, vs p0), (5, .c (.t (.v (.pointer (some ⟨b, 0, none⟩))))), (6, af (p0.size : Int)), (14, vb (decide ((p0.size : Int) < (p0.size : Int))))], [], 1⟩) (ba ae [(14, vb (decide ((p0.size : Int) < (p0.size : Int))))] 5 ⟨rfl, ai []⟩) (hT.rep (n := 1) w') fun ρa aa wa Ra => wp_cond_false ((cO Ra (x := .tmp 14) (v := .bool (decide ((p0.size : Int) < (p0.size : Int)))) rfl).trans (by rw [hd])) (wp_exit ?_)))
  show Code.wp _ _ _ _ _
  have Ba := pY Ra
  refine wp_seq (wp_region ?_)
  show wpOps _ _ _ [0, 1, 2, 3, 4] _ _
  rw [wpOps_cons]
  have e5 : aa.eval (.tmp 5) = .pointer (some ⟨b, 0, none⟩) := cO Ra rfl
  refine zV (c := dQ w' 37) Ra (o := _) (d := 34) (f := 260) rfl rfl rfl rfl rfl ⟨_, Tryz.func260, by kernel_rfl, rfl⟩ (vs := #[.pointer (some ⟨b, 0, none⟩)]) (by simp only [List.map_toArray, Sq, List.map_nil, e5]) ?_
  have hBz := hB.size
  have hBa := Ba.size
  refine Calls.mono (Lm w.heap.size b (eG p0 p0.size) wa (Au hI Ba) (by omega)) ?_
  rintro e w2 ⟨rfl, h2⟩
  refine ⟨_, rfl, ?_⟩
  have B2 : Below w.heap.size w w2 := (hB.trans (Ba.mono hBz)).trans h2
  have R2 : cr (dQ w2 37).toCx (fun _ => none) ⟨[(34, vs (gF p0))], [], 1⟩ (aa.put (some 34) (.string ⟨(eG p0 p0.size).toArray⟩)) w2 := by
   refine BF (fun t av ht => ?_) (by rw [fj]; exact Ra.size) (by rw [fE]; exact Ra.defers)
   rw [bK] at ht
   split at ht
   ·rename_i e; subst e; obtain rfl := ay ht; exact ⟨ij _ (by rw [Ra.size]; exact (by decide : 34 < 37)), rfl⟩
   ·cases ht
  rw [wpOps_cons]
  have e34 : (aa.put (some 34) (.string ⟨(eG p0 p0.size).toArray⟩)).eval (.tmp 34) = .string (gF p0) := cO R2 rfl
  refine zV (c := dQ w2 37) R2 (o := _) (d := 35) (f := 216) rfl rfl rfl rfl rfl ⟨_, Tryz.func216, by kernel_rfl, rfl⟩ (vs := #[.string (gF p0)]) (by simp only [List.map_toArray, Sq, List.map_nil, e34]) ?_
  have hfs : (gF p0).size ≤ 1000 := by
   have := F1 (p0.data.toList.take p0.size)
   rw [Ro] at this
   show (eG p0 p0.size).toArray.size ≤ 1000
   rw [Rt]
   unfold eG
   omega
  refine Calls.mono (D4 (gF p0) (by show _ ≤ _; omega) w2) ?_
  rintro e w3 ⟨v3, rfl, h3, hrow⟩
  refine ⟨_, rfl, ?_⟩
  have R3 : cr (uf w3 (fun b => b < w3.heap.size) 37).toCx (fun _ => none) ⟨[(35, vl 1 Rs (iu (gF p0)))], [], 1⟩ ((aa.put (some 34) (.string ⟨(eG p0 p0.size).toArray⟩)).put (some 35) v3) w3 := by
   refine Qe (fun _ h => h) (fun t av ht => ?_) (by rw [fj, fj]; exact Ra.size) (by rw [fE, fE]; exact Ra.defers)
   rw [bK] at ht
   split at ht
   ·rename_i e; subst e; obtain rfl := ay ht
    rw [ij _ (by rw [fj, Ra.size]; exact (by decide : 35 < 37))]
    exact No (w0 := w) hrow
   ·cases ht
  refine zd (c := uf w3 (fun b => b < w3.heap.size) 37) (Sx := ⟨[(2, vs r), (3, af 0)], [], 1⟩) ae 2 3 [] [hl [] [] 0 (kj hv)] (by kernel_rfl) R3 fun ρ4 a4 w4 R4 => wp_ret ?_
  obtain ⟨u, e1, e2⟩ := Ap (fn := Tryz.f226) (out := .tup [vs r, af 0]) (ps := [True, True]) ae R4 (by kernel_rfl) ⟨tv, tv, tv⟩
  have hz3 := h3.size
  have hz2 := B2.size
  refine ⟨R4.defers, u, e1, ?_, (B2.trans (h3.mono hz2)).trans ((Qf R4).mono (by omega))⟩
  obtain ⟨⟨ys⟩, rfl, h1⟩ := e2
  rcases ys with _ | ⟨y0, _ | ⟨y1, _ | ⟨y2, ys⟩⟩⟩
  ·exact h1.elim
  ·exact h1.2.elim
  ·obtain ⟨⟨rfl, _⟩, ⟨rfl, _⟩, _⟩ := h1
   unfold xn
   rw [if_pos hv]
  ·exact h1.2.2.elim
noncomputable def mc (p0 : ByteArray) : Option (ByteArray × Int) := (sN p0).bind fun v => uP.bind fun _ => if p0.size ≤ 1000 ∧ (∀ i, i < p0.size → (p0.data.toList.getD i 0).toNat < 128) ∧ (∀ i : Nat, i < p0.size → pa p0 i = some false) then if v then (iZ (iu (gF p0))).bind fun r => some (r, 0) else some (⟨#[]⟩, 3) else none
theorem yS (p0 : ByteArray) (r : ByteArray × Int) (h : mc p0 = some r) : CT 226 [vs p0] [] (.tup [vs r.1, af r.2]) [] := by
 unfold mc at h
 obtain ⟨v, hv, h⟩ := Option.bind_eq_some_iff.1 h
 obtain ⟨tb, ht, h⟩ := Option.bind_eq_some_iff.1 h
 obtain ⟨⟨h1, h2, h3⟩, h⟩ := aY h
 obtain ⟨rr, hj, hr⟩ : ∃ rr : ByteArray, (v = true → iZ (iu (gF p0)) = some rr) ∧ r = if v = true then (rr, 0) else (⟨#[]⟩, 3) := by
  cases v with
  | false => rw [if_neg (by decide)] at h; exact ⟨⟨#[]⟩, fun e => (by cases e), by rw [if_neg (by decide)]; exact (ay h).symm⟩
  | true =>
   rw [if_pos rfl] at h
   obtain ⟨rr, hj, h⟩ := Option.bind_eq_some_iff.1 h
   exact ⟨rr, fun _ => hj, by rw [if_pos rfl]; exact (ay h).symm⟩
 refine yV (n := 0) ⟨_, Tryz.func226, by kernel_rfl, rfl⟩ fun w ok vs' hok ha => ?_
 obtain ⟨l⟩ := vs'
 rcases l with _ | ⟨v0, _ | ⟨v1, l⟩⟩
 ·exact ha.elim
 ·obtain ⟨⟨rfl, _⟩, _⟩ := ha
  refine callsIn_wide.2 (Calls.mono (Me p0 h1 h2 v rr tb (JM p0 v hv) (It tb ht) (fun i hi => DI p0 i false (h3 i hi)) (fun e => yR _ rr (hj e)) w) ?_)
  rintro e w' ⟨rfl, hB⟩
  refine ⟨_, rfl, hB, fun _ _ => ⟨#[.string r.1, .int .i64 r.2], ?_, ⟨rfl, rfl⟩, ⟨rfl, rfl⟩, tv⟩⟩
  subst hr
  unfold xn
  cases v <;> rfl
 ·exact ha.2.elim
end
noncomputable def rD (p0 : aW) (p1 : ByteArray) : Option ByteArray := (ma p0.Nicknames p1).bind fun y1 => (if decide (y1 ≥ 0) then if 0 ≤ y1 then if y1 < (p0.Nicknames.length : Int) then some ((p0.Nicknames.getD y1.toNat bT).To) else none else none else some p1)
theorem IS (p0 : aW) (p1 : ByteArray) (r : ByteArray) (h : rD p0 p1 = some r) : CT 227 [.agg (cK p0), vs p1] [] (vs r) [] := by
 refine aw ae 0 Tryz.func227 rfl (fun _ _ _ => ?_)
 unfold rD at h
 refine QZ ae [(2, pX 0 3)] [0] [(0, .box 31 (cK p0))] 2 [] (seq ?_)
 obtain ⟨y1, e2, h⟩ := ap h
 refine aA ae [(5, af y1)] 6 (Su [hk (yN p0.Nicknames p1 y1 e2)]) ?_
 refine ah ae [(11, vb (decide (y1 ≥ 0)))] 8 ?_
 refine Q2 h ?_ ?_ <;> intro c3 h
 ·obtain ⟨g4, g5, h⟩ := aJ h
  refine aA ae [(4, vs ((p0.Nicknames.getD y1.toNat bT).To))] 15 (Su [hq g4 g5]) (ret (QW ?_))
  apply au h (vs ((p0.Nicknames.getD y1.toNat bT).To))
 ·refine skip (QX ?_)
  refine ah ae [(4, vs p1)] 10 (ret ?_)
  apply au h (vs p1)
noncomputable def qO (x13 : Int) (x16 : List ByteArray) : Option ((List ByteArray × Int) ⊕ List ByteArray) := some (.inl (x16, SB (x13 + 1)))
noncomputable def qP (p0 : aW) (x12 : List ByteArray) (x13 : Int) (y19 : ByteArray) (x21 : Bool) : Option ((List ByteArray × Int) ⊕ List ByteArray) := if x21 then (rD p0 y19).bind fun y23 => (if x12.length + ([y23] : am).length ≤ 1099511627776 then qO x13 (x12 ++ ([y23] : am)) else none) else qO x13 x12
noncomputable def no (p0 : aW) (y8 : List ByteArray) (x12 : List ByteArray) (x13 : Int) : Option ((List ByteArray × Int) ⊕ List ByteArray) := if decide (x13 < (y8.length : Int)) then if 0 ≤ x13 then if x13 < (y8.length : Int) then (jQ (y8.getD (0 + x13.toNat) mt)).bind fun y19 => (if (!(y19.toList == (mk #[]).toList)) then (oA p0 y19).bind fun y27 => (qP p0 x12 x13 y19 (!y27)) else qP p0 x12 x13 y19 false) else none else none else some (.inr x12)
noncomputable def qQ (y30 : ByteArray) (x32 : Bool) : Option (ByteArray × Int) := if x32 then some ((mk #[]), 1) else some (y30, 0)
noncomputable def jK (p0 : aW) (p1 : ByteArray) : Option (ByteArray × Int) := (l8 p0).bind fun y1 => (if (y1 != 0) then some ((mk #[]), y1) else aF (mc p1) fun y4 y5 => (if (y5 != 0) then some ((mk #[]), y5) else (jS y4).bind fun y8 => ((loop (fun v : List ByteArray × Int => no p0 y8 v.1 v.2) (([] : am), 0)).bind fun x29 => ((iZ x29).bind fun y30 => (if decide ((x29.length : Int) > 6) then qQ y30 true else qQ y30 (decide ((y30.size : Int) > 64)))))))
theorem CF (p0 : aW) (p1 : ByteArray) (r : ByteArray × Int) (h : jK p0 p1 = some r) : CT 189 [.agg (cK p0), vs p1] [] (.tup [vs r.1, af r.2]) [] := by
 refine aw ae 0 Tryz.func189 rfl (fun _ _ _ => ?_)
 unfold jK at h
 refine QZ ae [(2, pX 0 3)] [0] [(0, .box 31 (cK p0))] 3 [] (seq ?_)
 obtain ⟨y1, e2, h⟩ := ap h
 refine aA ae [(6, af y1)] 5 [hn, hk (yJ p0 y1 e2)] ?_
 refine ah ae [(16, vb (y1 != 0))] 7 ?_
 refine Q2 h ?_ ?_ <;> intro c3 h
 ·refine ah ae [(5, af y1), (4, vs (mk #[]))] 10 (ret (QW ?_))
  apply au h (.tup [vs (mk #[]), af y1])
 ·refine skip (QX ?_)
  obtain ⟨y4, y5, e6, h⟩ := aK h
  refine aA ae [(8, af y5), (7, vs y4)] 13 [hn, hk (yS p1 (y4, y5) e6)] (seq ?_)
  refine ah ae [(24, vb (y5 != 0))] 15 ?_
  refine Q2 h ?_ ?_ <;> intro c7 h
  ·refine ah ae [(5, af y5), (4, vs (mk #[]))] 18 (ret (QW ?_))
   apply au h (.tup [vs (mk #[]), af y5])
  ·refine skip (QX ?_)
   refine ah ae [(9, .c (ar))] 16 (seq ?_)
   obtain ⟨y8, e9, h⟩ := ap h
   refine QZ ae [(29, af 0), (28, af (y8.length : Int)), (27, rX 17 1 y8.length)] [17] [(17, .row 9 false 1 y8.length (Rs y8))] 20 [hn, hm [] [] 1 (u3 y4 y8 e9) ⟨bS Vs _ _ _, tv⟩] (block ?_)
   obtain ⟨x29, l35, h⟩ := ap h
   refine Q3 l35 (fun v => ⟨[(2, pX 0 3), (9, rX 1 1 v.1.length), (27, rX 2 1 y8.length), (28, af (y8.length : Int)), (29, af v.2)], [(0, .box 31 (cK p0)), (1, .row 9 false 1 v.1.length (Rs v.1)), (2, .row 9 false 1 y8.length (Rs y8))], 3⟩) (fun t : List ByteArray => (.exit 0, ⟨[(9, rX 0 1 t.length)], [(0, .row 9 false 1 t.length (Rs t))], 1⟩)) (Conv.trans (cG (t := 9) (ty := 9) (sz := 1) (n := ([] : am).length) (f := Rs ([] : am)) (by kernel_rfl) rfl) (ai [(0, 0), (1, 20), (2, 17)])) (fun _ => tv) ?_ ?_
   ·clear l35 h
    intro v o h
    obtain ⟨x12, x13⟩ := v
    replace h : no p0 y8 x12 x13 = some o := h
    unfold no at h
    refine ah ae [(30, vb (decide (x13 < (y8.length : Int))))] 4 (seq ?_)
    refine Q2 h ?_ ?_ <;> intro c15 h
    ·refine skip (QX (seq ?_))
     refine AW.join (ι := List ByteArray) (fun v => ⟨[(2, pX 0 3), (9, rX 1 1 v.length), (27, rX 2 1 y8.length), (28, af (y8.length : Int)), (29, af x13)], [(0, .box 31 (cK p0)), (1, .row 9 false 1 v.length (Rs v)), (2, .row 9 false 1 y8.length (Rs y8))], 3⟩) (fun v : List ByteArray => qO x13 v = some o) (fun x16 h => ?_) ?_
     ·unfold qO at h
      refine QX ?_
      refine ba ae [(29, af (SB (x13 + 1)))] 5 ?_
      exact bh h (ai [(0, 0), (1, 1), (2, 2)])
     ·refine block ?_
      obtain ⟨g17, g18, h⟩ := aJ h
      refine aA ae [(11, vs (y8.getD (0 + x13.toNat) mt))] 7 [hq g17 g18, ho (p := (0 + x13.toNat) < y8.length) (by have h1 : 0 ≤ x13 := g17; have h2 : x13 < (y8.length : Int) := g18; omega)] ?_
      obtain ⟨y19, e20, h⟩ := ap h
      refine aA ae [(11, vs y19)] 9 [hn, hk (ym (y8.getD (0 + x13.toNat) mt) y19 e20)] (seq ?_)
      refine AW.join (ι := Bool) (fun v => ⟨[(2, pX 0 3), (9, rX 1 1 x12.length), (11, vs y19), (27, rX 2 1 y8.length), (28, af (y8.length : Int)), (29, af x13), (42, vb v)], [(0, .box 31 (cK p0)), (1, .row 9 false 1 x12.length (Rs x12)), (2, .row 9 false 1 y8.length (Rs y8))], 3⟩) (fun v : Bool => qP p0 x12 x13 y19 v = some o) (fun x21 h => ?_) ?_
      ·unfold qP at h
       refine QX ?_
       refine Q2 h ?_ ?_ <;> intro c22 h
       ·obtain ⟨y23, e24, h⟩ := ap h
        obtain ⟨g25, h⟩ := aY h
        refine QY ae [(9, .c (.ref 7 1 0 ((x12 ++ ([y23] : am)).length)))] [1, 6, 7] [(7, .row 9 false 1 (x12 ++ ([y23] : am)).length (Rs (x12 ++ ([y23] : am))))] 9 (Su [hk (IS p0 y19 y23 e24), bB mt Es 1 (fun _ => rfl) ([y23] : am), cP mt Es 1 16 x12 ([y23] : am) g25 (by decide)]) ?_
        refine QU ?_
        exact jl (x12 ++ ([y23] : am)) h (ai [(0, 0), (1, 7), (2, 2)])
       ·refine skip (QU ?_)
        exact jl x12 h (ai [(0, 0), (1, 1), (2, 2)])
      ·rcases aI h with ⟨c26, h⟩ | ⟨c26, h⟩
       ·obtain ⟨y27, e28, h⟩ := ap h
        refine ax ae [(42, vb (!y27))] 16 [hn, ht c26, hn, hn, hn, hk (C5 p0 y19 y27 e28)] ?_
        exact jl (!y27) h (ai [(0, 0), (1, 1), (2, 2)])
       ·refine ax ae [(42, vb false)] 17 [hn, hf c26] ?_
        exact jl false h (ai [(0, 0), (1, 1), (2, 2)])
    ·refine exit (QR ?_)
     exact aX h rfl (ai [(0, 1)])
   ·show (_ : XQ) (.exit 0) _
    refine QO (QX ?_)
    obtain ⟨y30, e31, h⟩ := ap h
    refine aA ae [(12, vs y30)] 3 [hn, hg [] [] true 0 (q := (0 + x29.length ≤ x29.length) ∧ (True)) ⟨Ax, tv⟩ (a0 := [vl 1 Rs x29]) (yR x29 y30 e31) ⟨aN.refl _, tv⟩ (fun _ => tv)] (seq (seq ?_))
    refine AW.join (ι := Bool) (fun v => ⟨[(12, vs y30), (59, vb v)], [], 0⟩) (fun v : Bool => qQ y30 v = some r) (fun x32 h => ?_) ?_
    ·unfold qQ at h
     refine QX ?_
     refine Q2 h ?_ ?_ <;> intro c33 h
     ·refine ah ae [(5, af 1), (4, vs (mk #[]))] 2 (ret (QW ?_))
      apply au h (.tup [vs (mk #[]), af 1])
     ·refine skip (QX ?_)
      refine ah ae [(5, af 0), (4, vs y30)] 3 (ret ?_)
      apply au h (.tup [vs y30, af 0])
    ·rcases aI h with ⟨c34, h⟩ | ⟨c34, h⟩
     ·refine ax ae [(59, vb true)] 11 (Ss [ht c34]) ?_
      exact jl true h
     ·refine ax ae [(59, vb (decide ((y30.size : Int) > 64)))] 11 (Ss [hf c34]) ?_
      exact jl (decide ((y30.size : Int) > 64)) h (ai [])
noncomputable def rE (p0 : ByteArray) (x3 : Int) (x4 : Int) (x7 : Bool) : Option ((Int × Int) ⊕ (Int ⊕ Unit)) := if x7 then some (.inr (.inr ())) else if 0 ≤ x4 then if x4 < (p0.size : Int) then (some (SB ((SB (10 * x3)) + (SB (u8.wrap (((p0.data.toList.getD x4.toNat 0).toNat : Int) - 48)))))).bind fun z11 => (some (.inl (z11, SB (x4 + 1)))) else none else none
noncomputable def rF (p0 : ByteArray) (x3 : Int) (x4 : Int) : Option ((Int × Int) ⊕ (Int ⊕ Unit)) := if decide (x4 < (p0.size : Int)) then if 0 ≤ x4 then if x4 < (p0.size : Int) then if decide (((p0.data.toList.getD x4.toNat 0).toNat : Int) < 48) then rE p0 x3 x4 true else rE p0 x3 x4 (decide (((p0.data.toList.getD x4.toNat 0).toNat : Int) > 57)) else none else none else some (.inr (.inl x3))
def Ds (x16 : Int) : Option Int := some x16
def yK : Option Int := some (-1)
noncomputable def lU (p0 : ByteArray) : Option Int := cD (loop (fun v : Int × Int => rF p0 v.1 v.2) (0, 0)) (fun t => Ds t) (fun t => yK)
theorem yA (p0 : ByteArray) (r : Int) (h : lU p0 = some r) : CT 266 [vs p0] [] (af r) [] := by
 refine aw ae 0 Tryz.func266 rfl (fun _ _ _ => ?_)
 unfold lU at h
 refine ah ae [] 1 ?_
 refine ah ae [(3, af 0)] 2 (seq ?_)
 refine ah ae [(7, af 0), (6, af (p0.size : Int))] 5 (block ?_)
 refine Q4 h (fun v => ⟨[(0, vs p0), (3, af v.1), (6, af (p0.size : Int)), (7, af v.2)], [], 0⟩) (fun t => (.exit 0, ⟨[(3, af t)], [], 0⟩)) (fun t => (.ret, ⟨[(2, af (-1))], [], 0⟩)) (ai []) (fun _ => tv) (fun _ => tv) ?_ (fun x16 h => ?_) (fun t h => ?_)
 ·clear h
  intro v o h
  obtain ⟨x3, x4⟩ := v
  replace h : rF p0 x3 x4 = some o := h
  unfold rF at h
  refine ah ae [(8, vb (decide (x4 < (p0.size : Int))))] 1 (seq ?_)
  refine Q2 h ?_ ?_ <;> intro c6 h
  ·refine skip (QX ?_)
   refine seq (block ?_)
   refine ah ae [(4, af x4)] 3 (seq (seq ?_))
   refine AW.join (ι := Bool) (fun v => ⟨[(0, vs p0), (3, af x3), (4, af x4), (6, af (p0.size : Int)), (7, af x4), (19, vb v)], [], 0⟩) (fun v : Bool => rE p0 x3 x4 v = some o) (fun x7 h => ?_) ?_
   ·unfold rE at h
    refine QX ?_
    refine Q2 h ?_ ?_ <;> intro c8 h
    ·refine ah ae [(2, af (-1))] 1 (ret (QW ?_))
     refine QT (QW ?_)
     exact aX h rfl (ai [])
    ·refine skip (QX ?_)
     obtain ⟨g9, g10, h⟩ := aJ h
     obtain ⟨z11, n12, h⟩ := ap h
     replace n12 := ay n12
     refine ax ae [(3, af z11)] 9 (Sv [hq g9 g10]) ?_ (by subst n12; kernel_rfl)
     refine QU (QX ?_)
     refine ba ae [(7, af (SB (x4 + 1)))] 11 ?_
     exact bh h (ai [])
   ·obtain ⟨g13, g14, h⟩ := aJ h
    rcases aI h with ⟨c15, h⟩ | ⟨c15, h⟩
    ·refine ax ae [(19, vb true)] 13 (Ss [hq g13 g14, ht c15]) ?_
     exact jl true h
    ·refine ax ae [(19, vb (decide (((p0.data.toList.getD x4.toNat 0).toNat : Int) > 57)))] 13 (Ss [hq g13 g14, hf c15, hn, hn, hn, hq g13 g14]) ?_
     exact jl (decide (((p0.data.toList.getD x4.toNat 0).toNat : Int) > 57)) h (ai [])
  ·refine exit (QR ?_)
   exact aX h rfl (ai [])
 ·unfold Ds at h
  show (_ : XQ) (.exit 0) _
  refine QO (QX ?_)
  refine ah ae [(2, af x16)] 2 (ret ?_)
  apply au h (af x16)
 ·replace h : yK = some r := h
  unfold yK at h
  show (_ : XQ) (.ret) _
  refine QT (QW ?_)
  apply au h (af (-1))
structure cI where
 Year : Int
 Month : Int
 Day : Int
def KI : cI := ⟨0, 0, 0⟩
instance : Inhabited cI := ⟨KI⟩
def dj (x : Int) : List T := [.v (.int .i64 x)]
def al (xs : List Int) : Nat → Nat → T := bJ 0 dj xs
theorem fb : ∀ x, kA (dj x) := fun _ => ⟨tv, tv⟩
def oB (x1 : Bool) : Option Bool := some x1
def sS (p0 : Int) : Option Bool := if ((p0.tmod 4) == 0) then if ((p0.tmod 100) != 0) then oB true else oB ((p0.tmod 400) == 0) else oB false
theorem J5 (p0 : Int) (r : Bool) (h : sS p0 = some r) : CT 286 [af p0] [] (vb r) [] := by
 refine aw ae 0 Tryz.func286 rfl (fun _ _ _ => ?_)
 unfold sS at h
 refine ah ae [] 1 (seq ?_)
 refine AW.join (ι := Bool) (fun v => ⟨[(2, vb v)], [], 0⟩) (fun v : Bool => oB v = some r) (fun x1 h => ?_) ?_
 ·unfold oB at h
  refine QX (ret ?_)
  apply au h (vb x1)
 ·rcases aI h with ⟨c2, h⟩ | ⟨c2, h⟩
  ·rcases aI h with ⟨c3, h⟩ | ⟨c3, h⟩
   ·refine ax ae [(2, vb true)] 15 [hn, ho (p := (4 : Int) ≠ 0) (by decide), ht c2, hn, hn, ho (p := (100 : Int) ≠ 0) (by decide), ht c3] ?_
    exact jl true h
   ·refine ax ae [(2, vb ((p0.tmod 400) == 0))] 15 [hn, ho (p := (4 : Int) ≠ 0) (by decide), ht c2, hn, hn, ho (p := (100 : Int) ≠ 0) (by decide), hf c3, hn, hn, ho (p := (400 : Int) ≠ 0) (by decide)] ?_
    exact jl ((p0.tmod 400) == 0) h
  ·refine ax ae [(2, vb false)] 15 [hn, ho (p := (4 : Int) ≠ 0) (by decide), hf c2] ?_
   exact jl false h
def sl (x3 : Int) : Option Int := some x3
def sn (p1 : Int) (x4 : Bool) : Option Int := if x4 then (some (SB ((([31, 28, 31, 30, 31, 30, 31, 31, 30, 31, 30, 31] : List Int).getD ((SB (p1 - 1)).toNat) 0) + 1))).bind fun z6 => (sl z6) else sl (([31, 28, 31, 30, 31, 30, 31, 31, 30, 31, 30, 31] : List Int).getD ((SB (p1 - 1)).toNat) 0)
def sT (p0 : Int) (p1 : Int) : Option Int := if 0 ≤ (SB (p1 - 1)) then if (SB (p1 - 1)) < ((12 : Nat) : Int) then if (p1 == 2) then (sS p0).bind fun y9 => (sn p1 y9) else sn p1 false else none else none
theorem J6 (p0 : Int) (p1 : Int) (r : Int) (h : sT p0 p1 = some r) : CT 277 [af p0, af p1] [] (af r) [] := by
 refine aw ae 0 Tryz.func277 rfl (fun _ _ _ => ?_)
 unfold sT at h
 refine ah ae [] 1 ?_
 obtain ⟨g1, g2, h⟩ := aJ h
 refine aA ae [(5, af (([31, 28, 31, 30, 31, 30, 31, 31, 30, 31, 30, 31] : List Int).getD ((SB (p1 - 1)).toNat) 0))] 6 (Su [hr 12 (al ([31, 28, 31, 30, 31, 30, 31, 31, 30, 31, 30, 31] : List Int)) (p := ((0 ≤ (SB (p1 - 1))) ∧ ((SB (p1 - 1)) < ((12 : Nat) : Int))) ∧ (12 = 12 ∧ ∀ i, i < 12 → ∀ j, j < 1 → dp [.v (.int .i64 31), .v (.int .i64 28), .v (.int .i64 31), .v (.int .i64 30), .v (.int .i64 31), .v (.int .i64 30), .v (.int .i64 31), .v (.int .i64 31), .v (.int .i64 30), .v (.int .i64 31), .v (.int .i64 30), .v (.int .i64 31)] 1 i j = al ([31, 28, 31, 30, 31, 30, 31, 31, 30, 31, 30, 31] : List Int) i j)) (⟨⟨g1, g2⟩, ⟨rfl, fun i hi j hj => match i, hi, j, hj with | 0, _, 0, _ => rfl | 1, _, 0, _ => rfl | 2, _, 0, _ => rfl | 3, _, 0, _ => rfl | 4, _, 0, _ => rfl | 5, _, 0, _ => rfl | 6, _, 0, _ => rfl | 7, _, 0, _ => rfl | 8, _, 0, _ => rfl | 9, _, 0, _ => rfl | 10, _, 0, _ => rfl | 11, _, 0, _ => rfl | _ + 12, h, _, _ => absurd h (by omega) | _, _, _ + 1, h => absurd h (by omega)⟩⟩)]) (seq ?_)
 refine AW.join (ι := Int) (fun v => ⟨[(5, af v)], [], 0⟩) (fun v : Int => sl v = some r) (fun x3 h => ?_) ?_
 ·unfold sl at h
  refine QX ?_
  refine ah ae [(4, af x3)] 2 (ret ?_)
  apply au h (af x3)
 ·refine seq ?_
  refine AW.join (ι := Bool) (fun v => ⟨[(5, af (([31, 28, 31, 30, 31, 30, 31, 31, 30, 31, 30, 31] : List Int).getD ((SB (p1 - 1)).toNat) 0)), (15, vb v)], [], 0⟩) (fun v : Bool => sn p1 v = some r) (fun x4 h => ?_) ?_
  ·unfold sn at h
   refine QX ?_
   refine Q2 h ?_ ?_ <;> intro c5 h
   ·obtain ⟨z6, n7, h⟩ := ap h
    replace n7 := ay n7
    refine ba ae [(5, af z6)] 3 ?_ (by subst n7; kernel_rfl)
    exact jl z6 h
   ·refine skip ?_
    exact jl (([31, 28, 31, 30, 31, 30, 31, 31, 30, 31, 30, 31] : List Int).getD ((SB (p1 - 1)).toNat) 0) h (ai [])
  ·rcases aI h with ⟨c8, h⟩ | ⟨c8, h⟩
   ·obtain ⟨y9, e10, h⟩ := ap h
    refine ax ae [(15, vb y9)] 11 [hn, ht c8, hn, hn, hk (J5 p0 y9 e10)] ?_
    exact jl y9 h
   ·refine ax ae [(15, vb false)] 12 [hn, hf c8] ?_
    exact jl false h
def iP (x1 : Bool) : Option Bool := some x1
def oT (p0 : cI) : Option Bool := if decide (p0.Year ≥ 1800) then if decide (p0.Year ≤ 2199) then if decide (p0.Month ≥ 1) then if decide (p0.Month ≤ 12) then if decide (p0.Day ≥ 1) then (sT p0.Year p0.Month).bind fun y7 => (iP (decide (p0.Day ≤ y7))) else iP false else iP false else iP false else iP false else iP false
theorem Dt (p0 : cI) (r : Bool) (h : oT p0 = some r) : CT 264 [.agg [ag p0.Year, ag p0.Month, ag p0.Day]] [] (vb r) [] := by
 refine aw ae 0 Tryz.func264 rfl (fun _ _ _ => ?_)
 unfold oT at h
 refine QZ ae [(1, pX 0 3)] [0] [(0, .box 97 [ag p0.Year, ag p0.Month, ag p0.Day])] 2 [] (seq ?_)
 refine AW.join (ι := Bool) (fun v => ⟨[(2, vb v)], [], 0⟩) (fun v : Bool => iP v = some r) (fun x1 h => ?_) ?_
 ·unfold iP at h
  refine QX (ret ?_)
  apply au h (vb x1)
 ·rcases aI h with ⟨c2, h⟩ | ⟨c2, h⟩
  ·rcases aI h with ⟨c3, h⟩ | ⟨c3, h⟩
   ·rcases aI h with ⟨c4, h⟩ | ⟨c4, h⟩
    ·rcases aI h with ⟨c5, h⟩ | ⟨c5, h⟩
     ·rcases aI h with ⟨c6, h⟩ | ⟨c6, h⟩
      ·obtain ⟨y7, e8, h⟩ := ap h
       refine Q0 ae eO [] [(2, vb (decide (p0.Day ≤ y7)))] [] 35 (Ss [ht c2, hn, hn, hn, ht c3, hn, hn, hn, hn, ht c4, hn, hn, hn, hn, ht c5, hn, hn, hn, hn, ht c6, hn, hn, hn, hn, hn, hn, hn, hn, hk (J6 p0.Year p0.Month y7 e8)]) ?_
       exact jl (decide (p0.Day ≤ y7)) h
      ·refine Q0 ae eO [] [(2, vb false)] [] 36 (Ss [ht c2, hn, hn, hn, ht c3, hn, hn, hn, hn, ht c4, hn, hn, hn, hn, ht c5, hn, hn, hn, hn, hf c6]) ?_
       exact jl false h
     ·refine Q0 ae eO [] [(2, vb false)] [] 36 (Ss [ht c2, hn, hn, hn, ht c3, hn, hn, hn, hn, ht c4, hn, hn, hn, hn, hf c5]) ?_
      exact jl false h
    ·refine Q0 ae eO [] [(2, vb false)] [] 36 (Ss [ht c2, hn, hn, hn, ht c3, hn, hn, hn, hn, hf c4]) ?_
     exact jl false h
   ·refine Q0 ae eO [] [(2, vb false)] [] 36 (Ss [ht c2, hn, hn, hn, hf c3]) ?_
    exact jl false h
  ·refine Q0 ae eO [] [(2, vb false)] [] 36 (Ss [hf c2]) ?_
   exact jl false h
noncomputable def gt (p0 : ByteArray) (p1 : ByteArray) (p2 : ByteArray) : Option (cI × Int) := (lU p0).bind fun y1 => ((lU p1).bind fun y3 => ((lU p2).bind fun y5 => ((oT (⟨y1, y3, y5⟩ : cI)).bind fun y7 => (if (!y7) then some ((⟨0, 0, 0⟩ : cI), 4) else some ((⟨y1, y3, y5⟩ : cI), 0)))))
theorem vr (p0 : ByteArray) (p1 : ByteArray) (p2 : ByteArray) (r : cI × Int) (h : gt p0 p1 p2 = some r) : CT 232 [vs p0, vs p1, vs p2] [] (.tup [.agg [ag r.1.Year, ag r.1.Month, ag r.1.Day], af r.2]) [] := by
 refine aw ae 0 Tryz.func232 rfl (fun _ _ _ => ?_)
 unfold gt at h
 refine QZ ae [(6, pX 0 3)] [0] [(0, .box 97 [ag 0, ag 0, ag 0])] 2 [] ?_
 obtain ⟨y1, e2, h⟩ := ap h
 obtain ⟨y3, e4, h⟩ := ap h
 obtain ⟨y5, e6, h⟩ := ap h
 refine QZ ae [(8, pX 6 3)] [6] [(6, .box 97 [ag y1, ag y3, ag y5])] 8 [hn, hk (yA p0 y1 e2), hn, hk (yA p1 y3 e4), hn, hk (yA p2 y5 e6)] (seq ?_)
 obtain ⟨y7, e8, h⟩ := ap h
 refine aA ae [(18, vb (!y7))] 10 [hn, hk (Dt (⟨y1, y3, y5⟩ : cI) y7 e8)] ?_
 refine Q2 h ?_ ?_ <;> intro c9 h
 ·refine QZ ae [(7, af 4)] [0] [(0, .box 97 [ag 0, ag 0, ag 0])] 13 [] (ret (QW ?_))
  apply au h (.tup [.agg [ag 0, ag 0, ag 0], af 4])
 ·refine skip (QX ?_)
  refine QZ ae [(7, af 0)] [0] [(0, .box 97 [ag y1, ag y3, ag y5])] 13 [] (ret ?_)
  apply au h (.tup [.agg [ag y1, ag y3, ag y5], af 0])
def rV : Option (cI × Int) := some ((⟨0, 0, 0⟩ : cI), 4)
noncomputable def rW (p0 : ByteArray) (x20 : Bool) : Option (cI × Int) := if x20 then if 6 ≤ p0.size then if 2 ≤ p0.size then if 3 ≤ 5 then if 5 ≤ p0.size then aF (gt (p0.extract 6 p0.size) (p0.extract 0 2) (p0.extract 3 5)) fun y26 y27 => (some (y26, y27)) else none else none else none else none else rV
noncomputable def oq (p0 : ByteArray) (x11 : Bool) : Option (cI × Int) := if x11 then if 6 ≤ p0.size then if 3 ≤ 5 then if 5 ≤ p0.size then if 2 ≤ p0.size then aF (gt (p0.extract 6 p0.size) (p0.extract 3 5) (p0.extract 0 2)) fun y17 y18 => (some (y17, y18)) else none else none else none else none else if (2 : Int) < (p0.size : Int) then if (((p0.data.toList.getD 2 0).toNat : Int) == 47) then if (5 : Int) < (p0.size : Int) then rW p0 (((p0.data.toList.getD 5 0).toNat : Int) == 47) else none else rW p0 false else none
noncomputable def lN (p0 : ByteArray) (x2 : Bool) : Option (cI × Int) := if x2 then if 4 ≤ p0.size then if 5 ≤ 7 then if 7 ≤ p0.size then if 8 ≤ p0.size then aF (gt (p0.extract 0 4) (p0.extract 5 7) (p0.extract 8 p0.size)) fun y8 y9 => (some (y8, y9)) else none else none else none else none else if (2 : Int) < (p0.size : Int) then if (((p0.data.toList.getD 2 0).toNat : Int) == 46) then if (5 : Int) < (p0.size : Int) then oq p0 (((p0.data.toList.getD 5 0).toNat : Int) == 46) else none else oq p0 false else none
noncomputable def hJ (p0 : ByteArray) : Option (cI × Int) := if ((p0.size : Int) != 10) then rV else if (4 : Int) < (p0.size : Int) then if (((p0.data.toList.getD 4 0).toNat : Int) == 45) then if (7 : Int) < (p0.size : Int) then lN p0 (((p0.data.toList.getD 7 0).toNat : Int) == 45) else none else lN p0 false else none
theorem JO (p0 : ByteArray) (r : cI × Int) (h : hJ p0 = some r) : CT 230 [vs p0] [] (.tup [.agg [ag r.1.Year, ag r.1.Month, ag r.1.Day], af r.2]) [] := by
 refine aw ae 0 Tryz.func230 rfl (fun _ _ _ => ?_)
 unfold hJ at h
 refine QZ ae [(2, pX 0 3)] [0] [(0, .box 97 [ag 0, ag 0, ag 0])] 2 [] (seq ?_)
 refine AW.join (ι := Unit) (fun v => ⟨[(2, pX 0 3)], [(0, .box 97 [ag 0, ag 0, ag 0])], 1⟩) (fun v : Unit => rV = some r) (fun v h => ?_) ?_
 ·replace h : rV = some r := h
  unfold rV at h
  refine QX ?_
  refine QZ ae [(3, af 4)] [0] [(0, .box 97 [ag 0, ag 0, ag 0])] 4 [] (ret ?_)
  apply au h (.tup [.agg [ag 0, ag 0, ag 0], af 4])
 ·refine block ?_
  refine ah ae [(4, vb ((p0.size : Int) != 10))] 6 ?_
  refine Q2 h ?_ ?_ <;> intro c1 h
  ·refine skip (QU ?_)
   exact jl () h (ai [(0, 0)])
  ·refine seq ?_
   refine AW.join (ι := Bool) (fun v => ⟨[(0, vs p0), (2, pX 0 3), (8, vb v)], [(0, .box 97 [ag 0, ag 0, ag 0])], 1⟩) (fun v : Bool => lN p0 v = some r) (fun x2 h => ?_) ?_
   ·unfold lN at h
    refine QX ?_
    refine Q2 h ?_ ?_ <;> intro c3 h
    ·obtain ⟨g4, g5, h⟩ := aJ h
     obtain ⟨g6, g7, h⟩ := aJ h
     obtain ⟨y8, y9, e10, h⟩ := aK h
     refine Q1 ae eO [[], [], [], [], [], [], [], [], [], [0]] [(3, af y9)] [(0, .box 97 [ag y8.Year, ag y8.Month, ag y8.Day])] 11 [hn, ho (p := (True) ∧ (0 ≤ (4 : Int)) ∧ (0 ≤ 4) ∧ (4 ≤ p0.size)) (⟨tv, (by decide), (Nat.zero_le _), g4⟩), hn, ho (p := (0 ≤ (5 : Int)) ∧ (0 ≤ (7 : Int)) ∧ (5 ≤ 7) ∧ (7 ≤ p0.size)) (⟨(by decide), (by decide), g5, g6⟩), hn, ho (p := (0 ≤ (8 : Int)) ∧ (True) ∧ (8 ≤ p0.size) ∧ (p0.size ≤ p0.size)) (⟨(by decide), tv, g7, (RR _)⟩), hk (vr (p0.extract 0 4) (p0.extract 5 7) (p0.extract 8 p0.size) (y8, y9) e10)] ?_
     refine ret (QT ?_)
     refine sQ ?_
     refine QW ?_
     apply au h (.tup [.agg [ag y8.Year, ag y8.Month, ag y8.Day], af y9])
    ·refine seq ?_
     refine AW.join (ι := Bool) (fun v => ⟨[(0, vs p0), (2, pX 0 3), (26, vb v)], [(0, .box 97 [ag 0, ag 0, ag 0])], 1⟩) (fun v : Bool => oq p0 v = some r) (fun x11 h => ?_) ?_
     ·unfold oq at h
      refine QX ?_
      refine Q2 h ?_ ?_ <;> intro c12 h
      ·obtain ⟨g13, g14, h⟩ := aJ h
       obtain ⟨g15, g16, h⟩ := aJ h
       obtain ⟨y17, y18, e19, h⟩ := aK h
       refine Q1 ae eO [[], [], [], [], [], [], [], [], [], [0]] [(3, af y18)] [(0, .box 97 [ag y17.Year, ag y17.Month, ag y17.Day])] 11 [hn, ho (p := (0 ≤ (6 : Int)) ∧ (True) ∧ (6 ≤ p0.size) ∧ (p0.size ≤ p0.size)) (⟨(by decide), tv, g13, (RR _)⟩), hn, ho (p := (0 ≤ (3 : Int)) ∧ (0 ≤ (5 : Int)) ∧ (3 ≤ 5) ∧ (5 ≤ p0.size)) (⟨(by decide), (by decide), g14, g15⟩), hn, ho (p := (True) ∧ (0 ≤ (2 : Int)) ∧ (0 ≤ 2) ∧ (2 ≤ p0.size)) (⟨tv, (by decide), (Nat.zero_le _), g16⟩), hk (vr (p0.extract 6 p0.size) (p0.extract 3 5) (p0.extract 0 2) (y17, y18) e19)] ?_
       refine ret (QT ?_)
       refine sQ ?_
       refine QW ?_
       apply au h (.tup [.agg [ag y17.Year, ag y17.Month, ag y17.Day], af y18])
      ·refine seq ?_
       refine AW.join (ι := Bool) (fun v => ⟨[(0, vs p0), (2, pX 0 3), (44, vb v)], [(0, .box 97 [ag 0, ag 0, ag 0])], 1⟩) (fun v : Bool => rW p0 v = some r) (fun x20 h => ?_) ?_
       ·unfold rW at h
        refine QX ?_
        refine Q2 h ?_ ?_ <;> intro c21 h
        ·obtain ⟨g22, g23, h⟩ := aJ h
         obtain ⟨g24, g25, h⟩ := aJ h
         obtain ⟨y26, y27, e28, h⟩ := aK h
         refine Q1 ae eO [[], [], [], [], [], [], [], [], [], [0]] [(3, af y27)] [(0, .box 97 [ag y26.Year, ag y26.Month, ag y26.Day])] 11 [hn, ho (p := (0 ≤ (6 : Int)) ∧ (True) ∧ (6 ≤ p0.size) ∧ (p0.size ≤ p0.size)) (⟨(by decide), tv, g22, (RR _)⟩), hn, ho (p := (True) ∧ (0 ≤ (2 : Int)) ∧ (0 ≤ 2) ∧ (2 ≤ p0.size)) (⟨tv, (by decide), (Nat.zero_le _), g23⟩), hn, ho (p := (0 ≤ (3 : Int)) ∧ (0 ≤ (5 : Int)) ∧ (3 ≤ 5) ∧ (5 ≤ p0.size)) (⟨(by decide), (by decide), g24, g25⟩), hk (vr (p0.extract 6 p0.size) (p0.extract 0 2) (p0.extract 3 5) (y26, y27) e28)] ?_
         refine ret (QT ?_)
         refine sQ ?_
         refine QW ?_
         apply au h (.tup [.agg [ag y26.Year, ag y26.Month, ag y26.Day], af y27])
        ·refine skip (QU ?_)
         exact jl () h (ai [(0, 0)])
       ·obtain ⟨g29, h⟩ := aY h
        rcases aI h with ⟨c30, h⟩ | ⟨c30, h⟩
        ·obtain ⟨g31, h⟩ := aY h
         refine ax ae [(44, vb (((p0.data.toList.getD 5 0).toNat : Int) == 47))] 10 [hn, ho (p := (0 ≤ (2 : Int)) ∧ ((2 : Int) < (p0.size : Int))) (⟨(by decide), g29⟩), ht c30, hn, hn, ho (p := (0 ≤ (5 : Int)) ∧ ((5 : Int) < (p0.size : Int))) (⟨(by decide), g31⟩)] ?_
         exact jl (((p0.data.toList.getD 5 0).toNat : Int) == 47) h (ai [(0, 0)])
        ·refine ax ae [(44, vb false)] 10 [hn, ho (p := (0 ≤ (2 : Int)) ∧ ((2 : Int) < (p0.size : Int))) (⟨(by decide), g29⟩), hf c30] ?_
         exact jl false h (ai [(0, 0)])
     ·obtain ⟨g32, h⟩ := aY h
      rcases aI h with ⟨c33, h⟩ | ⟨c33, h⟩
      ·obtain ⟨g34, h⟩ := aY h
       refine ax ae [(26, vb (((p0.data.toList.getD 5 0).toNat : Int) == 46))] 10 [hn, ho (p := (0 ≤ (2 : Int)) ∧ ((2 : Int) < (p0.size : Int))) (⟨(by decide), g32⟩), ht c33, hn, hn, ho (p := (0 ≤ (5 : Int)) ∧ ((5 : Int) < (p0.size : Int))) (⟨(by decide), g34⟩)] ?_
       exact jl (((p0.data.toList.getD 5 0).toNat : Int) == 46) h (ai [(0, 0)])
      ·refine ax ae [(26, vb false)] 10 [hn, ho (p := (0 ≤ (2 : Int)) ∧ ((2 : Int) < (p0.size : Int))) (⟨(by decide), g32⟩), hf c33] ?_
       exact jl false h (ai [(0, 0)])
   ·obtain ⟨g35, h⟩ := aY h
    rcases aI h with ⟨c36, h⟩ | ⟨c36, h⟩
    ·obtain ⟨g37, h⟩ := aY h
     refine ax ae [(8, vb (((p0.data.toList.getD 7 0).toNat : Int) == 45))] 15 [hn, ho (p := (0 ≤ (4 : Int)) ∧ ((4 : Int) < (p0.size : Int))) (⟨(by decide), g35⟩), ht c36, hn, hn, ho (p := (0 ≤ (7 : Int)) ∧ ((7 : Int) < (p0.size : Int))) (⟨(by decide), g37⟩)] ?_
     exact jl (((p0.data.toList.getD 7 0).toNat : Int) == 45) h (ai [(0, 0)])
    ·refine ax ae [(8, vb false)] 15 [hn, ho (p := (0 ≤ (4 : Int)) ∧ ((4 : Int) < (p0.size : Int))) (⟨(by decide), g35⟩), hf c36] ?_
     exact jl false h (ai [(0, 0)])
def eL : Int → Nat → List Int
 | _, 0 => []
 | n, d + 1 => eL (SB (n.tdiv 10)) d ++ [u8.wrap (SB (48 + n.tmod 10))]
theorem F2 : ∀ (d : Nat) (n : Int), (eL n d).length = d
 | 0, _ => rfl
 | d + 1, n => by rw [eL, Rl, F2 d]; rfl
theorem Np (l : List Int) (n : Int) : CT 265 [.c (.ref 0 1 0 l.length), af n, af 0] [(0, .row 5 false 1 l.length (bQ l))] (.c (.ref 0 1 0 l.length)) [(0, .row 5 false 1 l.length (bQ l))] := by
 refine aw ae 1 Tryz.func265 rfl (fun _ _ _ => ?_)
 refine ah ae [] 2 (seq ?_)
 refine ah ae [(8, vb true)] 4 ?_
 refine cond (b := true) (by kernel_rfl) (fun _ => ?_) (fun e => by cases e)
 refine ah ae [(6, rX 0 1 l.length)] 6 (ret ?_)
 exact be (.inr rfl) [(0, 0)] 1 (.c (.ref 0 1 0 l.length))
theorem Mf (l : List Int) (n m : Int) (L : List Int) (hm : (m == 0) = false) (hL : L.length ≤ 1000) (hc : CT 265 [.c (.ref 0 1 0 l.length), af (SB (n.tdiv 10)), af (SB (m - 1))] [(0, .row 5 false 1 l.length (bQ l))] (.c (.ref 0 1 0 L.length)) [(0, .row 5 false 1 L.length (bQ L))]) :
  CT 265 [.c (.ref 0 1 0 l.length), af n, af m] [(0, .row 5 false 1 l.length (bQ l))] (.c (.ref 1 1 0 (L ++ [u8.wrap (SB (48 + n.tmod 10))]).length)) [(1, .row 5 false 1 (L ++ [u8.wrap (SB (48 + n.tmod 10))]).length (bQ (L ++ [u8.wrap (SB (48 + n.tmod 10))])))] := by
 refine aw ae 1 Tryz.func265 rfl (fun _ _ _ => ?_)
 refine ah ae [] 2 (seq ?_)
 refine ah ae [(8, vb (m == 0))] 4 ?_
 refine cond (b := m == 0) (by kernel_rfl) (fun e => by rw [hm] at e; cases e) (fun _ => ?_)
 refine skip (QX ?_)
 have g : L.length + ([u8.wrap (SB (48 + n.tmod 10))] : List Int).length ≤ 1099511627776 := by simp; omega
 refine QZ ae [(6, .c (.ref 14 1 0 (L ++ [u8.wrap (SB (48 + n.tmod 10))]).length))] [0, 13, 14] [(14, .row 5 false 1 (L ++ [u8.wrap (SB (48 + n.tmod 10))]).length (bQ (L ++ [u8.wrap (SB (48 + n.tmod 10))])))] 16 (Ss [ho (p := (10 : Int) ≠ 0) (by decide), hn, hn, hl [0] [] 0 hc, hn, ho (p := (10 : Int) ≠ 0) (by decide), hn, hn, bB 0 fB 1 (fun _ => rfl) [u8.wrap (SB (48 + n.tmod 10))], cP 0 fB 1 1 L [u8.wrap (SB (48 + n.tmod 10))] g (by decide)]) (ret ?_)
 exact be (.inr rfl) [(1, 14)] 2 (.c (.ref 14 1 0 (L ++ [u8.wrap (SB (48 + n.tmod 10))]).length))
theorem Mg (l : List Int) (n m : Int) (L : List Int) (hm : (m == 0) = false) (hL : L.length ≤ 1000) (hc : CT 265 [.c (.ref 0 1 0 l.length), af (SB (n.tdiv 10)), af (SB (m - 1))] [(0, .row 5 false 1 l.length (bQ l))] (.c (.ref 1 1 0 L.length)) [(1, .row 5 false 1 L.length (bQ L))]) :
  CT 265 [.c (.ref 0 1 0 l.length), af n, af m] [(0, .row 5 false 1 l.length (bQ l))] (.c (.ref 1 1 0 (L ++ [u8.wrap (SB (48 + n.tmod 10))]).length)) [(1, .row 5 false 1 (L ++ [u8.wrap (SB (48 + n.tmod 10))]).length (bQ (L ++ [u8.wrap (SB (48 + n.tmod 10))])))] := by
 refine aw ae 1 Tryz.func265 rfl (fun _ _ _ => ?_)
 refine ah ae [] 2 (seq ?_)
 refine ah ae [(8, vb (m == 0))] 4 ?_
 refine cond (b := m == 0) (by kernel_rfl) (fun e => by rw [hm] at e; cases e) (fun _ => ?_)
 refine skip (QX ?_)
 have g : L.length + ([u8.wrap (SB (48 + n.tmod 10))] : List Int).length ≤ 1099511627776 := by simp; omega
 refine QZ ae [(6, .c (.ref 15 1 0 (L ++ [u8.wrap (SB (48 + n.tmod 10))]).length))] [0, 9, 14, 15] [(15, .row 5 false 1 (L ++ [u8.wrap (SB (48 + n.tmod 10))]).length (bQ (L ++ [u8.wrap (SB (48 + n.tmod 10))])))] 17 (Ss [ho (p := (10 : Int) ≠ 0) (by decide), hn, hn, hl [0] [] 1 hc, hn, ho (p := (10 : Int) ≠ 0) (by decide), hn, hn, bB 0 fB 1 (fun _ => rfl) [u8.wrap (SB (48 + n.tmod 10))], cP 0 fB 1 1 L [u8.wrap (SB (48 + n.tmod 10))] g (by decide)]) (ret ?_)
 exact be (.inr rfl) [(1, 15)] 2 (.c (.ref 15 1 0 (L ++ [u8.wrap (SB (48 + n.tmod 10))]).length))
theorem GE (l : List Int) (hl : l.length ≤ 100) : ∀ (d : Nat) (n : Int), d < 20 → CT 265 [.c (.ref 0 1 0 l.length), af n, af ((d + 1 : Nat) : Int)] [(0, .row 5 false 1 l.length (bQ l))] (.c (.ref 1 1 0 (l ++ eL n (d + 1)).length)) [(1, .row 5 false 1 (l ++ eL n (d + 1)).length (bQ (l ++ eL n (d + 1))))]
 | 0, n, _ => by
  have h := Mf l n 1 l (by decide) (by omega) (Np l (SB (n.tdiv 10)))
  simp only [eL, R8]
  exact h
 | d + 1, n, hd => by
  have ih := GE l hl d (SB (n.tdiv 10)) (by omega)
  have hw : SB (((d + 1 + 1 : Nat) : Int) - 1) = ((d + 1 : Nat) : Int) := by
   have := hd
   simp only [IntKind.wrap, IntKind.bits, IntKind.signed]
   simp
   omega
  have h := Mg l n ((d + 1 + 1 : Nat) : Int) (l ++ eL (SB (n.tdiv 10)) (d + 1)) (by rw [beq_eq_false_iff_ne]; omega) (by rw [Rl, F2]; omega) (by rw [hw]; exact ih)
  rw [RP] at h
  rw [eL]
  exact h
theorem Ot {P : Program} {f : FuncId} {args : List AV} {ty : TypeId} {n : Nat} {g g' : Nat → Nat → T} (hc : d7 P f (.c (.ref 0 1 0 0) :: args) [(0, .row ty false 1 0 g)] (.c (.ref 1 1 0 n)) [(1, .row ty false 1 n g')]) : d7 P f (.c (ar) :: args) [] (.c (.ref 0 1 0 n)) [(0, .row ty false 1 n g')] := by
 refine ⟨hc.1, fun w okA ρ vs hA hdom hin hinj hv => ?_⟩
 obtain rfl : ρ = fun _ => none := by
  funext id
  cases e : ρ id with
  | none => rfl
  | some l => obtain ⟨b, hb⟩ := hdom id (by rw [e]; exact fun h => by cases h); cases hb
 obtain ⟨l⟩ := vs
 rcases l with _ | ⟨v0, l⟩
 ·exact hv.elim
 obtain ⟨⟨rfl, _⟩, hv⟩ := hv
 have hE : b9 (fun _ => none : Ren) (fun id => if id = 0 then some .nil else none) := fun _ _ h => by cases h
 refine Calls.mono (hc.2 w okA (fun id => if id = 0 then some .nil else none) _ hA (fun id h => ?_) (fun id blk h => ?_) (fun i j b c c' h => ?_) ⟨⟨.nil, rfl, rfl, rfl, none, rfl⟩, hv.mono (RV.mono ⟨fun _ h => h, fun _ _ => rfl⟩ hE)⟩) ?_
 ·match id, h with
  | 0, _ => exact ⟨_, rfl⟩
  | k + 1, h => exact absurd rfl h
 ·match id, h with
  | 0, h => obtain rfl := ay h; exact ⟨.nil, rfl, rfl, fun b cap e => by cases e⟩
  | k + 1, h => cases h
 ·split at h <;> cases h
 rintro e w' ⟨v, ρ', rfl, hE', hU, hv', hh, hi⟩
 obtain ⟨l1, a1, b1, c1⟩ := hh 1 _ rfl
 have hk : ∀ b, okOf ⟨w, okA, fun id => if id = 0 then some .nil else none⟩ w' ρ' (Vm.look [(1, .row ty false 1 n g')]) b → okOf ⟨w, okA, fun _ => none⟩ w' (fun id => if id = 0 then ρ' 1 else none) (Vm.look [(0, .row ty false 1 n g')]) b := by
  rintro b ⟨q1, q2, q3⟩
  refine ⟨q1, ?_, fun id blk cap e1 e2 e3 => ?_⟩
  ·rcases q2 with q | q | ⟨id, cap, q⟩
   ·exact .inl q
   ·exact .inr (.inl q)
   ·first | (split at q <;> cases q) | (simp only at q; split at q <;> cases q)
  ·match id, e1 with
   | 0, e1 => exact q3 1 blk cap e1 e2 e3
   | k + 1, e1 => cases e1
 obtain ⟨lq, e1, hv2⟩ := HV.of (w := w') (ok := fun _ => False) hv'
 rw [a1] at e1
 obtain rfl := ay e1
 have hrv : RC w' (fun _ => False) (fun id => if id = 0 then ρ' 1 else none) (.ref 0 1 0 n) v := ⟨l1, a1, by cases l1 with | nil => exact ⟨rfl, hv2.1, hv2.2⟩ | aT b cap => exact hv2⟩
 refine ⟨v, (fun id => if id = 0 then ρ' 1 else none), rfl, (fun _ _ h => by cases h), ⟨hU.os, hU.tape, hU.output, hU.size, fun b hb _ => hU.block b hb fun ⟨id, cap, q⟩ => (by split at q <;> cases q)⟩, hrv, fun id blk e1 => ?_, fun i j b c c' x y h1 h2 h3 h4 h5 => ?_⟩
 ·match id, e1 with
  | 0, e1 =>
   obtain rfl := ay e1
   refine ⟨l1, a1, PT hk b1, fun b cap e => ⟨(c1 b cap e).1, ?_⟩⟩
   rcases (c1 b cap e).2 with q | ⟨id, cap, q⟩
   ·exact .inl q
   ·first | (split at q <;> cases q) | (simp only at q; split at q <;> cases q)
  | k + 1, e1 => cases e1
 ·match i, h1, j, h2 with
  | 0, _, 0, _ => rfl
  | k + 1, h, _, _ => cases h
  | 0, _, k + 1, h => cases h
def jR (p0 : List Int) (p1 : Int) (p2 : Int) : Option (List Int) := if (1 ≤ p2 ∧ p2 ≤ 20) ∧ p0.length ≤ 100 then some (p0 ++ eL p1 p2.toNat) else none
theorem yn (p0 : List Int) (p1 : Int) (p2 : Int) (r : List Int) (h : jR p0 p1 p2 = some r) : CT 265 [.c (.ref 0 1 0 p0.length), af p1, af p2] [(0, .row 5 false 1 p0.length (bQ p0))] (.c (.ref 1 1 0 r.length)) [(1, .row 5 false 1 r.length (bQ r))] := by
 unfold jR at h
 obtain ⟨⟨⟨h1, h2⟩, h3⟩, h⟩ := aY h
 obtain rfl := ay h
 obtain ⟨d, rfl⟩ : ∃ d : Nat, p2 = ((d + 1 : Nat) : Int) := ⟨(p2 - 1).toNat, by omega⟩
 exact GE p0 h3 d p1 (by omega)
def vB (p1 : Int) (p2 : Int) : Option (List Int) := jR [] p1 p2
theorem Jj (p1 : Int) (p2 : Int) (r : List Int) (h : vB p1 p2 = some r) : CT 265 [.c (ar), af p1, af p2] [] (.c (.ref 0 1 0 r.length)) [(0, .row 5 false 1 r.length (bQ r))] :=
 Ot (yn [] p1 p2 r h)
noncomputable def sF (p0 : cI) : Option (ByteArray × Int) := (oT p0).bind fun y1 => (if (!y1) then some ((mk #[]), 4) else (vB p0.Year 4).bind fun y4 => ((jR y4 p0.Month 2).bind fun y6 => ((jR y6 p0.Day 2).bind fun y8 => (some ((Vm.strOf y8), 0)))))
theorem Jx (p0 : cI) (r : ByteArray × Int) (h : sF p0 = some r) : CT 231 [.agg [ag p0.Year, ag p0.Month, ag p0.Day]] [] (.tup [vs r.1, af r.2]) [] := by
 refine aw ae 0 Tryz.func231 rfl (fun _ _ _ => ?_)
 unfold sF at h
 refine QZ ae [(1, pX 0 3)] [0] [(0, .box 97 [ag p0.Year, ag p0.Month, ag p0.Day])] 3 [] (seq ?_)
 obtain ⟨y1, e2, h⟩ := ap h
 refine aA ae [(6, vb (!y1))] 5 [hn, hk (Dt p0 y1 e2)] ?_
 refine Q2 h ?_ ?_ <;> intro c3 h
 ·refine ah ae [(3, af 4), (2, vs (mk #[]))] 7 (ret (QW ?_))
  apply au h (.tup [vs (mk #[]), af 4])
 ·refine skip (QX ?_)
  obtain ⟨y4, e5, h⟩ := ap h
  obtain ⟨y6, e7, h⟩ := ap h
  obtain ⟨y8, e9, h⟩ := ap h
  refine Q1 ae eO [[], [], [7], [], [], [7, 10], [], [], [10, 13]] [(3, af 0), (2, vs (Vm.strOf y8))] [] 17 (Ss [hm [] [] 1 (Jj p0.Year 4 y4 e5) ⟨bS Cc _ _ _, tv⟩, hn, hn, hm [7] [] 1 (yn y4 p0.Month 2 y6 e7) ⟨bS Cc _ _ _, tv⟩, hn, hn, hm [10] [] 1 (yn y6 p0.Day 2 y8 e9) ⟨bS Cc _ _ _, tv⟩, hi (fun i => y8.getD i 0) (p := (0 + y8.length ≤ y8.length) ∧ ∀ i, i < y8.length → (fun i j => bQ y8 (0 + i) j) i 0 = .v (.int .u8 (y8.getD i 0))) (⟨Ax, fun i _ => by simp only [R9] <;> rfl⟩)]) ?_
  refine ret ?_
  apply au h (.tup [vs (Vm.strOf y8), af 0])
noncomputable def oU (p0 : aW) (p1 : ByteArray) : Option (ByteArray × Int) := aF (hJ p1) fun y1 y2 => (if (y2 != 0) then some ((mk #[]), y2) else aF (sF y1) fun y5 y6 => (some (y5, y6)))
theorem JP (p0 : aW) (p1 : ByteArray) (r : ByteArray × Int) (h : oU p0 p1 = some r) : CT 192 [.agg (cK p0), vs p1] [] (.tup [vs r.1, af r.2]) [] := by
 refine aw ae 0 Tryz.func192 rfl (fun _ _ _ => ?_)
 unfold oU at h
 refine QZ ae [] [0] [] 3 [] ?_
 obtain ⟨y1, y2, e3, h⟩ := aK h
 refine QZ ae [(7, af y2), (6, pX 7 3)] [7] [(7, .box 97 [ag y1.Year, ag y1.Month, ag y1.Day])] 10 [hn, hk (JO p1 (y1, y2) e3)] (seq ?_)
 refine ah ae [(14, vb (y2 != 0))] 12 ?_
 refine Q2 h ?_ ?_ <;> intro c4 h
 ·refine ah ae [(5, af y2), (4, vs (mk #[]))] 15 (ret (QW ?_))
  apply au h (.tup [vs (mk #[]), af y2])
 ·refine skip (QX ?_)
  obtain ⟨y5, y6, e7, h⟩ := aK h
  refine aA ae [(5, af y6), (4, vs y5)] 17 [hn, hk (Jx y1 (y5, y6) e7)] (ret ?_)
  apply au h (.tup [vs y5, af y6])
noncomputable def iR (p0 : ByteArray) : Option (ByteArray × Int) := aF (mc p0) fun y1 y2 => (if (y2 != 0) then some ((mk #[]), y2) else (jS y1).bind fun y5 => ((strings_Join y5 (mk #[])).bind fun y7 => (if decide ((y7.size : Int) > 12) then some ((mk #[]), 1) else some (y7, 0))))
theorem C7 (p0 : ByteArray) (r : ByteArray × Int) (h : iR p0 = some r) : CT 197 [vs p0] [] (.tup [vs r.1, af r.2]) [] := by
 refine aw ae 0 Tryz.func197 rfl (fun _ _ _ => ?_)
 unfold iR at h
 refine ah ae [] 2 ?_
 obtain ⟨y1, y2, e3, h⟩ := aK h
 refine aA ae [(5, af y2), (4, vs y1)] 8 [hn, hk (yS p0 (y1, y2) e3)] (seq ?_)
 refine ah ae [(13, vb (y2 != 0))] 10 ?_
 refine Q2 h ?_ ?_ <;> intro c4 h
 ·refine ah ae [(3, af y2), (2, vs (mk #[]))] 13 (ret (QW ?_))
  apply au h (.tup [vs (mk #[]), af y2])
 ·refine skip (QX ?_)
  obtain ⟨y5, e6, h⟩ := ap h
  obtain ⟨y7, e8, h⟩ := ap h
  refine QZ ae [(6, vs y7)] [11] [] 13 [hn, hm [] [] 1 (u3 y1 y5 e6) ⟨bS Vs _ _ _, tv⟩, hg [] [] true 0 (q := (0 + y5.length ≤ y5.length) ∧ (True) ∧ (True)) ⟨Ax, tv, tv⟩ (a0 := [vl 1 Rs y5, vs (mk #[])]) (C6 y5 (mk #[]) y7 e8) ⟨aN.refl _, aN.refl _, tv⟩ (fun _ => tv)] (seq ?_)
  refine ah ae [(20, vb (decide ((y7.size : Int) > 12)))] 16 ?_
  refine Q2 h ?_ ?_ <;> intro c9 h
  ·refine ah ae [(3, af 1), (2, vs (mk #[]))] 18 (ret (QW ?_))
   apply au h (.tup [vs (mk #[]), af 1])
  ·refine skip (QX ?_)
   refine ah ae [(3, af 0), (2, vs y7)] 19 (ret ?_)
   apply au h (.tup [vs y7, af 0])
noncomputable def u4 (p0 : aW) (p1 : ByteArray) : Option (ByteArray × Int) := aF (iR p1) fun y1 y2 => (some (y1, y2))
theorem IH (p0 : aW) (p1 : ByteArray) (r : ByteArray × Int) (h : u4 p0 p1 = some r) : CT 196 [.agg (cK p0), vs p1] [] (.tup [vs r.1, af r.2]) [] := by
 refine aw ae 0 Tryz.func196 rfl (fun _ _ _ => ?_)
 unfold u4 at h
 refine QZ ae [] [0] [] 3 [] ?_
 obtain ⟨y1, y2, e3, h⟩ := aK h
 refine aA ae [(5, af y2), (4, vs y1)] 8 [hn, hk (C7 p1 (y1, y2) e3)] (ret ?_)
 apply au h (.tup [vs y1, af y2])
noncomputable def uC (p0 : aE) (pc0 : ByteArray) : Option (Bool × ByteArray) := some ((p0.From.toList == pc0.toList), pc0)
theorem Ie (p0 : aE) (pc0 : ByteArray) (r : Bool × ByteArray) (h : uC p0 pc0 = some r) : CT 234 [.agg [cs p0.From, cs p0.To], .c (.ptr 0 1 0 0)] [(0, .box 9 [cs pc0])] (vb r.1) [(0, .box 9 [cs r.2])] := by
 refine aw ae 1 Tryz.func234 rfl (fun _ _ _ => ?_)
 unfold uC at h
 refine QZ ae [(2, pX 1 2)] [1] [(1, .box 149 [cs p0.From, cs p0.To])] 3 [] ?_
 refine ah ae [(3, vb (p0.From.toList == pc0.toList))] 8 (ret ?_)
 obtain rfl := ay h
 exact be (.inr rfl) [(0, 0)] 1 (vb (p0.From.toList == pc0.toList))
noncomputable def qg (p0 : List aE) (x3 : Int) (x4 : ByteArray) : Option ((Int × ByteArray) ⊕ (ByteArray ⊕ (Int × ByteArray))) := if decide (x3 < (p0.length : Int)) then if 0 ≤ x3 then if x3 < (p0.length : Int) then aF (uC (p0.getD x3.toNat bT) x4) fun y11 y12 => (if y11 then some (.inr (.inr (x3, y12))) else some (.inl (SB (x3 + 1), y12))) else none else none else some (.inr (.inl x4))
noncomputable def Ck (x15 : ByteArray) : Option (Int × ByteArray) := some ((-1), x15)
noncomputable def xH (x16 : Int) (x17 : ByteArray) : Option (Int × ByteArray) := some (x16, x17)
noncomputable def qh (p0 : List aE) (p1d0 : ByteArray) : Option (Int × ByteArray) := cD (loop (fun v : Int × ByteArray => qg p0 v.1 v.2) (0, p1d0)) (fun t => Ck t) (fun t => xH t.1 t.2)
theorem HL (p0 : List aE) (p1d0 : ByteArray) (r : Int × ByteArray) (h : qh p0 p1d0 = some r) : CT 158 [vl 2 bA p0, .clo 234 [] [.c (.ptr 0 1 0 0)]] [(0, .box 9 [cs p1d0])] (af r.1) [(0, .box 9 [cs r.2])] := by
 refine aw ae 1 Tryz.func158 rfl (fun _ _ _ => ?_)
 unfold qh at h
 refine ah ae [] 2 (seq ?_)
 refine ah ae [(8, af 0), (7, af (p0.length : Int))] 5 (block ?_)
 refine Q4 h (fun v => ⟨[(0, vl 2 bA p0), (1, .clo 234 [] [.c (.ptr 0 1 0 0)]), (7, af (p0.length : Int)), (8, af v.1)], [(0, .box 9 [cs v.2])], 1⟩) (fun t => (.exit 0, ⟨[], [(0, .box 9 [cs t])], 1⟩)) (fun t => (.ret, ⟨[(4, af t.1)], [(0, .box 9 [cs t.2])], 1⟩)) (ai [(0, 0)]) (fun _ => tv) (fun _ => tv) ?_ (fun x15 h => ?_) (fun t h => ?_)
 ·clear h
  intro v o h
  obtain ⟨x3, x4⟩ := v
  replace h : qg p0 x3 x4 = some o := h
  unfold qg at h
  refine ah ae [(9, vb (decide (x3 < (p0.length : Int))))] 2 (seq ?_)
  refine Q2 h ?_ ?_ <;> intro c8 h
  ·refine skip (QX ?_)
   refine seq (block ?_)
   refine ah ae [(5, af x3)] 4 ?_
   obtain ⟨g9, g10, h⟩ := aJ h
   obtain ⟨y11, y12, e13, h⟩ := aK h
   refine QZ ae [(16, vb y11)] [0] [(0, .box 9 [cs y12])] 9 (Su [hq g9 g10, hn, hm [0] [] 0 (Ie (p0.getD x3.toNat bT) x4 (y11, y12) e13) ⟨rfl, tv⟩]) ?_
   refine Q2 h ?_ ?_ <;> intro c14 h
   ·refine ah ae [(4, af x3)] 11 (ret (QT (QW ?_)))
    exact aX h rfl (ai [(0, 0)])
   ·refine skip (QU (QX ?_))
    refine ba ae [(8, af (SB (x3 + 1)))] 11 ?_
    exact bh h (ai [(0, 0)])
  ·refine exit (QR ?_)
   exact aX h rfl (ai [(0, 0)])
 ·unfold Ck at h
  show (_ : XQ) (.exit 0) _
  refine QO (QX ?_)
  refine ah ae [(4, af (-1))] 2 (ret ?_)
  obtain rfl := ay h
  exact be (.inr rfl) [(0, 0)] 1 (af (-1))
 ·obtain ⟨x16, x17⟩ := t
  replace h : xH x16 x17 = some r := h
  unfold xH at h
  show (_ : XQ) (.ret) _
  refine QT (QW ?_)
  obtain rfl := ay h
  exact be (.inr rfl) [(0, 0)] 1 (af x16)
def ni (x1 : Bool) : Option Bool := some x1
noncomputable def iM (p0 : ByteArray) : Option Bool := if (!(p0.toList == (mk #[]).toList)) then if (0 : Int) < (p0.size : Int) then if decide (((p0.data.toList.getD 0 0).toNat : Int) ≥ 48) then ni (decide (((p0.data.toList.getD 0 0).toNat : Int) ≤ 57)) else ni false else none else ni false
theorem yi (p0 : ByteArray) (r : Bool) (h : iM p0 = some r) : CT 219 [vs p0] [] (vb r) [] := by
 refine aw ae 0 Tryz.func219 rfl (fun _ _ _ => ?_)
 unfold iM at h
 refine ah ae [] 1 (seq ?_)
 refine AW.join (ι := Bool) (fun v => ⟨[(2, vb v)], [], 0⟩) (fun v : Bool => ni v = some r) (fun x1 h => ?_) ?_
 ·unfold ni at h
  refine QX (ret ?_)
  apply au h (vb x1)
 ·rcases aI h with ⟨c2, h⟩ | ⟨c2, h⟩
  ·obtain ⟨g3, h⟩ := aY h
   rcases aI h with ⟨c4, h⟩ | ⟨c4, h⟩
   ·refine ax ae [(2, vb (decide (((p0.data.toList.getD 0 0).toNat : Int) ≤ 57)))] 14 [hn, ht c2, hn, hn, ho (p := (0 ≤ (0 : Int)) ∧ ((0 : Int) < (p0.size : Int))) (⟨(by decide), g3⟩), ht c4, hn, hn, hn, ho (p := (0 ≤ (0 : Int)) ∧ ((0 : Int) < (p0.size : Int))) (⟨(by decide), g3⟩)] ?_
    exact jl (decide (((p0.data.toList.getD 0 0).toNat : Int) ≤ 57)) h (ai [])
   ·refine ax ae [(2, vb false)] 14 [hn, ht c2, hn, hn, ho (p := (0 ≤ (0 : Int)) ∧ ((0 : Int) < (p0.size : Int))) (⟨(by decide), g3⟩), hf c4] ?_
    exact jl false h
  ·refine ax ae [(2, vb false)] 14 [hn, hf c2] ?_
   exact jl false h
noncomputable def qy (x2 : ByteArray) (x4 : Bool) : Option (ByteArray ⊕ ByteArray) := if x4 then if 1 ≤ x2.size then some (.inl (x2.extract 1 x2.size)) else none else some (.inr x2)
noncomputable def xY (p1 : Int) (x2 : ByteArray) : Option (ByteArray ⊕ ByteArray) := if decide ((x2.size : Int) > 0) then if (0 : Int) < (x2.size : Int) then qy x2 (((x2.data.toList.getD 0 0).toNat : Int) == p1) else none else qy x2 false
noncomputable def uD (p0 : ByteArray) (p1 : Int) : Option ByteArray := (loop (fun v : ByteArray => xY p1 v) p0).bind fun x9 => (some x9)
theorem If (p0 : ByteArray) (p1 : Int) (r : ByteArray) (h : uD p0 p1 = some r) : CT 279 [vs p0, jv p1] [] (vs r) [] := by
 refine aw ae 0 Tryz.func279 rfl (fun _ _ _ => ?_)
 unfold uD at h
 refine ah ae [] 1 (seq (block ?_))
 obtain ⟨x9, l10, h⟩ := ap h
 refine Q3 l10 (fun v => ⟨[(0, vs v), (1, jv p1)], [], 0⟩) (fun t : ByteArray => (.exit 0, ⟨[(0, vs t)], [], 0⟩)) (ai []) (fun _ => tv) ?_ ?_
 ·clear l10 h
  intro x2 o h
  unfold xY at h
  refine seq (seq ?_)
  refine AW.join (ι := Bool) (fun v => ⟨[(0, vs x2), (1, jv p1), (13, vb v)], [], 0⟩) (fun v : Bool => qy x2 v = some o) (fun x4 h => ?_) ?_
  ·unfold qy at h
   refine QX ?_
   refine Q2 h ?_ ?_ <;> intro c5 h
   ·refine skip (QX (block ?_))
    obtain ⟨g6, h⟩ := aY h
    refine ax ae [(0, vs (x2.extract 1 x2.size))] 3 [hn, ho (p := (0 ≤ (1 : Int)) ∧ (True) ∧ (1 ≤ x2.size) ∧ (x2.size ≤ x2.size)) (⟨(by decide), tv, g6, (RR _)⟩)] ?_
    refine QU ?_
    exact bh h (ai [])
   ·refine exit (QR ?_)
    exact aX h rfl (ai [])
  ·rcases aI h with ⟨c7, h⟩ | ⟨c7, h⟩
   ·obtain ⟨g8, h⟩ := aY h
    refine ax ae [(13, vb (((x2.data.toList.getD 0 0).toNat : Int) == p1))] 9 (Ss [ht c7, hn, hn, ho (p := (0 ≤ (0 : Int)) ∧ ((0 : Int) < (x2.size : Int))) (⟨(by decide), g8⟩)]) ?_
    exact jl (((x2.data.toList.getD 0 0).toNat : Int) == p1) h (ai [])
   ·refine ax ae [(13, vb false)] 9 (Ss [hf c7]) ?_
    exact jl false h
 ·show (_ : XQ) (.exit 0) _
  refine QO (QX ?_)
  refine ah ae [(4, vs x9)] 2 (ret ?_)
  apply au h (vs x9)
noncomputable def qD (p0 : ByteArray) (p1 : ByteArray) (x3 : Bool) : Option ByteArray := if x3 then if (0 : Int) < (p1.size : Int) then (uD p0 ((p1.data.toList.getD 0 0).toNat : Int)).bind fun y6 => (some y6) else none else none
noncomputable def qE (p0 : ByteArray) (p1 : ByteArray) (x1 : Bool) : Option ByteArray := if x1 then some p0 else if ((p1.size : Int) == 1) then if (0 : Int) < (p1.size : Int) then qD p0 p1 (decide (((p1.data.toList.getD 0 0).toNat : Int) < 128)) else none else qD p0 p1 false
noncomputable def uS (p0 : ByteArray) (p1 : ByteArray) : Option ByteArray := if (p0.toList == (mk #[]).toList) then qE p0 p1 true else qE p0 p1 (p1.toList == (mk #[]).toList)
theorem Iy (p0 : ByteArray) (p1 : ByteArray) (r : ByteArray) (h : uS p0 p1 = some r) : CT 268 [vs p0, vs p1] [] (vs r) [] := by
 refine aw ae 0 Tryz.func268 rfl (fun _ _ _ => ?_)
 unfold uS at h
 refine ah ae [] 1 (seq (seq ?_))
 refine AW.join (ι := Bool) (fun v => ⟨[(0, vs p0), (1, vs p1), (12, vb v)], [], 0⟩) (fun v : Bool => qE p0 p1 v = some r) (fun x1 h => ?_) ?_
 ·unfold qE at h
  refine QX ?_
  refine Q2 h ?_ ?_ <;> intro c2 h
  ·refine ah ae [(4, vs p0)] 2 (ret (QW ?_))
   apply au h (vs p0)
  ·refine skip (QX ?_)
   refine seq (seq ?_)
   refine AW.join (ι := Bool) (fun v => ⟨[(0, vs p0), (1, vs p1), (21, vb v)], [], 0⟩) (fun v : Bool => qD p0 p1 v = some r) (fun x3 h => ?_) ?_
   ·unfold qD at h
    refine QX ?_
    refine Q2 h ?_ ?_ <;> intro c4 h
    ·obtain ⟨g5, h⟩ := aY h
     obtain ⟨y6, e7, h⟩ := ap h
     refine aA ae [(4, vs y6)] 4 (Ss [ho (p := (0 ≤ (0 : Int)) ∧ ((0 : Int) < (p1.size : Int))) (⟨(by decide), g5⟩), hk (If p0 ((p1.data.toList.getD 0 0).toNat : Int) y6 e7)]) (ret (QW ?_))
     apply au h (vs y6)
    ·refine skip (QX ?_)
     refine seq (seq ?_)
     cases h
   ·rcases aI h with ⟨c8, h⟩ | ⟨c8, h⟩
    ·obtain ⟨g9, h⟩ := aY h
     refine ax ae [(21, vb (decide (((p1.data.toList.getD 0 0).toNat : Int) < 128)))] 8 (Ss [ht c8, hn, hn, ho (p := (0 ≤ (0 : Int)) ∧ ((0 : Int) < (p1.size : Int))) (⟨(by decide), g9⟩)]) ?_
     exact jl (decide (((p1.data.toList.getD 0 0).toNat : Int) < 128)) h (ai [])
    ·refine ax ae [(21, vb false)] 8 (Ss [hf c8]) ?_
     exact jl false h
 ·rcases aI h with ⟨c10, h⟩ | ⟨c10, h⟩
  ·refine ax ae [(12, vb true)] 7 [hn, ht c10] ?_
   exact jl true h
  ·refine ax ae [(12, vb (p1.toList == (mk #[]).toList))] 7 [hn, hf c10] ?_
   exact jl (p1.toList == (mk #[]).toList) h
noncomputable def rY (p0 : ByteArray) : Option ByteArray := (uS p0 (mk #[48])).bind fun y1 => ((iM y1).bind fun y3 => (if (!y3) then if (mk #[48]).size + y1.size ≤ ce then some ((mk #[48]) ++ y1) else none else some y1))
theorem I3 (p0 : ByteArray) (r : ByteArray) (h : rY p0 = some r) : CT 235 [vs p0] [] (vs r) [] := by
 refine aw ae 0 Tryz.func235 rfl (fun _ _ _ => ?_)
 unfold rY at h
 refine ah ae [] 1 ?_
 obtain ⟨y1, e2, h⟩ := ap h
 refine aA ae [(3, vs y1)] 3 [hn, hk (Iy p0 (mk #[48]) y1 e2)] (seq ?_)
 obtain ⟨y3, e4, h⟩ := ap h
 refine aA ae [(8, vb (!y3))] 5 [hn, hk (yi y1 y3 e4)] ?_
 refine Q2 h ?_ ?_ <;> intro c5 h
 ·obtain ⟨g6, h⟩ := aY h
  refine aA ae [(2, vs ((mk #[48]) ++ y1))] 8 [hn, ho g6] (ret (QW ?_))
  apply au h (vs ((mk #[48]) ++ y1))
 ·refine skip (QX ?_)
  refine ah ae [(2, vs y1)] 7 (ret ?_)
  apply au h (vs y1)
noncomputable def iB (x6 : Int) (x10 : List ByteArray) (x11 : List ByteArray) : Option ((List ByteArray × List ByteArray × Int) ⊕ (List ByteArray × List ByteArray)) := some (.inl (x10, x11, SB (x6 + 1)))
noncomputable def iC (p0 : List ByteArray) (x4 : List ByteArray) (x5 : List ByteArray) (x6 : Int) : Option ((List ByteArray × List ByteArray × Int) ⊕ (List ByteArray × List ByteArray)) := if decide (x6 < (p0.length : Int)) then if 0 ≤ x6 then if x6 < (p0.length : Int) then (iM (p0.getD x6.toNat mt)).bind fun y14 => (if y14 then if x4.length + ([(p0.getD x6.toNat mt)] : am).length ≤ 1099511627776 then iB x6 (x4 ++ ([(p0.getD x6.toNat mt)] : am)) x5 else none else if x5.length + ([(p0.getD x6.toNat mt)] : am).length ≤ 1099511627776 then iB x6 x4 (x5 ++ ([(p0.getD x6.toNat mt)] : am)) else none) else none else none else some (.inr (x4, x5))
noncomputable def kQ (p0 : List ByteArray) : Option (List ByteArray × List ByteArray) := aF (loop (fun v : List ByteArray × List ByteArray × Int => iC p0 v.1 v.2.1 v.2.2) (([] : am), ([] : am), 0)) fun x19 x20 => (some (x19, x20))
theorem H1 (p0 : List ByteArray) (r : (List ByteArray) × (List ByteArray)) (h : kQ p0 = some r) : CT 218 [vl 1 Rs p0, .c (.t (.v (.func (.func 219) #[] #[])))] [] (.tup [.c (.ref 0 1 0 r.1.length), .c (.ref 1 1 0 r.2.length)]) [(0, .row 9 false 1 r.1.length (Rs r.1)), (1, .row 9 false 1 r.2.length (Rs r.2))] := by
 refine aw ae 0 Tryz.func218 rfl (fun _ _ _ => ?_)
 unfold kQ at h
 refine ah ae [(5, .c (ar)), (4, .c (ar))] 2 (seq ?_)
 refine ah ae [(10, af 0), (9, af (p0.length : Int)), (8, vl 1 Rs p0)] 5 (block ?_)
 obtain ⟨x19, x20, l21, h⟩ := aK h
 refine Q3 l21 (fun v => ⟨[(1, .c (.t (.v (.func (.func 219) #[] #[])))), (4, rX 0 1 v.1.length), (5, rX 1 1 v.2.1.length), (8, vl 1 Rs p0), (9, af (p0.length : Int)), (10, af v.2.2)], [(0, .row 9 false 1 v.1.length (Rs v.1)), (1, .row 9 false 1 v.2.1.length (Rs v.2.1))], 2⟩) (fun t : (List ByteArray) × (List ByteArray) => (.exit 0, ⟨[(4, rX 0 1 t.1.length), (5, rX 1 1 t.2.length)], [(0, .row 9 false 1 t.1.length (Rs t.1)), (1, .row 9 false 1 t.2.length (Rs t.2))], 2⟩)) (Conv.trans (cG (t := 4) (ty := 9) (sz := 1) (n := ([] : am).length) (f := Rs ([] : am)) (by kernel_rfl) rfl) (Conv.trans (cG (t := 5) (ty := 9) (sz := 1) (n := ([] : am).length) (f := Rs ([] : am)) (by kernel_rfl) rfl) (ai [(0, 5), (1, 6)]))) (fun _ => tv) ?_ ?_
 ·clear l21 h
  intro v o h
  obtain ⟨x4, x5, x6⟩ := v
  replace h : iC p0 x4 x5 x6 = some o := h
  unfold iC at h
  refine ah ae [(11, vb (decide (x6 < (p0.length : Int))))] 3 (seq ?_)
  refine Q2 h ?_ ?_ <;> intro c9 h
  ·refine skip (QX (seq ?_))
   refine AW.join (ι := (List ByteArray) × (List ByteArray)) (fun v => ⟨[(1, .c (.t (.v (.func (.func 219) #[] #[])))), (4, rX 0 1 v.1.length), (5, rX 1 1 v.2.length), (8, vl 1 Rs p0), (9, af (p0.length : Int)), (10, af x6)], [(0, .row 9 false 1 v.1.length (Rs v.1)), (1, .row 9 false 1 v.2.length (Rs v.2))], 2⟩) (fun v : (List ByteArray) × (List ByteArray) => iB x6 v.1 v.2 = some o) (fun v h => ?_) ?_
   ·obtain ⟨x10, x11⟩ := v
    replace h : iB x6 x10 x11 = some o := h
    unfold iB at h
    refine QX ?_
    refine ba ae [(10, af (SB (x6 + 1)))] 4 ?_
    exact bh h (ai [(0, 0), (1, 1)])
   ·refine block ?_
    obtain ⟨g12, g13, h⟩ := aJ h
    refine aA ae [(7, vs (p0.getD x6.toNat mt))] 6 [hq g12 g13] ?_
    obtain ⟨y14, e15, h⟩ := ap h
    refine aA ae [(16, vb y14)] 8 (Ss [hk (yi (p0.getD x6.toNat mt) y14 e15)]) ?_
    refine Q2 h ?_ ?_ <;> intro c16 h
    ·obtain ⟨g17, h⟩ := aY h
     refine QY ae [(4, .c (.ref 11 1 0 ((x4 ++ ([(p0.getD x6.toNat mt)] : am)).length)))] [0, 10, 11] [(11, .row 9 false 1 (x4 ++ ([(p0.getD x6.toNat mt)] : am)).length (Rs (x4 ++ ([(p0.getD x6.toNat mt)] : am))))] 13 (Ss [bB mt Es 1 (fun _ => rfl) ([(p0.getD x6.toNat mt)] : am), cP mt Es 1 16 x4 ([(p0.getD x6.toNat mt)] : am) g17 (by decide)]) ?_
     refine QU ?_
     exact jl ((x4 ++ ([(p0.getD x6.toNat mt)] : am)), x5) h (ai [(0, 11), (1, 1)])
    ·obtain ⟨g18, h⟩ := aY h
     refine QY ae [(5, .c (.ref 11 1 0 ((x5 ++ ([(p0.getD x6.toNat mt)] : am)).length)))] [1, 10, 11] [(11, .row 9 false 1 (x5 ++ ([(p0.getD x6.toNat mt)] : am)).length (Rs (x5 ++ ([(p0.getD x6.toNat mt)] : am))))] 13 (Ss [bB mt Es 1 (fun _ => rfl) ([(p0.getD x6.toNat mt)] : am), cP mt Es 1 16 x5 ([(p0.getD x6.toNat mt)] : am) g18 (by decide)]) ?_
     refine QU ?_
     exact jl (x4, (x5 ++ ([(p0.getD x6.toNat mt)] : am))) h (ai [(0, 0), (1, 11)])
  ·refine exit (QR ?_)
   exact aX h rfl (ai [(0, 0), (1, 1)])
 ·show (_ : XQ) (.exit 0) _
  refine QO (QX ?_)
  refine ah ae [(5, rX 1 1 x20.length), (4, rX 0 1 x19.length)] 6 (ret ?_)
  obtain rfl := ay h
  exact be (.inr rfl) [(0, 0), (1, 1)] 2 (.tup [.c (.ref 0 1 0 x19.length), .c (.ref 1 1 0 x20.length)])
noncomputable def m9 (x13 : Int) (x16 : List ByteArray) : Option ((List ByteArray × Int) ⊕ List ByteArray) := some (.inl (x16, SB (x13 + 1)))
noncomputable def na (p0 : aW) (y8 : List ByteArray) (x12 : List ByteArray) (x13 : Int) : Option ((List ByteArray × Int) ⊕ List ByteArray) := if decide (x13 < (y8.length : Int)) then if 0 ≤ x13 then if x13 < (x12.length : Int) then aF (qh p0.Streets (x12.getD (0 + x13.toNat) mt)) fun y19 y20 => ((iM y20).bind fun y22 => (if y22 then (rY y20).bind fun y25 => (m9 x13 (x12.set (0 + x13.toNat) y25)) else if decide (y19 ≥ 0) then if 0 ≤ y19 then if y19 < (p0.Streets.length : Int) then m9 x13 (x12.set (0 + x13.toNat) ((p0.Streets.getD y19.toNat bT).To)) else none else none else m9 x13 x12)) else none else none else some (.inr x12)
noncomputable def li (y35 : ByteArray) (x37 : Bool) : Option (ByteArray × Int) := if x37 then some ((mk #[]), 1) else some (y35, 0)
noncomputable def iH (p0 : aW) (p1 : ByteArray) : Option (ByteArray × Int) := (l8 p0).bind fun y1 => (if (y1 != 0) then some ((mk #[]), y1) else aF (mc p1) fun y4 y5 => (if (y5 != 0) then some ((mk #[]), y5) else (jS y4).bind fun y8 => ((loop (fun v : List ByteArray × Int => na p0 y8 v.1 v.2) (y8, 0)).bind fun x30 => (aF (kQ x30) fun y31 y32 => (if y32.length + y31.length ≤ 1099511627776 then (iZ (y32 ++ y31)).bind fun y35 => (if decide ((x30.length : Int) > 6) then li y35 true else li y35 (decide ((y35.size : Int) > 64))) else none)))))
theorem Cu (p0 : aW) (p1 : ByteArray) (r : ByteArray × Int) (h : iH p0 p1 = some r) : CT 201 [.agg (cK p0), vs p1] [] (.tup [vs r.1, af r.2]) [] := by
 refine aw ae 0 Tryz.func201 rfl (fun _ _ _ => ?_)
 unfold iH at h
 refine QZ ae [(2, pX 0 3)] [0] [(0, .box 31 (cK p0))] 3 [] (seq ?_)
 obtain ⟨y1, e2, h⟩ := ap h
 refine aA ae [(6, af y1)] 5 [hn, hk (yJ p0 y1 e2)] ?_
 refine ah ae [(19, vb (y1 != 0))] 7 ?_
 refine Q2 h ?_ ?_ <;> intro c3 h
 ·refine ah ae [(5, af y1), (4, vs (mk #[]))] 10 (ret (QW ?_))
  apply au h (.tup [vs (mk #[]), af y1])
 ·refine skip (QX ?_)
  obtain ⟨y4, y5, e6, h⟩ := aK h
  refine aA ae [(8, af y5), (7, vs y4)] 13 [hn, hk (yS p1 (y4, y5) e6)] (seq ?_)
  refine ah ae [(27, vb (y5 != 0))] 15 ?_
  refine Q2 h ?_ ?_ <;> intro c7 h
  ·refine ah ae [(5, af y5), (4, vs (mk #[]))] 18 (ret (QW ?_))
   apply au h (.tup [vs (mk #[]), af y5])
  ·refine skip (QX ?_)
   obtain ⟨y8, e9, h⟩ := ap h
   refine QZ ae [(9, rX 16 1 y8.length)] [16] [(16, .row 9 false 1 y8.length (Rs y8))] 18 [hn, hm [] [] 1 (u3 y4 y8 e9) ⟨bS Vs _ _ _, tv⟩] (seq ?_)
   refine ah ae [(33, af 0), (32, af (y8.length : Int)), (31, rX 16 1 y8.length)] 21 (block ?_)
   obtain ⟨x30, l40, h⟩ := ap h
   refine Q3 l40 (fun v => ⟨[(2, pX 0 3), (9, rX 1 1 v.1.length), (31, rX 1 1 v.1.length), (32, af (y8.length : Int)), (33, af v.2)], [(0, .box 31 (cK p0)), (1, .row 9 false 1 v.1.length (Rs v.1))], 2⟩) (fun t : List ByteArray => (.exit 0, ⟨[(9, rX 0 1 t.length)], [(0, .row 9 false 1 t.length (Rs t))], 1⟩)) (ai [(0, 0), (1, 16)]) (fun _ => tv) ?_ ?_
   ·clear l40 h
    intro v o h
    obtain ⟨x12, x13⟩ := v
    replace h : na p0 y8 x12 x13 = some o := h
    unfold na at h
    refine ah ae [(34, vb (decide (x13 < (y8.length : Int))))] 3 (seq ?_)
    refine Q2 h ?_ ?_ <;> intro c15 h
    ·refine skip (QX (seq ?_))
     refine AW.join (ι := List ByteArray) (fun v => ⟨[(2, pX 0 3), (9, rX 1 1 v.length), (31, rX 1 1 v.length), (32, af (y8.length : Int)), (33, af x13)], [(0, .box 31 (cK p0)), (1, .row 9 false 1 v.length (Rs v))], 2⟩) (fun v : List ByteArray => m9 x13 v = some o) (fun x16 h => ?_) ?_
     ·unfold m9 at h
      refine QX ?_
      refine ba ae [(33, af (SB (x13 + 1)))] 4 ?_
      exact bh h (ai [(0, 0), (1, 1)])
     ·refine block ?_
      obtain ⟨g17, g18, h⟩ := aJ h
      refine QZ ae [(10, af x13), (11, pX 6 1)] [6] [(6, .box 9 [cs (x12.getD (0 + x13.toNat) mt)])] 9 [hn, hq g17 g18, ho (p := (0 + x13.toNat) < x12.length) (by have h1 : 0 ≤ x13 := g17; have h2 : x13 < (x12.length : Int) := g18; omega)] ?_
      obtain ⟨y19, y20, e21, h⟩ := aK h
      refine QZ ae [(12, af y19)] [6] [(6, .box 9 [cs y20])] 13 (Su [hm [6] [] 0 (HL p0.Streets (x12.getD (0 + x13.toNat) mt) (y19, y20) e21) ⟨rfl, tv⟩]) (block ?_)
      obtain ⟨y22, e23, h⟩ := ap h
      refine aA ae [(42, vb y22)] 15 [hn, hk (yi y20 y22 e23)] ?_
      refine Q2 h ?_ ?_ <;> intro c24 h
      ·obtain ⟨y25, e26, h⟩ := ap h
       refine QY ae [] [1] [(1, .row 9 false 1 x12.length (Rs (x12.set (0 + x13.toNat) y25)))] 20 (Su [hk (I3 y20 y25 e26), hq g17 g18, hset mt Es x12 (0 + x13.toNat) y25 (n := x12.length) (by have h1 : 0 ≤ x13 := g17; have h2 : x13 < (x12.length : Int) := g18; omega) rfl]) ?_
       refine QU (QU ?_)
       exact jl (x12.set (0 + x13.toNat) y25) h (Conv.trans (cV [(9, .c (.ref 1 1 0 ((x12.set (0 + x13.toNat) y25).length))), (31, .c (.ref 1 1 0 ((x12.set (0 + x13.toNat) y25).length)))] ⟨⟨.c (.ref 1 1 0 x12.length), by kernel_rfl, bU.len (by simp only [R7])⟩, ⟨.c (.ref 1 1 0 x12.length), by kernel_rfl, bU.len (by simp only [R7])⟩, tv⟩) (Conv.trans (eN 1 9 false 1 x12.length ((x12.set (0 + x13.toNat) y25).length) (Rs (x12.set (0 + x13.toNat) y25)) (by kernel_rfl) (by simp only [R7])) (ai [(0, 0), (1, 1)])))
      ·refine ah ae [(50, vb (decide (y19 ≥ 0)))] 18 ?_
       refine Q2 h ?_ ?_ <;> intro c27 h
       ·obtain ⟨g28, g29, h⟩ := aJ h
        refine QY ae [] [1] [(1, .row 9 false 1 x12.length (Rs (x12.set (0 + x13.toNat) ((p0.Streets.getD y19.toNat bT).To))))] 28 (Sw [hq g28 g29, hn, hn, hq g17 g18, hset mt Es x12 (0 + x13.toNat) ((p0.Streets.getD y19.toNat bT).To) (n := x12.length) (by have h1 : 0 ≤ x13 := g17; have h2 : x13 < (x12.length : Int) := g18; omega) rfl]) ?_
        refine QU (QU ?_)
        exact jl (x12.set (0 + x13.toNat) ((p0.Streets.getD y19.toNat bT).To)) h (Conv.trans (cV [(9, .c (.ref 1 1 0 ((x12.set (0 + x13.toNat) ((p0.Streets.getD y19.toNat bT).To)).length))), (31, .c (.ref 1 1 0 ((x12.set (0 + x13.toNat) ((p0.Streets.getD y19.toNat bT).To)).length)))] ⟨⟨.c (.ref 1 1 0 x12.length), by kernel_rfl, bU.len (by simp only [R7])⟩, ⟨.c (.ref 1 1 0 x12.length), by kernel_rfl, bU.len (by simp only [R7])⟩, tv⟩) (Conv.trans (eN 1 9 false 1 x12.length ((x12.set (0 + x13.toNat) ((p0.Streets.getD y19.toNat bT).To)).length) (Rs (x12.set (0 + x13.toNat) ((p0.Streets.getD y19.toNat bT).To))) (by kernel_rfl) (by simp only [R7])) (ai [(0, 0), (1, 1)])))
       ·refine skip (QU (QU ?_))
        exact jl x12 h (ai [(0, 0), (1, 1)])
    ·refine exit (QR ?_)
     exact aX h rfl (ai [(0, 1)])
   ·show (_ : XQ) (.exit 0) _
    refine QO (QX ?_)
    obtain ⟨y31, y32, e33, h⟩ := aK h
    refine QZ ae [(14, rX 3 1 y32.length), (13, rX 2 1 y31.length)] [2, 3] [(2, .row 9 false 1 y31.length (Rs y31)), (3, .row 9 false 1 y32.length (Rs y32))] 9 [hn, hg [] [] true 2 (q := (0 + x30.length ≤ x30.length) ∧ (True) ∧ (True)) ⟨Ax, tv, tv⟩ (a0 := [vl 1 Rs x30, .c (.t (.v (.func (.func 219) #[] #[])))]) (H1 x30 (y31, y32) e33) ⟨aN.refl _, aN.refl _, tv⟩ (fun _ => ⟨bS Vs _ _ _, bS Vs _ _ _, tv⟩)] ?_
    obtain ⟨g34, h⟩ := aY h
    obtain ⟨y35, e36, h⟩ := ap h
    refine QZ ae [(15, vs y35)] [3, 11] [] 13 (Ss [cP mt Es 1 16 y32 y31 g34 (by decide), hg [] [] true 0 (q := (0 + (y32 ++ y31).length ≤ (y32 ++ y31).length) ∧ (True)) ⟨Ax, tv⟩ (a0 := [vl 1 Rs (y32 ++ y31)]) (yR (y32 ++ y31) y35 e36) ⟨aN.refl _, tv⟩ (fun _ => tv)]) (seq (seq ?_))
    refine AW.join (ι := Bool) (fun v => ⟨[(15, vs y35), (79, vb v)], [], 0⟩) (fun v : Bool => li y35 v = some r) (fun x37 h => ?_) ?_
    ·unfold li at h
     refine QX ?_
     refine Q2 h ?_ ?_ <;> intro c38 h
     ·refine ah ae [(5, af 1), (4, vs (mk #[]))] 2 (ret (QW ?_))
      apply au h (.tup [vs (mk #[]), af 1])
     ·refine skip (QX ?_)
      refine ah ae [(5, af 0), (4, vs y35)] 3 (ret ?_)
      apply au h (.tup [vs y35, af 0])
    ·rcases aI h with ⟨c39, h⟩ | ⟨c39, h⟩
     ·refine ax ae [(79, vb true)] 21 (Ss [ht c39]) ?_
      exact jl true h
     ·refine ax ae [(79, vb (decide ((y35.size : Int) > 64)))] 21 (Ss [hf c39]) ?_
      exact jl (decide ((y35.size : Int) > 64)) h (ai [])
def rG (x4 : Bool) : Option Bool := some x4
noncomputable def sG (p0 : aW) (p1 : ByteArray) : Option Bool := aF (jK p0 p1) fun y1 y2 => (if (y2 == 0) then rG (y1.toList == p1.toList) else rG false)
theorem Jy (p0 : aW) (p1 : ByteArray) (r : Bool) (h : sG p0 p1 = some r) : CT 190 [.agg (cK p0), vs p1] [] (vb r) [] := by
 refine aw ae 0 Tryz.func190 rfl (fun _ _ _ => ?_)
 unfold sG at h
 refine QZ ae [(2, pX 0 3)] [0] [(0, .box 31 (cK p0))] 2 [] ?_
 obtain ⟨y1, y2, e3, h⟩ := aK h
 refine aA ae [(6, af y2), (5, vs y1)] 9 (Ss [hk (CF p0 p1 (y1, y2) e3)]) (seq ?_)
 refine AW.join (ι := Bool) (fun v => ⟨[(4, vb v)], [], 0⟩) (fun v : Bool => rG v = some r) (fun x4 h => ?_) ?_
 ·unfold rG at h
  refine QX (ret ?_)
  apply au h (vb x4)
 ·rcases aI h with ⟨c5, h⟩ | ⟨c5, h⟩
  ·refine ax ae [(4, vb (y1.toList == p1.toList))] 17 [hn, ht c5] ?_
   exact jl (y1.toList == p1.toList) h
  ·refine ax ae [(4, vb false)] 17 [hn, hf c5] ?_
   exact jl false h
noncomputable def v7 (p0 : ByteArray) : Option (cI × Int) := if ((p0.size : Int) != 8) then some ((⟨0, 0, 0⟩ : cI), 4) else if 4 ≤ p0.size then if 4 ≤ 6 then if 6 ≤ p0.size then aF (gt (p0.extract 0 4) (p0.extract 4 6) (p0.extract 6 p0.size)) fun y5 y6 => (some (y5, y6)) else none else none else none
theorem J7 (p0 : ByteArray) (r : cI × Int) (h : v7 p0 = some r) : CT 194 [vs p0] [] (.tup [.agg [ag r.1.Year, ag r.1.Month, ag r.1.Day], af r.2]) [] := by
 refine aw ae 0 Tryz.func194 rfl (fun _ _ _ => ?_)
 unfold v7 at h
 refine QZ ae [(2, pX 0 3)] [0] [(0, .box 97 [ag 0, ag 0, ag 0])] 2 [] (seq ?_)
 refine ah ae [(6, vb ((p0.size : Int) != 8))] 5 ?_
 refine Q2 h ?_ ?_ <;> intro c1 h
 ·refine QZ ae [(3, af 4)] [0] [(0, .box 97 [ag 0, ag 0, ag 0])] 8 [] (ret (QW ?_))
  apply au h (.tup [.agg [ag 0, ag 0, ag 0], af 4])
 ·refine skip (QX ?_)
  obtain ⟨g2, g3, h⟩ := aJ h
  obtain ⟨g4, h⟩ := aY h
  obtain ⟨y5, y6, e7, h⟩ := aK h
  refine Q1 ae eO [[], [], [], [], [], [], [], [], [], [0]] [(3, af y6)] [(0, .box 97 [ag y5.Year, ag y5.Month, ag y5.Day])] 15 [hn, ho (p := (True) ∧ (0 ≤ (4 : Int)) ∧ (0 ≤ 4) ∧ (4 ≤ p0.size)) (⟨tv, (by decide), (Nat.zero_le _), g2⟩), hn, ho (p := (0 ≤ (4 : Int)) ∧ (0 ≤ (6 : Int)) ∧ (4 ≤ 6) ∧ (6 ≤ p0.size)) (⟨(by decide), (by decide), g3, g4⟩), hn, ho (p := (0 ≤ (6 : Int)) ∧ (True) ∧ (6 ≤ p0.size) ∧ (p0.size ≤ p0.size)) (⟨(by decide), tv, g4, (RR _)⟩), hk (vr (p0.extract 0 4) (p0.extract 4 6) (p0.extract 6 p0.size) (y5, y6) e7)] ?_
  refine ret ?_
  apply au h (.tup [.agg [ag y5.Year, ag y5.Month, ag y5.Day], af y6])
noncomputable def rk (p0 : aW) (p1 : ByteArray) : Option Bool := aF (v7 p1) fun y1 y2 => (some (y2 == 0))
theorem II (p0 : aW) (p1 : ByteArray) (r : Bool) (h : rk p0 p1 = some r) : CT 193 [.agg (cK p0), vs p1] [] (vb r) [] := by
 refine aw ae 0 Tryz.func193 rfl (fun _ _ _ => ?_)
 unfold rk at h
 refine QZ ae [] [0] [] 2 [] ?_
 obtain ⟨y1, y2, e3, h⟩ := aK h
 refine QZ ae [(6, af y2)] [6] [] 9 [hn, hk (J7 p1 (y1, y2) e3)] ?_
 refine ah ae [(4, vb (y2 == 0))] 12 (ret ?_)
 apply au h (vb (y2 == 0))
def qR (x4 : Bool) : Option Bool := some x4
noncomputable def rH (p0 : ByteArray) : Option Bool := aF (iR p0) fun y1 y2 => (if (y2 == 0) then qR (y1.toList == p0.toList) else qR false)
theorem IT (p0 : ByteArray) (r : Bool) (h : rH p0 = some r) : CT 199 [vs p0] [] (vb r) [] := by
 refine aw ae 0 Tryz.func199 rfl (fun _ _ _ => ?_)
 unfold rH at h
 refine ah ae [] 1 ?_
 obtain ⟨y1, y2, e3, h⟩ := aK h
 refine aA ae [(4, af y2), (3, vs y1)] 7 [hn, hk (C7 p0 (y1, y2) e3)] (seq ?_)
 refine AW.join (ι := Bool) (fun v => ⟨[(2, vb v)], [], 0⟩) (fun v : Bool => qR v = some r) (fun x4 h => ?_) ?_
 ·unfold qR at h
  refine QX (ret ?_)
  apply au h (vb x4)
 ·rcases aI h with ⟨c5, h⟩ | ⟨c5, h⟩
  ·refine ax ae [(2, vb (y1.toList == p0.toList))] 15 [hn, ht c5] ?_
   exact jl (y1.toList == p0.toList) h
  ·refine ax ae [(2, vb false)] 15 [hn, hf c5] ?_
   exact jl false h
noncomputable def u5 (p0 : aW) (p1 : ByteArray) : Option Bool := (rH p1).bind fun y1 => (some y1)
theorem IJ (p0 : aW) (p1 : ByteArray) (r : Bool) (h : u5 p0 p1 = some r) : CT 198 [.agg (cK p0), vs p1] [] (vb r) [] := by
 refine aw ae 0 Tryz.func198 rfl (fun _ _ _ => ?_)
 unfold u5 at h
 refine QZ ae [] [0] [] 2 [] ?_
 obtain ⟨y1, e2, h⟩ := ap h
 refine aA ae [(4, vb y1)] 4 [hn, hk (IT p1 y1 e2)] (ret ?_)
 apply au h (vb y1)
def qS (x4 : Bool) : Option Bool := some x4
noncomputable def rI (p0 : aW) (p1 : ByteArray) : Option Bool := aF (iH p0 p1) fun y1 y2 => (if (y2 == 0) then qS (y1.toList == p1.toList) else qS false)
theorem IU (p0 : aW) (p1 : ByteArray) (r : Bool) (h : rI p0 p1 = some r) : CT 202 [.agg (cK p0), vs p1] [] (vb r) [] := by
 refine aw ae 0 Tryz.func202 rfl (fun _ _ _ => ?_)
 unfold rI at h
 refine QZ ae [(2, pX 0 3)] [0] [(0, .box 31 (cK p0))] 2 [] ?_
 obtain ⟨y1, y2, e3, h⟩ := aK h
 refine aA ae [(6, af y2), (5, vs y1)] 9 (Ss [hk (Cu p0 p1 (y1, y2) e3)]) (seq ?_)
 refine AW.join (ι := Bool) (fun v => ⟨[(4, vb v)], [], 0⟩) (fun v : Bool => qS v = some r) (fun x4 h => ?_) ?_
 ·unfold qS at h
  refine QX (ret ?_)
  apply au h (vb x4)
 ·rcases aI h with ⟨c5, h⟩ | ⟨c5, h⟩
  ·refine ax ae [(4, vb (y1.toList == p1.toList))] 17 [hn, ht c5] ?_
   exact jl (y1.toList == p1.toList) h
  ·refine ax ae [(4, vb false)] 17 [hn, hf c5] ?_
   exact jl false h
section
open Go.RowKit Go.Maps Go.Sort
def kr : List ByteArray → DataW Unit := fun l => l.foldl (fun D s => D.put (.string s.data.toList) (.agg [])) (DataW.map [])
def gR : Value → Option (DataW Unit × List MemPlace) := fun _ => some (.agg [], [])
theorem Nq (p0 : List ByteArray) (hp : Hid (p0.length ≤ 1000)) (w : World) (q : Option Addr) (c : Nat) (hs : Hid (∀ s ∈ p0, s.size ≤ maxLen)) (hq : Cd w.heap.size w q p0) :
  Calls Tryz.prog 263 #[.slice q p0.length c] w fun e w' => ∃ b, e = .returned (.map (some b)) ∧ w.heap.size ≤ b ∧ w'.ownsMap Tryz.prog 9 gR b p0.length (kr p0) ∧ Below w.heap.size w w' := by
 refine calls_of_wp Tryz.func263 rfl ?_
 simp only [Tryz.ntmps263, Rt, Rk, Rm, Nat.reduceAdd, Nat.reduceSub, Array.replicate_succ, Array.replicate_zero, List.push_toArray, List.append_toArray, R8, List.cons_append]
 have hmm := @run_makeMap Tryz.prog
 go_wp2
 go_loopw [9] (fun v wr => ∃ k : Nat, v = .int .i64 (k : Int) ∧ k ≤ p0.length ∧ wr.ownsMap Tryz.prog 9 gR w.heap.size k (kr (p0.take k)) ∧ Below w.heap.size w wr) (fun v wr => p0.length - (intOf v).toNat)
 case atStart => exact ⟨0, rfl, by omega, World.ownsMap_made _ _ _ _, (Below.refl _ w).alloc (RR _) _⟩
 case round =>
  obtain ⟨k, rfl, hk, hown, hB⟩ := hrel
  by_cases hlt : (k : Int) < (p0.length : Int)
  ·obtain ⟨b, o, rfl, hb, hcell⟩ := hq k (by omega)
   have hcell2 : wr.cell? ⟨b, o + k, none⟩ = some (.string (p0.getD k mt)) := (hB.cell (p := ⟨b, o + k, none⟩) hb).trans hcell
   obtain ⟨x, hx⟩ : ∃ x, p0.getD k mt = x := ⟨_, rfl⟩
   rw [hx] at hcell2
   have HX : Hid (p0.getD k mt = x) := hx
   have hmem : x ∈ p0 := by
    rw [← hx, Re, Rf (show k < p0.length by omega)]
    exact Sb _
   have hsz := hs.out x hmem
   clear hx hcell hq hmem hs
   have hkey := WideMaps.keyOf_string_mk Tryz.underlying9 hsz
   clear hsz
   have hkm : k < maxLen := by have := hp.out; unfold maxLen; omega
   go_wp2_with (at_mapUpdate; refine wpList_mapUpdate_own _ rfl _ _ _ 337 rfl 9 338 (Maps.string_keyed Tryz.underlying9) Tryz.underlying337 _ w.heap.size k _ rfl hown hkm _ _ _ rfl rfl hkey _ [] rfl ?_; intro w1 hown1 hgrow1)
   go_roundw
   case rel =>
    have ht : p0.take (k + 1) = p0.take k ++ [x] := by
     rw [List.take_add_one, ← HX.out, Re, Rf (show k < p0.length by omega)]
     rfl
    refine ⟨k + 1, ?_, by omega, ?_, hB.grown hgrow1 hB.size (fun j e => by cases e; exact RR _)⟩
    ·have := hp.out
     show _ = _
     congr 1
     unfold wrap64
     omega
    ·have hg : kr (p0.take (k + 1)) = (kr (p0.take k)).put (.string x.data.toList) (.agg []) := by
      rw [ht]
      unfold kr
      rw [Sk]
      rfl
     rw [hg]
     exact hown1
   case measure =>
    have hw : wrap64 ((k : Int) + 1) = ((k + 1 : Nat) : Int) := by
     have := hp.out
     unfold wrap64
     omega
    rw [hw]
    simp only [intOf, Rj]
    omega
  ·have : k = p0.length := by omega
   subst this
   rw [Sa] at hown
   go_wp2
   go_ret
   exact ⟨_, rfl, RR _, hown, hB⟩
def gx (l : List ByteArray) : List ByteArray := ((strKeys (kr l)).mergeSort leB).map fun x => ⟨x.toArray⟩
theorem Mh {w : World} {B B' e sz n : Nat} {v : Value} {xs : List Value} (h : w.ownsRow B e sz v n xs) (hB : B' ≤ B) : w.ownsRow B' e sz v n xs := by
 refine ⟨h.1, ?_⟩
 rcases h.2 with h0 | ⟨g, cap, cur, hv, hb, rest⟩
 ·exact .inl h0
 ·exact .inr ⟨g, cap, cur, hv, RX hB hb, rest⟩
theorem Mi (p0 : List ByteArray) (hp : Hid (p0.length ≤ 1000)) (w : World) (q : Option Addr) (c : Nat) (hs : Hid (∀ s ∈ p0, s.size ≤ maxLen)) (hq : Hid (Cd w.heap.size w q p0)) :
  CallsIn Fence.wide 6 Tryz.prog 229 #[.slice q p0.length c] w fun e w' => ∃ v, e = .returned v ∧ Below w.heap.size w w' ∧ w'.ownsRow w.heap.size 9 1 v (gx p0).length ((gx p0).map Value.string) := by
 refine callsIn_of_wp Tryz.func229 rfl tv ?_ rfl
 simp only [Tryz.ntmps229, Rt, Rk, Rm, Nat.reduceAdd, Nat.reduceSub, Array.replicate_succ, Array.replicate_zero, List.push_toArray, List.append_toArray, R8, List.cons_append]
 have hf1 : Fence.wide.fn 263 := tv
 have hf2 : Fence.wide.fn 262 := tv
 have hf3 : Fence.wide.fn 261 := tv
 gi_wp2_with (first
  | (gi_at_call 263; refine (callsIn_wide.2 (Nq p0 hp _ q c hs hq.out)).mono ?_; rintro e w1 ⟨b, rfl, hb, hown, hB⟩)
  | (gi_at_call 262; refine (Jh _ _).mono ?_; rintro e w' ⟨rfl, rfl⟩)
  | (gi_at_call 261; refine (H7 b p0.length (kr p0) gR _ hown (by have := hown.size_le; have := hp.out; unfold maxLen; omega) (by have := hown.size_le; have := hp.out; omega)).mono ?_; rintro e w2 ⟨v, ss, rfl, hS, hrow, hnil, hB2⟩))
 go_ret
 have e1 : (gx p0).length = ss.length := by unfold gx; rw [RF, List.length_mergeSort, hS.length_eq]
 have e2 : (gx p0).map Value.string = (ss.mergeSort fun x y => decide (x ≤ y)).map encStr := by
  unfold gx
  rw [List.map_map, ← mergeSort_of_perm hS]
  rfl
 have hz := hB.size
 refine ⟨v, rfl, (hB.alloc hz _).trans (hB2.mono (by simp; omega)), ?_⟩
 rw [e1, e2]
 exact Mh hrow (by simp; omega)
noncomputable def td (p0 : List ByteArray) : Option (List ByteArray) := if p0.length ≤ 1000 ∧ ∀ s ∈ p0, s.size ≤ 1000 then some (gx p0) else none
theorem Ki (p0 : List ByteArray) (r : List ByteArray) (h : td p0 = some r) : CT 229 [vl 1 Rs p0] [] (.c (.ref 0 1 0 r.length)) [(0, .row 9 false 1 r.length (Rs r))] := by
 unfold td at h
 obtain ⟨⟨h1, h2⟩, h⟩ := aY h
 obtain rfl := ay h
 refine Ex (xs := (gx p0).map Value.string) ⟨_, Tryz.func229, by kernel_rfl, rfl⟩ (by simp) (by decide) AR fun w ok vs' hok ha => ?_
 obtain ⟨l⟩ := vs'
 rcases l with _ | ⟨v0, _ | ⟨v1, l⟩⟩
 ·exact ha.elim
 ·obtain ⟨a0, _⟩ := ha
  obtain ⟨q, c, rfl, hc, hd⟩ := Ho hok a0
  exact callsIn_wide.1 (Mi p0 h1 w q c (fun s hs => by have := h2 s hs; unfold maxLen; omega) hd)
 ·exact ha.2.elim
end
noncomputable def ot (y2 : List ByteArray) (x7 : Int) (z14 : Int) (x18 : List ByteArray) (x19 : Int) : Option ((List ByteArray × Int) ⊕ List ByteArray) := if decide (x19 < z14) then (if 0 ≤ x19 then (if 0 ≤ (SB (x19 + 2)) then (if x19.toNat ≤ ((SB (x19 + 2)).toNat) then (if ((SB (x19 + 2)).toNat) ≤ ((((mk #[95]) ++ (y2.getD (0 + x7.toNat) mt)) ++ (mk #[95])).size) then (if x18.length + ([((((mk #[95]) ++ (y2.getD (0 + x7.toNat) mt)) ++ (mk #[95])).extract x19.toNat ((SB (x19 + 2)).toNat))] : am).length ≤ 1099511627776 then (some (.inl ((x18 ++ ([((((mk #[95]) ++ (y2.getD (0 + x7.toNat) mt)) ++ (mk #[95])).extract x19.toNat ((SB (x19 + 2)).toNat))] : am)), SB (x19 + 1)))) else none) else none) else none) else none) else none) else some (.inr x18)
noncomputable def ou (y2 : List ByteArray) (x6 : List ByteArray) (x7 : Int) : Option ((List ByteArray × Int) ⊕ List ByteArray) := if decide (x7 < (y2.length : Int)) then (if 0 ≤ x7 then (if x7 < (y2.length : Int) then (if (mk #[95]).size + (y2.getD (0 + x7.toNat) mt).size ≤ ce then (if ((mk #[95]) ++ (y2.getD (0 + x7.toNat) mt)).size + (mk #[95]).size ≤ ce then ((some (SB ((((((mk #[95]) ++ (y2.getD (0 + x7.toNat) mt)) ++ (mk #[95])).size : Nat) : Int) - 1))).bind fun z14 => ((loop (fun v : List ByteArray × Int => ot y2 x7 z14 v.1 v.2) (x6, 0)).bind fun x27 => (some (.inl (x27, SB (x7 + 1)))))) else none) else none) else none) else none) else some (.inr x6)
noncomputable def oV (p0 : ByteArray) : Option (List ByteArray) := if decide ((p0.size : Int) > 64) then some ([] : am) else (jS p0).bind fun y2 => ((loop (fun v : List ByteArray × Int => ou y2 v.1 v.2) (([] : am), 0)).bind fun x29 => ((td x29).bind fun y30 => (some y30)))
theorem Du (p0 : ByteArray) (r : List ByteArray) (h : oV p0 = some r) : CT 191 [vs p0] [] (.c (.ref 0 1 0 r.length)) [(0, .row 9 false 1 r.length (Rs r))] := by
 refine aw ae 0 Tryz.func191 rfl (fun _ _ _ => ?_)
 unfold oV at h
 refine ah ae [] 1 (seq ?_)
 refine ah ae [(9, vb (decide ((p0.size : Int) > 64)))] 4 ?_
 refine Q2 h ?_ ?_ <;> intro c1 h
 ·refine ah ae [(2, .c (ar))] 5 (ret (QW ?_))
  obtain rfl := ay h
  exact b6 (.inr rfl) [(0, 5)] 1 (.c (.ref 5 1 0 (([] : am).length))) (cG (t := 2) (ty := 9) (sz := 1) (n := ([] : am).length) (f := Rs ([] : am)) (by kernel_rfl) rfl)
 ·refine skip (QX ?_)
  refine ah ae [(3, .c (ar))] 5 (seq ?_)
  obtain ⟨y2, e3, h⟩ := ap h
  refine QZ ae [(13, af 0), (12, af (y2.length : Int)), (11, rX 6 1 y2.length)] [6] [(6, .row 9 false 1 y2.length (Rs y2))] 9 [hn, hm [] [] 1 (u3 p0 y2 e3) ⟨bS Vs _ _ _, tv⟩] (block ?_)
  obtain ⟨x29, l32, h⟩ := ap h
  refine Q3 l32 (fun v => ⟨[(3, rX 0 1 v.1.length), (11, rX 1 1 y2.length), (12, af (y2.length : Int)), (13, af v.2)], [(0, .row 9 false 1 v.1.length (Rs v.1)), (1, .row 9 false 1 y2.length (Rs y2))], 2⟩) (fun t : List ByteArray => (.exit 0, ⟨[(3, rX 0 1 t.length)], [(0, .row 9 false 1 t.length (Rs t))], 1⟩)) (Conv.trans (cG (t := 3) (ty := 9) (sz := 1) (n := ([] : am).length) (f := Rs ([] : am)) (by kernel_rfl) rfl) (ai [(0, 9), (1, 6)])) (fun _ => tv) ?_ ?_
  ·clear l32 h
   intro v o h
   obtain ⟨x6, x7⟩ := v
   replace h : ou y2 x6 x7 = some o := h
   unfold ou at h
   refine ah ae [(14, vb (decide (x7 < (y2.length : Int))))] 3 (seq ?_)
   refine Q2 h ?_ ?_ <;> intro c9 h
   ·refine skip (QX ?_)
    refine seq (block ?_)
    obtain ⟨g10, g11, h⟩ := aJ h
    refine aA ae [(5, vs (y2.getD (0 + x7.toNat) mt))] 6 [hq g10 g11, ho (p := (0 + x7.toNat) < y2.length) (by have h1 : 0 ≤ x7 := g10; have h2 : x7 < (y2.length : Int) := g11; omega)] ?_
    obtain ⟨g12, g13, h⟩ := aJ h
    refine aA ae [(5, vs (((mk #[95]) ++ (y2.getD (0 + x7.toNat) mt)) ++ (mk #[95])))] 10 [hn, ho g12, ho g13] ?_
    obtain ⟨z14, n15, h⟩ := ap h
    replace n15 := ay n15
    refine ah ae [(23, af 0), (22, af z14)] 14 ?_ (by subst n15; kernel_rfl)
    refine block ?_
    obtain ⟨x27, l28, h⟩ := ap h
    refine Q3 l28 (fun v => ⟨[(3, rX 0 1 v.1.length), (5, vs (((mk #[95]) ++ (y2.getD (0 + x7.toNat) mt)) ++ (mk #[95]))), (11, rX 1 1 y2.length), (12, af (y2.length : Int)), (13, af x7), (22, af z14), (23, af v.2)], [(0, .row 9 false 1 v.1.length (Rs v.1)), (1, .row 9 false 1 y2.length (Rs y2))], 2⟩) (fun t : List ByteArray => (.exit 2, ⟨[(3, rX 0 1 t.length), (11, rX 1 1 y2.length), (12, af (y2.length : Int)), (13, af x7)], [(0, .row 9 false 1 t.length (Rs t)), (1, .row 9 false 1 y2.length (Rs y2))], 2⟩)) (ai [(0, 0), (1, 1)]) (fun _ => tv) ?_ ?_
    ·clear l28 h
     intro v o h
     obtain ⟨x18, x19⟩ := v
     replace h : ot y2 x7 z14 x18 x19 = some o := h
     unfold ot at h
     refine ah ae [(24, vb (decide (x19 < z14)))] 3 (seq ?_)
     refine Q2 h ?_ ?_ <;> intro c21 h
     ·refine skip (QX ?_)
      refine seq (block ?_)
      refine ah ae [(6, af x19)] 5 ?_
      obtain ⟨g22, g23, h⟩ := aJ h
      obtain ⟨g24, g25, h⟩ := aJ h
      obtain ⟨g26, h⟩ := aY h
      refine QY ae [(3, .c (.ref 12 1 0 ((x18 ++ ([((((mk #[95]) ++ (y2.getD (0 + x7.toNat) mt)) ++ (mk #[95])).extract x19.toNat ((SB (x19 + 2)).toNat))] : am)).length)))] [0, 11, 12] [(12, .row 9 false 1 (x18 ++ ([((((mk #[95]) ++ (y2.getD (0 + x7.toNat) mt)) ++ (mk #[95])).extract x19.toNat ((SB (x19 + 2)).toNat))] : am)).length (Rs (x18 ++ ([((((mk #[95]) ++ (y2.getD (0 + x7.toNat) mt)) ++ (mk #[95])).extract x19.toNat ((SB (x19 + 2)).toNat))] : am))))] 14 (Sw [ho (p := (0 ≤ x19) ∧ (0 ≤ (SB (x19 + 2))) ∧ (x19.toNat ≤ ((SB (x19 + 2)).toNat)) ∧ (((SB (x19 + 2)).toNat) ≤ ((((mk #[95]) ++ (y2.getD (0 + x7.toNat) mt)) ++ (mk #[95])).size))) (⟨g22, g23, g24, g25⟩), bB mt Es 1 (fun _ => rfl) ([((((mk #[95]) ++ (y2.getD (0 + x7.toNat) mt)) ++ (mk #[95])).extract x19.toNat ((SB (x19 + 2)).toNat))] : am), cP mt Es 1 16 x18 ([((((mk #[95]) ++ (y2.getD (0 + x7.toNat) mt)) ++ (mk #[95])).extract x19.toNat ((SB (x19 + 2)).toNat))] : am) g26 (by decide)]) ?_
      refine QU (QX ?_)
      refine ba ae [(23, af (SB (x19 + 1)))] 16 ?_
      exact bh h (ai [(0, 12), (1, 1)])
     ·refine exit (QR ?_)
      exact aX h rfl (ai [(0, 0), (1, 1)])
    ·show (_ : XQ) (.exit 2) _
     refine QO (QU (QX ?_))
     refine ba ae [(13, af (SB (x7 + 1)))] 4 ?_
     exact bh h (ai [(0, 0), (1, 1)])
   ·refine exit (QR ?_)
    exact aX h rfl (ai [(0, 0)])
  ·show (_ : XQ) (.exit 0) _
   refine QO (QX ?_)
   obtain ⟨y30, e31, h⟩ := ap h
   refine QZ ae [(2, rX 2 1 y30.length)] [2] [(2, .row 9 false 1 y30.length (Rs y30))] 4 [hn, hg [] [] true 1 (q := (0 + x29.length ≤ x29.length) ∧ (True)) ⟨Ax, tv⟩ (a0 := [vl 1 Rs x29]) (Ki x29 y30 e31) ⟨aN.refl _, tv⟩ (fun _ => ⟨bS Vs _ _ _, tv⟩)] (ret ?_)
   obtain rfl := ay h
   exact be (.inr rfl) [(0, 2)] 1 (.c (.ref 2 1 0 y30.length))
noncomputable def nj (p0 : ByteArray) (x4 : List ByteArray) (x5 : Int) : Option ((List ByteArray × Int) ⊕ List ByteArray) := if decide (x5 < (p0.size : Int)) then (if 0 ≤ x5 then (if x5 < (p0.size : Int) then (if x4.length + ([(Vm.strOf ([u8.wrap (SB (97 + x5)), ((p0.data.toList.getD x5.toNat 0).toNat : Int)] : List Int))] : am).length ≤ 1099511627776 then (some (.inl ((x4 ++ ([(Vm.strOf ([u8.wrap (SB (97 + x5)), ((p0.data.toList.getD x5.toNat 0).toNat : Int)] : List Int))] : am)), SB (x5 + 1)))) else none) else none) else none) else some (.inr x4)
noncomputable def rm (p0 : ByteArray) : Option (List ByteArray) := if decide ((p0.size : Int) > 26) then some ([] : am) else (loop (fun v : List ByteArray × Int => nj p0 v.1 v.2) (([] : am), 0)).bind fun x11 => (some x11)
theorem IK (p0 : ByteArray) (r : List ByteArray) (h : rm p0 = some r) : CT 195 [vs p0] [] (.c (.ref 0 1 0 r.length)) [(0, .row 9 false 1 r.length (Rs r))] := by
 refine aw ae 0 Tryz.func195 rfl (fun _ _ _ => ?_)
 unfold rm at h
 refine ah ae [] 1 (seq ?_)
 refine ah ae [(7, vb (decide ((p0.size : Int) > 26)))] 4 ?_
 refine Q2 h ?_ ?_ <;> intro c1 h
 ·refine ah ae [(2, .c (ar))] 5 (ret (QW ?_))
  obtain rfl := ay h
  exact b6 (.inr rfl) [(0, 5)] 1 (.c (.ref 5 1 0 (([] : am).length))) (cG (t := 2) (ty := 9) (sz := 1) (n := ([] : am).length) (f := Rs ([] : am)) (by kernel_rfl) rfl)
 ·refine skip (QX ?_)
  refine ah ae [(3, .c (ar))] 5 (seq ?_)
  refine ah ae [(10, af 0), (9, af (p0.size : Int))] 8 (block ?_)
  obtain ⟨x11, l12, h⟩ := ap h
  refine Q3 l12 (fun v => ⟨[(0, vs p0), (3, rX 0 1 v.1.length), (9, af (p0.size : Int)), (10, af v.2)], [(0, .row 9 false 1 v.1.length (Rs v.1))], 1⟩) (fun t : List ByteArray => (.exit 0, ⟨[(3, rX 0 1 t.length)], [(0, .row 9 false 1 t.length (Rs t))], 1⟩)) (Conv.trans (cG (t := 3) (ty := 9) (sz := 1) (n := ([] : am).length) (f := Rs ([] : am)) (by kernel_rfl) rfl) (ai [(0, 8)])) (fun _ => tv) ?_ ?_
  ·clear l12 h
   intro v o h
   obtain ⟨x4, x5⟩ := v
   replace h : nj p0 x4 x5 = some o := h
   unfold nj at h
   refine ah ae [(11, vb (decide (x5 < (p0.size : Int))))] 2 (seq ?_)
   refine Q2 h ?_ ?_ <;> intro c7 h
   ·refine skip (QX ?_)
    refine seq (block ?_)
    refine ah ae [(4, af x5)] 4 ?_
    obtain ⟨g8, g9, h⟩ := aJ h
    obtain ⟨g10, h⟩ := aY h
    refine QY ae [(3, .c (.ref 14 1 0 ((x4 ++ ([(Vm.strOf ([u8.wrap (SB (97 + x5)), ((p0.data.toList.getD x5.toNat 0).toNat : Int)] : List Int))] : am)).length)))] [0, 11, 13, 14] [(14, .row 9 false 1 (x4 ++ ([(Vm.strOf ([u8.wrap (SB (97 + x5)), ((p0.data.toList.getD x5.toNat 0).toNat : Int)] : List Int))] : am)).length (Rs (x4 ++ ([(Vm.strOf ([u8.wrap (SB (97 + x5)), ((p0.data.toList.getD x5.toNat 0).toNat : Int)] : List Int))] : am))))] 16 (Sy [hq g8 g9, bB 0 fB 1 (fun _ => rfl) ([u8.wrap (SB (97 + x5)), ((p0.data.toList.getD x5.toNat 0).toNat : Int)] : List Int), hi (fun i => ([u8.wrap (SB (97 + x5)), ((p0.data.toList.getD x5.toNat 0).toNat : Int)] : List Int).getD i 0) (p := (0 + ([u8.wrap (SB (97 + x5)), ((p0.data.toList.getD x5.toNat 0).toNat : Int)] : List Int).length ≤ ([u8.wrap (SB (97 + x5)), ((p0.data.toList.getD x5.toNat 0).toNat : Int)] : List Int).length) ∧ ∀ i, i < ([u8.wrap (SB (97 + x5)), ((p0.data.toList.getD x5.toNat 0).toNat : Int)] : List Int).length → (fun i j => bQ ([u8.wrap (SB (97 + x5)), ((p0.data.toList.getD x5.toNat 0).toNat : Int)] : List Int) (0 + i) j) i 0 = .v (.int .u8 (([u8.wrap (SB (97 + x5)), ((p0.data.toList.getD x5.toNat 0).toNat : Int)] : List Int).getD i 0))) (⟨Ax, fun i _ => by simp only [R9] <;> rfl⟩), bB mt Es 1 (fun _ => rfl) ([(Vm.strOf ([u8.wrap (SB (97 + x5)), ((p0.data.toList.getD x5.toNat 0).toNat : Int)] : List Int))] : am), cP mt Es 1 16 x4 ([(Vm.strOf ([u8.wrap (SB (97 + x5)), ((p0.data.toList.getD x5.toNat 0).toNat : Int)] : List Int))] : am) g10 (by decide)]) ?_
    refine QU (QX ?_)
    refine ba ae [(10, af (SB (x5 + 1)))] 18 ?_
    exact bh h (ai [(0, 14)])
   ·refine exit (QR ?_)
    exact aX h rfl (ai [(0, 0)])
  ·show (_ : XQ) (.exit 0) _
   refine QO (QX ?_)
   refine ah ae [(2, rX 0 1 x11.length)] 3 (ret ?_)
   obtain rfl := ay h
   exact be (.inr rfl) [(0, 0)] 1 (.c (.ref 0 1 0 x11.length))
noncomputable def u6 (p0 : ByteArray) : Option (List ByteArray) := if (mk #[61]).size + p0.size ≤ ce then some ([((mk #[61]) ++ p0)] : am) else none
theorem IL (p0 : ByteArray) (r : List ByteArray) (h : u6 p0 = some r) : CT 200 [vs p0] [] (.c (.ref 0 1 0 r.length)) [(0, .row 9 false 1 r.length (Rs r))] := by
 refine aw ae 0 Tryz.func200 rfl (fun _ _ _ => ?_)
 unfold u6 at h
 refine ah ae [] 1 ?_
 obtain ⟨g1, h⟩ := aY h
 refine QZ ae [(2, .c (.ref 3 1 0 (([((mk #[61]) ++ p0)] : am).length)))] [3] [(3, .row 9 false 1 ([((mk #[61]) ++ p0)] : am).length (Rs ([((mk #[61]) ++ p0)] : am)))] 5 [hn, ho g1, bB mt Es 1 (fun _ => rfl) ([((mk #[61]) ++ p0)] : am)] (ret ?_)
 obtain rfl := ay h
 exact be (.inr rfl) [(0, 3)] 1 (.c (.ref 3 1 0 (([((mk #[61]) ++ p0)] : am).length)))
end
end Go.Proofs.YtfmhbcfklokmaaaGreatDoor
