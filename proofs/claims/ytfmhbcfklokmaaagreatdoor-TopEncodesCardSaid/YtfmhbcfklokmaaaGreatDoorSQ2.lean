/- Lemmas for the statement TopEncodes: Go functions told as pure functions, and laws about these; texts joined and shortened by a program of mine; no condition. -/
import Derived.Test.YtfmhbcfklokmaaaGreatDoorSQ1
import Derived.Test.YtfmhbcfklokmaaaGreatDoorRows
set_option linter.unusedVariables false
set_option linter.unusedSimpArgs false
set_option linter.defProp false
namespace Go.Proofs.YtfmhbcfklokmaaaGreatDoor
open Vm
open AW (block cond exit ret seq skip)
open _root_.ByteArray (mk)
open IntKind (i64 u64 u32 u8)
set_option maxRecDepth 100000
set_option maxHeartbeats 10000000
def Cy : List (Nat × TI) := [(2, ⟨.int .i64, 1, 8, [.int .i64 0], false⟩), (3, ⟨.int .i64, 1, 8, [.int .i64 0], false⟩), (4, ⟨.bool, 1, 1, [.bool false], false⟩), (5, ⟨.int .u8, 1, 1, [.int .u8 0], false⟩), (9, ⟨.str, 1, 16, [.string ⟨#[]⟩], false⟩), (22, ⟨.slice 3, 1, 24, [.slice none 0 0], false⟩), (25, ⟨.ptr 89, 1, 8, [.pointer none], false⟩), (27, ⟨.slice 82, 1, 24, [.slice none 0 0], false⟩), (28, ⟨.slice 9, 1, 24, [.slice none 0 0], false⟩), (29, ⟨.slice 149, 1, 24, [.slice none 0 0], false⟩), (31, ⟨.struct [(28, 0), (29, 1), (29, 2)], 3, 72, [.slice none 0 0, .slice none 0 0, .slice none 0 0], false⟩), (33, ⟨.struct [(27, 0), (31, 1)], 4, 96, [.slice none 0 0, .slice none 0 0, .slice none 0 0, .slice none 0 0], false⟩), (35, ⟨.slice 84, 1, 24, [.slice none 0 0], false⟩), (37, ⟨.int .u64, 1, 8, [.int .u64 0], false⟩), (39, ⟨.struct [(37, 0), (37, 1)], 2, 16, [.int .u64 0, .int .u64 0], true⟩), (44, ⟨.slice 53, 1, 24, [.slice none 0 0], false⟩), (48, ⟨.int .i64, 1, 8, [.int .i64 0], false⟩), (51, ⟨.slice 55, 1, 24, [.slice none 0 0], false⟩), (53, ⟨.struct [(3, 0), (3, 1), (28, 2)], 3, 40, [.int .i64 0, .int .i64 0, .slice none 0 0], false⟩), (55, ⟨.struct [(3, 0), (3, 1)], 2, 16, [.int .i64 0, .int .i64 0], true⟩), (63, ⟨.slice 117, 1, 24, [.slice none 0 0], false⟩), (65, ⟨.slice 121, 1, 24, [.slice none 0 0], false⟩), (68, ⟨.slice 126, 1, 24, [.slice none 0 0], false⟩), (70, ⟨.struct [(3, 0), (3, 1), (68, 2)], 3, 40, [.int .i64 0, .int .i64 0, .slice none 0 0], false⟩), (82, ⟨.struct [(9, 0), (3, 1)], 2, 24, [.string ⟨#[]⟩, .int .i64 0], true⟩), (84, ⟨.struct [(3, 0), (3, 1), (3, 2)], 3, 24, [.int .i64 0, .int .i64 0, .int .i64 0], true⟩), (89, ⟨.struct [(22, 0), (3, 1), (37, 2)], 3, 40, [.slice none 0 0, .int .i64 0, .int .u64 0], false⟩), (97, ⟨.struct [(3, 0), (3, 1), (3, 2)], 3, 24, [.int .i64 0, .int .i64 0, .int .i64 0], true⟩), (115, ⟨.slice 119, 1, 24, [.slice none 0 0], false⟩), (117, ⟨.struct [(115, 0)], 1, 24, [.slice none 0 0], false⟩), (119, ⟨.struct [(3, 0), (3, 1)], 2, 16, [.int .i64 0, .int .i64 0], true⟩), (121, ⟨.slice 176, 1, 24, [.slice none 0 0], false⟩), (124, ⟨.slice 37, 1, 24, [.slice none 0 0], false⟩), (126, ⟨.struct [(3, 0), (124, 1)], 2, 32, [.int .i64 0, .slice none 0 0], false⟩), (129, ⟨.arr 6 3, 6, 48, [.int .i64 0, .int .i64 0, .int .i64 0, .int .i64 0, .int .i64 0, .int .i64 0], true⟩), (149, ⟨.struct [(9, 0), (9, 1)], 2, 32, [.string ⟨#[]⟩, .string ⟨#[]⟩], true⟩), (150, ⟨.int .u64, 1, 8, [.int .u64 0], false⟩), (151, ⟨.slice 5, 1, 24, [.slice none 0 0], false⟩), (176, ⟨.struct [(37, 0), (22, 1)], 2, 32, [.int .u64 0, .slice none 0 0], false⟩), (190, ⟨.other, 1, 8, [.nilFunc], false⟩), (191, ⟨.other, 1, 8, [.nilFunc], false⟩), (192, ⟨.other, 1, 8, [.nilFunc], false⟩), (194, ⟨.struct [(9, 0), (190, 1), (191, 2), (192, 3)], 4, 40, [.string ⟨#[]⟩, .nilFunc, .nilFunc, .nilFunc], false⟩), (205, ⟨.struct [(3, 0), (4, 1), (9, 2)], 3, 32, [.int .i64 0, .bool false, .string ⟨#[]⟩], true⟩), (233, ⟨.slice 48, 1, 24, [.slice none 0 0], false⟩), (244, ⟨.arr 5 194, 20, 200, [.string ⟨#[]⟩, .nilFunc, .nilFunc, .nilFunc, .string ⟨#[]⟩, .nilFunc, .nilFunc, .nilFunc, .string ⟨#[]⟩, .nilFunc, .nilFunc, .nilFunc, .string ⟨#[]⟩, .nilFunc, .nilFunc, .nilFunc, .string ⟨#[]⟩, .nilFunc, .nilFunc, .nilFunc], false⟩), (266, ⟨.struct [(37, 0), (37, 1), (37, 2), (37, 3)], 4, 32, [.int .u64 0, .int .u64 0, .int .u64 0, .int .u64 0], true⟩), (295, ⟨.arr 24 5, 24, 24, [.int .u8 0, .int .u8 0, .int .u8 0, .int .u8 0, .int .u8 0, .int .u8 0, .int .u8 0, .int .u8 0, .int .u8 0, .int .u8 0, .int .u8 0, .int .u8 0, .int .u8 0, .int .u8 0, .int .u8 0, .int .u8 0, .int .u8 0, .int .u8 0, .int .u8 0, .int .u8 0, .int .u8 0, .int .u8 0, .int .u8 0, .int .u8 0], true⟩), (321, ⟨.arr 64 9, 64, 1024, .replicate 64 (.string ⟨#[]⟩), true⟩), (325, ⟨.struct [(323, 0), (151, 1)], 2, 32, [.pointer none, .slice none 0 0], false⟩), (363, ⟨.arr 12 3, 12, 96, [.int .i64 0, .int .i64 0, .int .i64 0, .int .i64 0, .int .i64 0, .int .i64 0, .int .i64 0, .int .i64 0, .int .i64 0, .int .i64 0, .int .i64 0, .int .i64 0], true⟩)]
theorem ae : bb Tryz.prog (Vm.look Cy) := BV
theorem dy : Tryz.prog.follows .mixedOrders = true := by kernel_rfl
def Es (x : ByteArray) : List T := [.v (.string x)]
abbrev mt := ByteArray.empty
def Rs (xs : List ByteArray) : Nat → Nat → T := be mt Es xs
theorem Vs : ∀ x, d8 (Es x) := fun _ => ⟨tv, tv⟩
structure ar where
 Name : ByteArray
 Kind : Int
def bq : ar := ⟨mt, 0⟩
instance : Inhabited ar := ⟨bq⟩
def jp (x : ar) : List T := [.v (.string x.Name), .v (.int .i64 x.Kind)]
def cw (xs : List ar) : Nat → Nat → T := be bq jp xs
structure aC where
 Length : Int
 Hashes : Int
 Salt : Int
def cH : aC := ⟨0, 0, 0⟩
instance : Inhabited aC := ⟨cH⟩
def iO (x : aC) : List T := [.v (.int .i64 x.Length), .v (.int .i64 x.Hashes), .v (.int .i64 x.Salt)]
def cC (xs : List aC) : Nat → Nat → T := be cH iO xs
structure aA where
 From : ByteArray
 To : ByteArray
def bK : aA := ⟨mt, mt⟩
instance : Inhabited aA := ⟨bK⟩
structure aY where
 Titles : List ByteArray
 Nicknames : List aA
 Streets : List aA
def uL : aY := ⟨([] : aj), ([] : List aA), ([] : List aA)⟩
instance : Inhabited aY := ⟨uL⟩
structure aK where
 Fields : List ar
 Rules : aY
def zu : aK := ⟨([] : List ar), uL⟩
instance : Inhabited aK := ⟨zu⟩
def md (x : aA) : List T := [.v (.string x.From), .v (.string x.To)]
def bv (xs : List aA) : Nat → Nat → T := be bK md xs
noncomputable def pj (p0 : ar) (pc0 : ar) : Option (Bool × ar) := some ((p0.Name.toList == pc0.Name.toList), pc0)
abbrev CT (f : FuncId) (a : List AV) (b : List (Nat × az)) (o : AV) (d : List (Nat × az)) : Prop := cz Tryz.prog f a b o d
theorem xW (p0 : ar) (pc0 : ar) (r : Bool × ar) (h : pj p0 pc0 = some r) : CT 70 [.agg [cs p0.Name, ag p0.Kind], .c (.ptr 0 2 0 0)] [(0, .box 82 [cs pc0.Name, ag pc0.Kind])] (vb r.1) [(0, .box 82 [cs r.2.Name, ag r.2.Kind])] := by
 refine an ae 1 Tryz.func70 rfl (fun _ _ _ => ?_)
 unfold pj at h
 refine Fs ae [(2, pX 1 2)] [1] [(1, .box 82 [cs p0.Name, ag p0.Kind])] 3 [] ?_
 refine ah ae [(3, vb (p0.Name.toList == pc0.Name.toList))] 9 (ret ?_)
 obtain rfl := am h
 exact aW (.inr rfl) [(0, 0)] 1 (vb (p0.Name.toList == pc0.Name.toList))
noncomputable def nE (p0 : List ar) (x4 : Int) (x5 : ByteArray) (x6 : Int) : Option ((Int × ByteArray × Int) ⊕ ((ByteArray × Int) ⊕ (Int × ByteArray × Int))) := if (decide (x4 < (p0.length : Int))) then (if 0 ≤ x4 then (if x4 < (p0.length : Int) then (aM (pj (p0.getD x4.toNat bq) (⟨x5, x6⟩ : ar)) fun y15 y16 => (if y15 then (some (.inr (.inr (x4, y16.Name, y16.Kind)))) else (some (.inl (i64.wrap (x4 + 1), y16.Name, y16.Kind))))) else none) else none) else (some (.inr (.inl (x5, x6))))
noncomputable def nF (x19 : ByteArray) (x20 : Int) : Option (Int × ar) := some ((-1), (⟨x19, x20⟩ : ar))
noncomputable def nG (x21 : Int) (x22 : ByteArray) (x23 : Int) : Option (Int × ar) := some (x21, (⟨x22, x23⟩ : ar))
noncomputable def nI (p0 : List ar) (p1d0 : ar) : Option (Int × ar) := ca (loop (fun v : Int × ByteArray × Int => nE p0 v.1 v.2.1 v.2.2) (0, p1d0.Name, p1d0.Kind)) (fun t => nF t.1 t.2) (fun t => nG t.1 t.2.1 t.2.2)
theorem xo (p0 : List ar) (p1d0 : ar) (r : Int × ar) (h : nI p0 p1d0 = some r) : CT 113 [vl 2 cw p0, .clo 70 [] [.c (.ptr 0 2 0 0)]] [(0, .box 82 [cs p1d0.Name, ag p1d0.Kind])] (af r.1) [(0, .box 82 [cs r.2.Name, ag r.2.Kind])] := by
 refine an ae 1 Tryz.func113 rfl (fun _ _ _ => ?_)
 unfold nI at h
 refine ah ae [] 2 (seq ?_)
 refine ah ae [(8, af 0), (7, af (p0.length : Int))] 5 (block ?_)
 refine FA h (fun v => ⟨[(0, vl 2 cw p0), (1, .clo 70 [] [.c (.ptr 0 2 0 0)]), (7, af (p0.length : Int)), (8, af v.1)], [(0, .box 82 [cs v.2.1, ag v.2.2])], 1⟩) (fun t => (.exit 0, ⟨[], [(0, .box 82 [cs t.1, ag t.2])], 1⟩)) (fun t => (.ret, ⟨[(4, af t.1)], [(0, .box 82 [cs t.2.1, ag t.2.2])], 1⟩)) (ai [(0, 0)]) (fun _ => tv) (fun _ => tv) ?_ (fun t h => ?_) (fun t h => ?_)
 ·clear h
  intro v o h
  obtain ⟨x4, x5, x6⟩ := v
  replace h : nE p0 x4 x5 x6 = some o := h
  unfold nE at h
  refine ah ae [(9, vb (decide (x4 < (p0.length : Int))))] 2 (seq ?_)
  refine Fw h (fun c12 h => ?_) (fun c12 h => ?_)
  ·refine skip (Fp ?_)
   refine seq (block ?_)
   refine ah ae [(5, af x4)] 4 ?_
   obtain ⟨g13, g14, h⟩ := aG h
   obtain ⟨y15, y16, e17, h⟩ := aO h
   refine Fs ae [(16, vb y15)] [0] [(0, .box 82 [cs y16.Name, ag y16.Kind])] 9 [hn, hn, hn, hq g13 g14, hn, hm [0] [] 0 (xW (p0.getD x4.toNat bq) (⟨x5, x6⟩ : ar) (y15, y16) e17) ⟨rfl, tv⟩] ?_
   refine Fw h (fun c18 h => ?_) (fun c18 h => ?_)
   ·refine ah ae [(4, af x4)] 11 (ret (Fi (Fo ?_)))
    exact aU h rfl (ai [(0, 0)])
   ·refine skip (Fj (Fp ?_))
    refine aS ae [(8, af (i64.wrap (x4 + 1)))] 11 ?_
    exact bu h (ai [(0, 0)])
  ·refine exit (Fb ?_)
   exact aU h rfl (ai [(0, 0)])
 ·obtain ⟨x19, x20⟩ := t
  replace h : nF x19 x20 = some r := h
  unfold nF at h
  show (_ : Exit → St → Prop) (.exit 0) _
  refine E6 (Fp ?_)
  refine ah ae [(4, af (-1))] 2 (ret ?_)
  obtain rfl := am h
  exact aW (.inr rfl) [(0, 0)] 1 (af (-1))
 ·obtain ⟨x21, x22, x23⟩ := t
  replace h : nG x21 x22 x23 = some r := h
  unfold nG at h
  show (_ : Exit → St → Prop) (.ret) _
  refine Fi (Fo ?_)
  obtain rfl := am h
  exact aW (.inr rfl) [(0, 0)] 1 (af x21)
noncomputable def nH (p0 : List ar) (p1d0 : ar) : Option (Bool × ar) := aM (nI p0 p1d0) fun y1 y2 => (some (decide (y1 ≥ 0), y2))
theorem xn (p0 : List ar) (p1d0 : ar) (r : Bool × ar) (h : nH p0 p1d0 = some r) : CT 69 [vl 2 cw p0, .clo 70 [] [.c (.ptr 0 2 0 0)]] [(0, .box 82 [cs p1d0.Name, ag p1d0.Kind])] (vb r.1) [(0, .box 82 [cs r.2.Name, ag r.2.Kind])] := by
 refine an ae 1 Tryz.func69 rfl (fun _ _ _ => ?_)
 unfold nH at h
 refine ah ae [] 2 ?_
 obtain ⟨y1, y2, e3, h⟩ := aO h
 refine Fs ae [(4, vb (decide (y1 ≥ 0)))] [0] [(0, .box 82 [cs y2.Name, ag y2.Kind])] 6 [hn, hn, hm [0] [] 0 (xo p0 p1d0 (y1, y2) e3) ⟨rfl, tv⟩] (ret ?_)
 obtain rfl := am h
 exact aW (.inr rfl) [(0, 0)] 1 (vb (decide (y1 ≥ 0)))
noncomputable def lu (x1 : Bool) : Option Bool := some x1
noncomputable def qF (p0 : Int) : Option Bool := if (decide (p0 ≥ 97)) then (lu (decide (p0 ≤ 122))) else (lu false)
theorem yO (p0 : Int) (r : Bool) (h : qF p0 = some r) : CT 155 [cK p0] [] (vb r) [] := by
 refine an ae 0 Tryz.func155 rfl (fun _ _ _ => ?_)
 unfold qF at h
 refine ah ae [] 1 (seq ?_)
 refine AW.join (ι := Bool) (fun v => ⟨[(2, vb v)], [], 0⟩) (fun v : Bool => lu v = some r) (fun x1 h => ?_) ?_
 ·unfold lu at h
  refine Fp (ret ?_)
  apply al h (vb x1)
 ·rcases aD h with ⟨c2, h⟩ | ⟨c2, h⟩
  ·refine au ae [(2, vb (decide (p0 ≤ 122)))] 8 [hn, ht c2] ?_
   exact jl (decide (p0 ≤ 122)) h
  ·refine au ae [(2, vb false)] 8 [hn, hf c2] ?_
   exact jl false h
def cU (x : Int) : List T := [.v (.int .u8 x)]
def bf (xs : List Int) : Nat → Nat → T := be 0 cU xs
theorem sX : ∀ x, d8 (cU x) := fun _ => ⟨tv, tv⟩
noncomputable def k8 (x4 : Int) (x7 : List Int) : Option (((List Int) × Int) ⊕ (List Int)) := some (.inl (x7, i64.wrap (x4 + 1)))
noncomputable def pk (p0 : ByteArray) (x3 : List Int) (x4 : Int) : Option (((List Int) × Int) ⊕ (List Int)) := if (decide (x4 < (p0.size : Int))) then (if 0 ≤ x4 then (if x4 < (p0.size : Int) then ((qF ((p0.data.toList.getD x4.toNat 0).toNat : Int)).bind fun y10 => (if y10 then (if x3.length + ([((p0.data.toList.getD x4.toNat 0).toNat : Int)] : List Int).length ≤ 1099511627776 then (k8 x4 (x3 ++ ([((p0.data.toList.getD x4.toNat 0).toNat : Int)] : List Int))) else none) else (k8 x4 x3))) else none) else none) else (some (.inr x3))
noncomputable def gz (p0 : ByteArray) : Option ByteArray := (loop (fun v : (List Int) × Int => pk p0 v.1 v.2) (([] : List Int), 0)).bind fun x14 => (some (Vm.strOf x14))
theorem kW (p0 : ByteArray) (r : ByteArray) (h : gz p0 = some r) : CT 114 [vs p0] [] (vs r) [] := by
 refine an ae 0 Tryz.func114 rfl (fun _ _ _ => ?_)
 unfold gz at h
 refine ah ae [] 1 ?_
 refine ah ae [(3, .c (ax))] 2 (seq ?_)
 refine ah ae [(7, af 0), (6, af (p0.size : Int))] 5 (block ?_)
 obtain ⟨x14, l15, h⟩ := ak h
 refine Fy l15 (fun v => ⟨[(0, vs p0), (3, rX 0 1 v.1.length), (6, af (p0.size : Int)), (7, af v.2)], [(0, .row 5 false 1 v.1.length (bf v.1))], 1⟩) (fun t : List Int => (.exit 0, ⟨[(3, rX 0 1 t.length)], [(0, .row 5 false 1 t.length (bf t))], 1⟩)) (Conv.trans (cg (t := 3) (ty := 5) (sz := 1) (n := ([] : List Int).length) (f := bf ([] : List Int)) (by kernel_rfl) rfl) (ai [(0, 5)])) (fun _ => tv) ?_ ?_
 ·clear l15 h
  intro v o h
  obtain ⟨x3, x4⟩ := v
  replace h : pk p0 x3 x4 = some o := h
  unfold pk at h
  refine ah ae [(8, vb (decide (x4 < (p0.size : Int))))] 2 (seq ?_)
  refine Fw h (fun c6 h => ?_) (fun c6 h => ?_)
  ·refine skip (Fp (seq ?_))
   refine AW.join (ι := List Int) (fun v => ⟨[(0, vs p0), (3, rX 0 1 v.length), (6, af (p0.size : Int)), (7, af x4)], [(0, .row 5 false 1 v.length (bf v))], 1⟩) (fun v : List Int => k8 x4 v = some o) (fun x7 h => ?_) ?_
   ·unfold k8 at h
    refine Fp ?_
    refine aS ae [(7, af (i64.wrap (x4 + 1)))] 3 ?_
    exact bu h (ai [(0, 0)])
   ·refine block ?_
    refine ah ae [(4, af x4)] 4 ?_
    obtain ⟨g8, g9, h⟩ := aG h
    obtain ⟨y10, e11, h⟩ := ak h
    refine ay ae [(13, vb y10)] 7 [hn, hn, hq g8 g9, hk (yO ((p0.data.toList.getD x4.toNat 0).toNat : Int) y10 e11)] ?_
    refine Fw h (fun c12 h => ?_) (fun c12 h => ?_)
    ·obtain ⟨g13, h⟩ := aN h
     refine AW.rg ae [(3, .c (.ref 12 1 0 ((x3 ++ ([((p0.data.toList.getD x4.toNat 0).toNat : Int)] : List Int)).length)))] [0, 11, 12] [(12, .row 5 false 1 (x3 ++ ([((p0.data.toList.getD x4.toNat 0).toNat : Int)] : List Int)).length (bf (x3 ++ ([((p0.data.toList.getD x4.toNat 0).toNat : Int)] : List Int))))] 14 [hn, hn, hn, hq g8 g9, bh 0 cU 1 (fun _ => rfl) ([((p0.data.toList.getD x4.toNat 0).toNat : Int)] : List Int), bY 0 cU 1 1 x3 ([((p0.data.toList.getD x4.toNat 0).toNat : Int)] : List Int) g13 (by decide)] ?_
     refine Fj ?_
     exact jl (x3 ++ ([((p0.data.toList.getD x4.toNat 0).toNat : Int)] : List Int)) h (ai [(0, 12)])
    ·refine skip (Fj ?_)
     exact jl x3 h (ai [(0, 0)])
  ·refine exit (Fb ?_)
   exact aU h rfl (ai [(0, 0)])
 ·show (_ : Exit → St → Prop) (.exit 0) _
  refine E6 (Fp ?_)
  refine ay ae [(2, vs (Vm.strOf x14))] 4 [hn, hi (fun i => x14.getD i 0) (p := (0 + x14.length ≤ x14.length) ∧ ∀ i, i < x14.length → (fun i j => bf x14 (0 + i) j) i 0 = .v (.int .u8 (x14.getD i 0))) (⟨br, fun i _ => by simp only [Gg] <;> rfl⟩)] (ret ?_)
  apply al h (vs (Vm.strOf x14))
noncomputable def jd (x1 : Bool) : Option Bool := some x1
noncomputable def qG (p0 : ByteArray) : Option Bool := if (!(p0.toList == (mk #[]).toList)) then (if (decide ((p0.size : Int) ≤ 12)) then ((gz p0).bind fun y4 => (jd (y4.toList == p0.toList))) else (jd false)) else (jd false)
theorem k9 (p0 : ByteArray) (r : Bool) (h : qG p0 = some r) : CT 71 [vs p0] [] (vb r) [] := by
 refine an ae 0 Tryz.func71 rfl (fun _ _ _ => ?_)
 unfold qG at h
 refine ah ae [] 1 (seq ?_)
 refine AW.join (ι := Bool) (fun v => ⟨[(2, vb v)], [], 0⟩) (fun v : Bool => jd v = some r) (fun x1 h => ?_) ?_
 ·unfold jd at h
  refine Fp (ret ?_)
  apply al h (vb x1)
 ·rcases aD h with ⟨c2, h⟩ | ⟨c2, h⟩
  ·rcases aD h with ⟨c3, h⟩ | ⟨c3, h⟩
   ·obtain ⟨y4, e5, h⟩ := ak h
    refine au ae [(2, vb (y4.toList == p0.toList))] 14 [hn, ht c2, hn, hn, hn, ht c3, hn, hn, hn, hk (kW p0 y4 e5)] ?_
    exact jl (y4.toList == p0.toList) h
   ·refine au ae [(2, vb false)] 15 [hn, ht c2, hn, hn, hn, hf c3] ?_
    exact jl false h
  ·refine au ae [(2, vb false)] 15 [hn, hf c2] ?_
   exact jl false h
noncomputable def jh (x1 : Bool) : Option Bool := some x1
noncomputable def jw (p0 : ByteArray) : Option Bool := if (!(p0.toList == (mk #[]).toList)) then (if (decide ((p0.size : Int) ≤ 64)) then ((gz p0).bind fun y4 => (jh (y4.toList == p0.toList))) else (jh false)) else (jh false)
theorem dR (p0 : ByteArray) (r : Bool) (h : jw p0 = some r) : CT 156 [vs p0] [] (vb r) [] := by
 refine an ae 0 Tryz.func156 rfl (fun _ _ _ => ?_)
 unfold jw at h
 refine ah ae [] 1 (seq ?_)
 refine AW.join (ι := Bool) (fun v => ⟨[(2, vb v)], [], 0⟩) (fun v : Bool => jh v = some r) (fun x1 h => ?_) ?_
 ·unfold jh at h
  refine Fp (ret ?_)
  apply al h (vb x1)
 ·rcases aD h with ⟨c2, h⟩ | ⟨c2, h⟩
  ·rcases aD h with ⟨c3, h⟩ | ⟨c3, h⟩
   ·obtain ⟨y4, e5, h⟩ := ak h
    refine au ae [(2, vb (y4.toList == p0.toList))] 14 [hn, ht c2, hn, hn, hn, ht c3, hn, hn, hn, hk (kW p0 y4 e5)] ?_
    exact jl (y4.toList == p0.toList) h
   ·refine au ae [(2, vb false)] 15 [hn, ht c2, hn, hn, hn, hf c3] ?_
    exact jl false h
  ·refine au ae [(2, vb false)] 15 [hn, hf c2] ?_
   exact jl false h
noncomputable def je (x2 : Int) (x6 : Bool) : Option (Int ⊕ (Unit ⊕ Unit)) := if x6 then (some (.inr (.inr ()))) else (some (.inl (i64.wrap (x2 + 1))))
noncomputable def uh (p0 : List ByteArray) (x2 : Int) : Option (Int ⊕ (Unit ⊕ Unit)) := if (decide (x2 < (p0.length : Int))) then (if 0 ≤ x2 then (if x2 < (p0.length : Int) then ((jw (p0.getD x2.toNat mt)).bind fun y8 => (if (!y8) then (je x2 true) else (if (decide (x2 > 0)) then (if 0 ≤ (i64.wrap (x2 - 1)) then (if (i64.wrap (x2 - 1)) < (p0.length : Int) then (je x2 (!(Op.bytesLess (p0.getD ((i64.wrap (x2 - 1)).toNat) mt).toList (p0.getD x2.toNat mt).toList))) else none) else none) else (je x2 false)))) else none) else none) else (some (.inr (.inl ())))
noncomputable def pN : Option Bool := some true
noncomputable def pO : Option Bool := some false
noncomputable def qH (p0 : List ByteArray) : Option Bool := ca (loop (fun v : Int => uh p0 v) 0) (fun t => pN) (fun t => pO)
theorem pm (p0 : List ByteArray) (r : Bool) (h : qH p0 = some r) : CT 115 [vl 1 Rs p0] [] (vb r) [] := by
 refine an ae 0 Tryz.func115 rfl (fun _ _ _ => ?_)
 unfold qH at h
 refine ah ae [] 1 (seq ?_)
 refine ah ae [(7, af 0), (6, af (p0.length : Int)), (5, vl 1 Rs p0)] 4 (block ?_)
 refine FA h (fun v => ⟨[(0, vl 1 Rs p0), (5, vl 1 Rs p0), (6, af (p0.length : Int)), (7, af v)], [], 0⟩) (fun t => (.exit 0, ⟨[], [], 0⟩)) (fun t => (.ret, ⟨[(2, vb false)], [], 0⟩)) (ai []) (fun _ => tv) (fun _ => tv) ?_ (fun t h => ?_) (fun t h => ?_)
 ·clear h
  intro x2 o h
  unfold uh at h
  refine ah ae [(8, vb (decide (x2 < (p0.length : Int))))] 1 (seq ?_)
  refine Fw h (fun c3 h => ?_) (fun c3 h => ?_)
  ·refine skip (Fp ?_)
   refine seq (block ?_)
   obtain ⟨g4, g5, h⟩ := aG h
   refine ay ae [(4, vs (p0.getD x2.toNat mt)), (3, af x2)] 6 [hn, hq g4 g5] (seq ?_)
   refine AW.join (ι := Bool) (fun v => ⟨[(0, vl 1 Rs p0), (5, vl 1 Rs p0), (6, af (p0.length : Int)), (7, af x2), (27, vb v)], [], 0⟩) (fun v : Bool => je x2 v = some o) (fun x6 h => ?_) ?_
   ·unfold je at h
    refine Fp ?_
    refine Fw h (fun c7 h => ?_) (fun c7 h => ?_)
    ·refine ah ae [(2, vb false)] 1 (ret (Fi (Fo ?_)))
     exact aU h rfl (ai [])
    ·refine skip (Fj (Fp ?_))
     refine aS ae [(7, af (i64.wrap (x2 + 1)))] 2 ?_
     exact bu h (ai [])
   ·obtain ⟨y8, e9, h⟩ := ak h
    rcases aD h with ⟨c10, h⟩ | ⟨c10, h⟩
    ·refine au ae [(27, vb true)] 21 [hn, hk (dR (p0.getD x2.toNat mt) y8 e9), ht c10] ?_
     exact jl true h
    ·rcases aD h with ⟨c11, h⟩ | ⟨c11, h⟩
     ·obtain ⟨g12, g13, h⟩ := aG h
      refine au ae [(27, vb (!(Op.bytesLess (p0.getD ((i64.wrap (x2 - 1)).toNat) mt).toList (p0.getD x2.toNat mt).toList)))] 21 [hn, hk (dR (p0.getD x2.toNat mt) y8 e9), hf c10, hn, hn, ht c11, hn, hn, hn, hn, hq g12 g13] ?_
      exact jl (!(Op.bytesLess (p0.getD ((i64.wrap (x2 - 1)).toNat) mt).toList (p0.getD x2.toNat mt).toList)) h (ai [])
     ·refine au ae [(27, vb false)] 21 [hn, hk (dR (p0.getD x2.toNat mt) y8 e9), hf c10, hn, hn, hf c11] ?_
      exact jl false h
  ·refine exit (Fb ?_)
   exact aU h rfl (ai [])
 ·replace h : pN = some r := h
  unfold pN at h
  show (_ : Exit → St → Prop) (.exit 0) _
  refine E6 (Fp ?_)
  refine ah ae [(2, vb true)] 1 (ret ?_)
  apply al h (vb true)
 ·replace h : pO = some r := h
  unfold pO at h
  show (_ : Exit → St → Prop) (.ret) _
  refine Fi (Fo ?_)
  apply al h (vb false)
noncomputable def qv (p0 : aA) (pc0 : ByteArray) : Option (Bool × ByteArray) := some ((p0.From.toList == pc0.toList), pc0)
theorem yE (p0 : aA) (pc0 : ByteArray) (r : Bool × ByteArray) (h : qv p0 pc0 = some r) : CT 203 [.agg [cs p0.From, cs p0.To], .c (.ptr 0 1 0 0)] [(0, .box 9 [cs pc0])] (vb r.1) [(0, .box 9 [cs r.2])] := by
 refine an ae 1 Tryz.func203 rfl (fun _ _ _ => ?_)
 unfold qv at h
 refine Fs ae [(2, pX 1 2)] [1] [(1, .box 149 [cs p0.From, cs p0.To])] 3 [] ?_
 refine ah ae [(3, vb (p0.From.toList == pc0.toList))] 8 (ret ?_)
 obtain rfl := am h
 exact aW (.inr rfl) [(0, 0)] 1 (vb (p0.From.toList == pc0.toList))
noncomputable def nN (p0 : List aA) (x3 : Int) (x4 : ByteArray) : Option ((Int × ByteArray) ⊕ (ByteArray ⊕ (Int × ByteArray))) := if (decide (x3 < (p0.length : Int))) then (if 0 ≤ x3 then (if x3 < (p0.length : Int) then (aM (qv (p0.getD x3.toNat bK) x4) fun y11 y12 => (if y11 then (some (.inr (.inr (x3, y12)))) else (some (.inl (i64.wrap (x3 + 1), y12))))) else none) else none) else (some (.inr (.inl x4)))
noncomputable def s7 (x15 : ByteArray) : Option (Int × ByteArray) := some ((-1), x15)
noncomputable def nO (x16 : Int) (x17 : ByteArray) : Option (Int × ByteArray) := some (x16, x17)
noncomputable def nT (p0 : List aA) (p1d0 : ByteArray) : Option (Int × ByteArray) := ca (loop (fun v : Int × ByteArray => nN p0 v.1 v.2) (0, p1d0)) (fun t => s7 t) (fun t => nO t.1 t.2)
theorem xr (p0 : List aA) (p1d0 : ByteArray) (r : Int × ByteArray) (h : nT p0 p1d0 = some r) : CT 158 [vl 2 bv p0, .clo 203 [] [.c (.ptr 0 1 0 0)]] [(0, .box 9 [cs p1d0])] (af r.1) [(0, .box 9 [cs r.2])] := by
 refine an ae 1 Tryz.func158 rfl (fun _ _ _ => ?_)
 unfold nT at h
 refine ah ae [] 2 (seq ?_)
 refine ah ae [(8, af 0), (7, af (p0.length : Int))] 5 (block ?_)
 refine FA h (fun v => ⟨[(0, vl 2 bv p0), (1, .clo 203 [] [.c (.ptr 0 1 0 0)]), (7, af (p0.length : Int)), (8, af v.1)], [(0, .box 9 [cs v.2])], 1⟩) (fun t => (.exit 0, ⟨[], [(0, .box 9 [cs t])], 1⟩)) (fun t => (.ret, ⟨[(4, af t.1)], [(0, .box 9 [cs t.2])], 1⟩)) (ai [(0, 0)]) (fun _ => tv) (fun _ => tv) ?_ (fun x15 h => ?_) (fun t h => ?_)
 ·clear h
  intro v o h
  obtain ⟨x3, x4⟩ := v
  replace h : nN p0 x3 x4 = some o := h
  unfold nN at h
  refine ah ae [(9, vb (decide (x3 < (p0.length : Int))))] 2 (seq ?_)
  refine Fw h (fun c8 h => ?_) (fun c8 h => ?_)
  ·refine skip (Fp ?_)
   refine seq (block ?_)
   refine ah ae [(5, af x3)] 4 ?_
   obtain ⟨g9, g10, h⟩ := aG h
   obtain ⟨y11, y12, e13, h⟩ := aO h
   refine Fs ae [(16, vb y11)] [0] [(0, .box 9 [cs y12])] 9 [hn, hn, hn, hq g9 g10, hn, hm [0] [] 0 (yE (p0.getD x3.toNat bK) x4 (y11, y12) e13) ⟨rfl, tv⟩] ?_
   refine Fw h (fun c14 h => ?_) (fun c14 h => ?_)
   ·refine ah ae [(4, af x3)] 11 (ret (Fi (Fo ?_)))
    exact aU h rfl (ai [(0, 0)])
   ·refine skip (Fj (Fp ?_))
    refine aS ae [(8, af (i64.wrap (x3 + 1)))] 11 ?_
    exact bu h (ai [(0, 0)])
  ·refine exit (Fb ?_)
   exact aU h rfl (ai [(0, 0)])
 ·unfold s7 at h
  show (_ : Exit → St → Prop) (.exit 0) _
  refine E6 (Fp ?_)
  refine ah ae [(4, af (-1))] 2 (ret ?_)
  obtain rfl := am h
  exact aW (.inr rfl) [(0, 0)] 1 (af (-1))
 ·obtain ⟨x16, x17⟩ := t
  replace h : nO x16 x17 = some r := h
  unfold nO at h
  show (_ : Exit → St → Prop) (.ret) _
  refine Fi (Fo ?_)
  obtain rfl := am h
  exact aW (.inr rfl) [(0, 0)] 1 (af x16)
noncomputable def jB (p0 : List aA) (p1 : ByteArray) : Option Int := aM (nT p0 p1) fun y1 y2 => (some y1)
theorem qb (p0 : List aA) (p1 : ByteArray) (r : Int) (h : jB p0 p1 = some r) : CT 157 [vl 2 bv p0, vs p1] [] (af r) [] := by
 refine an ae 0 Tryz.func157 rfl (fun _ _ _ => ?_)
 unfold jB at h
 refine Fs ae [(3, pX 0 1)] [0] [(0, .box 9 [cs p1])] 2 [] ?_
 obtain ⟨y1, y2, e3, h⟩ := aO h
 refine Fs ae [(4, af y1)] [0] [] 5 [hn, hn, hm [0] [] 0 (xr p0 p1 (y1, y2) e3) ⟨rfl, tv⟩] (ret ?_)
 apply al h (af y1)
noncomputable def fH (x2 : Int) (x6 : Bool) : Option (Int ⊕ (Unit ⊕ Unit)) := if x6 then (some (.inr (.inr ()))) else (some (.inl (i64.wrap (x2 + 1))))
noncomputable def uw (p0 : List aA) (x2 : Int) : Option (Int ⊕ (Unit ⊕ Unit)) := if (decide (x2 < (p0.length : Int))) then (if 0 ≤ x2 then (if x2 < (p0.length : Int) then ((jw ((p0.getD x2.toNat bK).From)).bind fun y8 => (if (!y8) then (fH x2 true) else ((jw ((p0.getD x2.toNat bK).To)).bind fun y11 => (if (!y11) then (fH x2 true) else (if (decide (x2 > 0)) then (if 0 ≤ (i64.wrap (x2 - 1)) then (if (i64.wrap (x2 - 1)) < (p0.length : Int) then (if (!(Op.bytesLess ((p0.getD ((i64.wrap (x2 - 1)).toNat) bK).From).toList ((p0.getD x2.toNat bK).From).toList)) = true then (fH x2 true) else ((jB p0 ((p0.getD x2.toNat bK).To)).bind fun y18 => (fH x2 (decide (y18 ≥ 0))))) else none) else none) else ((jB p0 ((p0.getD x2.toNat bK).To)).bind fun y20 => (fH x2 (decide (y20 ≥ 0))))))))) else none) else none) else (some (.inr (.inl ())))
noncomputable def qc : Option Bool := some true
noncomputable def qd : Option Bool := some false
noncomputable def mo (p0 : List aA) : Option Bool := ca (loop (fun v : Int => uw p0 v) 0) (fun t => qc) (fun t => qd)
theorem pP (p0 : List aA) (r : Bool) (h : mo p0 = some r) : CT 116 [vl 2 bv p0] [] (vb r) [] := by
 refine an ae 0 Tryz.func116 rfl (fun _ _ _ => ?_)
 unfold mo at h
 refine ah ae [] 1 (seq ?_)
 refine ah ae [(7, af 0), (6, af (p0.length : Int)), (5, vl 2 bv p0)] 4 (block ?_)
 refine FA h (fun v => ⟨[(0, vl 2 bv p0), (5, vl 2 bv p0), (6, af (p0.length : Int)), (7, af v)], [], 0⟩) (fun t => (.exit 0, ⟨[], [], 0⟩)) (fun t => (.ret, ⟨[(2, vb false)], [], 0⟩)) (ai []) (fun _ => tv) (fun _ => tv) ?_ (fun t h => ?_) (fun t h => ?_)
 ·clear h
  intro x2 o h
  unfold uw at h
  refine ah ae [(8, vb (decide (x2 < (p0.length : Int))))] 1 (seq ?_)
  refine Fw h (fun c3 h => ?_) (fun c3 h => ?_)
  ·refine skip (Fp ?_)
   refine seq (block ?_)
   obtain ⟨g4, g5, h⟩ := aG h
   refine Fs ae [(3, af x2), (4, pX 4 2)] [4] [(4, .box 149 [cs ((p0.getD x2.toNat bK).From), cs ((p0.getD x2.toNat bK).To)])] 7 [hn, hq g4 g5] (seq ?_)
   refine AW.join (ι := Bool) (fun v => ⟨[(0, vl 2 bv p0), (5, vl 2 bv p0), (6, af (p0.length : Int)), (7, af x2), (43, vb v)], [], 0⟩) (fun v : Bool => fH x2 v = some o) (fun x6 h => ?_) ?_
   ·unfold fH at h
    refine Fp ?_
    refine Fw h (fun c7 h => ?_) (fun c7 h => ?_)
    ·refine ah ae [(2, vb false)] 1 (ret (Fi (Fo ?_)))
     exact aU h rfl (ai [])
    ·refine skip (Fj (Fp ?_))
     refine aS ae [(7, af (i64.wrap (x2 + 1)))] 2 ?_
     exact bu h (ai [])
   ·obtain ⟨y8, e9, h⟩ := ak h
    rcases aD h with ⟨c10, h⟩ | ⟨c10, h⟩
    ·refine Fu ae dy [] [(43, vb true)] [] 38 [hn, hn, hk (dR ((p0.getD x2.toNat bK).From) y8 e9), ht c10] ?_
     exact jl true h
    ·obtain ⟨y11, e12, h⟩ := ak h
     rcases aD h with ⟨c13, h⟩ | ⟨c13, h⟩
     ·refine Fu ae dy [] [(43, vb true)] [] 37 [hn, hn, hk (dR ((p0.getD x2.toNat bK).From) y8 e9), hf c10, hn, hn, hn, hk (dR ((p0.getD x2.toNat bK).To) y11 e12), ht c13] ?_
      exact jl true h
     ·rcases aD h with ⟨c14, h⟩ | ⟨c14, h⟩
      ·obtain ⟨g15, g16, h⟩ := aG h
       rcases aD h with ⟨c17, h⟩ | ⟨c17, h⟩
       ·refine Fu ae dy [] [(43, vb true)] [] 37 [hn, hn, hk (dR ((p0.getD x2.toNat bK).From) y8 e9), hf c10, hn, hn, hn, hk (dR ((p0.getD x2.toNat bK).To) y11 e12), hf c13, hn, hn, hn, ht c14, hn, hn, hn, hn, hq g15 g16, hn, hn, hn, hn, ht c17] ?_
        exact jl true h
       ·obtain ⟨y18, e19, h⟩ := ak h
        refine Fu ae dy [] [(43, vb (decide (y18 ≥ 0)))] [] 36 [hn, hn, hk (dR ((p0.getD x2.toNat bK).From) y8 e9), hf c10, hn, hn, hn, hk (dR ((p0.getD x2.toNat bK).To) y11 e12), hf c13, hn, hn, hn, ht c14, hn, hn, hn, hn, hq g15 g16, hn, hn, hn, hn, hf c17, hn, hn, hn, hn, hn, hn, hk (qb p0 ((p0.getD x2.toNat bK).To) y18 e19)] ?_
        exact jl (decide (y18 ≥ 0)) h
      ·obtain ⟨y20, e21, h⟩ := ak h
       refine Fu ae dy [] [(43, vb (decide (y20 ≥ 0)))] [] 36 [hn, hn, hk (dR ((p0.getD x2.toNat bK).From) y8 e9), hf c10, hn, hn, hn, hk (dR ((p0.getD x2.toNat bK).To) y11 e12), hf c13, hn, hn, hn, hf c14, hn, hn, hn, hn, hn, hn, hn, hn, hn, hn, hn, hn, hn, hn, hn, hn, hk (qb p0 ((p0.getD x2.toNat bK).To) y20 e21)] ?_
       exact jl (decide (y20 ≥ 0)) h
  ·refine exit (Fb ?_)
   exact aU h rfl (ai [])
 ·replace h : qc = some r := h
  unfold qc at h
  show (_ : Exit → St → Prop) (.exit 0) _
  refine E6 (Fp ?_)
  refine ah ae [(2, vb true)] 1 (ret ?_)
  apply al h (vb true)
 ·replace h : qd = some r := h
  unfold qd at h
  show (_ : Exit → St → Prop) (.ret) _
  refine Fi (Fo ?_)
  apply al h (vb false)
noncomputable def te (p0 : List ByteArray) (p1 : ByteArray) (x2 : Int) : Option (Int ⊕ (Unit ⊕ Int)) := if (decide (x2 < (p0.length : Int))) then (if 0 ≤ x2 then (if x2 < (p0.length : Int) then (if (p1.toList == (p0.getD x2.toNat mt).toList) then (some (.inr (.inr x2))) else (some (.inl (i64.wrap (x2 + 1))))) else none) else none) else (some (.inr (.inl ())))
noncomputable def oe : Option Int := some (-1)
noncomputable def tf (x8 : Int) : Option Int := some x8
noncomputable def oF (p0 : List ByteArray) (p1 : ByteArray) : Option Int := ca (loop (fun v : Int => te p0 p1 v) 0) (fun t => oe) (fun t => tf t)
theorem xD (p0 : List ByteArray) (p1 : ByteArray) (r : Int) (h : oF p0 p1 = some r) : CT 141 [vl 1 Rs p0, vs p1] [] (af r) [] := by
 refine an ae 0 Tryz.func141 rfl (fun _ _ _ => ?_)
 unfold oF at h
 refine ah ae [] 1 (seq ?_)
 refine ah ae [(8, af 0), (7, af (p0.length : Int))] 4 (block ?_)
 refine FA h (fun v => ⟨[(0, vl 1 Rs p0), (1, vs p1), (7, af (p0.length : Int)), (8, af v)], [], 0⟩) (fun t => (.exit 0, ⟨[], [], 0⟩)) (fun t => (.ret, ⟨[(4, af t)], [], 0⟩)) (ai []) (fun _ => tv) (fun _ => tv) ?_ (fun t h => ?_) (fun x8 h => ?_)
 ·clear h
  intro x2 o h
  unfold te at h
  refine ah ae [(9, vb (decide (x2 < (p0.length : Int))))] 1 (seq ?_)
  refine Fw h (fun c4 h => ?_) (fun c4 h => ?_)
  ·refine skip (Fp ?_)
   refine seq (block ?_)
   refine ah ae [(5, af x2)] 3 ?_
   obtain ⟨g5, g6, h⟩ := aG h
   refine ay ae [(16, vb (p1.toList == (p0.getD x2.toNat mt).toList))] 9 [hn, hn, hn, hq g5 g6] ?_
   refine Fw h (fun c7 h => ?_) (fun c7 h => ?_)
   ·refine ah ae [(4, af x2)] 11 (ret (Fi (Fo ?_)))
    exact aU h rfl (ai [])
   ·refine skip (Fj (Fp ?_))
    refine aS ae [(8, af (i64.wrap (x2 + 1)))] 11 ?_
    exact bu h (ai [])
  ·refine exit (Fb ?_)
   exact aU h rfl (ai [])
 ·replace h : oe = some r := h
  unfold oe at h
  show (_ : Exit → St → Prop) (.exit 0) _
  refine E6 (Fp ?_)
  refine ah ae [(4, af (-1))] 1 (ret ?_)
  apply al h (af (-1))
 ·unfold tf at h
  show (_ : Exit → St → Prop) (.ret) _
  refine Fi (Fo ?_)
  apply al h (af x8)
noncomputable def kg (p0 : List ByteArray) (p1 : ByteArray) : Option Bool := (oF p0 p1).bind fun y1 => (some (decide (y1 ≥ 0)))
theorem s9 (p0 : List ByteArray) (p1 : ByteArray) (r : Bool) (h : kg p0 p1 = some r) : CT 103 [vl 1 Rs p0, vs p1] [] (vb r) [] := by
 refine an ae 0 Tryz.func103 rfl (fun _ _ _ => ?_)
 unfold kg at h
 refine ah ae [] 1 ?_
 obtain ⟨y1, e2, h⟩ := ak h
 refine ay ae [(4, vb (decide (y1 ≥ 0)))] 5 [hn, hn, hk (xD p0 p1 y1 e2)] (ret ?_)
 apply al h (vb (decide (y1 ≥ 0)))
noncomputable def lW (p0 : aY) (p1 : ByteArray) : Option Bool := (kg p0.Titles p1).bind fun y1 => (some y1)
abbrev bS (x : aY) : List C := [cl 1 Rs x.Titles, cl 2 bv x.Nicknames, cl 2 bv x.Streets]
theorem tV (p0 : aY) (p1 : ByteArray) (r : Bool) (h : lW p0 p1 = some r) : CT 119 [.agg (bS p0), vs p1] [] (vb r) [] := by
 refine an ae 0 Tryz.func119 rfl (fun _ _ _ => ?_)
 unfold lW at h
 refine Fs ae [(2, pX 0 3)] [0] [(0, .box 31 (bS p0))] 2 [] ?_
 obtain ⟨y1, e2, h⟩ := ak h
 refine ay ae [(4, vb y1)] 6 [hn, hn, hn, hk (s9 p0.Titles p1 y1 e2)] (ret ?_)
 apply al h (vb y1)
noncomputable def qe (p0 : aA) (pc0 : aY) : Option (Bool × aY) := (lW pc0 p0.To).bind fun y1 => (some (y1, pc0))
theorem yq (p0 : aA) (pc0 : aY) (r : Bool × aY) (h : qe p0 pc0 = some r) : CT 118 [.agg [cs p0.From, cs p0.To], .c (.ptr 0 3 0 0)] [(0, .box 31 (bS pc0))] (vb r.1) [(0, .box 31 (bS r.2))] := by
 refine an ae 1 Tryz.func118 rfl (fun _ _ _ => ?_)
 unfold qe at h
 refine Fs ae [(2, pX 1 2)] [1] [(1, .box 149 [cs p0.From, cs p0.To])] 3 [] ?_
 obtain ⟨y1, e2, h⟩ := ak h
 refine ay ae [(3, vb y1)] 7 [hn, hn, hn, hk (tV pc0 p0.To y1 e2)] (ret ?_)
 obtain rfl := am h
 exact aW (.inr rfl) [(0, 0)] 1 (vb y1)
noncomputable def nJ (p0 : List aA) (x5 : Int) (x6 : List ByteArray) (x7 : List aA) (x8 : List aA) : Option ((Int × (List ByteArray) × (List aA) × (List aA)) ⊕ (((List ByteArray) × (List aA) × (List aA)) ⊕ (Int × (List ByteArray) × (List aA) × (List aA)))) := if (decide (x5 < (p0.length : Int))) then (if 0 ≤ x5 then (if x5 < (p0.length : Int) then (aM (qe (p0.getD x5.toNat bK) (⟨x6, x7, x8⟩ : aY)) fun y19 y20 => (if y19 then (some (.inr (.inr (x5, y20.Titles, y20.Nicknames, y20.Streets)))) else (some (.inl (i64.wrap (x5 + 1), y20.Titles, y20.Nicknames, y20.Streets))))) else none) else none) else (some (.inr (.inl (x6, x7, x8))))
noncomputable def nK (x23 : List ByteArray) (x24 : List aA) (x25 : List aA) : Option (Int × aY) := some ((-1), (⟨x23, x24, x25⟩ : aY))
noncomputable def nL (x26 : Int) (x27 : List ByteArray) (x28 : List aA) (x29 : List aA) : Option (Int × aY) := some (x26, (⟨x27, x28, x29⟩ : aY))
noncomputable def nS (p0 : List aA) (p1d0 : aY) : Option (Int × aY) := ca (loop (fun v : Int × (List ByteArray) × (List aA) × (List aA) => nJ p0 v.1 v.2.1 v.2.2.1 v.2.2.2) (0, p1d0.Titles, p1d0.Nicknames, p1d0.Streets)) (fun t => nK t.1 t.2.1 t.2.2) (fun t => nL t.1 t.2.1 t.2.2.1 t.2.2.2)
theorem xq (p0 : List aA) (p1d0 : aY) (r : Int × aY) (h : nS p0 p1d0 = some r) : CT 158 [vl 2 bv p0, .clo 118 [] [.c (.ptr 0 3 0 0)]] [(0, .box 31 (bS p1d0))] (af r.1) [(0, .box 31 (bS r.2))] := by
 refine an ae 1 Tryz.func158 rfl (fun _ _ _ => ?_)
 unfold nS at h
 refine ah ae [] 2 (seq ?_)
 refine ah ae [(8, af 0), (7, af (p0.length : Int))] 5 (block ?_)
 refine FA h (fun v => ⟨[(0, vl 2 bv p0), (1, .clo 118 [] [.c (.ptr 0 3 0 0)]), (7, af (p0.length : Int)), (8, af v.1)], [(0, .box 31 [cl 1 Rs v.2.1, cl 2 bv v.2.2.1, cl 2 bv v.2.2.2])], 1⟩) (fun t => (.exit 0, ⟨[], [(0, .box 31 [cl 1 Rs t.1, cl 2 bv t.2.1, cl 2 bv t.2.2])], 1⟩)) (fun t => (.ret, ⟨[(4, af t.1)], [(0, .box 31 [cl 1 Rs t.2.1, cl 2 bv t.2.2.1, cl 2 bv t.2.2.2])], 1⟩)) (ai [(0, 0)]) (fun _ => tv) (fun _ => tv) ?_ (fun t h => ?_) (fun t h => ?_)
 ·clear h
  intro v o h
  obtain ⟨x5, x6, x7, x8⟩ := v
  replace h : nJ p0 x5 x6 x7 x8 = some o := h
  unfold nJ at h
  refine ah ae [(9, vb (decide (x5 < (p0.length : Int))))] 2 (seq ?_)
  refine Fw h (fun c16 h => ?_) (fun c16 h => ?_)
  ·refine skip (Fp ?_)
   refine seq (block ?_)
   refine ah ae [(5, af x5)] 4 ?_
   obtain ⟨g17, g18, h⟩ := aG h
   obtain ⟨y19, y20, e21, h⟩ := aO h
   refine Fs ae [(16, vb y19)] [0] [(0, .box 31 (bS y20))] 9 [hn, hn, hn, hq g17 g18, hn, hl [0] [] 0 (yq (p0.getD x5.toNat bK) (⟨x6, x7, x8⟩ : aY) (y19, y20) e21)] ?_
   refine Fw h (fun c22 h => ?_) (fun c22 h => ?_)
   ·refine ah ae [(4, af x5)] 11 (ret (Fi (Fo ?_)))
    exact aU h rfl (ai [(0, 0)])
   ·refine skip (Fj (Fp ?_))
    refine aS ae [(8, af (i64.wrap (x5 + 1)))] 11 ?_
    exact bu h (ai [(0, 0)])
  ·refine exit (Fb ?_)
   exact aU h rfl (ai [(0, 0)])
 ·obtain ⟨x23, x24, x25⟩ := t
  replace h : nK x23 x24 x25 = some r := h
  unfold nK at h
  show (_ : Exit → St → Prop) (.exit 0) _
  refine E6 (Fp ?_)
  refine ah ae [(4, af (-1))] 2 (ret ?_)
  obtain rfl := am h
  exact aW (.inr rfl) [(0, 0)] 1 (af (-1))
 ·obtain ⟨x26, x27, x28, x29⟩ := t
  replace h : nL x26 x27 x28 x29 = some r := h
  unfold nL at h
  show (_ : Exit → St → Prop) (.ret) _
  refine Fi (Fo ?_)
  obtain rfl := am h
  exact aW (.inr rfl) [(0, 0)] 1 (af x26)
noncomputable def nM (p0 : List aA) (p1d0 : aY) : Option (Bool × aY) := aM (nS p0 p1d0) fun y1 y2 => (some (decide (y1 ≥ 0), y2))
theorem xp (p0 : List aA) (p1d0 : aY) (r : Bool × aY) (h : nM p0 p1d0 = some r) : CT 117 [vl 2 bv p0, .clo 118 [] [.c (.ptr 0 3 0 0)]] [(0, .box 31 (bS p1d0))] (vb r.1) [(0, .box 31 (bS r.2))] := by
 refine an ae 1 Tryz.func117 rfl (fun _ _ _ => ?_)
 unfold nM at h
 refine ah ae [] 2 ?_
 obtain ⟨y1, y2, e3, h⟩ := aO h
 refine Fs ae [(4, vb (decide (y1 ≥ 0)))] [0] [(0, .box 31 (bS y2))] 6 [hn, hn, hl [0] [] 0 (xq p0 p1d0 (y1, y2) e3)] (ret ?_)
 obtain rfl := am h
 exact aW (.inr rfl) [(0, 0)] 1 (vb (decide (y1 ≥ 0)))
noncomputable def ji (p0 : aY) (x3 : Bool) : Option Int := if x3 then (some 5) else (aM (nM p0.Nicknames p0) fun y5 y6 => (if y5 then (some 5) else (some 0)))
noncomputable def jk (p0 : aY) (x1 : Bool) : Option Int := if x1 then (some 1) else ((qH p0.Titles).bind fun y9 => (if (!y9) then (ji p0 true) else ((mo p0.Nicknames).bind fun y12 => (if (!y12) then (ji p0 true) else ((mo p0.Streets).bind fun y15 => (ji p0 (!y15)))))))
noncomputable def jx (p0 : aY) : Option Int := if (decide ((p0.Titles.length : Int) > 32)) then (jk p0 true) else (if (decide ((p0.Nicknames.length : Int) > 32)) then (jk p0 true) else (jk p0 (decide ((p0.Streets.length : Int) > 32))))
theorem pQ (p0 : aY) (r : Int) (h : jx p0 = some r) : CT 72 [.agg (bS p0)] [] (af r) [] := by
 refine an ae 0 Tryz.func72 rfl (fun _ _ _ => ?_)
 unfold jx at h
 refine Fs ae [(1, pX 0 3)] [0] [(0, .box 31 (bS p0))] 2 [] (seq (block (seq ?_)))
 refine AW.join (ι := Bool) (fun v => ⟨[(1, pX 0 3), (3, vb v)], [(0, .box 31 (bS p0))], 1⟩) (fun v : Bool => jk p0 v = some r) (fun x1 h => ?_) ?_
 ·unfold jk at h
  refine Fp ?_
  refine Fw h (fun c2 h => ?_) (fun c2 h => ?_)
  ·refine ah ae [(2, af 1)] 2 (ret (Fi (Fo ?_)))
   apply al h (af 1)
  ·refine seq ?_
   refine AW.join (ι := Bool) (fun v => ⟨[(1, pX 0 3), (20, vb v)], [(0, .box 31 (bS p0))], 1⟩) (fun v : Bool => ji p0 v = some r) (fun x3 h => ?_) ?_
   ·unfold ji at h
    refine Fp ?_
    refine Fw h (fun c4 h => ?_) (fun c4 h => ?_)
    ·refine ah ae [(2, af 5)] 2 (ret (Fi (Fo ?_)))
     apply al h (af 5)
    ·obtain ⟨y5, y6, e7, h⟩ := aO h
     refine Fs ae [(37, vb y5)] [0] [] 5 [hn, hn, hn, hl [0] [] 0 (xp p0.Nicknames p0 (y5, y6) e7)] ?_
     refine Fw h (fun c8 h => ?_) (fun c8 h => ?_)
     ·refine ah ae [(2, af 5)] 6 (ret (Fi (Fo ?_)))
      apply al h (af 5)
     ·refine skip (Fj (Fp ?_))
      refine ah ae [(2, af 0)] 6 (ret ?_)
      apply al h (af 0)
   ·obtain ⟨y9, e10, h⟩ := ak h
    rcases aD h with ⟨c11, h⟩ | ⟨c11, h⟩
    ·refine au ae [(20, vb true)] 17 [hn, hn, hk (pm p0.Titles y9 e10), ht c11] ?_
     exact jl true h (ai [(0, 0)])
    ·obtain ⟨y12, e13, h⟩ := ak h
     rcases aD h with ⟨c14, h⟩ | ⟨c14, h⟩
     ·refine au ae [(20, vb true)] 16 [hn, hn, hk (pm p0.Titles y9 e10), hf c11, hn, hn, hn, hk (pP p0.Nicknames y12 e13), ht c14] ?_
      exact jl true h (ai [(0, 0)])
     ·obtain ⟨y15, e16, h⟩ := ak h
      refine au ae [(20, vb (!y15))] 15 [hn, hn, hk (pm p0.Titles y9 e10), hf c11, hn, hn, hn, hk (pP p0.Nicknames y12 e13), hf c14, hn, hn, hn, hn, hk (pP p0.Streets y15 e16)] ?_
      exact jl (!y15) h (ai [(0, 0)])
 ·rcases aD h with ⟨c17, h⟩ | ⟨c17, h⟩
  ·refine au ae [(3, vb true)] 19 [hn, hn, hn, ht c17] ?_
   exact jl true h (ai [(0, 0)])
  ·rcases aD h with ⟨c18, h⟩ | ⟨c18, h⟩
   ·refine au ae [(3, vb true)] 19 [hn, hn, hn, hf c17, hn, hn, hn, hn, ht c18] ?_
    exact jl true h (ai [(0, 0)])
   ·refine au ae [(3, vb (decide ((p0.Streets.length : Int) > 32)))] 19 [hn, hn, hn, hf c17, hn, hn, hn, hn, hf c18] ?_
    exact jl (decide ((p0.Streets.length : Int) > 32)) h (ai [(0, 0)])
noncomputable def gv (x4 : Int) (x12 : Bool) : Option (Int ⊕ (Unit ⊕ Unit)) := if x12 then (some (.inr (.inr ()))) else (some (.inl (i64.wrap (x4 + 1))))
noncomputable def ua (p0 : aK) (x4 : Int) : Option (Int ⊕ (Unit ⊕ Unit)) := if (decide (x4 < (p0.Fields.length : Int))) then (if 0 ≤ x4 then (if x4 < (p0.Fields.length : Int) then (if x4.toNat ≤ p0.Fields.length then (aM (nH (p0.Fields.take x4.toNat) (p0.Fields.getD x4.toNat bq)) fun y9 y10 => ((qG y10.Name).bind fun y14 => (if (!y14) then (gv x4 true) else (if y9 then (gv x4 true) else (if (decide (y10.Kind < 1)) then (gv x4 true) else (gv x4 (decide (y10.Kind > 4)))))))) else none) else none) else none) else (some (.inr (.inl ())))
noncomputable def pn (p0 : aK) : Option Int := (jx p0.Rules).bind fun y19 => (some y19)
noncomputable def po : Option Int := some 6
noncomputable def lc (p0 : aK) (x1 : Bool) : Option Int := if x1 then (some 6) else (ca (loop (fun v : Int => ua p0 v) 0) (fun t => pn p0) (fun t => po))
noncomputable def dz (p0 : aK) : Option Int := if (decide ((p0.Fields.length : Int) < 1)) then (lc p0 true) else (lc p0 (decide ((p0.Fields.length : Int) > 5)))
abbrev aJ (x : aK) : List C := [cl 2 cw x.Fields, cl 1 Rs x.Rules.Titles, cl 2 bv x.Rules.Nicknames, cl 2 bv x.Rules.Streets]
theorem Hr (p0 : aK) (r : Int) (h : dz p0 = some r) : CT 28 [.agg (aJ p0)] [] (af r) [] := by
 refine an ae 0 Tryz.func28 rfl (fun _ _ _ => ?_)
 unfold dz at h
 refine Fs ae [(1, pX 0 4)] [0] [(0, .box 33 (aJ p0))] 2 [] (seq (seq ?_))
 refine AW.join (ι := Bool) (fun v => ⟨[(1, pX 0 4), (15, vb v)], [(0, .box 33 (aJ p0))], 1⟩) (fun v : Bool => lc p0 v = some r) (fun x1 h => ?_) ?_
 ·unfold lc at h
  refine Fp ?_
  refine Fw h (fun c2 h => ?_) (fun c2 h => ?_)
  ·refine ah ae [(2, af 6)] 2 (ret (Fo ?_))
   apply al h (af 6)
  ·refine skip (Fp (seq ?_))
   refine ah ae [(19, af 0), (18, af (p0.Fields.length : Int)), (17, vl 2 cw p0.Fields)] 5 (block ?_)
   refine FA h (fun v => ⟨[(1, pX 0 4), (17, vl 2 cw p0.Fields), (18, af (p0.Fields.length : Int)), (19, af v)], [(0, .box 33 (aJ p0))], 1⟩) (fun t => (.exit 0, ⟨[(1, pX 0 4)], [(0, .box 33 (aJ p0))], 1⟩)) (fun t => (.ret, ⟨[(2, af 6)], [], 0⟩)) (ai [(0, 0)]) (fun _ => tv) (fun _ => tv) ?_ (fun t h => ?_) (fun t h => ?_)
   ·clear h
    intro x4 o h
    unfold ua at h
    refine ah ae [(20, vb (decide (x4 < (p0.Fields.length : Int))))] 2 (seq ?_)
    refine Fw h (fun c5 h => ?_) (fun c5 h => ?_)
    ·refine skip (Fp ?_)
     refine seq (block ?_)
     obtain ⟨g6, g7, h⟩ := aG h
     refine Fs ae [(3, af x4), (4, pX 5 2)] [5] [(5, .box 82 [cs ((p0.Fields.getD x4.toNat bq).Name), ag ((p0.Fields.getD x4.toNat bq).Kind)])] 8 [hn, hq g6 g7] ?_
     obtain ⟨g8, h⟩ := aN h
     obtain ⟨y9, y10, e11, h⟩ := aO h
     refine Fs ae [(5, vb y9)] [5] [(5, .box 82 [cs y10.Name, ag y10.Kind])] 14 [hn, hn, hn, ho (p := (True) ∧ (0 ≤ x4) ∧ (0 ≤ x4.toNat) ∧ (x4.toNat ≤ p0.Fields.length)) (⟨tv, g6, (Nat.zero_le _), g8⟩), hn, hg [5] [] true 0 (q := (True) ∧ ((True) ∧ ((True) ∧ (True))) ∧ (True)) ⟨tv, ⟨tv, ⟨tv, tv⟩⟩, tv⟩ (a0 := [.c (.t (.tree x4.toNat 2 (cw p0.Fields))), .clo 70 [] [.c (.ptr 0 2 0 0)]]) (xn (p0.Fields.take x4.toNat) (p0.Fields.getD x4.toNat bq) (y9, y10) e11) ⟨aR.c (bO.tree (v8 (by omega))), aR.refl _, tv⟩ (fun _ => ⟨rfl, tv⟩)] (seq ?_)
     refine AW.join (ι := Bool) (fun v => ⟨[(1, pX 0 4), (17, vl 2 cw p0.Fields), (18, af (p0.Fields.length : Int)), (19, af x4), (46, vb v)], [(0, .box 33 (aJ p0))], 1⟩) (fun v : Bool => gv x4 v = some o) (fun x12 h => ?_) ?_
     ·unfold gv at h
      refine Fp ?_
      refine Fw h (fun c13 h => ?_) (fun c13 h => ?_)
      ·refine ah ae [(2, af 6)] 2 (ret (Fi (Fo ?_)))
       exact aU h rfl (ai [])
      ·refine skip (Fj (Fp ?_))
       refine aS ae [(19, af (i64.wrap (x4 + 1)))] 3 ?_
       exact bu h (ai [(0, 0)])
     ·obtain ⟨y14, e15, h⟩ := ak h
      rcases aD h with ⟨c16, h⟩ | ⟨c16, h⟩
      ·refine au ae [(46, vb true)] 30 [hn, hn, hk (k9 y10.Name y14 e15), ht c16] ?_
       exact jl true h (ai [(0, 0)])
      ·rcases aD h with ⟨c17, hs⟩ | ⟨c17, hs⟩
       ·clear h; subst c17; have h := hs; clear hs
        refine au ae [(46, vb true)] 30 [hn, hn, hk (k9 y10.Name y14 e15), hf c16] ?_
        exact jl true h (ai [(0, 0)])
       ·clear h; subst c17; have h := hs; clear hs
        rcases aD h with ⟨c18, h⟩ | ⟨c18, h⟩
        ·refine au ae [(46, vb true)] 30 [hn, hn, hk (k9 y10.Name y14 e15), hf c16, hn, hn, hn, hn, hn, hn, ht c18] ?_
         exact jl true h (ai [(0, 0)])
        ·refine au ae [(46, vb (decide (y10.Kind > 4)))] 30 [hn, hn, hk (k9 y10.Name y14 e15), hf c16, hn, hn, hn, hn, hn, hn, hf c18] ?_
         exact jl (decide (y10.Kind > 4)) h (ai [(0, 0)])
    ·refine exit (Fb ?_)
     exact aU h rfl (ai [(0, 0)])
   ·replace h : pn p0 = some r := h
    unfold pn at h
    show (_ : Exit → St → Prop) (.exit 0) _
    refine E6 (Fp ?_)
    obtain ⟨y19, e20, h⟩ := ak h
    refine ay ae [(2, af y19)] 4 [hn, hn, hk (pQ p0.Rules y19 e20)] (ret ?_)
    apply al h (af y19)
   ·replace h : po = some r := h
    unfold po at h
    show (_ : Exit → St → Prop) (.ret) _
    refine Fi (Fo ?_)
    apply al h (af 6)
 ·rcases aD h with ⟨c22, h⟩ | ⟨c22, h⟩
  ·refine au ae [(15, vb true)] 12 [hn, hn, hn, ht c22] ?_
   exact jl true h (ai [(0, 0)])
  ·refine au ae [(15, vb (decide ((p0.Fields.length : Int) > 5)))] 12 [hn, hn, hn, hf c22] ?_
   exact jl (decide ((p0.Fields.length : Int) > 5)) h (ai [(0, 0)])
noncomputable def gq (x1 : Bool) : Option Bool := some x1
noncomputable def lf (p0 : Int) (p1 : Int) : Option Bool := if (decide (p0 ≥ 1)) then (if (decide (p0 ≤ 1048576)) then (if (decide (p1 ≥ 1)) then (gq (decide (p1 ≤ 1048576))) else (gq false)) else (gq false)) else (gq false)
theorem oG (p0 : Int) (p1 : Int) (r : Bool) (h : lf p0 p1 = some r) : CT 67 [af p0, af p1] [] (vb r) [] := by
 refine an ae 0 Tryz.func67 rfl (fun _ _ _ => ?_)
 unfold lf at h
 refine ah ae [] 1 (seq ?_)
 refine AW.join (ι := Bool) (fun v => ⟨[(4, vb v)], [], 0⟩) (fun v : Bool => gq v = some r) (fun x1 h => ?_) ?_
 ·unfold gq at h
  refine Fp (ret ?_)
  apply al h (vb x1)
 ·rcases aD h with ⟨c2, h⟩ | ⟨c2, h⟩
  ·rcases aD h with ⟨c3, h⟩ | ⟨c3, h⟩
   ·rcases aD h with ⟨c4, h⟩ | ⟨c4, h⟩
    ·refine au ae [(4, vb (decide (p1 ≤ 1048576)))] 16 [hn, ht c2, hn, hn, ht c3, hn, hn, hn, ht c4] ?_
     exact jl (decide (p1 ≤ 1048576)) h
    ·refine au ae [(4, vb false)] 16 [hn, ht c2, hn, hn, ht c3, hn, hn, hn, hf c4] ?_
     exact jl false h
   ·refine au ae [(4, vb false)] 16 [hn, ht c2, hn, hn, hf c3] ?_
    exact jl false h
  ·refine au ae [(4, vb false)] 16 [hn, hf c2] ?_
   exact jl false h
noncomputable def gA (x1 : Bool) : Option Bool := some x1
noncomputable def mC (p0 : ByteArray) (p1 : Int) : Option Bool := if 0 ≤ p1 then (if p1 < (p0.size : Int) then (if (((p0.data.toList.getD p1.toNat 0).toNat : Int) == 195) then (if (decide ((i64.wrap (p1 + 1)) < (p0.size : Int))) then (if 0 ≤ (i64.wrap (p1 + 1)) then (if (i64.wrap (p1 + 1)) < (p0.size : Int) then (if (decide (((p0.data.toList.getD ((i64.wrap (p1 + 1)).toNat) 0).toNat : Int) ≥ 128)) = true then (gA (decide (((p0.data.toList.getD ((i64.wrap (p1 + 1)).toNat) 0).toNat : Int) ≤ 191))) else (gA false)) else none) else none) else (gA false)) else (gA false)) else none) else none
theorem ux (p0 : ByteArray) (p1 : Int) (r : Bool) (h : mC p0 p1 = some r) : CT 257 [vs p0, af p1] [] (vb r) [] := by
 refine an ae 0 Tryz.func257 rfl (fun _ _ _ => ?_)
 unfold mC at h
 refine ah ae [] 1 (seq ?_)
 refine AW.join (ι := Bool) (fun v => ⟨[(4, vb v)], [], 0⟩) (fun v : Bool => gA v = some r) (fun x1 h => ?_) ?_
 ·unfold gA at h
  refine Fp (ret ?_)
  apply al h (vb x1)
 ·obtain ⟨g2, g3, h⟩ := aG h
  rcases aD h with ⟨c4, h⟩ | ⟨c4, h⟩
  ·rcases aD h with ⟨c5, h⟩ | ⟨c5, h⟩
   ·obtain ⟨g6, g7, h⟩ := aG h
    rcases aD h with ⟨c8, h⟩ | ⟨c8, h⟩
    ·refine au ae [(4, vb (decide (((p0.data.toList.getD ((i64.wrap (p1 + 1)).toNat) 0).toNat : Int) ≤ 191)))] 27 [hn, hn, hq g2 g3, ht c4, hn, hn, hn, hn, hn, ht c5, hn, hn, hn, hn, hn, hq g6 g7, ht c8, hn, hn, hn, hn, hn, hq g6 g7] ?_
     exact jl (decide (((p0.data.toList.getD ((i64.wrap (p1 + 1)).toNat) 0).toNat : Int) ≤ 191)) h (ai [])
    ·refine au ae [(4, vb false)] 27 [hn, hn, hq g2 g3, ht c4, hn, hn, hn, hn, hn, ht c5, hn, hn, hn, hn, hn, hq g6 g7, hf c8] ?_
     exact jl false h
   ·refine au ae [(4, vb false)] 27 [hn, hn, hq g2 g3, ht c4, hn, hn, hn, hn, hn, hf c5] ?_
    exact jl false h
  ·refine au ae [(4, vb false)] 27 [hn, hn, hq g2 g3, hf c4] ?_
   exact jl false h
noncomputable def lG (x4 : Int) : Option (Int ⊕ (Unit ⊕ Unit)) := some (.inl (i64.wrap (x4 + 1)))
noncomputable def lH (x2 : Int) (x8 : Bool) : Option (Int ⊕ (Unit ⊕ Unit)) := if x8 then (some (.inr (.inr ()))) else (lG x2)
noncomputable def uy (p0 : ByteArray) (x2 : Int) : Option (Int ⊕ (Unit ⊕ Unit)) := if (decide (x2 < (p0.size : Int))) then ((mC p0 x2).bind fun y5 => (if y5 then (lG (i64.wrap (x2 + 1))) else (if 0 ≤ x2 then (if x2 < (p0.size : Int) then (if (decide (((p0.data.toList.getD x2.toNat 0).toNat : Int) < 32)) then (lH x2 true) else (lH x2 (decide (((p0.data.toList.getD x2.toNat 0).toNat : Int) > 126)))) else none) else none))) else (some (.inr (.inl ())))
noncomputable def qf (p0 : ByteArray) : Option Bool := some (decide ((p0.size : Int) ≤ 64))
noncomputable def qg : Option Bool := some false
noncomputable def qV (p0 : ByteArray) : Option Bool := ca (loop (fun v : Int => uy p0 v) 0) (fun t => qf p0) (fun t => qg)
theorem za (p0 : ByteArray) (r : Bool) (h : qV p0 = some r) : CT 255 [vs p0] [] (vb r) [] := by
 refine an ae 0 Tryz.func255 rfl (fun _ _ _ => ?_)
 unfold qV at h
 refine ah ae [] 1 (seq ?_)
 refine ah ae [(3, af 0)] 2 (block ?_)
 refine FA h (fun v => ⟨[(0, vs p0), (3, af v)], [], 0⟩) (fun t => (.exit 0, ⟨[(0, vs p0)], [], 0⟩)) (fun t => (.ret, ⟨[(2, vb false)], [], 0⟩)) (ai []) (fun _ => tv) (fun _ => tv) ?_ (fun t h => ?_) (fun t h => ?_)
 ·clear h
  intro x2 o h
  unfold uy at h
  refine seq ?_
  refine ah ae [(7, vb (decide (x2 < (p0.size : Int))))] 4 ?_
  refine Fw h (fun c3 h => ?_) (fun c3 h => ?_)
  ·refine skip (Fp (seq ?_))
   refine AW.join (ι := Int) (fun v => ⟨[(0, vs p0), (3, af v)], [], 0⟩) (fun v : Int => lG v = some o) (fun x4 h => ?_) ?_
   ·unfold lG at h
    refine Fp ?_
    refine aS ae [(3, af (i64.wrap (x4 + 1)))] 3 ?_
    exact bu h (ai [])
   ·refine block (block ?_)
    obtain ⟨y5, e6, h⟩ := ak h
    refine ay ae [(10, vb y5)] 7 [hn, hn, hk (ux p0 x2 y5 e6)] ?_
    refine Fw h (fun c7 h => ?_) (fun c7 h => ?_)
    ·refine aS ae [(3, af (i64.wrap (x2 + 1)))] 10 ?_
     refine Fj (Fj ?_)
     exact jl (i64.wrap (x2 + 1)) h
    ·refine seq ?_
     refine AW.join (ι := Bool) (fun v => ⟨[(0, vs p0), (3, af x2), (16, vb v)], [], 0⟩) (fun v : Bool => lH x2 v = some o) (fun x8 h => ?_) ?_
     ·unfold lH at h
      refine Fp ?_
      refine Fw h (fun c9 h => ?_) (fun c9 h => ?_)
      ·refine ah ae [(2, vb false)] 1 (ret (Fi (Fi ?_)))
       refine jy ?_
       refine Fo ?_
       exact aU h rfl (ai [])
      ·refine skip (Fj (Fj ?_))
       exact jl x2 h
     ·obtain ⟨g10, g11, h⟩ := aG h
      rcases aD h with ⟨c12, h⟩ | ⟨c12, h⟩
      ·refine au ae [(16, vb true)] 18 [hn, hn, hq g10 g11, ht c12] ?_
       exact jl true h
      ·refine au ae [(16, vb (decide (((p0.data.toList.getD x2.toNat 0).toNat : Int) > 126)))] 18 [hn, hn, hq g10 g11, hf c12, hn, hn, hn, hq g10 g11] ?_
       exact jl (decide (((p0.data.toList.getD x2.toNat 0).toNat : Int) > 126)) h (ai [])
  ·refine exit (Fb ?_)
   exact aU h rfl (ai [])
 ·replace h : qf p0 = some r := h
  unfold qf at h
  show (_ : Exit → St → Prop) (.exit 0) _
  refine E6 (Fp ?_)
  refine ah ae [(2, vb (decide ((p0.size : Int) ≤ 64)))] 4 (ret ?_)
  apply al h (vb (decide ((p0.size : Int) ≤ 64)))
 ·replace h : qg = some r := h
  unfold qg at h
  show (_ : Exit → St → Prop) (.ret) _
  refine Fi (Fo ?_)
  apply al h (vb false)
noncomputable def Cz : Operand → ByteArray
 | .const (.string s) => s
 | _ => mt
noncomputable def Co (c : Option Code) : List ByteArray := match c with
 | some (.seq _ (.seq (.region _ ops _) _)) => (match ops.toList with
  | o :: _ => (match o.op with
   | .build _ ps => ps.toList.map fun p => Cz p.2
   | _ => [])
  | [] => [])
 | _ => []
noncomputable def It : List ByteArray := Co Tryz.f256.body
noncomputable def oT : Option (List ByteArray) := some It
theorem vM (l : List ByteArray) {i j : Nat} (hi : i < l.length) (hj : j < 1) : aZ (cq (l.map fun s => .v (.string s)) 1 i j) (Rs l i j) := by
 obtain rfl : j = 0 := by omega
 have e : cq (l.map fun s => .v (.string s)) 1 i 0 = Rs l i 0 := by
  unfold cq Rs be Es
  simp [FI, FJ hi]
 rw [e]
 exact aZ.refl _
theorem xL (r : List ByteArray) (h : oT = some r) : CT 256 [] [] (.agg ((List.range 64).map fun i => cs (r.getD i mt))) [] := by
 have hl : It.length = 64 := by kernel_rfl
 refine an ae 0 Tryz.func256 rfl (fun _ _ _ => ?_)
 unfold oT at h
 refine Fs ae [(0, pX 0 1)] [0] [(0, .row 321 false 1 64 (Rs (List.replicate 64 mt)))] 1 [hr 64 (Rs (List.replicate 64 mt)) (p := 64 = 64 ∧ ∀ i, i < 64 → ∀ j, j < 1 → aZ (cq ((List.replicate 64 mt).map fun s => .v (.string s)) 1 i j) (Rs (List.replicate 64 mt) i j)) ⟨rfl, fun i hi j hj => vM _ (by simpa using hi) hj⟩] ?_
 refine Fs ae [] [0] [(0, .row 321 false 1 64 (Rs It))] 3 [hn, hr 64 (Rs It) (p := 64 = 64 ∧ ∀ i, i < 64 → ∀ j, j < 1 → aZ (cq (It.map fun s => .v (.string s)) 1 i j) (Rs It i j)) ⟨rfl, fun i hi j hj => vM _ (by rw [hl]; exact hi) hj⟩] (ret ?_)
 obtain rfl := am h
 exact ⟨_, Conv.refl _ _, .inr rfl, dY.mk [] 0 (out0 := .agg ((List.range 64).map fun i => cs (It.getD i mt))) (ps := [0 + 63 < 64]) (by kernel_rfl) ⟨by decide, tv⟩ (by kernel_rfl) (by kernel_rfl)⟩
section
open Go.RowKit
def sY (n0 : Nat) (W : World) (q : Option Addr) (l : List ByteArray) : Prop := ∀ i, i < l.length → ∃ b o, q = some ⟨b, o, none⟩ ∧ b < n0 ∧ W.cell? ⟨b, o + i, none⟩ = some (.string (l.getD i mt))
theorem wZ {w : World} {ok : Nat → Prop} (hok : ∀ b, ok b → b < w.heap.size) {l : List ByteArray} {v : Value} (h : RV w ok (fun _ => none) (vl 1 Rs l) v) : ∃ q c, v = .slice q l.length c ∧ l.length ≤ c ∧ sY w.heap.size w q l := by
 obtain ⟨q, c, rfl, hc, ha⟩ := h
 refine ⟨q, c, rfl, hc, fun i hi => ?_⟩
 obtain ⟨b, o, x, e, hb, hx, hr⟩ := ha i hi 0 (by decide)
 obtain ⟨rfl, _⟩ := (show RT w ok (.v (.string (l.getD i mt))) x from hr)
 exact ⟨b, o, e, hok b hb, by rw [← hx]; congr 2; omega⟩
def xa (l : List ByteArray) (s : ByteArray) : ByteArray := ⟨(Lib.join (l.map (·.data.toList)) s.data.toList).toArray⟩
noncomputable def strings_Join (p0 : List ByteArray) (p1 : ByteArray) : Option ByteArray := if p0.length ≤ 1000000 ∧ (xa p0 p1).size ≤ 1000000000 then some (xa p0 p1) else none
theorem tW (p0 : List ByteArray) (p1 : ByteArray) (r : ByteArray) (h : strings_Join p0 p1 = some r) : CT 233 [vl 1 Rs p0, vs p1] [] (vs r) [] := by
 unfold strings_Join at h
 obtain ⟨⟨h1, h2⟩, h⟩ := aN h
 obtain rfl := am h
 refine lV (n := 0) ⟨_, Tryz.func233, by kernel_rfl, rfl⟩ fun w ok vs' hok ha => ?_
 obtain ⟨l⟩ := vs'
 rcases l with _ | ⟨v0, _ | ⟨v1, _ | ⟨v2, l⟩⟩⟩
 ·exact ha.elim
 ·exact ha.2.elim
 ·obtain ⟨a0, ⟨rfl, _⟩, _⟩ := ha
  obtain ⟨q, c, rfl, hc, hd⟩ := wZ hok a0
  have hj : (Lib.join (p0.map (·.data.toList)) p1.data.toList).length ≤ 140737488355328 := Ga h2 (by decide)
  by_cases h0 : p0.length = 0
  ·obtain rfl := List.length_eq_zero_iff.1 h0
   refine callsIn_wide.2 (Calls.mono (xP q c p1 w) ?_)
   rintro e w' ⟨rfl, rfl⟩
   exact ⟨_, rfl, Below.refl _ _, fun _ _ => ⟨rfl, rfl⟩⟩
  ·obtain ⟨b, o, rfl, hb, _⟩ := hd 0 (by omega)
   refine callsIn_wide.2 (Calls.mono (yN b o c p0 p1 w (fun j x hj => ?_) hb (by omega) hc hj) ?_)
   ·have hjl := (List.getElem?_eq_some_iff.1 hj).1
    obtain ⟨b', o', e, _, hx⟩ := hd j hjl
    simp only [FL, Addr.mk.injEq] at e
    obtain ⟨rfl, rfl, _⟩ := e
    rw [hx, FI, hj]
    rfl
   ·rintro e w' ⟨rfl, hB⟩
    exact ⟨_, rfl, hB, fun _ _ => ⟨rfl, rfl⟩⟩
 ·exact ha.2.2.elim
end
noncomputable def gK (p0 : List ByteArray) : Option ByteArray := (strings_Join p0 (mk #[32])).bind fun y1 => (some y1)
theorem qh (p0 : List ByteArray) (r : ByteArray) (h : gK p0 = some r) : CT 228 [vl 1 Rs p0] [] (vs r) [] := by
 refine an ae 0 Tryz.func228 rfl (fun _ _ _ => ?_)
 unfold gK at h
 refine ah ae [] 1 ?_
 obtain ⟨y1, e2, h⟩ := ak h
 refine ay ae [(2, vs y1)] 3 [hn, hk (tW p0 (mk #[32]) y1 e2)] (ret ?_)
 apply al h (vs y1)
section
open Go.RowKit
def jX (x : Nat) : Bool := x == 32
def fB (s : ByteArray) : List ByteArray := Lib.goFieldsP jX s
theorem BD (w : World) : PredAt Tryz.prog 248 #[] encR jX w := fun W x _ => by
 unfold FnGives
 refine calls_of_wp Tryz.func248 rfl ?_
 simp only [Tryz.ntmps248, FW, FN, FP, Nat.reduceAdd, Nat.reduceSub, Array.replicate_succ, Array.replicate_zero, List.push_toArray, List.append_toArray, Gf, List.cons_append]
 go_wp2
 go_ret
 refine ⟨?_, 0, rfl⟩
 have : ((x : Int) == 32) = jX x := by
  unfold jX
  by_cases e : x = 32
  ·subst e; rfl
  ·rw [show (x == 32) = false by simpa using e, beq_eq_false_iff_ne]
   omega
 rw [this]
 rfl
theorem se {l : List ByteArray} : ∀ i, i < l.length → ∀ j, j < 1 → ∃ x, (l.map Value.string)[i * 1 + j]? = some x ∧ ∀ (w : World) (ok : Nat → Prop), RT w ok (Rs l i j) x := fun i hi j hj => by
 obtain rfl : j = 0 := by omega
 refine ⟨.string (l.getD i mt), ?_, fun w ok => ⟨rfl, rfl⟩⟩
 simp [FI, FJ hi]
theorem uX (p0 : ByteArray) (h1 : Hid (p0.size ≤ 1000000000)) (w : World) : Calls Tryz.prog 216 #[.string p0] w fun e' w' => ∃ v, e' = .returned v ∧ Below w.heap.size w w' ∧ w'.ownsRow w.heap.size 9 1 v (fB p0).length ((fB p0).map Value.string) := by
 have h1 := h1.out
 refine calls_of_wp Tryz.func216 rfl ?_
 simp only [Tryz.ntmps216, FW, FN, FP, Nat.reduceAdd, Nat.reduceSub, Array.replicate_succ, Array.replicate_zero, List.push_toArray, List.append_toArray, Gf, List.cons_append]
 go_wp2_with (go_at_call 247; refine (xK 248 #[] (enters_of Tryz.func248 (by kernel_rfl) rfl) jX p0 _ (by omega) (BD _)).mono ?_; rintro e w' ⟨A, rfl, hA, hrow, hB⟩)
 go_ret
 exact ⟨_, rfl, hB, hrow⟩
noncomputable def fb (p0 : ByteArray) : Option (List ByteArray) := if p0.size ≤ 1000000000 then some (fB p0) else none
theorem gw (p0 : ByteArray) (r : List ByteArray) (h : fb p0 = some r) : CT 216 [vs p0] [] (.c (.ref 0 1 0 r.length)) [(0, .row 9 false 1 r.length (Rs r))] := by
 unfold fb at h
 obtain ⟨h1, h⟩ := aN h
 obtain rfl := am h
 refine vo (xs := (fB p0).map Value.string) ⟨_, Tryz.func216, by kernel_rfl, rfl⟩ (by simp) (by decide) se fun w ok vs' hok ha => ?_
 obtain ⟨l⟩ := vs'
 rcases l with _ | ⟨v0, _ | ⟨v1, l⟩⟩
 ·exact ha.elim
 ·obtain ⟨⟨rfl, _⟩, _⟩ := ha
  exact uX p0 h1 w
 ·exact ha.2.elim
end
section
open Go.RowKit
def cS (b : Nat) : List UInt8 := if 65 ≤ b ∧ b ≤ 90 then [(b + 32).toUInt8] else if (97 ≤ b ∧ b ≤ 122) ∨ (48 ≤ b ∧ b ≤ 57) then [b.toUInt8] else if b = 39 then [] else [32]
theorem Av (b : Nat) (hb : b < 128) (w : World) : Calls Tryz.prog 259 #[.int .u8 b] w fun e w' => e = .returned (.string ⟨(cS b).toArray⟩) ∧ ∃ q, w' = w.drewN q := by
 refine calls_of_wp Tryz.func259 rfl ?_
 simp only [Tryz.ntmps259, FW, FN, FP, Nat.reduceAdd, Nat.reduceSub, Array.replicate_succ, Array.replicate_zero, List.push_toArray, List.append_toArray, Gf, List.cons_append]
 have en : ∀ k : Nat, k < 128 → Utf8.encode (k : Int) = ⟨#[k.toUInt8]⟩ := fun k hk => by
  have v : Utf8.valid (k : Int) = true := by simp [Utf8.valid]; omega
  simp [Utf8.encode, v, hk]
 by_cases h1 : 65 ≤ b ∧ b ≤ 90
 ·have g1 : (65 : Int) ≤ b := by omega
  have g2 : (b : Int) ≤ 90 := by omega
  go_wp2
  go_ret
  refine ⟨?_, 0, rfl⟩
  have e : (b : Int) - 65 + 97 = ((b + 32 : Nat) : Int) := by omega
  show Ending.returned (Value.string (Utf8.encode ((b : Int) - 65 + 97))) = _
  rw [e, en _ (by omega)]
  unfold cS
  rw [if_pos h1]
 ·by_cases h2 : (97 ≤ b ∧ b ≤ 122) ∨ (48 ≤ b ∧ b ≤ 57)
  ·have n1 : ¬ ((65 : Int) ≤ b ∧ (b : Int) ≤ 90) := by omega
   rcases h2 with h2 | h2
   ·have g1 : (65 : Int) ≤ b := by omega
    have g2 : ¬ (b : Int) ≤ 90 := by omega
    have g3 : (97 : Int) ≤ b := by omega
    have g4 : (b : Int) ≤ 122 := by omega
    go_wp2
    go_ret
    refine ⟨?_, 0, rfl⟩
    show Ending.returned (Value.string _) = _
    unfold cS
    rw [if_neg h1, if_pos (.inl h2)]
   ·have g1 : ¬ (65 : Int) ≤ b := by omega
    have g3 : ¬ (97 : Int) ≤ b := by omega
    have g4 : (48 : Int) ≤ b := by omega
    have g5 : (b : Int) ≤ 57 := by omega
    go_wp2
    go_ret
    refine ⟨?_, 0, rfl⟩
    show Ending.returned (Value.string _) = _
    unfold cS
    rw [if_neg h1, if_pos (.inr h2)]
  ·by_cases h3 : b = 39
   ·subst h3
    go_wp2
    go_ret
    exact ⟨rfl, 0, rfl⟩
   ·have h3' : ¬ (b : Int) = 39 := by omega
    go_wp2
    all_goals first | (exfalso; omega) | go_ret
    all_goals (refine ⟨?_, 0, rfl⟩; show Ending.returned (Value.string _) = _; unfold cS; rw [if_neg h1, if_neg h2, if_neg h3])
def dw (p : ByteArray) (i : Nat) : List UInt8 := (p.data.toList.take i).flatMap fun b => cS b.toNat
def eN (p : ByteArray) : ByteArray := ⟨(dw p p.size).toArray⟩
def nl (v : Bool) (r : ByteArray) : Array Value := if v = true then #[.string r, .int .i64 0] else #[.string ⟨#[]⟩, .int .i64 3]
@[reducible] noncomputable def ka (w : World) (ok : Nat → Prop) (nt : Nat) : Fx := ⟨⟨Tryz.prog, ⟨w, ok, fun _ => none⟩, fun b => ∃ id cap, (fun _ => none : Vm.Ren) id = some (.at b cap), nt⟩, 0, fun id h => absurd rfl h⟩
@[reducible] noncomputable def cL (w : World) (nt : Nat) : Fx := ka w (fun _ => False) nt
theorem CB {w : World} {ok : Nat → Prop} {nt n : Nat} {tm : List (Nat × AV)} {a : Act} (hok : ∀ b, ok b → b < w.heap.size) (htm : ∀ t av, Vm.look tm t = some av → RV w ok (fun _ => none) av (a.tmps.getD t undef)) (hs : a.tmps.size = nt) (hd : a.defers = []) : bH (ka w ok nt).toCx (fun _ => none) ⟨tm, [], n⟩ a w :=
 sR hok (fun id h => absurd rfl h) htm (fun id blk h => by cases h) (fun i j b c c' h => by cases h) hs hd
theorem CC {w w' : World} {ok : Nat → Prop} {nt : Nat} {ρ : Vm.Ren} {S : St} {a : Act} (R : bH (ka w ok nt).toCx ρ S a w') : Below w.heap.size w w' := ⟨R.upd.os, R.upd.tape, R.upd.output, R.upd.size, fun b hb => R.upd.block b hb fun ⟨_, _, h⟩ => by cases h⟩
theorem zb (B b : Nat) (bs : List Value) (s : ByteArray) (w : World) (h : Lib.IsBuilder 325 5 B b bs w) (hlen : bs.length + s.size ≤ 140737488355328) (hBw : B ≤ w.heap.size) :
 Calls Tryz.prog 258 #[.pointer (some ⟨b, 0, none⟩), .string s] w fun e w' => e = .returned (.tuple #[.int .i64 s.size, .nilIface]) ∧ (Lib.BuilderAt 325 5 B b (.pointer (some ⟨b, 0, none⟩)) (bs ++ Lib.strCells s) w' ∧ Below B w w') := Any.Builder_WriteString { mn with } kw B b bs s w h hlen hBw
theorem Aw (B b : Nat) (l : List UInt8) (w : World) (h : Lib.IsBuilder 325 5 B b (Lib.byteCells l) w) (hBw : B ≤ w.heap.size) :
 Calls Tryz.prog 260 #[.pointer (some ⟨b, 0, none⟩)] w fun e w' => e = .returned (.string ⟨l.toArray⟩) ∧ Below B w w' := Any.Builder_String_any { mn with } kw B b l w h hBw
theorem BE {w w0 : World} {v : Value} {l : List ByteArray} {B : Nat} (h : w.ownsRow B 9 1 v l.length (l.map Value.string)) : RV w (fun b => b < w.heap.size) (fun _ => none) (vl 1 Rs l) v := by
 rcases h.2 with ⟨rfl, e⟩ | ⟨g, cap, cur, rfl, hb, hg, hn, hm, hs, ht⟩
 ·exact ⟨none, 0, by rw [e], by omega, fun i hi => by omega⟩
 ·refine ⟨_, cap, rfl, hn, fun i hi j hj => ?_⟩
  obtain ⟨x, x1, x2⟩ := se (l := l) i hi j hj
  refine ⟨g, 0, x, rfl, gS hg, ?_, x2 _ _⟩
  rw [cell_of_row w _ _ cur 9 (0, 0) hg]
  rw [← ht, List.getElem?_take] at x1
  split at x1
  ·simpa using x1
  ·cases x1
theorem sE {w : World} {nt n : Nat} {tm : List (Nat × AV)} {a : Act} (htm : ∀ t av, Vm.look tm t = some av → RV w (fun _ => False) (fun _ => none) av (a.tmps.getD t undef)) (hs : a.tmps.size = nt) (hd : a.defers = []) : bH (cL w nt).toCx (fun _ => none) ⟨tm, [], n⟩ a w :=
 sR (fun _ h => h.elim) (fun id h => absurd rfl h) htm (fun id blk h => by cases h) (fun i j b c c' h => by cases h) hs hd
theorem ii {w w' : World} {nt : Nat} {ρ : Vm.Ren} {S : St} {a : Act} (R : bH (cL w nt).toCx ρ S a w') : Below w.heap.size w w' := ⟨R.upd.os, R.upd.tape, R.upd.output, R.upd.size, fun b hb => R.upd.block b hb fun ⟨_, _, h⟩ => by cases h⟩
theorem rS {T e B b : Nat} {bs : List Value} {w w' : World} (h : Lib.IsBuilder T e B b bs w) (hB : Below w.heap.size w w') : Lib.IsBuilder T e B b bs w' := by
 have key : ∀ p, Lib.BuilderAt T e B b p bs w → Lib.BuilderAt T e B b p bs w' := fun p ⟨h1, v, h2, h3, h4⟩ => by
  refine ⟨h1, v, (hB.block b (gS h2)).trans h2, ⟨h3.1, ?_⟩, h4⟩
  rcases h3.2 with h0 | ⟨g, cap, cur, e1, e2, e3, e4⟩
  ·exact .inl h0
  ·exact .inr ⟨g, cap, cur, e1, e2, (hB.block g (gS e3)).trans e3, e4⟩
 exact h.elim (fun x => .inl (key _ x)) (fun x => .inr (key _ x))
structure fE (p0 : ByteArray) (b i : Nat) (a : Act) : Prop where
 sz : a.tmps.size = 37
 df : a.defers = []
 t0 : a.tmps.getD 0 undef = .string p0
 t5 : a.tmps.getD 5 undef = .pointer (some ⟨b, 0, none⟩)
 t6 : a.tmps.getD 6 undef = .int .i64 (i : Int)
theorem fE.rep {p0 : ByteArray} {b i n : Nat} {a : Act} (h : fE p0 b i a) (w : World) : bH (cL w 37).toCx (fun _ => none) ⟨[(0, vs p0), (5, .c (.t (.v (.pointer (some ⟨b, 0, none⟩))))), (6, af (i : Int))], [], n⟩ a w := by
 refine sE (fun t av ht => ?_) h.sz h.df
 match t, ht with
 | 0, ht => obtain rfl := am ht; exact ⟨h.t0, rfl⟩
 | 5, ht => obtain rfl := am ht; exact ⟨h.t5, rfl⟩
 | 6, ht => obtain rfl := am ht; exact ⟨h.t6, rfl⟩
 | 1, ht => cases ht
 | 2, ht => cases ht
 | 3, ht => cases ht
 | 4, ht => cases ht
 | n + 7, ht => cases ht
theorem fE.of {p0 : ByteArray} {b i n : Nat} {a : Act} {w w' : World} {ρ : Vm.Ren} (R : bH (cL w 37).toCx ρ ⟨[(0, vs p0), (5, .c (.t (.v (.pointer (some ⟨b, 0, none⟩))))), (6, af (i : Int))], [], n⟩ a w') : fE p0 b i a := ⟨R.size, R.defers, (R.tmp 0 _ rfl).1, (R.tmp 5 _ rfl).1, (R.tmp 6 _ rfl).1⟩
theorem vu (b : Nat) : (cS b).length ≤ 1 := by
 unfold cS
 repeat' split
 all_goals simp
theorem wn (l : List UInt8) : (l.flatMap fun b => cS b.toNat).length ≤ l.length := by
 induction l with
 | nil => simp
 | cons x l ih =>
  have := vu x.toNat
  rw [List.flatMap_cons, FO, FN]
  omega
theorem Ay {p : ByteArray} {i : Nat} (h : i < p.size) : dw p (i + 1) = dw p i ++ cS (p.data.toList.getD i 0).toNat := by
 have hl : i < p.data.toList.length := by rw [Array.length_toList]; exact h
 unfold dw
 rw [Gp, FI, FJ hl, PH]
 simp
theorem AZ (b : Nat) (hb : b < 128) : CT 259 [.c (.t (.v (.int .u8 (b : Int))))] [] (vs ⟨(cS b).toArray⟩) [] := by
 refine lV (n := 0) ⟨_, Tryz.func259, by kernel_rfl, rfl⟩ fun w ok vs' hok ha => ?_
 obtain ⟨l⟩ := vs'
 rcases l with _ | ⟨v0, _ | ⟨v1, l⟩⟩
 ·exact ha.elim
 ·obtain ⟨⟨rfl, _⟩, _⟩ := ha
  refine callsIn_wide.2 (Calls.mono (Av b hb w) ?_)
  rintro e w' ⟨rfl, q, rfl⟩
  exact ⟨_, rfl, below_drewN' (Below.refl _ _) q, fun _ _ => ⟨rfl, rfl⟩⟩
 ·exact ha.2.elim
theorem Nb (p0 : ByteArray) (hp : p0.size ≤ 1000) (ha : ∀ i, i < p0.size → (p0.data.toList.getD i 0).toNat < 128) (v : Bool) (r : ByteArray) (tb : List ByteArray) (kv : CT 255 [vs p0] [] (vb v) []) (kt : CT 256 [] [] (.agg ((List.range 64).map fun i => cs (tb.getD i mt))) []) (kp : ∀ i : Nat, i < p0.size → CT 257 [vs p0, af i] [] (vb false) [])
  (kj : v = true → CT 228 [vl 1 Rs (fB (eN p0))] [] (vs r) []) (w : World) :
  Calls Tryz.prog 226 #[.string p0] w fun e w' => e = .returned (.tuple (nl v r)) ∧ Below w.heap.size w w' := by
 refine calls_of_wp Tryz.func226 rfl ?_
 have hsz : Tryz.f226.ntmps = 37 := by kernel_rfl
 have R0 : bH (cL w 37).toCx (fun _ => none) ⟨[(0, vs p0)], [], 1⟩ { tmps := #[.string p0] ++ Array.replicate (Tryz.f226.ntmps - 1) undef, defers := [] } w := by
  refine sE (fun t av ht => ?_) (by rw [hsz]; simp) rfl
  match t, ht with
  | 0, ht => obtain rfl := am ht; exact ⟨BB rfl, rfl⟩
  | n + 1, ht => cases ht
 refine wp_seq (PM (c := cL w 37) (x := .normal) (Sx := ⟨[(0, vs p0)], [], 1⟩) (aS ae [] 3 ⟨rfl, ai []⟩) R0 fun ρ1 a1 w1 R1 => ?_)
 by_cases hv : v = true
 rotate_left
 ·have hv : v = false := by cases v <;> simp_all
  refine wp_seq (wp_seq (PM (c := cL w 37) (x := .normal) (Sx := ⟨[(9, vb true)], [], 1⟩) (au ae [(9, vb true)] 3 [hn, hl [] [] 0 (hv ▸ kv)] ⟨rfl, ai []⟩) R1 fun ρ2 a2 w2 R2 => wp_cond_true (bU R2 (x := .tmp 9) (by kernel_rfl)) ?_))
  refine wp_seq (PM (c := cL w 37) (x := .normal) (Sx := ⟨[(2, vs ⟨#[]⟩), (3, af 3)], [], 1⟩) (aS ae [(2, vs ⟨#[]⟩), (3, af 3)] 3 ⟨rfl, ai []⟩) R2 fun ρ3 a3 w3 R3 => wp_ret ?_)
  obtain ⟨u, e1, e2⟩ := jE (fn := Tryz.f226) (out := .tup [vs ⟨#[]⟩, af 3]) (ps := [True, True]) ae R3 (by kernel_rfl) ⟨tv, tv, tv⟩
  refine ⟨R3.defers, u, e1, ?_, ii R3⟩
  obtain ⟨⟨ys⟩, rfl, h1⟩ := e2
  rcases ys with _ | ⟨y0, _ | ⟨y1, _ | ⟨y2, ys⟩⟩⟩
  ·exact h1.elim
  ·exact h1.2.elim
  ·obtain ⟨⟨rfl, _⟩, ⟨rfl, _⟩, _⟩ := h1
   unfold nl
   rw [if_neg (by rw [hv]; decide)]
  ·exact h1.2.2.elim
 refine wp_seq (wp_seq (PM (c := cL w 37) (x := .normal) (Sx := ⟨[(0, vs p0), (9, vb false)], [], 1⟩) (au ae [(9, vb false)] 3 [hn, hl [] [] 0 (hv ▸ kv)] ⟨rfl, ai []⟩) R1 fun ρ2 a2 w2 R2 => wp_cond_false (bU R2 (x := .tmp 9) (by kernel_rfl)) (wp_skip ?_)))
 refine wp_seq (PM (c := cL w 37) (x := .normal) (Sx := ⟨[(0, vs p0)], [], 1⟩) (AW.rg ae [] [1] [] 3 [hl [] [] 0 kt] ⟨rfl, ai []⟩) R2 fun ρ3 a3 w3 R3 => ?_)
 refine wp_seq (PM (c := cL w 37) (x := .normal) (Sx := ⟨[(0, vs p0), (5, pX 1 2)], [(1, .box 325 [.t (.v (.pointer none)), ax])], 2⟩) (AW.rg ae [(5, pX 1 2)] [1] [(1, .box 325 [.t (.v (.pointer none)), ax])] 2 [] ⟨rfl, ai [(1, 1)]⟩) R3 fun ρ4 a4 w4 R4 => ?_)
 refine wp_seq (wp_seq (PM (c := cL w 37) (x := .normal) (Sx := ⟨[(0, vs p0), (5, pX 1 2), (6, af 0)], [(1, .box 325 [.t (.v (.pointer none)), ax])], 2⟩) (aS ae [(6, af 0)] 3 ⟨rfl, ai [(1, 1)]⟩) R4 fun ρ5 a5 w5 R5 => ?_))
 obtain ⟨b, T5, I5⟩ : ∃ b, fE p0 b 0 a5 ∧ Lib.IsBuilder 325 5 w.heap.size b [] w5 := by
  obtain ⟨l, l1, ⟨b, us, rfl, u1, u2⟩, l3⟩ := R5.heap 1 _ rfl
  obtain ⟨b', cap, q1, q2⟩ := R5.tmp 5 _ rfl
  rw [l1] at q1
  injection q1 with q1
  injection q1 with q1
  subst q1
  refine ⟨b, ⟨R5.size, R5.defers, (R5.tmp 0 _ rfl).1, q2, (R5.tmp 6 _ rfl).1⟩, .inl ⟨?_, .slice none 0 0, ?_, World.ownsRow_nil _ _ _ _, by simp [Value.ownBlock]⟩⟩
  ·exact (l3 b 1 rfl).2.resolve_right fun ⟨_, _, h⟩ => by cases h
  ·obtain ⟨us⟩ := us
   rcases us with _ | ⟨x0, _ | ⟨x1, _ | ⟨x2, us⟩⟩⟩
   ·exact u2.elim
   ·exact u2.2.elim
   ·obtain ⟨⟨rfl, _⟩, ⟨rfl, _⟩, _⟩ := u2
    exact u1
   ·exact u2.2.2.elim
 have B5 := ii R5
 clear R0 R1 R2 R3 R4 R5
 refine wp_block (wp_loop (fun a w' => ∃ i, i ≤ p0.size ∧ fE p0 b i a ∧ Lib.IsBuilder 325 5 w.heap.size b (Lib.byteCells (dw p0 i)) w' ∧ Below w.heap.size w w') (fun a _ => p0.size - (intOf (a.tmps.getD 6 undef)).toNat) ⟨0, Nat.zero_le _, T5, I5, B5⟩ ?_)
 rintro a w' ⟨i, hi, hT, hI, hB⟩
 by_cases hlt : i < p0.size
 ·have hd : decide ((i : Int) < (p0.size : Int)) = true := by simp; omega
  refine wp_seq (wp_seq (PM (c := cL w' 37) (x := .normal) (Sx := ⟨[(0, vs p0), (5, .c (.t (.v (.pointer (some ⟨b, 0, none⟩))))), (6, af (i : Int)), (14, vb (decide ((i : Int) < (p0.size : Int))))], [], 1⟩) (aS ae [(14, vb (decide ((i : Int) < (p0.size : Int))))] 5 ⟨rfl, ai []⟩) (hT.rep (n := 1) w') fun ρa aa wa Ra => wp_cond_true ((bU Ra (x := .tmp 14) (v := .bool (decide ((i : Int) < (p0.size : Int)))) rfl).trans (by rw [hd])) (wp_skip ?_)))
  refine wp_seq (wp_block (wp_seq (wp_seq (PM (c := cL w' 37) (x := .normal) (Sx := ⟨[(0, vs p0), (5, .c (.t (.v (.pointer (some ⟨b, 0, none⟩))))), (6, af (i : Int)), (19, vb false)], [], 1⟩) (au ae [(19, vb false)] 3 [hn, hn, hl [] [] 0 (kp i hlt)] ⟨rfl, ai []⟩) Ra fun ρb ab wb Rb => wp_cond_false (bU Rb (x := .tmp 19) (by kernel_rfl)) (wp_skip ?_)))))
  have g1 : 0 ≤ (i : Int) := by omega
  have g2 : (i : Int) < (p0.size : Int) := by omega
  refine mm (c := cL w' 37) (Sx := ⟨[(0, vs p0), (5, .c (.t (.v (.pointer (some ⟨b, 0, none⟩))))), (6, af (i : Int)), (32, vs ⟨(cS (p0.data.toList.getD i 0).toNat).toArray⟩)], [], 1⟩) ae 4 1 [] [hn, hn, hq g1 g2, hl [] [] 0 (AZ (p0.data.toList.getD i 0).toNat (ha i hlt))] (by kernel_rfl) Rb fun ρc ac wc Rc => ?_
  show wpOps _ _ _ [4] _ _
  rw [wpOps_cons]
  have hlen := wn (p0.data.toList.take i)
  have hpl := vu (p0.data.toList.getD i 0).toNat
  have e5 : ac.eval (.tmp 5) = .pointer (some ⟨b, 0, none⟩) := bU Rc rfl
  have e32 : ac.eval (.tmp 32) = .string ⟨(cS (p0.data.toList.getD i 0).toNat).toArray⟩ := bU Rc rfl
  have Bc := ii Rc
  refine jz (c := cL w' 37) Rc (o := _) (d := 33) (f := 258) rfl rfl rfl rfl rfl ⟨_, Tryz.func258, by kernel_rfl, rfl⟩ (vs := #[.pointer (some ⟨b, 0, none⟩), .string ⟨(cS (p0.data.toList.getD i 0).toNat).toArray⟩]) ?_ ?_
  ·simp only [List.map_toArray, Gr, List.map_nil, e5, e32]
  refine Calls.mono (zb w.heap.size b (Lib.byteCells (dw p0 i)) ⟨(cS (p0.data.toList.getD i 0).toNat).toArray⟩ wc (rS hI Bc) ?_ ?_) ?_
  ·rw [Lib.byteCells_length]
   unfold dw
   rw [FR] at hlen
   show _ + (cS (p0.data.toList.getD i 0).toNat).toArray.size ≤ _
   rw [FW]
   omega
  ·have := hB.size
   have := Bc.size
   omega
  rintro e w2 ⟨rfl, h2, h3⟩
  obtain ⟨v, hv⟩ : ∃ v, Value.tuple #[.int .i64 (((⟨(cS (p0.data.toList.getD i 0).toNat).toArray⟩ : ByteArray).size : Nat) : Int), .nilIface] = v := ⟨_, rfl⟩
  refine ⟨v, by rw [← hv], ?_⟩
  clear hv
  have hv : Lib.IsBuilder 325 5 w.heap.size b (Lib.byteCells (dw p0 (i + 1))) w2 ∧ Below w.heap.size w w2 := by
   refine ⟨.inr ?_, (hB.trans (Bc.mono hB.size)).trans h3⟩
   rw [Ay hlt]
   have : Lib.byteCells (dw p0 i ++ cS (p0.data.toList.getD i 0).toNat) = Lib.byteCells (dw p0 i) ++ Lib.strCells ⟨(cS (p0.data.toList.getD i 0).toNat).toArray⟩ := by simp [Lib.byteCells, Lib.strCells]
   rw [this]
   exact h2
  have hsz := Rc.size
  have T2 : fE p0 b i (ac.put (some 33) v) := ⟨by rw [dt]; exact Rc.size, by rw [dA]; exact Rc.defers, by rw [dB v (by decide)]; exact (Rc.tmp 0 _ rfl).1, by rw [dB v (by decide)]; exact (Rc.tmp 5 _ rfl).1, by rw [dB v (by decide)]; exact (Rc.tmp 6 _ rfl).1⟩
  refine PM (c := cL w2 37) (x := .normal) (Sx := ⟨[(0, vs p0), (5, .c (.t (.v (.pointer (some ⟨b, 0, none⟩))))), (6, af (i64.wrap ((i : Int) + 1)))], [], 1⟩) (aS ae [(6, af (i64.wrap ((i : Int) + 1)))] 4 ⟨rfl, ai []⟩) (T2.rep (n := 1) w2) fun ρd ad wd Rd => ?_
  have hw : i64.wrap ((i : Int) + 1) = ((i + 1 : Nat) : Int) := by rw [sD (by omega) (by omega)]; rfl
  rw [hw] at Rd
  have T3 := fE.of Rd
  refine ⟨⟨i + 1, by omega, T3, rS hv.1 (ii Rd), hv.2.trans ((ii Rd).mono hv.2.size)⟩, ?_⟩
  rw [T3.t6, hT.t6]
  simp only [intOf, FM]
  omega
 ·obtain rfl : i = p0.size := by omega
  have hd : decide ((p0.size : Int) < (p0.size : Int)) = false := by simp
  refine wp_seq (wp_seq (PM (c := cL w' 37) (x := .normal) (Sx := ⟨[(0, vs p0), (5, .c (.t (.v (.pointer (some ⟨b, 0, none⟩))))), (6, af (p0.size : Int)), (14, vb (decide ((p0.size : Int) < (p0.size : Int))))], [], 1⟩) (aS ae [(14, vb (decide ((p0.size : Int) < (p0.size : Int))))] 5 ⟨rfl, ai []⟩) (hT.rep (n := 1) w') fun ρa aa wa Ra => wp_cond_false ((bU Ra (x := .tmp 14) (v := .bool (decide ((p0.size : Int) < (p0.size : Int)))) rfl).trans (by rw [hd])) (wp_exit ?_)))
  show Code.wp _ _ _ _ _
  have Ba := ii Ra
  refine wp_seq (wp_region ?_)
  show wpOps _ _ _ [0, 1, 2, 3, 4] _ _
  rw [wpOps_cons]
  have e5 : aa.eval (.tmp 5) = .pointer (some ⟨b, 0, none⟩) := bU Ra rfl
  refine jz (c := cL w' 37) Ra (o := _) (d := 34) (f := 260) rfl rfl rfl rfl rfl ⟨_, Tryz.func260, by kernel_rfl, rfl⟩ (vs := #[.pointer (some ⟨b, 0, none⟩)]) (by simp only [List.map_toArray, Gr, List.map_nil, e5]) ?_
  have hBz := hB.size
  have hBa := Ba.size
  refine Calls.mono (Aw w.heap.size b (dw p0 p0.size) wa (rS hI Ba) (by omega)) ?_
  rintro e w2 ⟨rfl, h2⟩
  refine ⟨_, rfl, ?_⟩
  have B2 : Below w.heap.size w w2 := (hB.trans (Ba.mono hBz)).trans h2
  have R2 : bH (cL w2 37).toCx (fun _ => none) ⟨[(34, vs (eN p0))], [], 1⟩ (aa.put (some 34) (.string ⟨(dw p0 p0.size).toArray⟩)) w2 := by
   refine sE (fun t av ht => ?_) (by rw [dt]; exact Ra.size) (by rw [dA]; exact Ra.defers)
   rw [bo] at ht
   split at ht
   ·rename_i e; subst e; obtain rfl := am ht; exact ⟨dU _ (by rw [Ra.size]; exact (by decide : 34 < 37)), rfl⟩
   ·cases ht
  rw [wpOps_cons]
  have e34 : (aa.put (some 34) (.string ⟨(dw p0 p0.size).toArray⟩)).eval (.tmp 34) = .string (eN p0) := bU R2 rfl
  refine jz (c := cL w2 37) R2 (o := _) (d := 35) (f := 216) rfl rfl rfl rfl rfl ⟨_, Tryz.func216, by kernel_rfl, rfl⟩ (vs := #[.string (eN p0)]) (by simp only [List.map_toArray, Gr, List.map_nil, e34]) ?_
  have hfs : (eN p0).size ≤ 1000 := by
   have := wn (p0.data.toList.take p0.size)
   rw [FR] at this
   show (dw p0 p0.size).toArray.size ≤ 1000
   rw [FW]
   unfold dw
   omega
  refine Calls.mono (uX (eN p0) (by show _ ≤ _; omega) w2) ?_
  rintro e w3 ⟨v3, rfl, h3, hrow⟩
  refine ⟨_, rfl, ?_⟩
  have R3 : bH (ka w3 (fun b => b < w3.heap.size) 37).toCx (fun _ => none) ⟨[(35, vl 1 Rs (fB (eN p0)))], [], 1⟩ ((aa.put (some 34) (.string ⟨(dw p0 p0.size).toArray⟩)).put (some 35) v3) w3 := by
   refine CB (fun _ h => h) (fun t av ht => ?_) (by rw [dt, dt]; exact Ra.size) (by rw [dA, dA]; exact Ra.defers)
   rw [bo] at ht
   split at ht
   ·rename_i e; subst e; obtain rfl := am ht
    rw [dU _ (by rw [dt, Ra.size]; exact (by decide : 35 < 37))]
    exact BE (w0 := w) hrow
   ·cases ht
  refine mc (c := ka w3 (fun b => b < w3.heap.size) 37) (Sx := ⟨[(2, vs r), (3, af 0)], [], 1⟩) ae 2 3 [] [hl [] [] 0 (kj hv)] (by kernel_rfl) R3 fun ρ4 a4 w4 R4 => wp_ret ?_
  obtain ⟨u, e1, e2⟩ := jE (fn := Tryz.f226) (out := .tup [vs r, af 0]) (ps := [True, True]) ae R4 (by kernel_rfl) ⟨tv, tv, tv⟩
  have hz3 := h3.size
  have hz2 := B2.size
  refine ⟨R4.defers, u, e1, ?_, (B2.trans (h3.mono hz2)).trans ((CC R4).mono (by omega))⟩
  obtain ⟨⟨ys⟩, rfl, h1⟩ := e2
  rcases ys with _ | ⟨y0, _ | ⟨y1, _ | ⟨y2, ys⟩⟩⟩
  ·exact h1.elim
  ·exact h1.2.elim
  ·obtain ⟨⟨rfl, _⟩, ⟨rfl, _⟩, _⟩ := h1
   unfold nl
   rw [if_pos hv]
  ·exact h1.2.2.elim
noncomputable def jC (p0 : ByteArray) : Option (ByteArray × Int) := (qV p0).bind fun v => oT.bind fun _ => if p0.size ≤ 1000 ∧ (∀ i, i < p0.size → (p0.data.toList.getD i 0).toNat < 128) ∧ (∀ i : Nat, i < p0.size → mC p0 i = some false) then (if v then (gK (fB (eN p0))).bind fun r => some (r, 0) else some (⟨#[]⟩, 3)) else none
theorem qi (p0 : ByteArray) (r : ByteArray × Int) (h : jC p0 = some r) : CT 226 [vs p0] [] (.tup [vs r.1, af r.2]) [] := by
 unfold jC at h
 obtain ⟨v, hv, h⟩ := Option.bind_eq_some_iff.1 h
 obtain ⟨tb, ht, h⟩ := Option.bind_eq_some_iff.1 h
 obtain ⟨⟨h1, h2, h3⟩, h⟩ := aN h
 obtain ⟨rr, hj, hr⟩ : ∃ rr : ByteArray, (v = true → gK (fB (eN p0)) = some rr) ∧ r = if v = true then (rr, 0) else (⟨#[]⟩, 3) := by
  cases v with
  | false => rw [if_neg (by decide)] at h; exact ⟨⟨#[]⟩, fun e => (by cases e), by rw [if_neg (by decide)]; exact (am h).symm⟩
  | true =>
   rw [if_pos rfl] at h
   obtain ⟨rr, hj, h⟩ := Option.bind_eq_some_iff.1 h
   exact ⟨rr, fun _ => hj, by rw [if_pos rfl]; exact (am h).symm⟩
 refine lV (n := 0) ⟨_, Tryz.func226, by kernel_rfl, rfl⟩ fun w ok vs' hok ha => ?_
 obtain ⟨l⟩ := vs'
 rcases l with _ | ⟨v0, _ | ⟨v1, l⟩⟩
 ·exact ha.elim
 ·obtain ⟨⟨rfl, _⟩, _⟩ := ha
  refine callsIn_wide.2 (Calls.mono (Nb p0 h1 h2 v rr tb (za p0 v hv) (xL tb ht) (fun i hi => ux p0 i false (h3 i hi)) (fun e => qh _ rr (hj e)) w) ?_)
  rintro e w' ⟨rfl, hB⟩
  refine ⟨_, rfl, hB, fun _ _ => ⟨#[.string r.1, .int .i64 r.2], ?_, ⟨rfl, rfl⟩, ⟨rfl, rfl⟩, tv⟩⟩
  subst hr
  unfold nl
  cases v <;> rfl
 ·exact ha.2.elim
end
noncomputable def pR (p0 : aY) (p1 : ByteArray) : Option ByteArray := (jB p0.Nicknames p1).bind fun y1 => (if (decide (y1 ≥ 0)) then (if 0 ≤ y1 then (if y1 < (p0.Nicknames.length : Int) then (some ((p0.Nicknames.getD y1.toNat bK).To)) else none) else none) else (some p1))
theorem yf (p0 : aY) (p1 : ByteArray) (r : ByteArray) (h : pR p0 p1 = some r) : CT 227 [.agg (bS p0), vs p1] [] (vs r) [] := by
 refine an ae 0 Tryz.func227 rfl (fun _ _ _ => ?_)
 unfold pR at h
 refine Fs ae [(2, pX 0 3)] [0] [(0, .box 31 (bS p0))] 2 [] (seq ?_)
 obtain ⟨y1, e2, h⟩ := ak h
 refine ay ae [(5, af y1)] 6 [hn, hn, hn, hk (qb p0.Nicknames p1 y1 e2)] ?_
 refine ah ae [(11, vb (decide (y1 ≥ 0)))] 8 ?_
 refine Fw h (fun c3 h => ?_) (fun c3 h => ?_)
 ·obtain ⟨g4, g5, h⟩ := aG h
  refine ay ae [(4, vs ((p0.Nicknames.getD y1.toNat bK).To))] 15 [hn, hn, hn, hq g4 g5] (ret (Fo ?_))
  apply al h (vs ((p0.Nicknames.getD y1.toNat bK).To))
 ·refine skip (Fp ?_)
  refine ah ae [(4, vs p1)] 10 (ret ?_)
  apply al h (vs p1)
noncomputable def kO (x13 : Int) (x16 : List ByteArray) : Option (((List ByteArray) × Int) ⊕ (List ByteArray)) := some (.inl (x16, i64.wrap (x13 + 1)))
noncomputable def kP (p0 : aY) (x12 : List ByteArray) (x13 : Int) (y19 : ByteArray) (x21 : Bool) : Option (((List ByteArray) × Int) ⊕ (List ByteArray)) := if x21 then ((pR p0 y19).bind fun y23 => (if x12.length + ([y23] : aj).length ≤ 1099511627776 then (kO x13 (x12 ++ ([y23] : aj))) else none)) else (kO x13 x12)
noncomputable def oU (p0 : aY) (y8 : List ByteArray) (x12 : List ByteArray) (x13 : Int) : Option (((List ByteArray) × Int) ⊕ (List ByteArray)) := if (decide (x13 < (y8.length : Int))) then (if 0 ≤ x13 then (if x13 < (y8.length : Int) then ((gz (y8.getD (0 + x13.toNat) mt)).bind fun y19 => (if (!(y19.toList == (mk #[]).toList)) then ((lW p0 y19).bind fun y27 => (kP p0 x12 x13 y19 (!y27))) else (kP p0 x12 x13 y19 false))) else none) else none) else (some (.inr x12))
noncomputable def kQ (y30 : ByteArray) (x32 : Bool) : Option (ByteArray × Int) := if x32 then (some ((mk #[]), 1)) else (some (y30, 0))
noncomputable def lw (p0 : aY) (p1 : ByteArray) : Option (ByteArray × Int) := (jx p0).bind fun y1 => (if (y1 != 0) then (some ((mk #[]), y1)) else (aM (jC p1) fun y4 y5 => (if (y5 != 0) then (some ((mk #[]), y5)) else ((fb y4).bind fun y8 => ((loop (fun v : (List ByteArray) × Int => oU p0 y8 v.1 v.2) (([] : aj), 0)).bind fun x29 => ((gK x29).bind fun y30 => (if (decide ((x29.length : Int) > 6)) then (kQ y30 true) else (kQ y30 (decide ((y30.size : Int) > 64))))))))))
theorem tF (p0 : aY) (p1 : ByteArray) (r : ByteArray × Int) (h : lw p0 p1 = some r) : CT 189 [.agg (bS p0), vs p1] [] (.tup [vs r.1, af r.2]) [] := by
 refine an ae 0 Tryz.func189 rfl (fun _ _ _ => ?_)
 unfold lw at h
 refine Fs ae [(2, pX 0 3)] [0] [(0, .box 31 (bS p0))] 3 [] (seq ?_)
 obtain ⟨y1, e2, h⟩ := ak h
 refine ay ae [(6, af y1)] 5 [hn, hk (pQ p0 y1 e2)] ?_
 refine ah ae [(16, vb (y1 != 0))] 7 ?_
 refine Fw h (fun c3 h => ?_) (fun c3 h => ?_)
 ·refine ah ae [(5, af y1), (4, vs (mk #[]))] 10 (ret (Fo ?_))
  apply al h (.tup [vs (mk #[]), af y1])
 ·refine skip (Fp ?_)
  obtain ⟨y4, y5, e6, h⟩ := aO h
  refine ay ae [(8, af y5), (7, vs y4)] 13 [hn, hk (qi p1 (y4, y5) e6)] (seq ?_)
  refine ah ae [(24, vb (y5 != 0))] 15 ?_
  refine Fw h (fun c7 h => ?_) (fun c7 h => ?_)
  ·refine ah ae [(5, af y5), (4, vs (mk #[]))] 18 (ret (Fo ?_))
   apply al h (.tup [vs (mk #[]), af y5])
  ·refine skip (Fp ?_)
   refine ah ae [(9, .c (ax))] 16 (seq ?_)
   obtain ⟨y8, e9, h⟩ := ak h
   refine Fs ae [(29, af 0), (28, af (y8.length : Int)), (27, rX 17 1 y8.length)] [17] [(17, .row 9 false 1 y8.length (Rs y8))] 20 [hn, hm [] [] 1 (gw y4 y8 e9) ⟨bV Vs _ _ _, tv⟩] (block ?_)
   obtain ⟨x29, l35, h⟩ := ak h
   refine Fy l35 (fun v => ⟨[(2, pX 0 3), (9, rX 1 1 v.1.length), (27, rX 2 1 y8.length), (28, af (y8.length : Int)), (29, af v.2)], [(0, .box 31 (bS p0)), (1, .row 9 false 1 v.1.length (Rs v.1)), (2, .row 9 false 1 y8.length (Rs y8))], 3⟩) (fun t : List ByteArray => (.exit 0, ⟨[(9, rX 0 1 t.length)], [(0, .row 9 false 1 t.length (Rs t))], 1⟩)) (Conv.trans (cg (t := 9) (ty := 9) (sz := 1) (n := ([] : aj).length) (f := Rs ([] : aj)) (by kernel_rfl) rfl) (ai [(0, 0), (1, 20), (2, 17)])) (fun _ => tv) ?_ ?_
   ·clear l35 h
    intro v o h
    obtain ⟨x12, x13⟩ := v
    replace h : oU p0 y8 x12 x13 = some o := h
    unfold oU at h
    refine ah ae [(30, vb (decide (x13 < (y8.length : Int))))] 4 (seq ?_)
    refine Fw h (fun c15 h => ?_) (fun c15 h => ?_)
    ·refine skip (Fp (seq ?_))
     refine AW.join (ι := List ByteArray) (fun v => ⟨[(2, pX 0 3), (9, rX 1 1 v.length), (27, rX 2 1 y8.length), (28, af (y8.length : Int)), (29, af x13)], [(0, .box 31 (bS p0)), (1, .row 9 false 1 v.length (Rs v)), (2, .row 9 false 1 y8.length (Rs y8))], 3⟩) (fun v : List ByteArray => kO x13 v = some o) (fun x16 h => ?_) ?_
     ·unfold kO at h
      refine Fp ?_
      refine aS ae [(29, af (i64.wrap (x13 + 1)))] 5 ?_
      exact bu h (ai [(0, 0), (1, 1), (2, 2)])
     ·refine block ?_
      obtain ⟨g17, g18, h⟩ := aG h
      refine ay ae [(11, vs (y8.getD (0 + x13.toNat) mt))] 7 [hq g17 g18, ho (p := (0 + x13.toNat) < y8.length) (by have h1 : 0 ≤ x13 := g17; have h2 : x13 < (y8.length : Int) := g18; omega)] ?_
      obtain ⟨y19, e20, h⟩ := ak h
      refine ay ae [(11, vs y19)] 9 [hn, hk (kW (y8.getD (0 + x13.toNat) mt) y19 e20)] (seq ?_)
      refine AW.join (ι := Bool) (fun v => ⟨[(2, pX 0 3), (9, rX 1 1 x12.length), (11, vs y19), (27, rX 2 1 y8.length), (28, af (y8.length : Int)), (29, af x13), (42, vb v)], [(0, .box 31 (bS p0)), (1, .row 9 false 1 x12.length (Rs x12)), (2, .row 9 false 1 y8.length (Rs y8))], 3⟩) (fun v : Bool => kP p0 x12 x13 y19 v = some o) (fun x21 h => ?_) ?_
      ·unfold kP at h
       refine Fp ?_
       refine Fw h (fun c22 h => ?_) (fun c22 h => ?_)
       ·obtain ⟨y23, e24, h⟩ := ak h
        obtain ⟨g25, h⟩ := aN h
        refine AW.rg ae [(9, .c (.ref 7 1 0 ((x12 ++ ([y23] : aj)).length)))] [1, 6, 7] [(7, .row 9 false 1 (x12 ++ ([y23] : aj)).length (Rs (x12 ++ ([y23] : aj))))] 9 [hn, hn, hn, hk (yf p0 y19 y23 e24), bh mt Es 1 (fun _ => rfl) ([y23] : aj), bY mt Es 1 16 x12 ([y23] : aj) g25 (by decide)] ?_
        refine Fj ?_
        exact jl (x12 ++ ([y23] : aj)) h (ai [(0, 0), (1, 7), (2, 2)])
       ·refine skip (Fj ?_)
        exact jl x12 h (ai [(0, 0), (1, 1), (2, 2)])
      ·rcases aD h with ⟨c26, h⟩ | ⟨c26, h⟩
       ·obtain ⟨y27, e28, h⟩ := ak h
        refine au ae [(42, vb (!y27))] 16 [hn, ht c26, hn, hn, hn, hk (tV p0 y19 y27 e28)] ?_
        exact jl (!y27) h (ai [(0, 0), (1, 1), (2, 2)])
       ·refine au ae [(42, vb false)] 17 [hn, hf c26] ?_
        exact jl false h (ai [(0, 0), (1, 1), (2, 2)])
    ·refine exit (Fb ?_)
     exact aU h rfl (ai [(0, 1)])
   ·show (_ : Exit → St → Prop) (.exit 0) _
    refine E6 (Fp ?_)
    obtain ⟨y30, e31, h⟩ := ak h
    refine ay ae [(12, vs y30)] 3 [hn, hg [] [] true 0 (q := (0 + x29.length ≤ x29.length) ∧ (True)) ⟨br, tv⟩ (a0 := [vl 1 Rs x29]) (qh x29 y30 e31) ⟨aR.refl _, tv⟩ (fun _ => tv)] (seq (seq ?_))
    refine AW.join (ι := Bool) (fun v => ⟨[(12, vs y30), (59, vb v)], [], 0⟩) (fun v : Bool => kQ y30 v = some r) (fun x32 h => ?_) ?_
    ·unfold kQ at h
     refine Fp ?_
     refine Fw h (fun c33 h => ?_) (fun c33 h => ?_)
     ·refine ah ae [(5, af 1), (4, vs (mk #[]))] 2 (ret (Fo ?_))
      apply al h (.tup [vs (mk #[]), af 1])
     ·refine skip (Fp ?_)
      refine ah ae [(5, af 0), (4, vs y30)] 3 (ret ?_)
      apply al h (.tup [vs y30, af 0])
    ·rcases aD h with ⟨c34, h⟩ | ⟨c34, h⟩
     ·refine au ae [(59, vb true)] 11 [hn, hn, ht c34] ?_
      exact jl true h
     ·refine au ae [(59, vb (decide ((y30.size : Int) > 64)))] 11 [hn, hn, hf c34] ?_
      exact jl (decide ((y30.size : Int) > 64)) h (ai [])
noncomputable def lx (p0 : ByteArray) (x3 : Int) (x4 : Int) (x7 : Bool) : Option ((Int × Int) ⊕ (Int ⊕ Unit)) := if x7 then (some (.inr (.inr ()))) else (if 0 ≤ x4 then (if x4 < (p0.size : Int) then ((some (i64.wrap ((i64.wrap (10 * x3)) + (i64.wrap (u8.wrap (((p0.data.toList.getD x4.toNat 0).toNat : Int) - 48)))))).bind fun z11 => (some (.inl (z11, i64.wrap (x4 + 1))))) else none) else none)
noncomputable def pS (p0 : ByteArray) (x3 : Int) (x4 : Int) : Option ((Int × Int) ⊕ (Int ⊕ Unit)) := if (decide (x4 < (p0.size : Int))) then (if 0 ≤ x4 then (if x4 < (p0.size : Int) then (if (decide (((p0.data.toList.getD x4.toNat 0).toNat : Int) < 48)) then (lx p0 x3 x4 true) else (lx p0 x3 x4 (decide (((p0.data.toList.getD x4.toNat 0).toNat : Int) > 57)))) else none) else none) else (some (.inr (.inl x3)))
noncomputable def ui (x16 : Int) : Option Int := some x16
noncomputable def pT : Option Int := some (-1)
noncomputable def ju (p0 : ByteArray) : Option Int := ca (loop (fun v : Int × Int => pS p0 v.1 v.2) (0, 0)) (fun t => ui t) (fun t => pT)
theorem pp (p0 : ByteArray) (r : Int) (h : ju p0 = some r) : CT 266 [vs p0] [] (af r) [] := by
 refine an ae 0 Tryz.func266 rfl (fun _ _ _ => ?_)
 unfold ju at h
 refine ah ae [] 1 ?_
 refine ah ae [(3, af 0)] 2 (seq ?_)
 refine ah ae [(7, af 0), (6, af (p0.size : Int))] 5 (block ?_)
 refine FA h (fun v => ⟨[(0, vs p0), (3, af v.1), (6, af (p0.size : Int)), (7, af v.2)], [], 0⟩) (fun t => (.exit 0, ⟨[(3, af t)], [], 0⟩)) (fun t => (.ret, ⟨[(2, af (-1))], [], 0⟩)) (ai []) (fun _ => tv) (fun _ => tv) ?_ (fun x16 h => ?_) (fun t h => ?_)
 ·clear h
  intro v o h
  obtain ⟨x3, x4⟩ := v
  replace h : pS p0 x3 x4 = some o := h
  unfold pS at h
  refine ah ae [(8, vb (decide (x4 < (p0.size : Int))))] 1 (seq ?_)
  refine Fw h (fun c6 h => ?_) (fun c6 h => ?_)
  ·refine skip (Fp ?_)
   refine seq (block ?_)
   refine ah ae [(4, af x4)] 3 (seq (seq ?_))
   refine AW.join (ι := Bool) (fun v => ⟨[(0, vs p0), (3, af x3), (4, af x4), (6, af (p0.size : Int)), (7, af x4), (19, vb v)], [], 0⟩) (fun v : Bool => lx p0 x3 x4 v = some o) (fun x7 h => ?_) ?_
   ·unfold lx at h
    refine Fp ?_
    refine Fw h (fun c8 h => ?_) (fun c8 h => ?_)
    ·refine ah ae [(2, af (-1))] 1 (ret (Fo ?_))
     refine Fi (Fo ?_)
     exact aU h rfl (ai [])
    ·refine skip (Fp ?_)
     obtain ⟨g9, g10, h⟩ := aG h
     obtain ⟨z11, n12, h⟩ := ak h
     replace n12 := am n12
     refine au ae [(3, af z11)] 9 [hn, hn, hn, hn, hq g9 g10] ?_ (by subst n12; kernel_rfl)
     refine Fj (Fp ?_)
     refine aS ae [(7, af (i64.wrap (x4 + 1)))] 11 ?_
     exact bu h (ai [])
   ·obtain ⟨g13, g14, h⟩ := aG h
    rcases aD h with ⟨c15, h⟩ | ⟨c15, h⟩
    ·refine au ae [(19, vb true)] 13 [hn, hn, hq g13 g14, ht c15] ?_
     exact jl true h
    ·refine au ae [(19, vb (decide (((p0.data.toList.getD x4.toNat 0).toNat : Int) > 57)))] 13 [hn, hn, hq g13 g14, hf c15, hn, hn, hn, hq g13 g14] ?_
     exact jl (decide (((p0.data.toList.getD x4.toNat 0).toNat : Int) > 57)) h (ai [])
  ·refine exit (Fb ?_)
   exact aU h rfl (ai [])
 ·unfold ui at h
  show (_ : Exit → St → Prop) (.exit 0) _
  refine E6 (Fp ?_)
  refine ah ae [(2, af x16)] 2 (ret ?_)
  apply al h (af x16)
 ·replace h : pT = some r := h
  unfold pT at h
  show (_ : Exit → St → Prop) (.ret) _
  refine Fi (Fo ?_)
  apply al h (af (-1))
structure b8 where
 Year : Int
 Month : Int
 Day : Int
def zV : b8 := ⟨0, 0, 0⟩
instance : Inhabited b8 := ⟨zV⟩
def db (x : Int) : List T := [.v (.int .i64 x)]
def aF (xs : List Int) : Nat → Nat → T := be 0 db xs
theorem xf : ∀ x, d8 (db x) := fun _ => ⟨tv, tv⟩
noncomputable def jq (x1 : Bool) : Option Bool := some x1
noncomputable def rp (p0 : Int) : Option Bool := if ((p0.tmod 4) == 0) then (if ((p0.tmod 100) != 0) then (jq true) else (jq ((p0.tmod 400) == 0))) else (jq false)
theorem zv (p0 : Int) (r : Bool) (h : rp p0 = some r) : CT 286 [af p0] [] (vb r) [] := by
 refine an ae 0 Tryz.func286 rfl (fun _ _ _ => ?_)
 unfold rp at h
 refine ah ae [] 1 (seq ?_)
 refine AW.join (ι := Bool) (fun v => ⟨[(2, vb v)], [], 0⟩) (fun v : Bool => jq v = some r) (fun x1 h => ?_) ?_
 ·unfold jq at h
  refine Fp (ret ?_)
  apply al h (vb x1)
 ·rcases aD h with ⟨c2, h⟩ | ⟨c2, h⟩
  ·rcases aD h with ⟨c3, h⟩ | ⟨c3, h⟩
   ·refine au ae [(2, vb true)] 15 [hn, ho (p := (4 : Int) ≠ 0) (by decide), ht c2, hn, hn, ho (p := (100 : Int) ≠ 0) (by decide), ht c3] ?_
    exact jl true h
   ·refine au ae [(2, vb ((p0.tmod 400) == 0))] 15 [hn, ho (p := (4 : Int) ≠ 0) (by decide), ht c2, hn, hn, ho (p := (100 : Int) ≠ 0) (by decide), hf c3, hn, hn, ho (p := (400 : Int) ≠ 0) (by decide)] ?_
    exact jl ((p0.tmod 400) == 0) h
  ·refine au ae [(2, vb false)] 15 [hn, ho (p := (4 : Int) ≠ 0) (by decide), hf c2] ?_
   exact jl false h
noncomputable def Jg (x3 : Int) : Option Int := some x3
noncomputable def Jh (p1 : Int) (x4 : Bool) : Option Int := if x4 then ((some (i64.wrap ((([31, 28, 31, 30, 31, 30, 31, 31, 30, 31, 30, 31] : List Int).getD ((i64.wrap (p1 - 1)).toNat) 0) + 1))).bind fun z6 => (Jg z6)) else (Jg (([31, 28, 31, 30, 31, 30, 31, 31, 30, 31, 30, 31] : List Int).getD ((i64.wrap (p1 - 1)).toNat) 0))
noncomputable def rq (p0 : Int) (p1 : Int) : Option Int := if 0 ≤ (i64.wrap (p1 - 1)) then (if (i64.wrap (p1 - 1)) < ((12 : Nat) : Int) then (if (p1 == 2) then ((rp p0).bind fun y9 => (Jh p1 y9)) else (Jh p1 false)) else none) else none
theorem zw (p0 : Int) (p1 : Int) (r : Int) (h : rq p0 p1 = some r) : CT 277 [af p0, af p1] [] (af r) [] := by
 refine an ae 0 Tryz.func277 rfl (fun _ _ _ => ?_)
 unfold rq at h
 refine ah ae [] 1 ?_
 obtain ⟨g1, g2, h⟩ := aG h
 refine ay ae [(5, af (([31, 28, 31, 30, 31, 30, 31, 31, 30, 31, 30, 31] : List Int).getD ((i64.wrap (p1 - 1)).toNat) 0))] 6 [hn, hn, hn, hr 12 (aF ([31, 28, 31, 30, 31, 30, 31, 31, 30, 31, 30, 31] : List Int)) (p := ((0 ≤ (i64.wrap (p1 - 1))) ∧ ((i64.wrap (p1 - 1)) < ((12 : Nat) : Int))) ∧ (12 = 12 ∧ ∀ i, i < 12 → ∀ j, j < 1 → cq [.v (.int .i64 31), .v (.int .i64 28), .v (.int .i64 31), .v (.int .i64 30), .v (.int .i64 31), .v (.int .i64 30), .v (.int .i64 31), .v (.int .i64 31), .v (.int .i64 30), .v (.int .i64 31), .v (.int .i64 30), .v (.int .i64 31)] 1 i j = aF ([31, 28, 31, 30, 31, 30, 31, 31, 30, 31, 30, 31] : List Int) i j)) (⟨⟨g1, g2⟩, ⟨rfl, fun i hi j hj => match i, hi, j, hj with | 0, _, 0, _ => rfl | 1, _, 0, _ => rfl | 2, _, 0, _ => rfl | 3, _, 0, _ => rfl | 4, _, 0, _ => rfl | 5, _, 0, _ => rfl | 6, _, 0, _ => rfl | 7, _, 0, _ => rfl | 8, _, 0, _ => rfl | 9, _, 0, _ => rfl | 10, _, 0, _ => rfl | 11, _, 0, _ => rfl | _ + 12, h, _, _ => absurd h (by omega) | _, _, _ + 1, h => absurd h (by omega)⟩⟩)] (seq ?_)
 refine AW.join (ι := Int) (fun v => ⟨[(5, af v)], [], 0⟩) (fun v : Int => Jg v = some r) (fun x3 h => ?_) ?_
 ·unfold Jg at h
  refine Fp ?_
  refine ah ae [(4, af x3)] 2 (ret ?_)
  apply al h (af x3)
 ·refine seq ?_
  refine AW.join (ι := Bool) (fun v => ⟨[(5, af (([31, 28, 31, 30, 31, 30, 31, 31, 30, 31, 30, 31] : List Int).getD ((i64.wrap (p1 - 1)).toNat) 0)), (15, vb v)], [], 0⟩) (fun v : Bool => Jh p1 v = some r) (fun x4 h => ?_) ?_
  ·unfold Jh at h
   refine Fp ?_
   refine Fw h (fun c5 h => ?_) (fun c5 h => ?_)
   ·obtain ⟨z6, n7, h⟩ := ak h
    replace n7 := am n7
    refine aS ae [(5, af z6)] 3 ?_ (by subst n7; kernel_rfl)
    exact jl z6 h
   ·refine skip ?_
    exact jl (([31, 28, 31, 30, 31, 30, 31, 31, 30, 31, 30, 31] : List Int).getD ((i64.wrap (p1 - 1)).toNat) 0) h (ai [])
  ·rcases aD h with ⟨c8, h⟩ | ⟨c8, h⟩
   ·obtain ⟨y9, e10, h⟩ := ak h
    refine au ae [(15, vb y9)] 11 [hn, ht c8, hn, hn, hk (zv p0 y9 e10)] ?_
    exact jl y9 h
   ·refine au ae [(15, vb false)] 12 [hn, hf c8] ?_
    exact jl false h
noncomputable def HD (x1 : Bool) : Option Bool := some x1
noncomputable def mr (p0 : b8) : Option Bool := if (decide (p0.Year ≥ 1800)) then (if (decide (p0.Year ≤ 2199)) then (if (decide (p0.Month ≥ 1)) then (if (decide (p0.Month ≤ 12)) then (if (decide (p0.Day ≥ 1)) then ((rq p0.Year p0.Month).bind fun y7 => (HD (decide (p0.Day ≤ y7)))) else (HD false)) else (HD false)) else (HD false)) else (HD false)) else (HD false)
theorem uj (p0 : b8) (r : Bool) (h : mr p0 = some r) : CT 264 [.agg [ag p0.Year, ag p0.Month, ag p0.Day]] [] (vb r) [] := by
 refine an ae 0 Tryz.func264 rfl (fun _ _ _ => ?_)
 unfold mr at h
 refine Fs ae [(1, pX 0 3)] [0] [(0, .box 97 [ag p0.Year, ag p0.Month, ag p0.Day])] 2 [] (seq ?_)
 refine AW.join (ι := Bool) (fun v => ⟨[(2, vb v)], [], 0⟩) (fun v : Bool => HD v = some r) (fun x1 h => ?_) ?_
 ·unfold HD at h
  refine Fp (ret ?_)
  apply al h (vb x1)
 ·rcases aD h with ⟨c2, h⟩ | ⟨c2, h⟩
  ·rcases aD h with ⟨c3, h⟩ | ⟨c3, h⟩
   ·rcases aD h with ⟨c4, h⟩ | ⟨c4, h⟩
    ·rcases aD h with ⟨c5, h⟩ | ⟨c5, h⟩
     ·rcases aD h with ⟨c6, h⟩ | ⟨c6, h⟩
      ·obtain ⟨y7, e8, h⟩ := ak h
       refine Fu ae dy [] [(2, vb (decide (p0.Day ≤ y7)))] [] 35 [hn, hn, ht c2, hn, hn, hn, ht c3, hn, hn, hn, hn, ht c4, hn, hn, hn, hn, ht c5, hn, hn, hn, hn, ht c6, hn, hn, hn, hn, hn, hn, hn, hn, hk (zw p0.Year p0.Month y7 e8)] ?_
       exact jl (decide (p0.Day ≤ y7)) h
      ·refine Fu ae dy [] [(2, vb false)] [] 36 [hn, hn, ht c2, hn, hn, hn, ht c3, hn, hn, hn, hn, ht c4, hn, hn, hn, hn, ht c5, hn, hn, hn, hn, hf c6] ?_
       exact jl false h
     ·refine Fu ae dy [] [(2, vb false)] [] 36 [hn, hn, ht c2, hn, hn, hn, ht c3, hn, hn, hn, hn, ht c4, hn, hn, hn, hn, hf c5] ?_
      exact jl false h
    ·refine Fu ae dy [] [(2, vb false)] [] 36 [hn, hn, ht c2, hn, hn, hn, ht c3, hn, hn, hn, hn, hf c4] ?_
     exact jl false h
   ·refine Fu ae dy [] [(2, vb false)] [] 36 [hn, hn, ht c2, hn, hn, hn, hf c3] ?_
    exact jl false h
  ·refine Fu ae dy [] [(2, vb false)] [] 36 [hn, hn, hf c2] ?_
   exact jl false h
noncomputable def gL (p0 : ByteArray) (p1 : ByteArray) (p2 : ByteArray) : Option (b8 × Int) := (ju p0).bind fun y1 => ((ju p1).bind fun y3 => ((ju p2).bind fun y5 => ((mr (⟨y1, y3, y5⟩ : b8)).bind fun y7 => (if (!y7) then (some ((⟨0, 0, 0⟩ : b8), 4)) else (some ((⟨y1, y3, y5⟩ : b8), 0))))))
theorem lI (p0 : ByteArray) (p1 : ByteArray) (p2 : ByteArray) (r : b8 × Int) (h : gL p0 p1 p2 = some r) : CT 232 [vs p0, vs p1, vs p2] [] (.tup [.agg [ag r.1.Year, ag r.1.Month, ag r.1.Day], af r.2]) [] := by
 refine an ae 0 Tryz.func232 rfl (fun _ _ _ => ?_)
 unfold gL at h
 refine Fs ae [(6, pX 0 3)] [0] [(0, .box 97 [ag 0, ag 0, ag 0])] 2 [] ?_
 obtain ⟨y1, e2, h⟩ := ak h
 obtain ⟨y3, e4, h⟩ := ak h
 obtain ⟨y5, e6, h⟩ := ak h
 refine Fs ae [(8, pX 6 3)] [6] [(6, .box 97 [ag y1, ag y3, ag y5])] 8 [hn, hk (pp p0 y1 e2), hn, hk (pp p1 y3 e4), hn, hk (pp p2 y5 e6)] (seq ?_)
 obtain ⟨y7, e8, h⟩ := ak h
 refine ay ae [(18, vb (!y7))] 10 [hn, hk (uj (⟨y1, y3, y5⟩ : b8) y7 e8)] ?_
 refine Fw h (fun c9 h => ?_) (fun c9 h => ?_)
 ·refine Fs ae [(7, af 4)] [0] [(0, .box 97 [ag 0, ag 0, ag 0])] 13 [] (ret (Fo ?_))
  apply al h (.tup [.agg [ag 0, ag 0, ag 0], af 4])
 ·refine skip (Fp ?_)
  refine Fs ae [(7, af 0)] [0] [(0, .box 97 [ag y1, ag y3, ag y5])] 13 [] (ret ?_)
  apply al h (.tup [.agg [ag y1, ag y3, ag y5], af 0])
noncomputable def jm : Option (b8 × Int) := some ((⟨0, 0, 0⟩ : b8), 4)
noncomputable def lJ (p0 : ByteArray) (x20 : Bool) : Option (b8 × Int) := if x20 then (if 6 ≤ p0.size then (if 2 ≤ p0.size then (if 3 ≤ 5 then (if 5 ≤ p0.size then (aM (gL (p0.extract 6 p0.size) (p0.extract 0 2) (p0.extract 3 5)) fun y26 y27 => (some (y26, y27))) else none) else none) else none) else none) else jm
noncomputable def lK (p0 : ByteArray) (x11 : Bool) : Option (b8 × Int) := if x11 then (if 6 ≤ p0.size then (if 3 ≤ 5 then (if 5 ≤ p0.size then (if 2 ≤ p0.size then (aM (gL (p0.extract 6 p0.size) (p0.extract 3 5) (p0.extract 0 2)) fun y17 y18 => (some (y17, y18))) else none) else none) else none) else none) else (if (2 : Int) < (p0.size : Int) then (if (((p0.data.toList.getD 2 0).toNat : Int) == 47) then (if (5 : Int) < (p0.size : Int) then (lJ p0 (((p0.data.toList.getD 5 0).toNat : Int) == 47)) else none) else (lJ p0 false)) else none)
noncomputable def lL (p0 : ByteArray) (x2 : Bool) : Option (b8 × Int) := if x2 then (if 4 ≤ p0.size then (if 5 ≤ 7 then (if 7 ≤ p0.size then (if 8 ≤ p0.size then (aM (gL (p0.extract 0 4) (p0.extract 5 7) (p0.extract 8 p0.size)) fun y8 y9 => (some (y8, y9))) else none) else none) else none) else none) else (if (2 : Int) < (p0.size : Int) then (if (((p0.data.toList.getD 2 0).toNat : Int) == 46) then (if (5 : Int) < (p0.size : Int) then (lK p0 (((p0.data.toList.getD 5 0).toNat : Int) == 46)) else none) else (lK p0 false)) else none)
noncomputable def qW (p0 : ByteArray) : Option (b8 × Int) := if ((p0.size : Int) != 10) then jm else (if (4 : Int) < (p0.size : Int) then (if (((p0.data.toList.getD 4 0).toNat : Int) == 45) then (if (7 : Int) < (p0.size : Int) then (lL p0 (((p0.data.toList.getD 7 0).toNat : Int) == 45)) else none) else (lL p0 false)) else none)
theorem zc (p0 : ByteArray) (r : b8 × Int) (h : qW p0 = some r) : CT 230 [vs p0] [] (.tup [.agg [ag r.1.Year, ag r.1.Month, ag r.1.Day], af r.2]) [] := by
 refine an ae 0 Tryz.func230 rfl (fun _ _ _ => ?_)
 unfold qW at h
 refine Fs ae [(2, pX 0 3)] [0] [(0, .box 97 [ag 0, ag 0, ag 0])] 2 [] (seq ?_)
 refine AW.join (ι := Unit) (fun v => ⟨[(2, pX 0 3)], [(0, .box 97 [ag 0, ag 0, ag 0])], 1⟩) (fun v : Unit => jm = some r) (fun v h => ?_) ?_
 ·replace h : jm = some r := h
  unfold jm at h
  refine Fp ?_
  refine Fs ae [(3, af 4)] [0] [(0, .box 97 [ag 0, ag 0, ag 0])] 4 [] (ret ?_)
  apply al h (.tup [.agg [ag 0, ag 0, ag 0], af 4])
 ·refine block ?_
  refine ah ae [(4, vb ((p0.size : Int) != 10))] 6 ?_
  refine Fw h (fun c1 h => ?_) (fun c1 h => ?_)
  ·refine skip (Fj ?_)
   exact jl () h (ai [(0, 0)])
  ·refine seq ?_
   refine AW.join (ι := Bool) (fun v => ⟨[(0, vs p0), (2, pX 0 3), (8, vb v)], [(0, .box 97 [ag 0, ag 0, ag 0])], 1⟩) (fun v : Bool => lL p0 v = some r) (fun x2 h => ?_) ?_
   ·unfold lL at h
    refine Fp ?_
    refine Fw h (fun c3 h => ?_) (fun c3 h => ?_)
    ·obtain ⟨g4, g5, h⟩ := aG h
     obtain ⟨g6, g7, h⟩ := aG h
     obtain ⟨y8, y9, e10, h⟩ := aO h
     refine Fv ae dy [[], [], [], [], [], [], [], [], [], [0]] [(3, af y9)] [(0, .box 97 [ag y8.Year, ag y8.Month, ag y8.Day])] 11 [hn, ho (p := (True) ∧ (0 ≤ (4 : Int)) ∧ (0 ≤ 4) ∧ (4 ≤ p0.size)) (⟨tv, (by decide), (Nat.zero_le _), g4⟩), hn, ho (p := (0 ≤ (5 : Int)) ∧ (0 ≤ (7 : Int)) ∧ (5 ≤ 7) ∧ (7 ≤ p0.size)) (⟨(by decide), (by decide), g5, g6⟩), hn, ho (p := (0 ≤ (8 : Int)) ∧ (True) ∧ (8 ≤ p0.size) ∧ (p0.size ≤ p0.size)) (⟨(by decide), tv, g7, (F9 _)⟩), hk (lI (p0.extract 0 4) (p0.extract 5 7) (p0.extract 8 p0.size) (y8, y9) e10)] ?_
     refine ret (Fi ?_)
     refine jy ?_
     refine Fo ?_
     apply al h (.tup [.agg [ag y8.Year, ag y8.Month, ag y8.Day], af y9])
    ·refine seq ?_
     refine AW.join (ι := Bool) (fun v => ⟨[(0, vs p0), (2, pX 0 3), (26, vb v)], [(0, .box 97 [ag 0, ag 0, ag 0])], 1⟩) (fun v : Bool => lK p0 v = some r) (fun x11 h => ?_) ?_
     ·unfold lK at h
      refine Fp ?_
      refine Fw h (fun c12 h => ?_) (fun c12 h => ?_)
      ·obtain ⟨g13, g14, h⟩ := aG h
       obtain ⟨g15, g16, h⟩ := aG h
       obtain ⟨y17, y18, e19, h⟩ := aO h
       refine Fv ae dy [[], [], [], [], [], [], [], [], [], [0]] [(3, af y18)] [(0, .box 97 [ag y17.Year, ag y17.Month, ag y17.Day])] 11 [hn, ho (p := (0 ≤ (6 : Int)) ∧ (True) ∧ (6 ≤ p0.size) ∧ (p0.size ≤ p0.size)) (⟨(by decide), tv, g13, (F9 _)⟩), hn, ho (p := (0 ≤ (3 : Int)) ∧ (0 ≤ (5 : Int)) ∧ (3 ≤ 5) ∧ (5 ≤ p0.size)) (⟨(by decide), (by decide), g14, g15⟩), hn, ho (p := (True) ∧ (0 ≤ (2 : Int)) ∧ (0 ≤ 2) ∧ (2 ≤ p0.size)) (⟨tv, (by decide), (Nat.zero_le _), g16⟩), hk (lI (p0.extract 6 p0.size) (p0.extract 3 5) (p0.extract 0 2) (y17, y18) e19)] ?_
       refine ret (Fi ?_)
       refine jy ?_
       refine Fo ?_
       apply al h (.tup [.agg [ag y17.Year, ag y17.Month, ag y17.Day], af y18])
      ·refine seq ?_
       refine AW.join (ι := Bool) (fun v => ⟨[(0, vs p0), (2, pX 0 3), (44, vb v)], [(0, .box 97 [ag 0, ag 0, ag 0])], 1⟩) (fun v : Bool => lJ p0 v = some r) (fun x20 h => ?_) ?_
       ·unfold lJ at h
        refine Fp ?_
        refine Fw h (fun c21 h => ?_) (fun c21 h => ?_)
        ·obtain ⟨g22, g23, h⟩ := aG h
         obtain ⟨g24, g25, h⟩ := aG h
         obtain ⟨y26, y27, e28, h⟩ := aO h
         refine Fv ae dy [[], [], [], [], [], [], [], [], [], [0]] [(3, af y27)] [(0, .box 97 [ag y26.Year, ag y26.Month, ag y26.Day])] 11 [hn, ho (p := (0 ≤ (6 : Int)) ∧ (True) ∧ (6 ≤ p0.size) ∧ (p0.size ≤ p0.size)) (⟨(by decide), tv, g22, (F9 _)⟩), hn, ho (p := (True) ∧ (0 ≤ (2 : Int)) ∧ (0 ≤ 2) ∧ (2 ≤ p0.size)) (⟨tv, (by decide), (Nat.zero_le _), g23⟩), hn, ho (p := (0 ≤ (3 : Int)) ∧ (0 ≤ (5 : Int)) ∧ (3 ≤ 5) ∧ (5 ≤ p0.size)) (⟨(by decide), (by decide), g24, g25⟩), hk (lI (p0.extract 6 p0.size) (p0.extract 0 2) (p0.extract 3 5) (y26, y27) e28)] ?_
         refine ret (Fi ?_)
         refine jy ?_
         refine Fo ?_
         apply al h (.tup [.agg [ag y26.Year, ag y26.Month, ag y26.Day], af y27])
        ·refine skip (Fj ?_)
         exact jl () h (ai [(0, 0)])
       ·obtain ⟨g29, h⟩ := aN h
        rcases aD h with ⟨c30, h⟩ | ⟨c30, h⟩
        ·obtain ⟨g31, h⟩ := aN h
         refine au ae [(44, vb (((p0.data.toList.getD 5 0).toNat : Int) == 47))] 10 [hn, ho (p := (0 ≤ (2 : Int)) ∧ ((2 : Int) < (p0.size : Int))) (⟨(by decide), g29⟩), ht c30, hn, hn, ho (p := (0 ≤ (5 : Int)) ∧ ((5 : Int) < (p0.size : Int))) (⟨(by decide), g31⟩)] ?_
         exact jl (((p0.data.toList.getD 5 0).toNat : Int) == 47) h (ai [(0, 0)])
        ·refine au ae [(44, vb false)] 10 [hn, ho (p := (0 ≤ (2 : Int)) ∧ ((2 : Int) < (p0.size : Int))) (⟨(by decide), g29⟩), hf c30] ?_
         exact jl false h (ai [(0, 0)])
     ·obtain ⟨g32, h⟩ := aN h
      rcases aD h with ⟨c33, h⟩ | ⟨c33, h⟩
      ·obtain ⟨g34, h⟩ := aN h
       refine au ae [(26, vb (((p0.data.toList.getD 5 0).toNat : Int) == 46))] 10 [hn, ho (p := (0 ≤ (2 : Int)) ∧ ((2 : Int) < (p0.size : Int))) (⟨(by decide), g32⟩), ht c33, hn, hn, ho (p := (0 ≤ (5 : Int)) ∧ ((5 : Int) < (p0.size : Int))) (⟨(by decide), g34⟩)] ?_
       exact jl (((p0.data.toList.getD 5 0).toNat : Int) == 46) h (ai [(0, 0)])
      ·refine au ae [(26, vb false)] 10 [hn, ho (p := (0 ≤ (2 : Int)) ∧ ((2 : Int) < (p0.size : Int))) (⟨(by decide), g32⟩), hf c33] ?_
       exact jl false h (ai [(0, 0)])
   ·obtain ⟨g35, h⟩ := aN h
    rcases aD h with ⟨c36, h⟩ | ⟨c36, h⟩
    ·obtain ⟨g37, h⟩ := aN h
     refine au ae [(8, vb (((p0.data.toList.getD 7 0).toNat : Int) == 45))] 15 [hn, ho (p := (0 ≤ (4 : Int)) ∧ ((4 : Int) < (p0.size : Int))) (⟨(by decide), g35⟩), ht c36, hn, hn, ho (p := (0 ≤ (7 : Int)) ∧ ((7 : Int) < (p0.size : Int))) (⟨(by decide), g37⟩)] ?_
     exact jl (((p0.data.toList.getD 7 0).toNat : Int) == 45) h (ai [(0, 0)])
    ·refine au ae [(8, vb false)] 15 [hn, ho (p := (0 ≤ (4 : Int)) ∧ ((4 : Int) < (p0.size : Int))) (⟨(by decide), g35⟩), hf c36] ?_
     exact jl false h (ai [(0, 0)])
def eA : Int → Nat → List Int
 | _, 0 => []
 | n, d + 1 => eA (i64.wrap (n.tdiv 10)) d ++ [u8.wrap (i64.wrap (48 + n.tmod 10))]
theorem wo : ∀ (d : Nat) (n : Int), (eA n d).length = d
 | 0, _ => rfl
 | d + 1, n => by rw [eA, FO, wo d]; rfl
theorem BF (l : List Int) (n : Int) : CT 265 [.c (.ref 0 1 0 l.length), af n, af 0] [(0, .row 5 false 1 l.length (bf l))] (.c (.ref 0 1 0 l.length)) [(0, .row 5 false 1 l.length (bf l))] := by
 refine an ae 1 Tryz.func265 rfl (fun _ _ _ => ?_)
 refine ah ae [] 2 (seq ?_)
 refine ah ae [(8, vb true)] 4 ?_
 refine cond (b := true) (by kernel_rfl) (fun _ => ?_) (fun e => by cases e)
 refine ah ae [(6, rX 0 1 l.length)] 6 (ret ?_)
 exact aW (.inr rfl) [(0, 0)] 1 (.c (.ref 0 1 0 l.length))
theorem Nc (l : List Int) (n m : Int) (L : List Int) (hm : (m == 0) = false) (hL : L.length ≤ 1000) (hc : CT 265 [.c (.ref 0 1 0 l.length), af (i64.wrap (n.tdiv 10)), af (i64.wrap (m - 1))] [(0, .row 5 false 1 l.length (bf l))] (.c (.ref 0 1 0 L.length)) [(0, .row 5 false 1 L.length (bf L))]) :
  CT 265 [.c (.ref 0 1 0 l.length), af n, af m] [(0, .row 5 false 1 l.length (bf l))] (.c (.ref 1 1 0 (L ++ [u8.wrap (i64.wrap (48 + n.tmod 10))]).length)) [(1, .row 5 false 1 (L ++ [u8.wrap (i64.wrap (48 + n.tmod 10))]).length (bf (L ++ [u8.wrap (i64.wrap (48 + n.tmod 10))])))] := by
 refine an ae 1 Tryz.func265 rfl (fun _ _ _ => ?_)
 refine ah ae [] 2 (seq ?_)
 refine ah ae [(8, vb (m == 0))] 4 ?_
 refine cond (b := m == 0) (by kernel_rfl) (fun e => by rw [hm] at e; cases e) (fun _ => ?_)
 refine skip (Fp ?_)
 have g : L.length + ([u8.wrap (i64.wrap (48 + n.tmod 10))] : List Int).length ≤ 1099511627776 := by simp; omega
 refine Fs ae [(6, .c (.ref 14 1 0 (L ++ [u8.wrap (i64.wrap (48 + n.tmod 10))]).length))] [0, 13, 14] [(14, .row 5 false 1 (L ++ [u8.wrap (i64.wrap (48 + n.tmod 10))]).length (bf (L ++ [u8.wrap (i64.wrap (48 + n.tmod 10))])))] 16 [hn, hn, ho (p := (10 : Int) ≠ 0) (by decide), hn, hn, hl [0] [] 0 hc, hn, ho (p := (10 : Int) ≠ 0) (by decide), hn, hn, bh 0 cU 1 (fun _ => rfl) [u8.wrap (i64.wrap (48 + n.tmod 10))], bY 0 cU 1 1 L [u8.wrap (i64.wrap (48 + n.tmod 10))] g (by decide)] (ret ?_)
 exact aW (.inr rfl) [(1, 14)] 2 (.c (.ref 14 1 0 (L ++ [u8.wrap (i64.wrap (48 + n.tmod 10))]).length))
theorem Nf (l : List Int) (n m : Int) (L : List Int) (hm : (m == 0) = false) (hL : L.length ≤ 1000) (hc : CT 265 [.c (.ref 0 1 0 l.length), af (i64.wrap (n.tdiv 10)), af (i64.wrap (m - 1))] [(0, .row 5 false 1 l.length (bf l))] (.c (.ref 1 1 0 L.length)) [(1, .row 5 false 1 L.length (bf L))]) :
  CT 265 [.c (.ref 0 1 0 l.length), af n, af m] [(0, .row 5 false 1 l.length (bf l))] (.c (.ref 1 1 0 (L ++ [u8.wrap (i64.wrap (48 + n.tmod 10))]).length)) [(1, .row 5 false 1 (L ++ [u8.wrap (i64.wrap (48 + n.tmod 10))]).length (bf (L ++ [u8.wrap (i64.wrap (48 + n.tmod 10))])))] := by
 refine an ae 1 Tryz.func265 rfl (fun _ _ _ => ?_)
 refine ah ae [] 2 (seq ?_)
 refine ah ae [(8, vb (m == 0))] 4 ?_
 refine cond (b := m == 0) (by kernel_rfl) (fun e => by rw [hm] at e; cases e) (fun _ => ?_)
 refine skip (Fp ?_)
 have g : L.length + ([u8.wrap (i64.wrap (48 + n.tmod 10))] : List Int).length ≤ 1099511627776 := by simp; omega
 refine Fs ae [(6, .c (.ref 15 1 0 (L ++ [u8.wrap (i64.wrap (48 + n.tmod 10))]).length))] [0, 9, 14, 15] [(15, .row 5 false 1 (L ++ [u8.wrap (i64.wrap (48 + n.tmod 10))]).length (bf (L ++ [u8.wrap (i64.wrap (48 + n.tmod 10))])))] 17 [hn, hn, ho (p := (10 : Int) ≠ 0) (by decide), hn, hn, hl [0] [] 1 hc, hn, ho (p := (10 : Int) ≠ 0) (by decide), hn, hn, bh 0 cU 1 (fun _ => rfl) [u8.wrap (i64.wrap (48 + n.tmod 10))], bY 0 cU 1 1 L [u8.wrap (i64.wrap (48 + n.tmod 10))] g (by decide)] (ret ?_)
 exact aW (.inr rfl) [(1, 15)] 2 (.c (.ref 15 1 0 (L ++ [u8.wrap (i64.wrap (48 + n.tmod 10))]).length))
theorem wF (l : List Int) (hl : l.length ≤ 100) : ∀ (d : Nat) (n : Int), d < 20 → CT 265 [.c (.ref 0 1 0 l.length), af n, af ((d + 1 : Nat) : Int)] [(0, .row 5 false 1 l.length (bf l))] (.c (.ref 1 1 0 (l ++ eA n (d + 1)).length)) [(1, .row 5 false 1 (l ++ eA n (d + 1)).length (bf (l ++ eA n (d + 1))))]
 | 0, n, _ => by
  have h := Nc l n 1 l (by decide) (by omega) (BF l (i64.wrap (n.tdiv 10)))
  simp only [eA, Gf]
  exact h
 | d + 1, n, hd => by
  have ih := wF l hl d (i64.wrap (n.tdiv 10)) (by omega)
  have hw : i64.wrap (((d + 1 + 1 : Nat) : Int) - 1) = ((d + 1 : Nat) : Int) := by
   have := hd
   simp only [IntKind.wrap, IntKind.bits, IntKind.signed]
   simp
   omega
  have h := Nf l n ((d + 1 + 1 : Nat) : Int) (l ++ eA (i64.wrap (n.tdiv 10)) (d + 1)) (by rw [beq_eq_false_iff_ne]; omega) (by rw [FO, wo]; omega) (by rw [hw]; exact ih)
  rw [F7] at h
  rw [eA]
  exact h
theorem B0 {P : Program} {f : FuncId} {args : List AV} {ty : TypeId} {n : Nat} {g g' : Nat → Nat → T} (hc : cz P f (.c (.ref 0 1 0 0) :: args) [(0, .row ty false 1 0 g)] (.c (.ref 1 1 0 n)) [(1, .row ty false 1 n g')]) : cz P f (.c (ax) :: args) [] (.c (.ref 0 1 0 n)) [(0, .row ty false 1 n g')] := by
 refine ⟨hc.1, fun w okA ρ vs hA hdom hin hinj hv => ?_⟩
 obtain rfl : ρ = fun _ => none := by
  funext id
  cases e : ρ id with
  | none => rfl
  | some l => obtain ⟨b, hb⟩ := hdom id (by rw [e]; exact fun h => by cases h); cases hb
 obtain ⟨l⟩ := vs
 rcases l with _ | ⟨v0, l⟩
 ·exact hv.elim
 obtain ⟨⟨rfl, _⟩, hv⟩ := hv
 have hE : bA (fun _ => none : Ren) (fun id => if id = 0 then some .nil else none) := fun _ _ h => by cases h
 refine Calls.mono (hc.2 w okA (fun id => if id = 0 then some .nil else none) _ hA (fun id h => ?_) (fun id blk h => ?_) (fun i j b c c' h => ?_) ⟨⟨.nil, rfl, rfl, rfl, none, rfl⟩, hv.mono (RV.mono ⟨fun _ h => h, fun _ _ => rfl⟩ hE)⟩) ?_
 ·match id, h with
  | 0, _ => exact ⟨_, rfl⟩
  | k + 1, h => exact absurd rfl h
 ·match id, h with
  | 0, h => obtain rfl := am h; exact ⟨.nil, rfl, rfl, fun b cap e => by cases e⟩
  | k + 1, h => cases h
 ·split at h <;> cases h
 rintro e w' ⟨v, ρ', rfl, hE', hU, hv', hh, hi⟩
 obtain ⟨l1, a1, b1, c1⟩ := hh 1 _ rfl
 have hk : ∀ b, okOf ⟨w, okA, fun id => if id = 0 then some .nil else none⟩ w' ρ' (Vm.look [(1, .row ty false 1 n g')]) b → okOf ⟨w, okA, fun _ => none⟩ w' (fun id => if id = 0 then ρ' 1 else none) (Vm.look [(0, .row ty false 1 n g')]) b := by
  rintro b ⟨q1, q2, q3⟩
  refine ⟨q1, ?_, fun id blk cap e1 e2 e3 => ?_⟩
  ·rcases q2 with q | q | ⟨id, cap, q⟩
   ·exact .inl q
   ·exact .inr (.inl q)
   ·first | (split at q <;> cases q) | (simp only at q; split at q <;> cases q)
  ·match id, e1 with
   | 0, e1 => exact q3 1 blk cap e1 e2 e3
   | k + 1, e1 => cases e1
 obtain ⟨lq, e1, hv2⟩ := HV.of (w := w') (ok := fun _ => False) hv'
 rw [a1] at e1
 obtain rfl := am e1
 have hrv : RC w' (fun _ => False) (fun id => if id = 0 then ρ' 1 else none) (.ref 0 1 0 n) v := ⟨l1, a1, by cases l1 with | nil => exact ⟨rfl, hv2.1, hv2.2⟩ | _ b cap => exact hv2⟩
 refine ⟨v, (fun id => if id = 0 then ρ' 1 else none), rfl, (fun _ _ h => by cases h), ⟨hU.os, hU.tape, hU.output, hU.size, fun b hb _ => hU.block b hb fun ⟨id, cap, q⟩ => (by split at q <;> cases q)⟩, hrv, fun id blk e1 => ?_, fun i j b c c' x y h1 h2 h3 h4 h5 => ?_⟩
 ·match id, e1 with
  | 0, e1 =>
   obtain rfl := am e1
   refine ⟨l1, a1, Cn hk b1, fun b cap e => ⟨(c1 b cap e).1, ?_⟩⟩
   rcases (c1 b cap e).2 with q | ⟨id, cap, q⟩
   ·exact .inl q
   ·first | (split at q <;> cases q) | (simp only at q; split at q <;> cases q)
  | k + 1, e1 => cases e1
 ·match i, h1, j, h2 with
  | 0, _, 0, _ => rfl
  | k + 1, h, _, _ => cases h
  | 0, _, k + 1, h => cases h
noncomputable def jr (p0 : List Int) (p1 : Int) (p2 : Int) : Option (List Int) := if (1 ≤ p2 ∧ p2 ≤ 20) ∧ p0.length ≤ 100 then some (p0 ++ eA p1 p2.toNat) else none
theorem o7 (p0 : List Int) (p1 : Int) (p2 : Int) (r : List Int) (h : jr p0 p1 p2 = some r) : CT 265 [.c (.ref 0 1 0 p0.length), af p1, af p2] [(0, .row 5 false 1 p0.length (bf p0))] (.c (.ref 1 1 0 r.length)) [(1, .row 5 false 1 r.length (bf r))] := by
 unfold jr at h
 obtain ⟨⟨⟨h1, h2⟩, h3⟩, h⟩ := aN h
 obtain rfl := am h
 obtain ⟨d, rfl⟩ : ∃ d : Nat, p2 = ((d + 1 : Nat) : Int) := ⟨(p2 - 1).toNat, by omega⟩
 exact wF p0 h3 d p1 (by omega)
noncomputable def uM (p1 : Int) (p2 : Int) : Option (List Int) := jr [] p1 p2
theorem yF (p1 : Int) (p2 : Int) (r : List Int) (h : uM p1 p2 = some r) : CT 265 [.c (ax), af p1, af p2] [] (.c (.ref 0 1 0 r.length)) [(0, .row 5 false 1 r.length (bf r))] :=
 B0 (o7 [] p1 p2 r h)
noncomputable def qI (p0 : b8) : Option (ByteArray × Int) := (mr p0).bind fun y1 => (if (!y1) then (some ((mk #[]), 4)) else ((uM p0.Year 4).bind fun y4 => ((jr y4 p0.Month 2).bind fun y6 => ((jr y6 p0.Day 2).bind fun y8 => (some ((Vm.strOf y8), 0))))))
theorem yP (p0 : b8) (r : ByteArray × Int) (h : qI p0 = some r) : CT 231 [.agg [ag p0.Year, ag p0.Month, ag p0.Day]] [] (.tup [vs r.1, af r.2]) [] := by
 refine an ae 0 Tryz.func231 rfl (fun _ _ _ => ?_)
 unfold qI at h
 refine Fs ae [(1, pX 0 3)] [0] [(0, .box 97 [ag p0.Year, ag p0.Month, ag p0.Day])] 3 [] (seq ?_)
 obtain ⟨y1, e2, h⟩ := ak h
 refine ay ae [(6, vb (!y1))] 5 [hn, hk (uj p0 y1 e2)] ?_
 refine Fw h (fun c3 h => ?_) (fun c3 h => ?_)
 ·refine ah ae [(3, af 4), (2, vs (mk #[]))] 7 (ret (Fo ?_))
  apply al h (.tup [vs (mk #[]), af 4])
 ·refine skip (Fp ?_)
  obtain ⟨y4, e5, h⟩ := ak h
  obtain ⟨y6, e7, h⟩ := ak h
  obtain ⟨y8, e9, h⟩ := ak h
  refine Fv ae dy [[], [], [7], [], [], [7, 10], [], [], [10, 13]] [(3, af 0), (2, vs (Vm.strOf y8))] [] 17 [hn, hn, hm [] [] 1 (yF p0.Year 4 y4 e5) ⟨bV sX _ _ _, tv⟩, hn, hn, hm [7] [] 1 (o7 y4 p0.Month 2 y6 e7) ⟨bV sX _ _ _, tv⟩, hn, hn, hm [10] [] 1 (o7 y6 p0.Day 2 y8 e9) ⟨bV sX _ _ _, tv⟩, hi (fun i => y8.getD i 0) (p := (0 + y8.length ≤ y8.length) ∧ ∀ i, i < y8.length → (fun i j => bf y8 (0 + i) j) i 0 = .v (.int .u8 (y8.getD i 0))) (⟨br, fun i _ => by simp only [Gg] <;> rfl⟩)] ?_
  refine ret ?_
  apply al h (.tup [vs (Vm.strOf y8), af 0])
noncomputable def qX (p0 : aY) (p1 : ByteArray) : Option (ByteArray × Int) := aM (qW p1) fun y1 y2 => (if (y2 != 0) then (some ((mk #[]), y2)) else (aM (qI y1) fun y5 y6 => (some (y5, y6))))
theorem ze (p0 : aY) (p1 : ByteArray) (r : ByteArray × Int) (h : qX p0 p1 = some r) : CT 192 [.agg (bS p0), vs p1] [] (.tup [vs r.1, af r.2]) [] := by
 refine an ae 0 Tryz.func192 rfl (fun _ _ _ => ?_)
 unfold qX at h
 refine Fs ae [] [0] [] 3 [] ?_
 obtain ⟨y1, y2, e3, h⟩ := aO h
 refine Fs ae [(7, af y2), (6, pX 7 3)] [7] [(7, .box 97 [ag y1.Year, ag y1.Month, ag y1.Day])] 10 [hn, hk (zc p1 (y1, y2) e3)] (seq ?_)
 refine ah ae [(14, vb (y2 != 0))] 12 ?_
 refine Fw h (fun c4 h => ?_) (fun c4 h => ?_)
 ·refine ah ae [(5, af y2), (4, vs (mk #[]))] 15 (ret (Fo ?_))
  apply al h (.tup [vs (mk #[]), af y2])
 ·refine skip (Fp ?_)
  obtain ⟨y5, y6, e7, h⟩ := aO h
  refine ay ae [(5, af y6), (4, vs y5)] 17 [hn, hk (yP y1 (y5, y6) e7)] (ret ?_)
  apply al h (.tup [vs y5, af y6])
noncomputable def lZ (p0 : ByteArray) : Option (ByteArray × Int) := aM (jC p0) fun y1 y2 => (if (y2 != 0) then (some ((mk #[]), y2)) else ((fb y1).bind fun y5 => ((strings_Join y5 (mk #[])).bind fun y7 => (if (decide ((y7.size : Int) > 12)) then (some ((mk #[]), 1)) else (some (y7, 0))))))
theorem tX (p0 : ByteArray) (r : ByteArray × Int) (h : lZ p0 = some r) : CT 197 [vs p0] [] (.tup [vs r.1, af r.2]) [] := by
 refine an ae 0 Tryz.func197 rfl (fun _ _ _ => ?_)
 unfold lZ at h
 refine ah ae [] 2 ?_
 obtain ⟨y1, y2, e3, h⟩ := aO h
 refine ay ae [(5, af y2), (4, vs y1)] 8 [hn, hk (qi p0 (y1, y2) e3)] (seq ?_)
 refine ah ae [(13, vb (y2 != 0))] 10 ?_
 refine Fw h (fun c4 h => ?_) (fun c4 h => ?_)
 ·refine ah ae [(3, af y2), (2, vs (mk #[]))] 13 (ret (Fo ?_))
  apply al h (.tup [vs (mk #[]), af y2])
 ·refine skip (Fp ?_)
  obtain ⟨y5, e6, h⟩ := ak h
  obtain ⟨y7, e8, h⟩ := ak h
  refine Fs ae [(6, vs y7)] [11] [] 13 [hn, hm [] [] 1 (gw y1 y5 e6) ⟨bV Vs _ _ _, tv⟩, hg [] [] true 0 (q := (0 + y5.length ≤ y5.length) ∧ (True) ∧ (True)) ⟨br, tv, tv⟩ (a0 := [vl 1 Rs y5, vs (mk #[])]) (tW y5 (mk #[]) y7 e8) ⟨aR.refl _, aR.refl _, tv⟩ (fun _ => tv)] (seq ?_)
  refine ah ae [(20, vb (decide ((y7.size : Int) > 12)))] 16 ?_
  refine Fw h (fun c9 h => ?_) (fun c9 h => ?_)
  ·refine ah ae [(3, af 1), (2, vs (mk #[]))] 18 (ret (Fo ?_))
   apply al h (.tup [vs (mk #[]), af 1])
  ·refine skip (Fp ?_)
   refine ah ae [(3, af 0), (2, vs y7)] 19 (ret ?_)
   apply al h (.tup [vs y7, af 0])
noncomputable def pq (p0 : aY) (p1 : ByteArray) : Option (ByteArray × Int) := aM (lZ p1) fun y1 y2 => (some (y1, y2))
theorem xX (p0 : aY) (p1 : ByteArray) (r : ByteArray × Int) (h : pq p0 p1 = some r) : CT 196 [.agg (bS p0), vs p1] [] (.tup [vs r.1, af r.2]) [] := by
 refine an ae 0 Tryz.func196 rfl (fun _ _ _ => ?_)
 unfold pq at h
 refine Fs ae [] [0] [] 3 [] ?_
 obtain ⟨y1, y2, e3, h⟩ := aO h
 refine ay ae [(5, af y2), (4, vs y1)] 8 [hn, hk (tX p1 (y1, y2) e3)] (ret ?_)
 apply al h (.tup [vs y1, af y2])
noncomputable def oz (p0 : aA) (pc0 : ByteArray) : Option (Bool × ByteArray) := some ((p0.From.toList == pc0.toList), pc0)
theorem xB (p0 : aA) (pc0 : ByteArray) (r : Bool × ByteArray) (h : oz p0 pc0 = some r) : CT 234 [.agg [cs p0.From, cs p0.To], .c (.ptr 0 1 0 0)] [(0, .box 9 [cs pc0])] (vb r.1) [(0, .box 9 [cs r.2])] := by
 refine an ae 1 Tryz.func234 rfl (fun _ _ _ => ?_)
 unfold oz at h
 refine Fs ae [(2, pX 1 2)] [1] [(1, .box 149 [cs p0.From, cs p0.To])] 3 [] ?_
 refine ah ae [(3, vb (p0.From.toList == pc0.toList))] 8 (ret ?_)
 obtain rfl := am h
 exact aW (.inr rfl) [(0, 0)] 1 (vb (p0.From.toList == pc0.toList))
noncomputable def nA (p0 : List aA) (x3 : Int) (x4 : ByteArray) : Option ((Int × ByteArray) ⊕ (ByteArray ⊕ (Int × ByteArray))) := if (decide (x3 < (p0.length : Int))) then (if 0 ≤ x3 then (if x3 < (p0.length : Int) then (aM (oz (p0.getD x3.toNat bK) x4) fun y11 y12 => (if y11 then (some (.inr (.inr (x3, y12)))) else (some (.inl (i64.wrap (x3 + 1), y12))))) else none) else none) else (some (.inr (.inl x4)))
noncomputable def s6 (x15 : ByteArray) : Option (Int × ByteArray) := some ((-1), x15)
noncomputable def nB (x16 : Int) (x17 : ByteArray) : Option (Int × ByteArray) := some (x16, x17)
noncomputable def nD (p0 : List aA) (p1d0 : ByteArray) : Option (Int × ByteArray) := ca (loop (fun v : Int × ByteArray => nA p0 v.1 v.2) (0, p1d0)) (fun t => s6 t) (fun t => nB t.1 t.2)
theorem xm (p0 : List aA) (p1d0 : ByteArray) (r : Int × ByteArray) (h : nD p0 p1d0 = some r) : CT 158 [vl 2 bv p0, .clo 234 [] [.c (.ptr 0 1 0 0)]] [(0, .box 9 [cs p1d0])] (af r.1) [(0, .box 9 [cs r.2])] := by
 refine an ae 1 Tryz.func158 rfl (fun _ _ _ => ?_)
 unfold nD at h
 refine ah ae [] 2 (seq ?_)
 refine ah ae [(8, af 0), (7, af (p0.length : Int))] 5 (block ?_)
 refine FA h (fun v => ⟨[(0, vl 2 bv p0), (1, .clo 234 [] [.c (.ptr 0 1 0 0)]), (7, af (p0.length : Int)), (8, af v.1)], [(0, .box 9 [cs v.2])], 1⟩) (fun t => (.exit 0, ⟨[], [(0, .box 9 [cs t])], 1⟩)) (fun t => (.ret, ⟨[(4, af t.1)], [(0, .box 9 [cs t.2])], 1⟩)) (ai [(0, 0)]) (fun _ => tv) (fun _ => tv) ?_ (fun x15 h => ?_) (fun t h => ?_)
 ·clear h
  intro v o h
  obtain ⟨x3, x4⟩ := v
  replace h : nA p0 x3 x4 = some o := h
  unfold nA at h
  refine ah ae [(9, vb (decide (x3 < (p0.length : Int))))] 2 (seq ?_)
  refine Fw h (fun c8 h => ?_) (fun c8 h => ?_)
  ·refine skip (Fp ?_)
   refine seq (block ?_)
   refine ah ae [(5, af x3)] 4 ?_
   obtain ⟨g9, g10, h⟩ := aG h
   obtain ⟨y11, y12, e13, h⟩ := aO h
   refine Fs ae [(16, vb y11)] [0] [(0, .box 9 [cs y12])] 9 [hn, hn, hn, hq g9 g10, hn, hm [0] [] 0 (xB (p0.getD x3.toNat bK) x4 (y11, y12) e13) ⟨rfl, tv⟩] ?_
   refine Fw h (fun c14 h => ?_) (fun c14 h => ?_)
   ·refine ah ae [(4, af x3)] 11 (ret (Fi (Fo ?_)))
    exact aU h rfl (ai [(0, 0)])
   ·refine skip (Fj (Fp ?_))
    refine aS ae [(8, af (i64.wrap (x3 + 1)))] 11 ?_
    exact bu h (ai [(0, 0)])
  ·refine exit (Fb ?_)
   exact aU h rfl (ai [(0, 0)])
 ·unfold s6 at h
  show (_ : Exit → St → Prop) (.exit 0) _
  refine E6 (Fp ?_)
  refine ah ae [(4, af (-1))] 2 (ret ?_)
  obtain rfl := am h
  exact aW (.inr rfl) [(0, 0)] 1 (af (-1))
 ·obtain ⟨x16, x17⟩ := t
  replace h : nB x16 x17 = some r := h
  unfold nB at h
  show (_ : Exit → St → Prop) (.ret) _
  refine Fi (Fo ?_)
  obtain rfl := am h
  exact aW (.inr rfl) [(0, 0)] 1 (af x16)
noncomputable def iM (x1 : Bool) : Option Bool := some x1
noncomputable def iX (p0 : ByteArray) : Option Bool := if (!(p0.toList == (mk #[]).toList)) then (if (0 : Int) < (p0.size : Int) then (if (decide (((p0.data.toList.getD 0 0).toNat : Int) ≥ 48)) then (iM (decide (((p0.data.toList.getD 0 0).toNat : Int) ≤ 57))) else (iM false)) else none) else (iM false)
theorem oH (p0 : ByteArray) (r : Bool) (h : iX p0 = some r) : CT 219 [vs p0] [] (vb r) [] := by
 refine an ae 0 Tryz.func219 rfl (fun _ _ _ => ?_)
 unfold iX at h
 refine ah ae [] 1 (seq ?_)
 refine AW.join (ι := Bool) (fun v => ⟨[(2, vb v)], [], 0⟩) (fun v : Bool => iM v = some r) (fun x1 h => ?_) ?_
 ·unfold iM at h
  refine Fp (ret ?_)
  apply al h (vb x1)
 ·rcases aD h with ⟨c2, h⟩ | ⟨c2, h⟩
  ·obtain ⟨g3, h⟩ := aN h
   rcases aD h with ⟨c4, h⟩ | ⟨c4, h⟩
   ·refine au ae [(2, vb (decide (((p0.data.toList.getD 0 0).toNat : Int) ≤ 57)))] 14 [hn, ht c2, hn, hn, ho (p := (0 ≤ (0 : Int)) ∧ ((0 : Int) < (p0.size : Int))) (⟨(by decide), g3⟩), ht c4, hn, hn, hn, ho (p := (0 ≤ (0 : Int)) ∧ ((0 : Int) < (p0.size : Int))) (⟨(by decide), g3⟩)] ?_
    exact jl (decide (((p0.data.toList.getD 0 0).toNat : Int) ≤ 57)) h (ai [])
   ·refine au ae [(2, vb false)] 14 [hn, ht c2, hn, hn, ho (p := (0 ≤ (0 : Int)) ∧ ((0 : Int) < (p0.size : Int))) (⟨(by decide), g3⟩), hf c4] ?_
    exact jl false h
  ·refine au ae [(2, vb false)] 14 [hn, hf c2] ?_
   exact jl false h
noncomputable def kf (x2 : ByteArray) (x4 : Bool) : Option (ByteArray ⊕ ByteArray) := if x4 then (if 1 ≤ x2.size then (some (.inl (x2.extract 1 x2.size))) else none) else (some (.inr x2))
noncomputable def tc (p1 : Int) (x2 : ByteArray) : Option (ByteArray ⊕ ByteArray) := if (decide ((x2.size : Int) > 0)) then (if (0 : Int) < (x2.size : Int) then (kf x2 (((x2.data.toList.getD 0 0).toNat : Int) == p1)) else none) else (kf x2 false)
noncomputable def oA (p0 : ByteArray) (p1 : Int) : Option ByteArray := (loop (fun v : ByteArray => tc p1 v) p0).bind fun x9 => (some x9)
theorem xC (p0 : ByteArray) (p1 : Int) (r : ByteArray) (h : oA p0 p1 = some r) : CT 279 [vs p0, cK p1] [] (vs r) [] := by
 refine an ae 0 Tryz.func279 rfl (fun _ _ _ => ?_)
 unfold oA at h
 refine ah ae [] 1 (seq (block ?_))
 obtain ⟨x9, l10, h⟩ := ak h
 refine Fy l10 (fun v => ⟨[(0, vs v), (1, cK p1)], [], 0⟩) (fun t : ByteArray => (.exit 0, ⟨[(0, vs t)], [], 0⟩)) (ai []) (fun _ => tv) ?_ ?_
 ·clear l10 h
  intro x2 o h
  unfold tc at h
  refine seq (seq ?_)
  refine AW.join (ι := Bool) (fun v => ⟨[(0, vs x2), (1, cK p1), (13, vb v)], [], 0⟩) (fun v : Bool => kf x2 v = some o) (fun x4 h => ?_) ?_
  ·unfold kf at h
   refine Fp ?_
   refine Fw h (fun c5 h => ?_) (fun c5 h => ?_)
   ·refine skip (Fp (block ?_))
    obtain ⟨g6, h⟩ := aN h
    refine au ae [(0, vs (x2.extract 1 x2.size))] 3 [hn, ho (p := (0 ≤ (1 : Int)) ∧ (True) ∧ (1 ≤ x2.size) ∧ (x2.size ≤ x2.size)) (⟨(by decide), tv, g6, (F9 _)⟩)] ?_
    refine Fj ?_
    exact bu h (ai [])
   ·refine exit (Fb ?_)
    exact aU h rfl (ai [])
  ·rcases aD h with ⟨c7, h⟩ | ⟨c7, h⟩
   ·obtain ⟨g8, h⟩ := aN h
    refine au ae [(13, vb (((x2.data.toList.getD 0 0).toNat : Int) == p1))] 9 [hn, hn, ht c7, hn, hn, ho (p := (0 ≤ (0 : Int)) ∧ ((0 : Int) < (x2.size : Int))) (⟨(by decide), g8⟩)] ?_
    exact jl (((x2.data.toList.getD 0 0).toNat : Int) == p1) h (ai [])
   ·refine au ae [(13, vb false)] 9 [hn, hn, hf c7] ?_
    exact jl false h
 ·show (_ : Exit → St → Prop) (.exit 0) _
  refine E6 (Fp ?_)
  refine ah ae [(4, vs x9)] 2 (ret ?_)
  apply al h (vs x9)
noncomputable def kG (p0 : ByteArray) (p1 : ByteArray) (x3 : Bool) : Option ByteArray := if x3 then (if (0 : Int) < (p1.size : Int) then ((oA p0 ((p1.data.toList.getD 0 0).toNat : Int)).bind fun y6 => (some y6)) else none) else none
noncomputable def kH (p0 : ByteArray) (p1 : ByteArray) (x1 : Bool) : Option ByteArray := if x1 then (some p0) else (if ((p1.size : Int) == 1) then (if (0 : Int) < (p1.size : Int) then (kG p0 p1 (decide (((p1.data.toList.getD 0 0).toNat : Int) < 128))) else none) else (kG p0 p1 false))
noncomputable def o8 (p0 : ByteArray) (p1 : ByteArray) : Option ByteArray := if (p0.toList == (mk #[]).toList) then (kH p0 p1 true) else (kH p0 p1 (p1.toList == (mk #[]).toList))
theorem xQ (p0 : ByteArray) (p1 : ByteArray) (r : ByteArray) (h : o8 p0 p1 = some r) : CT 268 [vs p0, vs p1] [] (vs r) [] := by
 refine an ae 0 Tryz.func268 rfl (fun _ _ _ => ?_)
 unfold o8 at h
 refine ah ae [] 1 (seq (seq ?_))
 refine AW.join (ι := Bool) (fun v => ⟨[(0, vs p0), (1, vs p1), (12, vb v)], [], 0⟩) (fun v : Bool => kH p0 p1 v = some r) (fun x1 h => ?_) ?_
 ·unfold kH at h
  refine Fp ?_
  refine Fw h (fun c2 h => ?_) (fun c2 h => ?_)
  ·refine ah ae [(4, vs p0)] 2 (ret (Fo ?_))
   apply al h (vs p0)
  ·refine skip (Fp ?_)
   refine seq (seq ?_)
   refine AW.join (ι := Bool) (fun v => ⟨[(0, vs p0), (1, vs p1), (21, vb v)], [], 0⟩) (fun v : Bool => kG p0 p1 v = some r) (fun x3 h => ?_) ?_
   ·unfold kG at h
    refine Fp ?_
    refine Fw h (fun c4 h => ?_) (fun c4 h => ?_)
    ·obtain ⟨g5, h⟩ := aN h
     obtain ⟨y6, e7, h⟩ := ak h
     refine ay ae [(4, vs y6)] 4 [hn, hn, ho (p := (0 ≤ (0 : Int)) ∧ ((0 : Int) < (p1.size : Int))) (⟨(by decide), g5⟩), hk (xC p0 ((p1.data.toList.getD 0 0).toNat : Int) y6 e7)] (ret (Fo ?_))
     apply al h (vs y6)
    ·refine skip (Fp ?_)
     refine seq (seq ?_)
     cases h
   ·rcases aD h with ⟨c8, h⟩ | ⟨c8, h⟩
    ·obtain ⟨g9, h⟩ := aN h
     refine au ae [(21, vb (decide (((p1.data.toList.getD 0 0).toNat : Int) < 128)))] 8 [hn, hn, ht c8, hn, hn, ho (p := (0 ≤ (0 : Int)) ∧ ((0 : Int) < (p1.size : Int))) (⟨(by decide), g9⟩)] ?_
     exact jl (decide (((p1.data.toList.getD 0 0).toNat : Int) < 128)) h (ai [])
    ·refine au ae [(21, vb false)] 8 [hn, hn, hf c8] ?_
     exact jl false h
 ·rcases aD h with ⟨c10, h⟩ | ⟨c10, h⟩
  ·refine au ae [(12, vb true)] 7 [hn, ht c10] ?_
   exact jl true h
  ·refine au ae [(12, vb (p1.toList == (mk #[]).toList))] 7 [hn, hf c10] ?_
   exact jl (p1.toList == (mk #[]).toList) h
noncomputable def qj (p0 : ByteArray) : Option ByteArray := (o8 p0 (mk #[48])).bind fun y1 => ((iX y1).bind fun y3 => (if (!y3) then (if (mk #[48]).size + y1.size ≤ bZ then (some ((mk #[48]) ++ y1)) else none) else (some y1)))
theorem yr (p0 : ByteArray) (r : ByteArray) (h : qj p0 = some r) : CT 235 [vs p0] [] (vs r) [] := by
 refine an ae 0 Tryz.func235 rfl (fun _ _ _ => ?_)
 unfold qj at h
 refine ah ae [] 1 ?_
 obtain ⟨y1, e2, h⟩ := ak h
 refine ay ae [(3, vs y1)] 3 [hn, hk (xQ p0 (mk #[48]) y1 e2)] (seq ?_)
 obtain ⟨y3, e4, h⟩ := ak h
 refine ay ae [(8, vb (!y3))] 5 [hn, hk (oH y1 y3 e4)] ?_
 refine Fw h (fun c5 h => ?_) (fun c5 h => ?_)
 ·obtain ⟨g6, h⟩ := aN h
  refine ay ae [(2, vs ((mk #[48]) ++ y1))] 8 [hn, ho g6] (ret (Fo ?_))
  apply al h (vs ((mk #[48]) ++ y1))
 ·refine skip (Fp ?_)
  refine ah ae [(2, vs y1)] 7 (ret ?_)
  apply al h (vs y1)
noncomputable def iu (x6 : Int) (x10 : List ByteArray) (x11 : List ByteArray) : Option (((List ByteArray) × (List ByteArray) × Int) ⊕ ((List ByteArray) × (List ByteArray))) := some (.inl (x10, x11, i64.wrap (x6 + 1)))
noncomputable def nU (p0 : List ByteArray) (x4 : List ByteArray) (x5 : List ByteArray) (x6 : Int) : Option (((List ByteArray) × (List ByteArray) × Int) ⊕ ((List ByteArray) × (List ByteArray))) := if (decide (x6 < (p0.length : Int))) then (if 0 ≤ x6 then (if x6 < (p0.length : Int) then ((iX (p0.getD x6.toNat mt)).bind fun y14 => (if y14 then (if x4.length + ([(p0.getD x6.toNat mt)] : aj).length ≤ 1099511627776 then (iu x6 (x4 ++ ([(p0.getD x6.toNat mt)] : aj)) x5) else none) else (if x5.length + ([(p0.getD x6.toNat mt)] : aj).length ≤ 1099511627776 then (iu x6 x4 (x5 ++ ([(p0.getD x6.toNat mt)] : aj))) else none))) else none) else none) else (some (.inr (x4, x5)))
noncomputable def kc (p0 : List ByteArray) : Option ((List ByteArray) × (List ByteArray)) := aM (loop (fun v : (List ByteArray) × (List ByteArray) × Int => nU p0 v.1 v.2.1 v.2.2) (([] : aj), ([] : aj), 0)) fun x19 x20 => (some (x19, x20))
theorem s8 (p0 : List ByteArray) (r : (List ByteArray) × (List ByteArray)) (h : kc p0 = some r) : CT 218 [vl 1 Rs p0, .c (.t (.v (.func (.func 219) #[] #[])))] [] (.tup [.c (.ref 0 1 0 r.1.length), .c (.ref 1 1 0 r.2.length)]) [(0, .row 9 false 1 r.1.length (Rs r.1)), (1, .row 9 false 1 r.2.length (Rs r.2))] := by
 refine an ae 0 Tryz.func218 rfl (fun _ _ _ => ?_)
 unfold kc at h
 refine ah ae [(5, .c (ax)), (4, .c (ax))] 2 (seq ?_)
 refine ah ae [(10, af 0), (9, af (p0.length : Int)), (8, vl 1 Rs p0)] 5 (block ?_)
 obtain ⟨x19, x20, l21, h⟩ := aO h
 refine Fy l21 (fun v => ⟨[(1, .c (.t (.v (.func (.func 219) #[] #[])))), (4, rX 0 1 v.1.length), (5, rX 1 1 v.2.1.length), (8, vl 1 Rs p0), (9, af (p0.length : Int)), (10, af v.2.2)], [(0, .row 9 false 1 v.1.length (Rs v.1)), (1, .row 9 false 1 v.2.1.length (Rs v.2.1))], 2⟩) (fun t : (List ByteArray) × (List ByteArray) => (.exit 0, ⟨[(4, rX 0 1 t.1.length), (5, rX 1 1 t.2.length)], [(0, .row 9 false 1 t.1.length (Rs t.1)), (1, .row 9 false 1 t.2.length (Rs t.2))], 2⟩)) (Conv.trans (cg (t := 4) (ty := 9) (sz := 1) (n := ([] : aj).length) (f := Rs ([] : aj)) (by kernel_rfl) rfl) (Conv.trans (cg (t := 5) (ty := 9) (sz := 1) (n := ([] : aj).length) (f := Rs ([] : aj)) (by kernel_rfl) rfl) (ai [(0, 5), (1, 6)]))) (fun _ => tv) ?_ ?_
 ·clear l21 h
  intro v o h
  obtain ⟨x4, x5, x6⟩ := v
  replace h : nU p0 x4 x5 x6 = some o := h
  unfold nU at h
  refine ah ae [(11, vb (decide (x6 < (p0.length : Int))))] 3 (seq ?_)
  refine Fw h (fun c9 h => ?_) (fun c9 h => ?_)
  ·refine skip (Fp (seq ?_))
   refine AW.join (ι := (List ByteArray) × (List ByteArray)) (fun v => ⟨[(1, .c (.t (.v (.func (.func 219) #[] #[])))), (4, rX 0 1 v.1.length), (5, rX 1 1 v.2.length), (8, vl 1 Rs p0), (9, af (p0.length : Int)), (10, af x6)], [(0, .row 9 false 1 v.1.length (Rs v.1)), (1, .row 9 false 1 v.2.length (Rs v.2))], 2⟩) (fun v : (List ByteArray) × (List ByteArray) => iu x6 v.1 v.2 = some o) (fun v h => ?_) ?_
   ·obtain ⟨x10, x11⟩ := v
    replace h : iu x6 x10 x11 = some o := h
    unfold iu at h
    refine Fp ?_
    refine aS ae [(10, af (i64.wrap (x6 + 1)))] 4 ?_
    exact bu h (ai [(0, 0), (1, 1)])
   ·refine block ?_
    obtain ⟨g12, g13, h⟩ := aG h
    refine ay ae [(7, vs (p0.getD x6.toNat mt))] 6 [hq g12 g13] ?_
    obtain ⟨y14, e15, h⟩ := ak h
    refine ay ae [(16, vb y14)] 8 [hn, hn, hk (oH (p0.getD x6.toNat mt) y14 e15)] ?_
    refine Fw h (fun c16 h => ?_) (fun c16 h => ?_)
    ·obtain ⟨g17, h⟩ := aN h
     refine AW.rg ae [(4, .c (.ref 11 1 0 ((x4 ++ ([(p0.getD x6.toNat mt)] : aj)).length)))] [0, 10, 11] [(11, .row 9 false 1 (x4 ++ ([(p0.getD x6.toNat mt)] : aj)).length (Rs (x4 ++ ([(p0.getD x6.toNat mt)] : aj))))] 13 [hn, hn, bh mt Es 1 (fun _ => rfl) ([(p0.getD x6.toNat mt)] : aj), bY mt Es 1 16 x4 ([(p0.getD x6.toNat mt)] : aj) g17 (by decide)] ?_
     refine Fj ?_
     exact jl ((x4 ++ ([(p0.getD x6.toNat mt)] : aj)), x5) h (ai [(0, 11), (1, 1)])
    ·obtain ⟨g18, h⟩ := aN h
     refine AW.rg ae [(5, .c (.ref 11 1 0 ((x5 ++ ([(p0.getD x6.toNat mt)] : aj)).length)))] [1, 10, 11] [(11, .row 9 false 1 (x5 ++ ([(p0.getD x6.toNat mt)] : aj)).length (Rs (x5 ++ ([(p0.getD x6.toNat mt)] : aj))))] 13 [hn, hn, bh mt Es 1 (fun _ => rfl) ([(p0.getD x6.toNat mt)] : aj), bY mt Es 1 16 x5 ([(p0.getD x6.toNat mt)] : aj) g18 (by decide)] ?_
     refine Fj ?_
     exact jl (x4, (x5 ++ ([(p0.getD x6.toNat mt)] : aj))) h (ai [(0, 0), (1, 11)])
  ·refine exit (Fb ?_)
   exact aU h rfl (ai [(0, 0), (1, 1)])
 ·show (_ : Exit → St → Prop) (.exit 0) _
  refine E6 (Fp ?_)
  refine ah ae [(5, rX 1 1 x20.length), (4, rX 0 1 x19.length)] 6 (ret ?_)
  obtain rfl := am h
  exact aW (.inr rfl) [(0, 0), (1, 1)] 2 (.tup [.c (.ref 0 1 0 x19.length), .c (.ref 1 1 0 x20.length)])
noncomputable def iJ (x13 : Int) (x16 : List ByteArray) : Option (((List ByteArray) × Int) ⊕ (List ByteArray)) := some (.inl (x16, i64.wrap (x13 + 1)))
noncomputable def oB (p0 : aY) (y8 : List ByteArray) (x12 : List ByteArray) (x13 : Int) : Option (((List ByteArray) × Int) ⊕ (List ByteArray)) := if (decide (x13 < (y8.length : Int))) then (if 0 ≤ x13 then (if x13 < (x12.length : Int) then (aM (nD p0.Streets (x12.getD (0 + x13.toNat) mt)) fun y19 y20 => ((iX y20).bind fun y22 => (if y22 then ((qj y20).bind fun y25 => (iJ x13 (x12.set (0 + x13.toNat) y25))) else (if (decide (y19 ≥ 0)) then (if 0 ≤ y19 then (if y19 < (p0.Streets.length : Int) then (iJ x13 (x12.set (0 + x13.toNat) ((p0.Streets.getD y19.toNat bK).To))) else none) else none) else (iJ x13 x12))))) else none) else none) else (some (.inr x12))
noncomputable def kx (y35 : ByteArray) (x37 : Bool) : Option (ByteArray × Int) := if x37 then (some ((mk #[]), 1)) else (some (y35, 0))
noncomputable def kR (p0 : aY) (p1 : ByteArray) : Option (ByteArray × Int) := (jx p0).bind fun y1 => (if (y1 != 0) then (some ((mk #[]), y1)) else (aM (jC p1) fun y4 y5 => (if (y5 != 0) then (some ((mk #[]), y5)) else ((fb y4).bind fun y8 => ((loop (fun v : (List ByteArray) × Int => oB p0 y8 v.1 v.2) (y8, 0)).bind fun x30 => (aM (kc x30) fun y31 y32 => (if y32.length + y31.length ≤ 1099511627776 then ((gK (y32 ++ y31)).bind fun y35 => (if (decide ((x30.length : Int) > 6)) then (kx y35 true) else (kx y35 (decide ((y35.size : Int) > 64))))) else none)))))))
theorem tp (p0 : aY) (p1 : ByteArray) (r : ByteArray × Int) (h : kR p0 p1 = some r) : CT 201 [.agg (bS p0), vs p1] [] (.tup [vs r.1, af r.2]) [] := by
 refine an ae 0 Tryz.func201 rfl (fun _ _ _ => ?_)
 unfold kR at h
 refine Fs ae [(2, pX 0 3)] [0] [(0, .box 31 (bS p0))] 3 [] (seq ?_)
 obtain ⟨y1, e2, h⟩ := ak h
 refine ay ae [(6, af y1)] 5 [hn, hk (pQ p0 y1 e2)] ?_
 refine ah ae [(19, vb (y1 != 0))] 7 ?_
 refine Fw h (fun c3 h => ?_) (fun c3 h => ?_)
 ·refine ah ae [(5, af y1), (4, vs (mk #[]))] 10 (ret (Fo ?_))
  apply al h (.tup [vs (mk #[]), af y1])
 ·refine skip (Fp ?_)
  obtain ⟨y4, y5, e6, h⟩ := aO h
  refine ay ae [(8, af y5), (7, vs y4)] 13 [hn, hk (qi p1 (y4, y5) e6)] (seq ?_)
  refine ah ae [(27, vb (y5 != 0))] 15 ?_
  refine Fw h (fun c7 h => ?_) (fun c7 h => ?_)
  ·refine ah ae [(5, af y5), (4, vs (mk #[]))] 18 (ret (Fo ?_))
   apply al h (.tup [vs (mk #[]), af y5])
  ·refine skip (Fp ?_)
   obtain ⟨y8, e9, h⟩ := ak h
   refine Fs ae [(9, rX 16 1 y8.length)] [16] [(16, .row 9 false 1 y8.length (Rs y8))] 18 [hn, hm [] [] 1 (gw y4 y8 e9) ⟨bV Vs _ _ _, tv⟩] (seq ?_)
   refine ah ae [(33, af 0), (32, af (y8.length : Int)), (31, rX 16 1 y8.length)] 21 (block ?_)
   obtain ⟨x30, l40, h⟩ := ak h
   refine Fy l40 (fun v => ⟨[(2, pX 0 3), (9, rX 1 1 v.1.length), (31, rX 1 1 v.1.length), (32, af (y8.length : Int)), (33, af v.2)], [(0, .box 31 (bS p0)), (1, .row 9 false 1 v.1.length (Rs v.1))], 2⟩) (fun t : List ByteArray => (.exit 0, ⟨[(9, rX 0 1 t.length)], [(0, .row 9 false 1 t.length (Rs t))], 1⟩)) (ai [(0, 0), (1, 16)]) (fun _ => tv) ?_ ?_
   ·clear l40 h
    intro v o h
    obtain ⟨x12, x13⟩ := v
    replace h : oB p0 y8 x12 x13 = some o := h
    unfold oB at h
    refine ah ae [(34, vb (decide (x13 < (y8.length : Int))))] 3 (seq ?_)
    refine Fw h (fun c15 h => ?_) (fun c15 h => ?_)
    ·refine skip (Fp (seq ?_))
     refine AW.join (ι := List ByteArray) (fun v => ⟨[(2, pX 0 3), (9, rX 1 1 v.length), (31, rX 1 1 v.length), (32, af (y8.length : Int)), (33, af x13)], [(0, .box 31 (bS p0)), (1, .row 9 false 1 v.length (Rs v))], 2⟩) (fun v : List ByteArray => iJ x13 v = some o) (fun x16 h => ?_) ?_
     ·unfold iJ at h
      refine Fp ?_
      refine aS ae [(33, af (i64.wrap (x13 + 1)))] 4 ?_
      exact bu h (ai [(0, 0), (1, 1)])
     ·refine block ?_
      obtain ⟨g17, g18, h⟩ := aG h
      refine Fs ae [(10, af x13), (11, pX 6 1)] [6] [(6, .box 9 [cs (x12.getD (0 + x13.toNat) mt)])] 9 [hn, hq g17 g18, ho (p := (0 + x13.toNat) < x12.length) (by have h1 : 0 ≤ x13 := g17; have h2 : x13 < (x12.length : Int) := g18; omega)] ?_
      obtain ⟨y19, y20, e21, h⟩ := aO h
      refine Fs ae [(12, af y19)] [6] [(6, .box 9 [cs y20])] 13 [hn, hn, hn, hm [6] [] 0 (xm p0.Streets (x12.getD (0 + x13.toNat) mt) (y19, y20) e21) ⟨rfl, tv⟩] (block ?_)
      obtain ⟨y22, e23, h⟩ := ak h
      refine ay ae [(42, vb y22)] 15 [hn, hk (oH y20 y22 e23)] ?_
      refine Fw h (fun c24 h => ?_) (fun c24 h => ?_)
      ·obtain ⟨y25, e26, h⟩ := ak h
       refine AW.rg ae [] [1] [(1, .row 9 false 1 x12.length (Rs (x12.set (0 + x13.toNat) y25)))] 20 [hn, hn, hn, hk (yr y20 y25 e26), hq g17 g18, hset mt Es x12 (0 + x13.toNat) y25 (n := x12.length) (by have h1 : 0 ≤ x13 := g17; have h2 : x13 < (x12.length : Int) := g18; omega) rfl] ?_
       refine Fj (Fj ?_)
       exact jl (x12.set (0 + x13.toNat) y25) h (Conv.trans (fK [(9, .c (.ref 1 1 0 ((x12.set (0 + x13.toNat) y25).length))), (31, .c (.ref 1 1 0 ((x12.set (0 + x13.toNat) y25).length)))] ⟨⟨.c (.ref 1 1 0 x12.length), by kernel_rfl, cG.len (by simp only [Gd])⟩, ⟨.c (.ref 1 1 0 x12.length), by kernel_rfl, cG.len (by simp only [Gd])⟩, tv⟩) (Conv.trans (gJ 1 9 false 1 x12.length ((x12.set (0 + x13.toNat) y25).length) (Rs (x12.set (0 + x13.toNat) y25)) (by kernel_rfl) (by simp only [Gd])) (ai [(0, 0), (1, 1)])))
      ·refine ah ae [(50, vb (decide (y19 ≥ 0)))] 18 ?_
       refine Fw h (fun c27 h => ?_) (fun c27 h => ?_)
       ·obtain ⟨g28, g29, h⟩ := aG h
        refine AW.rg ae [] [1] [(1, .row 9 false 1 x12.length (Rs (x12.set (0 + x13.toNat) ((p0.Streets.getD y19.toNat bK).To))))] 28 [hn, hn, hn, hn, hn, hq g28 g29, hn, hn, hq g17 g18, hset mt Es x12 (0 + x13.toNat) ((p0.Streets.getD y19.toNat bK).To) (n := x12.length) (by have h1 : 0 ≤ x13 := g17; have h2 : x13 < (x12.length : Int) := g18; omega) rfl] ?_
        refine Fj (Fj ?_)
        exact jl (x12.set (0 + x13.toNat) ((p0.Streets.getD y19.toNat bK).To)) h (Conv.trans (fK [(9, .c (.ref 1 1 0 ((x12.set (0 + x13.toNat) ((p0.Streets.getD y19.toNat bK).To)).length))), (31, .c (.ref 1 1 0 ((x12.set (0 + x13.toNat) ((p0.Streets.getD y19.toNat bK).To)).length)))] ⟨⟨.c (.ref 1 1 0 x12.length), by kernel_rfl, cG.len (by simp only [Gd])⟩, ⟨.c (.ref 1 1 0 x12.length), by kernel_rfl, cG.len (by simp only [Gd])⟩, tv⟩) (Conv.trans (gJ 1 9 false 1 x12.length ((x12.set (0 + x13.toNat) ((p0.Streets.getD y19.toNat bK).To)).length) (Rs (x12.set (0 + x13.toNat) ((p0.Streets.getD y19.toNat bK).To))) (by kernel_rfl) (by simp only [Gd])) (ai [(0, 0), (1, 1)])))
       ·refine skip (Fj (Fj ?_))
        exact jl x12 h (ai [(0, 0), (1, 1)])
    ·refine exit (Fb ?_)
     exact aU h rfl (ai [(0, 1)])
   ·show (_ : Exit → St → Prop) (.exit 0) _
    refine E6 (Fp ?_)
    obtain ⟨y31, y32, e33, h⟩ := aO h
    refine Fs ae [(14, rX 3 1 y32.length), (13, rX 2 1 y31.length)] [2, 3] [(2, .row 9 false 1 y31.length (Rs y31)), (3, .row 9 false 1 y32.length (Rs y32))] 9 [hn, hg [] [] true 2 (q := (0 + x30.length ≤ x30.length) ∧ (True) ∧ (True)) ⟨br, tv, tv⟩ (a0 := [vl 1 Rs x30, .c (.t (.v (.func (.func 219) #[] #[])))]) (s8 x30 (y31, y32) e33) ⟨aR.refl _, aR.refl _, tv⟩ (fun _ => ⟨bV Vs _ _ _, bV Vs _ _ _, tv⟩)] ?_
    obtain ⟨g34, h⟩ := aN h
    obtain ⟨y35, e36, h⟩ := ak h
    refine Fs ae [(15, vs y35)] [3, 11] [] 13 [hn, hn, bY mt Es 1 16 y32 y31 g34 (by decide), hg [] [] true 0 (q := (0 + (y32 ++ y31).length ≤ (y32 ++ y31).length) ∧ (True)) ⟨br, tv⟩ (a0 := [vl 1 Rs (y32 ++ y31)]) (qh (y32 ++ y31) y35 e36) ⟨aR.refl _, tv⟩ (fun _ => tv)] (seq (seq ?_))
    refine AW.join (ι := Bool) (fun v => ⟨[(15, vs y35), (79, vb v)], [], 0⟩) (fun v : Bool => kx y35 v = some r) (fun x37 h => ?_) ?_
    ·unfold kx at h
     refine Fp ?_
     refine Fw h (fun c38 h => ?_) (fun c38 h => ?_)
     ·refine ah ae [(5, af 1), (4, vs (mk #[]))] 2 (ret (Fo ?_))
      apply al h (.tup [vs (mk #[]), af 1])
     ·refine skip (Fp ?_)
      refine ah ae [(5, af 0), (4, vs y35)] 3 (ret ?_)
      apply al h (.tup [vs y35, af 0])
    ·rcases aD h with ⟨c39, h⟩ | ⟨c39, h⟩
     ·refine au ae [(79, vb true)] 21 [hn, hn, ht c39] ?_
      exact jl true h
     ·refine au ae [(79, vb (decide ((y35.size : Int) > 64)))] 21 [hn, hn, hf c39] ?_
      exact jl (decide ((y35.size : Int) > 64)) h (ai [])
noncomputable def ly (x4 : Bool) : Option Bool := some x4
noncomputable def qJ (p0 : aY) (p1 : ByteArray) : Option Bool := aM (lw p0 p1) fun y1 y2 => (if (y2 == 0) then (ly (y1.toList == p1.toList)) else (ly false))
theorem yQ (p0 : aY) (p1 : ByteArray) (r : Bool) (h : qJ p0 p1 = some r) : CT 190 [.agg (bS p0), vs p1] [] (vb r) [] := by
 refine an ae 0 Tryz.func190 rfl (fun _ _ _ => ?_)
 unfold qJ at h
 refine Fs ae [(2, pX 0 3)] [0] [(0, .box 31 (bS p0))] 2 [] ?_
 obtain ⟨y1, y2, e3, h⟩ := aO h
 refine ay ae [(6, af y2), (5, vs y1)] 9 [hn, hn, hk (tF p0 p1 (y1, y2) e3)] (seq ?_)
 refine AW.join (ι := Bool) (fun v => ⟨[(4, vb v)], [], 0⟩) (fun v : Bool => ly v = some r) (fun x4 h => ?_) ?_
 ·unfold ly at h
  refine Fp (ret ?_)
  apply al h (vb x4)
 ·rcases aD h with ⟨c5, h⟩ | ⟨c5, h⟩
  ·refine au ae [(4, vb (y1.toList == p1.toList))] 17 [hn, ht c5] ?_
   exact jl (y1.toList == p1.toList) h
  ·refine au ae [(4, vb false)] 17 [hn, hf c5] ?_
   exact jl false h
noncomputable def rt (p0 : ByteArray) : Option (b8 × Int) := if ((p0.size : Int) != 8) then (some ((⟨0, 0, 0⟩ : b8), 4)) else (if 4 ≤ p0.size then (if 4 ≤ 6 then (if 6 ≤ p0.size then (aM (gL (p0.extract 0 4) (p0.extract 4 6) (p0.extract 6 p0.size)) fun y5 y6 => (some (y5, y6))) else none) else none) else none)
theorem zx (p0 : ByteArray) (r : b8 × Int) (h : rt p0 = some r) : CT 194 [vs p0] [] (.tup [.agg [ag r.1.Year, ag r.1.Month, ag r.1.Day], af r.2]) [] := by
 refine an ae 0 Tryz.func194 rfl (fun _ _ _ => ?_)
 unfold rt at h
 refine Fs ae [(2, pX 0 3)] [0] [(0, .box 97 [ag 0, ag 0, ag 0])] 2 [] (seq ?_)
 refine ah ae [(6, vb ((p0.size : Int) != 8))] 5 ?_
 refine Fw h (fun c1 h => ?_) (fun c1 h => ?_)
 ·refine Fs ae [(3, af 4)] [0] [(0, .box 97 [ag 0, ag 0, ag 0])] 8 [] (ret (Fo ?_))
  apply al h (.tup [.agg [ag 0, ag 0, ag 0], af 4])
 ·refine skip (Fp ?_)
  obtain ⟨g2, g3, h⟩ := aG h
  obtain ⟨g4, h⟩ := aN h
  obtain ⟨y5, y6, e7, h⟩ := aO h
  refine Fv ae dy [[], [], [], [], [], [], [], [], [], [0]] [(3, af y6)] [(0, .box 97 [ag y5.Year, ag y5.Month, ag y5.Day])] 15 [hn, ho (p := (True) ∧ (0 ≤ (4 : Int)) ∧ (0 ≤ 4) ∧ (4 ≤ p0.size)) (⟨tv, (by decide), (Nat.zero_le _), g2⟩), hn, ho (p := (0 ≤ (4 : Int)) ∧ (0 ≤ (6 : Int)) ∧ (4 ≤ 6) ∧ (6 ≤ p0.size)) (⟨(by decide), (by decide), g3, g4⟩), hn, ho (p := (0 ≤ (6 : Int)) ∧ (True) ∧ (6 ≤ p0.size) ∧ (p0.size ≤ p0.size)) (⟨(by decide), tv, g4, (F9 _)⟩), hk (lI (p0.extract 0 4) (p0.extract 4 6) (p0.extract 6 p0.size) (y5, y6) e7)] ?_
  refine ret ?_
  apply al h (.tup [.agg [ag y5.Year, ag y5.Month, ag y5.Day], af y6])
noncomputable def pr (p0 : aY) (p1 : ByteArray) : Option Bool := aM (rt p1) fun y1 y2 => (some (y2 == 0))
theorem xY (p0 : aY) (p1 : ByteArray) (r : Bool) (h : pr p0 p1 = some r) : CT 193 [.agg (bS p0), vs p1] [] (vb r) [] := by
 refine an ae 0 Tryz.func193 rfl (fun _ _ _ => ?_)
 unfold pr at h
 refine Fs ae [] [0] [] 2 [] ?_
 obtain ⟨y1, y2, e3, h⟩ := aO h
 refine Fs ae [(6, af y2)] [6] [] 9 [hn, hk (zx p1 (y1, y2) e3)] ?_
 refine ah ae [(4, vb (y2 == 0))] 12 (ret ?_)
 apply al h (vb (y2 == 0))
noncomputable def kS (x4 : Bool) : Option Bool := some x4
noncomputable def pU (p0 : ByteArray) : Option Bool := aM (lZ p0) fun y1 y2 => (if (y2 == 0) then (kS (y1.toList == p0.toList)) else (kS false))
theorem yg (p0 : ByteArray) (r : Bool) (h : pU p0 = some r) : CT 199 [vs p0] [] (vb r) [] := by
 refine an ae 0 Tryz.func199 rfl (fun _ _ _ => ?_)
 unfold pU at h
 refine ah ae [] 1 ?_
 obtain ⟨y1, y2, e3, h⟩ := aO h
 refine ay ae [(4, af y2), (3, vs y1)] 7 [hn, hk (tX p0 (y1, y2) e3)] (seq ?_)
 refine AW.join (ι := Bool) (fun v => ⟨[(2, vb v)], [], 0⟩) (fun v : Bool => kS v = some r) (fun x4 h => ?_) ?_
 ·unfold kS at h
  refine Fp (ret ?_)
  apply al h (vb x4)
 ·rcases aD h with ⟨c5, h⟩ | ⟨c5, h⟩
  ·refine au ae [(2, vb (y1.toList == p0.toList))] 15 [hn, ht c5] ?_
   exact jl (y1.toList == p0.toList) h
  ·refine au ae [(2, vb false)] 15 [hn, hf c5] ?_
   exact jl false h
noncomputable def pt (p0 : aY) (p1 : ByteArray) : Option Bool := (pU p1).bind fun y1 => (some y1)
theorem xZ (p0 : aY) (p1 : ByteArray) (r : Bool) (h : pt p0 p1 = some r) : CT 198 [.agg (bS p0), vs p1] [] (vb r) [] := by
 refine an ae 0 Tryz.func198 rfl (fun _ _ _ => ?_)
 unfold pt at h
 refine Fs ae [] [0] [] 2 [] ?_
 obtain ⟨y1, e2, h⟩ := ak h
 refine ay ae [(4, vb y1)] 4 [hn, hk (yg p1 y1 e2)] (ret ?_)
 apply al h (vb y1)
noncomputable def kT (x4 : Bool) : Option Bool := some x4
noncomputable def pV (p0 : aY) (p1 : ByteArray) : Option Bool := aM (kR p0 p1) fun y1 y2 => (if (y2 == 0) then (kT (y1.toList == p1.toList)) else (kT false))
theorem yh (p0 : aY) (p1 : ByteArray) (r : Bool) (h : pV p0 p1 = some r) : CT 202 [.agg (bS p0), vs p1] [] (vb r) [] := by
 refine an ae 0 Tryz.func202 rfl (fun _ _ _ => ?_)
 unfold pV at h
 refine Fs ae [(2, pX 0 3)] [0] [(0, .box 31 (bS p0))] 2 [] ?_
 obtain ⟨y1, y2, e3, h⟩ := aO h
 refine ay ae [(6, af y2), (5, vs y1)] 9 [hn, hn, hk (tp p0 p1 (y1, y2) e3)] (seq ?_)
 refine AW.join (ι := Bool) (fun v => ⟨[(4, vb v)], [], 0⟩) (fun v : Bool => kT v = some r) (fun x4 h => ?_) ?_
 ·unfold kT at h
  refine Fp (ret ?_)
  apply al h (vb x4)
 ·rcases aD h with ⟨c5, h⟩ | ⟨c5, h⟩
  ·refine au ae [(4, vb (y1.toList == p1.toList))] 17 [hn, ht c5] ?_
   exact jl (y1.toList == p1.toList) h
  ·refine au ae [(4, vb false)] 17 [hn, hf c5] ?_
   exact jl false h
section
open Go.RowKit Go.Maps Go.Sort
def fY : List ByteArray → DataW Unit := fun l => l.foldl (fun D s => D.put (.string s.data.toList) (.agg [])) (DataW.map [])
def gR : Value → Option (DataW Unit × List MemPlace) := fun _ => some (.agg [], [])
theorem BG (p0 : List ByteArray) (hp : Hid (p0.length ≤ 1000)) (w : World) (q : Option Addr) (c : Nat) (hs : Hid (∀ s ∈ p0, s.size ≤ maxLen)) (hq : sY w.heap.size w q p0) :
  Calls Tryz.prog 263 #[.slice q p0.length c] w fun e w' => ∃ b, e = .returned (.map (some b)) ∧ w.heap.size ≤ b ∧ w'.ownsMap Tryz.prog 9 gR b p0.length (fY p0) ∧ Below w.heap.size w w' := by
 refine calls_of_wp Tryz.func263 rfl ?_
 simp only [Tryz.ntmps263, FW, FN, FP, Nat.reduceAdd, Nat.reduceSub, Array.replicate_succ, Array.replicate_zero, List.push_toArray, List.append_toArray, Gf, List.cons_append]
 have hmm := @run_makeMap Tryz.prog
 go_wp2
 go_loopw [9] (fun v wr => ∃ k : Nat, v = .int .i64 (k : Int) ∧ k ≤ p0.length ∧ wr.ownsMap Tryz.prog 9 gR w.heap.size k (fY (p0.take k)) ∧ Below w.heap.size w wr) (fun v wr => p0.length - (intOf v).toNat)
 case atStart => exact ⟨0, rfl, by omega, World.ownsMap_made _ _ _ _, (Below.refl _ w).alloc (F9 _) _⟩
 case round =>
  obtain ⟨k, rfl, hk, hown, hB⟩ := hrel
  by_cases hlt : (k : Int) < (p0.length : Int)
  ·obtain ⟨b, o, rfl, hb, hcell⟩ := hq k (by omega)
   have hcell2 : wr.cell? ⟨b, o + k, none⟩ = some (.string (p0.getD k mt)) := (hB.cell (p := ⟨b, o + k, none⟩) hb).trans hcell
   obtain ⟨x, hx⟩ : ∃ x, p0.getD k mt = x := ⟨_, rfl⟩
   rw [hx] at hcell2
   have HX : Hid (p0.getD k mt = x) := hx
   have hmem : x ∈ p0 := by
    rw [← hx, FI, FJ (show k < p0.length by omega)]
    exact Gh _
   have hsz := hs.out x hmem
   clear hx hcell hq hmem hs
   have hkey := WideMaps.keyOf_string_mk Tryz.underlying9 hsz
   clear hsz
   have hkm : k < maxLen := by have := hp.out; unfold maxLen; omega
   go_wp2_with (at_mapUpdate; refine wpList_mapUpdate_own _ rfl _ _ _ 337 rfl 9 338 (Maps.string_keyed Tryz.underlying9) Tryz.underlying337 _ w.heap.size k _ rfl hown hkm _ _ _ rfl rfl hkey _ [] rfl ?_; intro w1 hown1 hgrow1)
   go_roundw
   case rel =>
    have ht : p0.take (k + 1) = p0.take k ++ [x] := by
     rw [Gp, ← HX.out, FI, FJ (show k < p0.length by omega)]
     rfl
    refine ⟨k + 1, ?_, by omega, ?_, hB.grown hgrow1 hB.size (fun j e => by cases e; exact F9 _)⟩
    ·have := hp.out
     show _ = _
     congr 1
     unfold wrap64
     omega
    ·have hg : fY (p0.take (k + 1)) = (fY (p0.take k)).put (.string x.data.toList) (.agg []) := by
      rw [ht]
      unfold fY
      rw [PG]
      rfl
     rw [hg]
     exact hown1
   case measure =>
    have hw : wrap64 ((k : Int) + 1) = ((k + 1 : Nat) : Int) := by
     have := hp.out
     unfold wrap64
     omega
    rw [hw]
    simp only [intOf, FM]
    omega
  ·have : k = p0.length := by omega
   subst this
   rw [PF] at hown
   go_wp2
   go_ret
   exact ⟨_, rfl, F9 _, hown, hB⟩
def fk (l : List ByteArray) : List ByteArray := ((strKeys (fY l)).mergeSort leB).map fun x => ⟨x.toArray⟩
theorem Bb {w : World} {B B' e sz n : Nat} {v : Value} {xs : List Value} (h : w.ownsRow B e sz v n xs) (hB : B' ≤ B) : w.ownsRow B' e sz v n xs := by
 refine ⟨h.1, ?_⟩
 rcases h.2 with h0 | ⟨g, cap, cur, hv, hb, rest⟩
 ·exact .inl h0
 ·exact .inr ⟨g, cap, cur, hv, Ga hB hb, rest⟩
theorem Bd (p0 : List ByteArray) (hp : Hid (p0.length ≤ 1000)) (w : World) (q : Option Addr) (c : Nat) (hs : Hid (∀ s ∈ p0, s.size ≤ maxLen)) (hq : Hid (sY w.heap.size w q p0)) :
  CallsIn Fence.wide 6 Tryz.prog 229 #[.slice q p0.length c] w fun e w' => ∃ v, e = .returned v ∧ Below w.heap.size w w' ∧ w'.ownsRow w.heap.size 9 1 v (fk p0).length ((fk p0).map Value.string) := by
 refine callsIn_of_wp Tryz.func229 rfl tv ?_ rfl
 simp only [Tryz.ntmps229, FW, FN, FP, Nat.reduceAdd, Nat.reduceSub, Array.replicate_succ, Array.replicate_zero, List.push_toArray, List.append_toArray, Gf, List.cons_append]
 have hf1 : Fence.wide.fn 263 := tv
 have hf2 : Fence.wide.fn 262 := tv
 have hf3 : Fence.wide.fn 261 := tv
 gi_wp2_with (first
  | (gi_at_call 263; refine (callsIn_wide.2 (BG p0 hp _ q c hs hq.out)).mono ?_; rintro e w1 ⟨b, rfl, hb, hown, hB⟩)
  | (gi_at_call 262; refine (yD _ _).mono ?_; rintro e w' ⟨rfl, rfl⟩)
  | (gi_at_call 261; refine (xu b p0.length (fY p0) gR _ hown (by have := hown.size_le; have := hp.out; unfold maxLen; omega) (by have := hown.size_le; have := hp.out; omega)).mono ?_; rintro e w2 ⟨v, ss, rfl, hS, hrow, hnil, hB2⟩))
 go_ret
 have e1 : (fk p0).length = ss.length := by unfold fk; rw [Ps, List.length_mergeSort, hS.length_eq]
 have e2 : (fk p0).map Value.string = (ss.mergeSort fun x y => decide (x ≤ y)).map encStr := by
  unfold fk
  rw [List.map_map, ← mergeSort_of_perm hS]
  rfl
 have hz := hB.size
 refine ⟨v, rfl, (hB.alloc hz _).trans (hB2.mono (by simp; omega)), ?_⟩
 rw [e1, e2]
 exact Bb hrow (by simp; omega)
noncomputable def rT (p0 : List ByteArray) : Option (List ByteArray) := if p0.length ≤ 1000 ∧ ∀ s ∈ p0, s.size ≤ 1000 then some (fk p0) else none
theorem zD (p0 : List ByteArray) (r : List ByteArray) (h : rT p0 = some r) : CT 229 [vl 1 Rs p0] [] (.c (.ref 0 1 0 r.length)) [(0, .row 9 false 1 r.length (Rs r))] := by
 unfold rT at h
 obtain ⟨⟨h1, h2⟩, h⟩ := aN h
 obtain rfl := am h
 refine vo (xs := (fk p0).map Value.string) ⟨_, Tryz.func229, by kernel_rfl, rfl⟩ (by simp) (by decide) se fun w ok vs' hok ha => ?_
 obtain ⟨l⟩ := vs'
 rcases l with _ | ⟨v0, _ | ⟨v1, l⟩⟩
 ·exact ha.elim
 ·obtain ⟨a0, _⟩ := ha
  obtain ⟨q, c, rfl, hc, hd⟩ := wZ hok a0
  exact callsIn_wide.1 (Bd p0 h1 w q c (fun s hs => by have := h2 s hs; unfold maxLen; omega) hd)
 ·exact ha.2.elim
end
noncomputable def qk (y2 : List ByteArray) (x7 : Int) (z14 : Int) (x18 : List ByteArray) (x19 : Int) : Option (((List ByteArray) × Int) ⊕ (List ByteArray)) := if (decide (x19 < z14)) then (if 0 ≤ x19 then (if 0 ≤ (i64.wrap (x19 + 2)) then (if x19.toNat ≤ ((i64.wrap (x19 + 2)).toNat) then (if ((i64.wrap (x19 + 2)).toNat) ≤ ((((mk #[95]) ++ (y2.getD (0 + x7.toNat) mt)) ++ (mk #[95])).size) then (if x18.length + ([((((mk #[95]) ++ (y2.getD (0 + x7.toNat) mt)) ++ (mk #[95])).extract x19.toNat ((i64.wrap (x19 + 2)).toNat))] : aj).length ≤ 1099511627776 then (some (.inl ((x18 ++ ([((((mk #[95]) ++ (y2.getD (0 + x7.toNat) mt)) ++ (mk #[95])).extract x19.toNat ((i64.wrap (x19 + 2)).toNat))] : aj)), i64.wrap (x19 + 1)))) else none) else none) else none) else none) else none) else (some (.inr x18))
noncomputable def ql (y2 : List ByteArray) (x6 : List ByteArray) (x7 : Int) : Option (((List ByteArray) × Int) ⊕ (List ByteArray)) := if (decide (x7 < (y2.length : Int))) then (if 0 ≤ x7 then (if x7 < (y2.length : Int) then (if (mk #[95]).size + (y2.getD (0 + x7.toNat) mt).size ≤ bZ then (if ((mk #[95]) ++ (y2.getD (0 + x7.toNat) mt)).size + (mk #[95]).size ≤ bZ then ((some (i64.wrap ((((((mk #[95]) ++ (y2.getD (0 + x7.toNat) mt)) ++ (mk #[95])).size : Nat) : Int) - 1))).bind fun z14 => ((loop (fun v : (List ByteArray) × Int => qk y2 x7 z14 v.1 v.2) (x6, 0)).bind fun x27 => (some (.inl (x27, i64.wrap (x7 + 1)))))) else none) else none) else none) else none) else (some (.inr x6))
noncomputable def ms (p0 : ByteArray) : Option (List ByteArray) := if (decide ((p0.size : Int) > 64)) then (some ([] : aj)) else ((fb p0).bind fun y2 => ((loop (fun v : (List ByteArray) × Int => ql y2 v.1 v.2) (([] : aj), 0)).bind fun x29 => ((rT x29).bind fun y30 => (some y30))))
theorem uk (p0 : ByteArray) (r : List ByteArray) (h : ms p0 = some r) : CT 191 [vs p0] [] (.c (.ref 0 1 0 r.length)) [(0, .row 9 false 1 r.length (Rs r))] := by
 refine an ae 0 Tryz.func191 rfl (fun _ _ _ => ?_)
 unfold ms at h
 refine ah ae [] 1 (seq ?_)
 refine ah ae [(9, vb (decide ((p0.size : Int) > 64)))] 4 ?_
 refine Fw h (fun c1 h => ?_) (fun c1 h => ?_)
 ·refine ah ae [(2, .c (ax))] 5 (ret (Fo ?_))
  obtain rfl := am h
  exact cB (.inr rfl) [(0, 5)] 1 (.c (.ref 5 1 0 (([] : aj).length))) (cg (t := 2) (ty := 9) (sz := 1) (n := ([] : aj).length) (f := Rs ([] : aj)) (by kernel_rfl) rfl)
 ·refine skip (Fp ?_)
  refine ah ae [(3, .c (ax))] 5 (seq ?_)
  obtain ⟨y2, e3, h⟩ := ak h
  refine Fs ae [(13, af 0), (12, af (y2.length : Int)), (11, rX 6 1 y2.length)] [6] [(6, .row 9 false 1 y2.length (Rs y2))] 9 [hn, hm [] [] 1 (gw p0 y2 e3) ⟨bV Vs _ _ _, tv⟩] (block ?_)
  obtain ⟨x29, l32, h⟩ := ak h
  refine Fy l32 (fun v => ⟨[(3, rX 0 1 v.1.length), (11, rX 1 1 y2.length), (12, af (y2.length : Int)), (13, af v.2)], [(0, .row 9 false 1 v.1.length (Rs v.1)), (1, .row 9 false 1 y2.length (Rs y2))], 2⟩) (fun t : List ByteArray => (.exit 0, ⟨[(3, rX 0 1 t.length)], [(0, .row 9 false 1 t.length (Rs t))], 1⟩)) (Conv.trans (cg (t := 3) (ty := 9) (sz := 1) (n := ([] : aj).length) (f := Rs ([] : aj)) (by kernel_rfl) rfl) (ai [(0, 9), (1, 6)])) (fun _ => tv) ?_ ?_
  ·clear l32 h
   intro v o h
   obtain ⟨x6, x7⟩ := v
   replace h : ql y2 x6 x7 = some o := h
   unfold ql at h
   refine ah ae [(14, vb (decide (x7 < (y2.length : Int))))] 3 (seq ?_)
   refine Fw h (fun c9 h => ?_) (fun c9 h => ?_)
   ·refine skip (Fp ?_)
    refine seq (block ?_)
    obtain ⟨g10, g11, h⟩ := aG h
    refine ay ae [(5, vs (y2.getD (0 + x7.toNat) mt))] 6 [hq g10 g11, ho (p := (0 + x7.toNat) < y2.length) (by have h1 : 0 ≤ x7 := g10; have h2 : x7 < (y2.length : Int) := g11; omega)] ?_
    obtain ⟨g12, g13, h⟩ := aG h
    refine ay ae [(5, vs (((mk #[95]) ++ (y2.getD (0 + x7.toNat) mt)) ++ (mk #[95])))] 10 [hn, ho g12, ho g13] ?_
    obtain ⟨z14, n15, h⟩ := ak h
    replace n15 := am n15
    refine ah ae [(23, af 0), (22, af z14)] 14 ?_ (by subst n15; kernel_rfl)
    refine block ?_
    obtain ⟨x27, l28, h⟩ := ak h
    refine Fy l28 (fun v => ⟨[(3, rX 0 1 v.1.length), (5, vs (((mk #[95]) ++ (y2.getD (0 + x7.toNat) mt)) ++ (mk #[95]))), (11, rX 1 1 y2.length), (12, af (y2.length : Int)), (13, af x7), (22, af z14), (23, af v.2)], [(0, .row 9 false 1 v.1.length (Rs v.1)), (1, .row 9 false 1 y2.length (Rs y2))], 2⟩) (fun t : List ByteArray => (.exit 2, ⟨[(3, rX 0 1 t.length), (11, rX 1 1 y2.length), (12, af (y2.length : Int)), (13, af x7)], [(0, .row 9 false 1 t.length (Rs t)), (1, .row 9 false 1 y2.length (Rs y2))], 2⟩)) (ai [(0, 0), (1, 1)]) (fun _ => tv) ?_ ?_
    ·clear l28 h
     intro v o h
     obtain ⟨x18, x19⟩ := v
     replace h : qk y2 x7 z14 x18 x19 = some o := h
     unfold qk at h
     refine ah ae [(24, vb (decide (x19 < z14)))] 3 (seq ?_)
     refine Fw h (fun c21 h => ?_) (fun c21 h => ?_)
     ·refine skip (Fp ?_)
      refine seq (block ?_)
      refine ah ae [(6, af x19)] 5 ?_
      obtain ⟨g22, g23, h⟩ := aG h
      obtain ⟨g24, g25, h⟩ := aG h
      obtain ⟨g26, h⟩ := aN h
      refine AW.rg ae [(3, .c (.ref 12 1 0 ((x18 ++ ([((((mk #[95]) ++ (y2.getD (0 + x7.toNat) mt)) ++ (mk #[95])).extract x19.toNat ((i64.wrap (x19 + 2)).toNat))] : aj)).length)))] [0, 11, 12] [(12, .row 9 false 1 (x18 ++ ([((((mk #[95]) ++ (y2.getD (0 + x7.toNat) mt)) ++ (mk #[95])).extract x19.toNat ((i64.wrap (x19 + 2)).toNat))] : aj)).length (Rs (x18 ++ ([((((mk #[95]) ++ (y2.getD (0 + x7.toNat) mt)) ++ (mk #[95])).extract x19.toNat ((i64.wrap (x19 + 2)).toNat))] : aj))))] 14 [hn, hn, hn, hn, hn, ho (p := (0 ≤ x19) ∧ (0 ≤ (i64.wrap (x19 + 2))) ∧ (x19.toNat ≤ ((i64.wrap (x19 + 2)).toNat)) ∧ (((i64.wrap (x19 + 2)).toNat) ≤ ((((mk #[95]) ++ (y2.getD (0 + x7.toNat) mt)) ++ (mk #[95])).size))) (⟨g22, g23, g24, g25⟩), bh mt Es 1 (fun _ => rfl) ([((((mk #[95]) ++ (y2.getD (0 + x7.toNat) mt)) ++ (mk #[95])).extract x19.toNat ((i64.wrap (x19 + 2)).toNat))] : aj), bY mt Es 1 16 x18 ([((((mk #[95]) ++ (y2.getD (0 + x7.toNat) mt)) ++ (mk #[95])).extract x19.toNat ((i64.wrap (x19 + 2)).toNat))] : aj) g26 (by decide)] ?_
      refine Fj (Fp ?_)
      refine aS ae [(23, af (i64.wrap (x19 + 1)))] 16 ?_
      exact bu h (ai [(0, 12), (1, 1)])
     ·refine exit (Fb ?_)
      exact aU h rfl (ai [(0, 0), (1, 1)])
    ·show (_ : Exit → St → Prop) (.exit 2) _
     refine E6 (Fj (Fp ?_))
     refine aS ae [(13, af (i64.wrap (x7 + 1)))] 4 ?_
     exact bu h (ai [(0, 0), (1, 1)])
   ·refine exit (Fb ?_)
    exact aU h rfl (ai [(0, 0)])
  ·show (_ : Exit → St → Prop) (.exit 0) _
   refine E6 (Fp ?_)
   obtain ⟨y30, e31, h⟩ := ak h
   refine Fs ae [(2, rX 2 1 y30.length)] [2] [(2, .row 9 false 1 y30.length (Rs y30))] 4 [hn, hg [] [] true 1 (q := (0 + x29.length ≤ x29.length) ∧ (True)) ⟨br, tv⟩ (a0 := [vl 1 Rs x29]) (zD x29 y30 e31) ⟨aR.refl _, tv⟩ (fun _ => ⟨bV Vs _ _ _, tv⟩)] (ret ?_)
   obtain rfl := am h
   exact aW (.inr rfl) [(0, 2)] 1 (.c (.ref 2 1 0 y30.length))
noncomputable def oK (p0 : ByteArray) (x4 : List ByteArray) (x5 : Int) : Option (((List ByteArray) × Int) ⊕ (List ByteArray)) := if (decide (x5 < (p0.size : Int))) then (if 0 ≤ x5 then (if x5 < (p0.size : Int) then (if x4.length + ([(Vm.strOf ([u8.wrap (i64.wrap (97 + x5)), ((p0.data.toList.getD x5.toNat 0).toNat : Int)] : List Int))] : aj).length ≤ 1099511627776 then (some (.inl ((x4 ++ ([(Vm.strOf ([u8.wrap (i64.wrap (97 + x5)), ((p0.data.toList.getD x5.toNat 0).toNat : Int)] : List Int))] : aj)), i64.wrap (x5 + 1)))) else none) else none) else none) else (some (.inr x4))
noncomputable def pu (p0 : ByteArray) : Option (List ByteArray) := if (decide ((p0.size : Int) > 26)) then (some ([] : aj)) else ((loop (fun v : (List ByteArray) × Int => oK p0 v.1 v.2) (([] : aj), 0)).bind fun x11 => (some x11))
theorem ya (p0 : ByteArray) (r : List ByteArray) (h : pu p0 = some r) : CT 195 [vs p0] [] (.c (.ref 0 1 0 r.length)) [(0, .row 9 false 1 r.length (Rs r))] := by
 refine an ae 0 Tryz.func195 rfl (fun _ _ _ => ?_)
 unfold pu at h
 refine ah ae [] 1 (seq ?_)
 refine ah ae [(7, vb (decide ((p0.size : Int) > 26)))] 4 ?_
 refine Fw h (fun c1 h => ?_) (fun c1 h => ?_)
 ·refine ah ae [(2, .c (ax))] 5 (ret (Fo ?_))
  obtain rfl := am h
  exact cB (.inr rfl) [(0, 5)] 1 (.c (.ref 5 1 0 (([] : aj).length))) (cg (t := 2) (ty := 9) (sz := 1) (n := ([] : aj).length) (f := Rs ([] : aj)) (by kernel_rfl) rfl)
 ·refine skip (Fp ?_)
  refine ah ae [(3, .c (ax))] 5 (seq ?_)
  refine ah ae [(10, af 0), (9, af (p0.size : Int))] 8 (block ?_)
  obtain ⟨x11, l12, h⟩ := ak h
  refine Fy l12 (fun v => ⟨[(0, vs p0), (3, rX 0 1 v.1.length), (9, af (p0.size : Int)), (10, af v.2)], [(0, .row 9 false 1 v.1.length (Rs v.1))], 1⟩) (fun t : List ByteArray => (.exit 0, ⟨[(3, rX 0 1 t.length)], [(0, .row 9 false 1 t.length (Rs t))], 1⟩)) (Conv.trans (cg (t := 3) (ty := 9) (sz := 1) (n := ([] : aj).length) (f := Rs ([] : aj)) (by kernel_rfl) rfl) (ai [(0, 8)])) (fun _ => tv) ?_ ?_
  ·clear l12 h
   intro v o h
   obtain ⟨x4, x5⟩ := v
   replace h : oK p0 x4 x5 = some o := h
   unfold oK at h
   refine ah ae [(11, vb (decide (x5 < (p0.size : Int))))] 2 (seq ?_)
   refine Fw h (fun c7 h => ?_) (fun c7 h => ?_)
   ·refine skip (Fp ?_)
    refine seq (block ?_)
    refine ah ae [(4, af x5)] 4 ?_
    obtain ⟨g8, g9, h⟩ := aG h
    obtain ⟨g10, h⟩ := aN h
    refine AW.rg ae [(3, .c (.ref 14 1 0 ((x4 ++ ([(Vm.strOf ([u8.wrap (i64.wrap (97 + x5)), ((p0.data.toList.getD x5.toNat 0).toNat : Int)] : List Int))] : aj)).length)))] [0, 11, 13, 14] [(14, .row 9 false 1 (x4 ++ ([(Vm.strOf ([u8.wrap (i64.wrap (97 + x5)), ((p0.data.toList.getD x5.toNat 0).toNat : Int)] : List Int))] : aj)).length (Rs (x4 ++ ([(Vm.strOf ([u8.wrap (i64.wrap (97 + x5)), ((p0.data.toList.getD x5.toNat 0).toNat : Int)] : List Int))] : aj))))] 16 [hn, hn, hn, hn, hn, hn, hq g8 g9, bh 0 cU 1 (fun _ => rfl) ([u8.wrap (i64.wrap (97 + x5)), ((p0.data.toList.getD x5.toNat 0).toNat : Int)] : List Int), hi (fun i => ([u8.wrap (i64.wrap (97 + x5)), ((p0.data.toList.getD x5.toNat 0).toNat : Int)] : List Int).getD i 0) (p := (0 + ([u8.wrap (i64.wrap (97 + x5)), ((p0.data.toList.getD x5.toNat 0).toNat : Int)] : List Int).length ≤ ([u8.wrap (i64.wrap (97 + x5)), ((p0.data.toList.getD x5.toNat 0).toNat : Int)] : List Int).length) ∧ ∀ i, i < ([u8.wrap (i64.wrap (97 + x5)), ((p0.data.toList.getD x5.toNat 0).toNat : Int)] : List Int).length → (fun i j => bf ([u8.wrap (i64.wrap (97 + x5)), ((p0.data.toList.getD x5.toNat 0).toNat : Int)] : List Int) (0 + i) j) i 0 = .v (.int .u8 (([u8.wrap (i64.wrap (97 + x5)), ((p0.data.toList.getD x5.toNat 0).toNat : Int)] : List Int).getD i 0))) (⟨br, fun i _ => by simp only [Gg] <;> rfl⟩), bh mt Es 1 (fun _ => rfl) ([(Vm.strOf ([u8.wrap (i64.wrap (97 + x5)), ((p0.data.toList.getD x5.toNat 0).toNat : Int)] : List Int))] : aj), bY mt Es 1 16 x4 ([(Vm.strOf ([u8.wrap (i64.wrap (97 + x5)), ((p0.data.toList.getD x5.toNat 0).toNat : Int)] : List Int))] : aj) g10 (by decide)] ?_
    refine Fj (Fp ?_)
    refine aS ae [(10, af (i64.wrap (x5 + 1)))] 18 ?_
    exact bu h (ai [(0, 14)])
   ·refine exit (Fb ?_)
    exact aU h rfl (ai [(0, 0)])
  ·show (_ : Exit → St → Prop) (.exit 0) _
   refine E6 (Fp ?_)
   refine ah ae [(2, rX 0 1 x11.length)] 3 (ret ?_)
   obtain rfl := am h
   exact aW (.inr rfl) [(0, 0)] 1 (.c (.ref 0 1 0 x11.length))
noncomputable def pw (p0 : ByteArray) : Option (List ByteArray) := if (mk #[61]).size + p0.size ≤ bZ then (some ([((mk #[61]) ++ p0)] : aj)) else none
theorem yb (p0 : ByteArray) (r : List ByteArray) (h : pw p0 = some r) : CT 200 [vs p0] [] (.c (.ref 0 1 0 r.length)) [(0, .row 9 false 1 r.length (Rs r))] := by
 refine an ae 0 Tryz.func200 rfl (fun _ _ _ => ?_)
 unfold pw at h
 refine ah ae [] 1 ?_
 obtain ⟨g1, h⟩ := aN h
 refine Fs ae [(2, .c (.ref 3 1 0 (([((mk #[61]) ++ p0)] : aj).length)))] [3] [(3, .row 9 false 1 ([((mk #[61]) ++ p0)] : aj).length (Rs ([((mk #[61]) ++ p0)] : aj)))] 5 [hn, ho g1, bh mt Es 1 (fun _ => rfl) ([((mk #[61]) ++ p0)] : aj)] (ret ?_)
 obtain rfl := am h
 exact aW (.inr rfl) [(0, 3)] 1 (.c (.ref 3 1 0 (([((mk #[61]) ++ p0)] : aj).length)))
end Go.Proofs.YtfmhbcfklokmaaaGreatDoor
