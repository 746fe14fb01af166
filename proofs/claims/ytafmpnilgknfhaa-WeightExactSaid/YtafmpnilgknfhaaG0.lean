/- Printed by a program of mine (vmgen.py): Go functions, and what they come to. -/
import Derived.Test.YtafmpnilgknfhaaVr
import Derived.Test.YtafmpnilgknfhaaRows
namespace Go.Proofs.Ytafmpnilgknfhaa
open Vm
open IntKind (i64 u64 u32 u8)
set_option maxHeartbeats 10000000
set_option linter.unusedVariables false
set_option linter.unusedSimpArgs false
set_option linter.constructorNameAsVariable false
def ttl0 : List (Nat × TI) := [(3, ⟨.int .i64, 1, 8, [.int .i64 0]⟩), (4, ⟨.bool, 1, 1, [.bool false]⟩), (5, ⟨.int .u8, 1, 1, [.int .u8 0]⟩), (9, ⟨.str, 1, 16, [.string ⟨#[]⟩]⟩), (22, ⟨.int .u16, 1, 2, [.int .u16 0]⟩), (23, ⟨.int .i64, 1, 8, [.int .i64 0]⟩), (29, ⟨.int .u64, 1, 8, [.int .u64 0]⟩), (31, ⟨.slice 3, 1, 24, [.slice none 0 0]⟩), (33, ⟨.ptr 60, 1, 8, [.pointer none]⟩), (36, ⟨.struct [(3, 0), (31, 1), (31, 2)], 3, 56, [.int .i64 0, .slice none 0 0, .slice none 0 0]⟩), (40, ⟨.struct [(3, 0), (31, 1), (31, 2)], 3, 56, [.int .i64 0, .slice none 0 0, .slice none 0 0]⟩), (48, ⟨.slice 36, 1, 24, [.slice none 0 0]⟩), (53, ⟨.slice 78, 1, 24, [.slice none 0 0]⟩), (58, ⟨.int .u64, 1, 8, [.int .u64 0]⟩), (60, ⟨.struct [(31, 0), (3, 1), (58, 2)], 3, 40, [.slice none 0 0, .int .i64 0, .int .u64 0]⟩), (65, ⟨.arr 3 3, 3, 24, [.int .i64 0, .int .i64 0, .int .i64 0]⟩), (78, ⟨.int .u32, 1, 4, [.int .u32 0]⟩), (91, ⟨.arr 6 3, 6, 48, [.int .i64 0, .int .i64 0, .int .i64 0, .int .i64 0, .int .i64 0, .int .i64 0]⟩)]
theorem tt_ok0 : TTok Try.prog (Vm.look ttl0) := ttok_of ⟨⟨by kernel_rfl, by kernel_rfl⟩, ⟨by kernel_rfl, by kernel_rfl⟩, ⟨by kernel_rfl, by kernel_rfl⟩, ⟨by kernel_rfl, by kernel_rfl⟩, ⟨by kernel_rfl, by kernel_rfl⟩, ⟨by kernel_rfl, by kernel_rfl⟩, ⟨by kernel_rfl, by kernel_rfl⟩, ⟨by kernel_rfl, by kernel_rfl⟩, ⟨by kernel_rfl, by kernel_rfl⟩, ⟨by kernel_rfl, by kernel_rfl⟩, ⟨by kernel_rfl, by kernel_rfl⟩, ⟨by kernel_rfl, by kernel_rfl⟩, ⟨by kernel_rfl, by kernel_rfl⟩, ⟨by kernel_rfl, by kernel_rfl⟩, ⟨by kernel_rfl, by kernel_rfl⟩, ⟨by kernel_rfl, by kernel_rfl⟩, ⟨by kernel_rfl, by kernel_rfl⟩, ⟨by kernel_rfl, by kernel_rfl⟩, trivial⟩
theorem mo0 : Try.prog.follows .mixedOrders = true := by kernel_rfl
def Eu32 (x : Int) : List T := [.v (.int .u32 x)]
def Ru32 (xs : List Int) : Nat → Nat → T := rowL 0 Eu32 xs
theorem Vu32 : ∀ x, allV (Eu32 x) := fun _ => ⟨tv, tv⟩
/-! recordlink/natural.trim -/
noncomputable def natural_trim_k2 (x2 : List Int) (x4 : Bool) : Option ((List Int) ⊕ (List Int)) := if x4 = true then (if 0 ≤ (i64.wrap ((x2.length : Int) - 1)) then (if ((i64.wrap ((x2.length : Int) - 1)).toNat) ≤ x2.length then (some (.inl (x2.take ((i64.wrap ((x2.length : Int) - 1)).toNat)))) else none) else none) else (some (.inr x2))
noncomputable def natural_trim_l1 (x2 : List Int) : Option ((List Int) ⊕ (List Int)) := if (decide ((x2.length : Int) > 0)) = true then (if 0 ≤ (i64.wrap ((x2.length : Int) - 1)) then (if (i64.wrap ((x2.length : Int) - 1)) < (x2.length : Int) then (natural_trim_k2 x2 ((x2.getD ((i64.wrap ((x2.length : Int) - 1)).toNat) 0) == 0)) else none) else none) else (natural_trim_k2 x2 false)
noncomputable def natural_trim (p0 : List Int) : Option (List Int) := (loop (fun v : List Int => natural_trim_l1 v) p0).bind fun x11 => (some x11)
set_option maxRecDepth 100000 in
theorem natural_trim_con (p0 : List Int) (r : List Int) (h : natural_trim p0 = some r) : Con Try.prog 51 [vl 1 Ru32 p0] [] (vl 1 Ru32 r) [] := by
 refine con_of tt_ok0 0 Try.func51 (by kernel_rfl) rfl (by kernel_rfl) (fun base X _ => AW.post ?_)
 unfold natural_trim at h
 refine AW.sg tt_ok0 [] [] [] 1 [] (by kernel_rfl) ?_
 refine AW.seq (AW.block ?_)
 obtain ⟨x11, l12, h⟩ := bnd_some h
 refine AW.lp l12 (fun v => ⟨[(0, vl 1 Ru32 v)], [], 0⟩) (fun t : List Int => (.exit 0, ⟨[(0, vl 1 Ru32 t)], [], 0⟩)) (conv_re [] (by kernel_rfl)) (fun _ => tv) ?_ ?_
 ·
  clear l12 h
  intro x2 o h
  unfold natural_trim_l1 at h
  refine AW.seq (AW.seq ?_)
  refine AW.join (ι := Bool) (fun v => ⟨[(0, vl 1 Ru32 x2), (14, vb v)], [], 0⟩) (fun v : Bool => natural_trim_k2 x2 v = some o) (fun x4 h => ?_) ?_
  ·
   unfold natural_trim_k2 at h
   refine AW.tn ?_
   refine AW.co h (by kernel_rfl) (fun c5 h => ?_) (fun c5 h => ?_)
   ·
    refine AW.skip (AW.tn (AW.block ?_))
    obtain ⟨g6, g7, h⟩ := ifd h
    refine AW.rg tt_ok0 [(0, .c (.t (.tree ((i64.wrap ((x2.length : Int) - 1)).toNat) 1 (Ru32 x2))))] [] [] 6 [hn, hn, hn, hn, ho (p := (True) ∧ (0 ≤ (i64.wrap ((x2.length : Int) - 1))) ∧ (0 ≤ ((i64.wrap ((x2.length : Int) - 1)).toNat)) ∧ (((i64.wrap ((x2.length : Int) - 1)).toNat) ≤ x2.length)) (⟨tv, g6, (Nat.zero_le _), g7⟩)] (by kernel_rfl) ?_
    refine AW.inBlock_normal ?_
    exact lpn h (Conv.trans (conv_tms [(0, vl 1 Ru32 (x2.take ((i64.wrap ((x2.length : Int) - 1)).toNat)))] ⟨⟨.c (.t (.tree ((i64.wrap ((x2.length : Int) - 1)).toNat) 1 (Ru32 x2))), by kernel_rfl, ALe.c (CAle.cle (CAle.tree (take_row (by omega))))⟩, tv⟩) (conv_re [] (by kernel_rfl)))
   ·
    refine AW.exit (AW.thenQ_exit ?_)
    exact lpo h rfl (conv_re [] (by kernel_rfl))
  ·
   rcases ifs h with ⟨c8, h⟩ | ⟨c8, h⟩
   ·
    obtain ⟨g9, g10, h⟩ := ifd h
    refine AW.rg tt_ok0 [(14, vb ((x2.getD ((i64.wrap ((x2.length : Int) - 1)).toNat) 0) == 0))] [] [] 12 [hn, hn, ht c8, hn, hn, hn, hn, hn, hq g9 g10] (by kernel_rfl) ?_
    exact jl ((x2.getD ((i64.wrap ((x2.length : Int) - 1)).toNat) 0) == 0) h (conv_re [] (by kernel_rfl))
   ·
    refine AW.rg tt_ok0 [(14, vb false)] [] [] 12 [hn, hn, hf c8] (by kernel_rfl) ?_
    exact jl false h (conv_re [] (by kernel_rfl))
 ·
  show (_ : Exit → St → Prop) (.exit 0) _
  refine AW.inBlock_hit (AW.tn ?_)
  refine AW.sg tt_ok0 [(2, vl 1 Ru32 x11)] [] [] 2 [] (by kernel_rfl) ?_
  refine AW.ret ?_
  obtain rfl := some_inj h
  exact fn0 (.inr rfl) [] 0 (vl 1 Ru32 x11) (by kernel_rfl)
/-! recordlink/natural.FromInt -/
noncomputable def natural_FromInt (p0 : Int) : Option ((List Int) × Int) := if (decide (p0 < 0)) = true then (some (([] : List Int), 2)) else ((natural_trim ([u32.wrap p0, u32.wrap (ishr .i64 p0 32)] : List Int)).bind fun y2 => (some (y2, 0)))
set_option maxRecDepth 100000 in
theorem natural_FromInt_con (p0 : Int) (r : (List Int) × Int) (h : natural_FromInt p0 = some r) : Con Try.prog 48 [vi64 p0] [] (.tup [vl 1 Ru32 r.1, vi64 r.2]) [] := by
 refine con_of tt_ok0 0 Try.func48 (by kernel_rfl) rfl (by kernel_rfl) (fun base X _ => AW.post ?_)
 unfold natural_FromInt at h
 refine AW.sg tt_ok0 [] [] [] 2 [] (by kernel_rfl) ?_
 refine AW.seq ?_
 refine AW.sg tt_ok0 [(5, vb (decide (p0 < 0)))] [] [] 4 [] (by kernel_rfl) ?_
 refine AW.co h (by kernel_rfl) (fun c1 h => ?_) (fun c1 h => ?_)
 ·
  refine AW.sg tt_ok0 [(3, vi64 2), (2, .c (.t (.v (.slice none 0 0))))] [] [] 6 [] (by kernel_rfl) ?_
  refine AW.ret (AW.tr ?_)
  obtain rfl := some_inj h
  exact fnR (.inr rfl) [] 0 (.tup [vl 1 Ru32 ([] : List Int), vi64 2]) (conv_tms [(2, vl 1 Ru32 ([] : List Int))] ⟨⟨.c (.t (.v (.slice none 0 0))), by kernel_rfl, ALe.c (CLe.nil rfl)⟩, tv⟩) (by kernel_rfl)
 ·
  refine AW.skip (AW.tn ?_)
  obtain ⟨y2, e3, h⟩ := bnd_some h
  refine AW.sg tt_ok0 [(3, vi64 0), (2, vl 1 Ru32 y2)] [9] [] 12 [hn, hn, hn, ho (p := 0 ≤ (32 : Int)) (by decide), hn, hlit 0 Eu32 1 (fun _ => rfl) ([u32.wrap p0, u32.wrap (ishr .i64 p0 32)] : List Int), hg [] [9] false 0 (q := (0 + ([u32.wrap p0, u32.wrap (ishr .i64 p0 32)] : List Int).length ≤ ([u32.wrap p0, u32.wrap (ishr .i64 p0 32)] : List Int).length) ∧ (True)) ⟨le0, tv⟩ (a0 := [vl 1 Ru32 ([u32.wrap p0, u32.wrap (ishr .i64 p0 32)] : List Int)]) (natural_trim_con ([u32.wrap p0, u32.wrap (ishr .i64 p0 32)] : List Int) y2 e3) ⟨ArgLe.refl _, tv⟩ (fun h => by cases h)] (by kernel_rfl) ?_
  refine AW.ret ?_
  obtain rfl := some_inj h
  exact fn0 (.inr rfl) [] 0 (.tup [vl 1 Ru32 y2, vi64 0]) (by kernel_rfl)
/-! recordlink/natural.Valid -/
noncomputable def natural_Valid_k1 (x1 : Bool) : Option Bool := some x1
noncomputable def natural_Valid (p0 : List Int) : Option Bool := if (decide ((p0.length : Int) ≤ 64)) = true then (if ((p0.length : Int) == 0) = true then (natural_Valid_k1 true) else (if 0 ≤ (i64.wrap ((p0.length : Int) - 1)) then (if (i64.wrap ((p0.length : Int) - 1)) < (p0.length : Int) then (natural_Valid_k1 ((p0.getD ((i64.wrap ((p0.length : Int) - 1)).toNat) 0) != 0)) else none) else none)) else (natural_Valid_k1 false)
set_option maxRecDepth 100000 in
theorem natural_Valid_con (p0 : List Int) (r : Bool) (h : natural_Valid p0 = some r) : Con Try.prog 66 [vl 1 Ru32 p0] [] (vb r) [] := by
 refine con_of tt_ok0 0 Try.func66 (by kernel_rfl) rfl (by kernel_rfl) (fun base X _ => AW.post ?_)
 unfold natural_Valid at h
 refine AW.sg tt_ok0 [] [] [] 1 [] (by kernel_rfl) ?_
 refine AW.seq ?_
 refine AW.join (ι := Bool) (fun v => ⟨[(2, vb v)], [], 0⟩) (fun v : Bool => natural_Valid_k1 v = some r) (fun x1 h => ?_) ?_
 ·
  unfold natural_Valid_k1 at h
  refine AW.tn (AW.ret ?_)
  obtain rfl := some_inj h
  exact fn0 (.inr rfl) [] 0 (vb x1) (by kernel_rfl)
 ·
  rcases ifs h with ⟨c2, h⟩ | ⟨c2, h⟩
  ·
   rcases ifs h with ⟨c3, h⟩ | ⟨c3, h⟩
   ·
    refine AW.rg tt_ok0 [(2, vb true)] [] [] 19 [hn, hn, ht c2, hn, hn, hn, ht c3] (by kernel_rfl) ?_
    exact jl true h (conv_re [] (by kernel_rfl))
   ·
    obtain ⟨g4, g5, h⟩ := ifd h
    refine AW.rg tt_ok0 [(2, vb ((p0.getD ((i64.wrap ((p0.length : Int) - 1)).toNat) 0) != 0))] [] [] 19 [hn, hn, ht c2, hn, hn, hn, hf c3, hn, hn, hn, hn, hn, hq g4 g5] (by kernel_rfl) ?_
    exact jl ((p0.getD ((i64.wrap ((p0.length : Int) - 1)).toNat) 0) != 0) h (conv_re [] (by kernel_rfl))
  ·
   refine AW.rg tt_ok0 [(2, vb false)] [] [] 19 [hn, hn, hf c2] (by kernel_rfl) ?_
   exact jl false h (conv_re [] (by kernel_rfl))
/-! cmp.isNaN[int] -/
noncomputable def cmp_isNaN_int (p0 : Int) : Option Bool := some (p0 != p0)
set_option maxRecDepth 100000 in
theorem cmp_isNaN_int_con (p0 : Int) (r : Bool) (h : cmp_isNaN_int p0 = some r) : Con Try.prog 68 [vi64 p0] [] (vb r) [] := by
 refine con_of tt_ok0 0 Try.func68 (by kernel_rfl) rfl (by kernel_rfl) (fun base X _ => AW.post ?_)
 unfold cmp_isNaN_int at h
 refine AW.sg tt_ok0 [] [] [] 1 [] (by kernel_rfl) ?_
 refine AW.sg tt_ok0 [(2, vb (p0 != p0))] [] [] 5 [] (by kernel_rfl) ?_
 refine AW.ret ?_
 obtain rfl := some_inj h
 exact fn0 (.inr rfl) [] 0 (vb (p0 != p0)) (by kernel_rfl)
/-! cmp.Compare[int] -/
noncomputable def cmp_Compare_int (p0 : Int) (p1 : Int) : Option Int := (cmp_isNaN_int p0).bind fun y1 => ((cmp_isNaN_int p1).bind fun y3 => (if y1 = true then (if y3 = true then (some 0) else (some (-1))) else (if y3 = true then (some 1) else (if (decide (p0 < p1)) = true then (some (-1)) else (if (decide (p0 > p1)) = true then (some 1) else (some 0))))))
set_option maxRecDepth 100000 in
theorem cmp_Compare_int_con (p0 : Int) (p1 : Int) (r : Int) (h : cmp_Compare_int p0 p1 = some r) : Con Try.prog 52 [vi64 p0, vi64 p1] [] (vi64 r) [] := by
 refine con_of tt_ok0 0 Try.func52 (by kernel_rfl) rfl (by kernel_rfl) (fun base X _ => AW.post ?_)
 unfold cmp_Compare_int at h
 refine AW.sg tt_ok0 [] [] [] 1 [] (by kernel_rfl) ?_
 obtain ⟨y1, e2, h⟩ := bnd_some h
 refine AW.sg tt_ok0 [(5, vb y1)] [] [] 3 [hn, hk (cmp_isNaN_int_con p0 y1 e2)] (by kernel_rfl) ?_
 obtain ⟨y3, e4, h⟩ := bnd_some h
 refine AW.sg tt_ok0 [(6, vb y3)] [] [] 5 [hn, hk (cmp_isNaN_int_con p1 y3 e4)] (by kernel_rfl) ?_
 refine AW.seq ?_
 refine AW.sg tt_ok0 [(11, vb y1)] [] [] 6 [] (by kernel_rfl) ?_
 refine AW.co h (by kernel_rfl) (fun c5 h => ?_) (fun c5 h => ?_)
 ·
  refine AW.seq ?_
  refine AW.sg tt_ok0 [(12, vb y3)] [] [] 7 [] (by kernel_rfl) ?_
  refine AW.co h (by kernel_rfl) (fun c6 h => ?_) (fun c6 h => ?_)
  ·
   refine AW.sg tt_ok0 [(4, vi64 0)] [] [] 8 [] (by kernel_rfl) ?_
   refine AW.ret (AW.tr (AW.tr ?_))
   obtain rfl := some_inj h
   exact fn0 (.inr rfl) [] 0 (vi64 0) (by kernel_rfl)
  ·
   refine AW.skip (AW.tn ?_)
   refine AW.sg tt_ok0 [(4, vi64 (-1))] [] [] 8 [] (by kernel_rfl) ?_
   refine AW.ret (AW.tr ?_)
   obtain rfl := some_inj h
   exact fn0 (.inr rfl) [] 0 (vi64 (-1)) (by kernel_rfl)
 ·
  refine AW.skip (AW.tn (AW.seq ?_))
  refine AW.sg tt_ok0 [(13, vb y3)] [] [] 7 [] (by kernel_rfl) ?_
  refine AW.co h (by kernel_rfl) (fun c7 h => ?_) (fun c7 h => ?_)
  ·
   refine AW.sg tt_ok0 [(4, vi64 1)] [] [] 8 [] (by kernel_rfl) ?_
   refine AW.ret (AW.tr ?_)
   obtain rfl := some_inj h
   exact fn0 (.inr rfl) [] 0 (vi64 1) (by kernel_rfl)
  ·
   refine AW.skip (AW.tn (AW.seq ?_))
   refine AW.sg tt_ok0 [(16, vb (decide (p0 < p1)))] [] [] 10 [] (by kernel_rfl) ?_
   refine AW.co h (by kernel_rfl) (fun c8 h => ?_) (fun c8 h => ?_)
   ·
    refine AW.sg tt_ok0 [(4, vi64 (-1))] [] [] 11 [] (by kernel_rfl) ?_
    refine AW.ret (AW.tr ?_)
    obtain rfl := some_inj h
    exact fn0 (.inr rfl) [] 0 (vi64 (-1)) (by kernel_rfl)
   ·
    refine AW.skip (AW.tn (AW.seq ?_))
    refine AW.sg tt_ok0 [(19, vb (decide (p0 > p1)))] [] [] 13 [] (by kernel_rfl) ?_
    refine AW.co h (by kernel_rfl) (fun c9 h => ?_) (fun c9 h => ?_)
    ·
     refine AW.sg tt_ok0 [(4, vi64 1)] [] [] 14 [] (by kernel_rfl) ?_
     refine AW.ret (AW.tr ?_)
     obtain rfl := some_inj h
     exact fn0 (.inr rfl) [] 0 (vi64 1) (by kernel_rfl)
    ·
     refine AW.skip (AW.tn ?_)
     refine AW.sg tt_ok0 [(4, vi64 0)] [] [] 14 [] (by kernel_rfl) ?_
     refine AW.ret ?_
     obtain rfl := some_inj h
     exact fn0 (.inr rfl) [] 0 (vi64 0) (by kernel_rfl)
/-! cmp.isNaN[uint32] -/
noncomputable def cmp_isNaN_uint32 (p0 : Int) : Option Bool := some (p0 != p0)
set_option maxRecDepth 100000 in
theorem cmp_isNaN_uint32_con (p0 : Int) (r : Bool) (h : cmp_isNaN_uint32 p0 = some r) : Con Try.prog 69 [vu32 p0] [] (vb r) [] := by
 refine con_of tt_ok0 0 Try.func69 (by kernel_rfl) rfl (by kernel_rfl) (fun base X _ => AW.post ?_)
 unfold cmp_isNaN_uint32 at h
 refine AW.sg tt_ok0 [] [] [] 1 [] (by kernel_rfl) ?_
 refine AW.sg tt_ok0 [(2, vb (p0 != p0))] [] [] 5 [] (by kernel_rfl) ?_
 refine AW.ret ?_
 obtain rfl := some_inj h
 exact fn0 (.inr rfl) [] 0 (vb (p0 != p0)) (by kernel_rfl)
/-! cmp.Compare[uint32] -/
noncomputable def cmp_Compare_uint32 (p0 : Int) (p1 : Int) : Option Int := (cmp_isNaN_uint32 p0).bind fun y1 => ((cmp_isNaN_uint32 p1).bind fun y3 => (if y1 = true then (if y3 = true then (some 0) else (some (-1))) else (if y3 = true then (some 1) else (if (decide (p0 < p1)) = true then (some (-1)) else (if (decide (p0 > p1)) = true then (some 1) else (some 0))))))
set_option maxRecDepth 100000 in
theorem cmp_Compare_uint32_con (p0 : Int) (p1 : Int) (r : Int) (h : cmp_Compare_uint32 p0 p1 = some r) : Con Try.prog 53 [vu32 p0, vu32 p1] [] (vi64 r) [] := by
 refine con_of tt_ok0 0 Try.func53 (by kernel_rfl) rfl (by kernel_rfl) (fun base X _ => AW.post ?_)
 unfold cmp_Compare_uint32 at h
 refine AW.sg tt_ok0 [] [] [] 1 [] (by kernel_rfl) ?_
 obtain ⟨y1, e2, h⟩ := bnd_some h
 refine AW.sg tt_ok0 [(5, vb y1)] [] [] 3 [hn, hk (cmp_isNaN_uint32_con p0 y1 e2)] (by kernel_rfl) ?_
 obtain ⟨y3, e4, h⟩ := bnd_some h
 refine AW.sg tt_ok0 [(6, vb y3)] [] [] 5 [hn, hk (cmp_isNaN_uint32_con p1 y3 e4)] (by kernel_rfl) ?_
 refine AW.seq ?_
 refine AW.sg tt_ok0 [(11, vb y1)] [] [] 6 [] (by kernel_rfl) ?_
 refine AW.co h (by kernel_rfl) (fun c5 h => ?_) (fun c5 h => ?_)
 ·
  refine AW.seq ?_
  refine AW.sg tt_ok0 [(12, vb y3)] [] [] 7 [] (by kernel_rfl) ?_
  refine AW.co h (by kernel_rfl) (fun c6 h => ?_) (fun c6 h => ?_)
  ·
   refine AW.sg tt_ok0 [(4, vi64 0)] [] [] 8 [] (by kernel_rfl) ?_
   refine AW.ret (AW.tr (AW.tr ?_))
   obtain rfl := some_inj h
   exact fn0 (.inr rfl) [] 0 (vi64 0) (by kernel_rfl)
  ·
   refine AW.skip (AW.tn ?_)
   refine AW.sg tt_ok0 [(4, vi64 (-1))] [] [] 8 [] (by kernel_rfl) ?_
   refine AW.ret (AW.tr ?_)
   obtain rfl := some_inj h
   exact fn0 (.inr rfl) [] 0 (vi64 (-1)) (by kernel_rfl)
 ·
  refine AW.skip (AW.tn (AW.seq ?_))
  refine AW.sg tt_ok0 [(13, vb y3)] [] [] 7 [] (by kernel_rfl) ?_
  refine AW.co h (by kernel_rfl) (fun c7 h => ?_) (fun c7 h => ?_)
  ·
   refine AW.sg tt_ok0 [(4, vi64 1)] [] [] 8 [] (by kernel_rfl) ?_
   refine AW.ret (AW.tr ?_)
   obtain rfl := some_inj h
   exact fn0 (.inr rfl) [] 0 (vi64 1) (by kernel_rfl)
  ·
   refine AW.skip (AW.tn (AW.seq ?_))
   refine AW.sg tt_ok0 [(16, vb (decide (p0 < p1)))] [] [] 10 [] (by kernel_rfl) ?_
   refine AW.co h (by kernel_rfl) (fun c8 h => ?_) (fun c8 h => ?_)
   ·
    refine AW.sg tt_ok0 [(4, vi64 (-1))] [] [] 11 [] (by kernel_rfl) ?_
    refine AW.ret (AW.tr ?_)
    obtain rfl := some_inj h
    exact fn0 (.inr rfl) [] 0 (vi64 (-1)) (by kernel_rfl)
   ·
    refine AW.skip (AW.tn (AW.seq ?_))
    refine AW.sg tt_ok0 [(19, vb (decide (p0 > p1)))] [] [] 13 [] (by kernel_rfl) ?_
    refine AW.co h (by kernel_rfl) (fun c9 h => ?_) (fun c9 h => ?_)
    ·
     refine AW.sg tt_ok0 [(4, vi64 1)] [] [] 14 [] (by kernel_rfl) ?_
     refine AW.ret (AW.tr ?_)
     obtain rfl := some_inj h
     exact fn0 (.inr rfl) [] 0 (vi64 1) (by kernel_rfl)
    ·
     refine AW.skip (AW.tn ?_)
     refine AW.sg tt_ok0 [(4, vi64 0)] [] [] 14 [] (by kernel_rfl) ?_
     refine AW.ret ?_
     obtain rfl := some_inj h
     exact fn0 (.inr rfl) [] 0 (vi64 0) (by kernel_rfl)
/-! recordlink/natural.Compare -/
noncomputable def natural_Compare_l1 (y1 : List Int) (y3 : List Int) (x9 : Int) : Option (Int ⊕ (Unit ⊕ Int)) := if (decide (x9 ≥ 0)) = true then (if 0 ≤ x9 then (if x9 < (y1.length : Int) then (if x9 < (y3.length : Int) then (if ((y1.getD x9.toNat 0) != (y3.getD x9.toNat 0)) = true then ((cmp_Compare_uint32 (y1.getD x9.toNat 0) (y3.getD x9.toNat 0)).bind fun y16 => (some (.inr (.inr y16)))) else (some (.inl (i64.wrap (x9 - 1))))) else none) else none) else none) else (some (.inr (.inl ())))
noncomputable def natural_Compare_a2 : Option Int := some 0
noncomputable def natural_Compare_a3 (x18 : Int) : Option Int := some x18
noncomputable def natural_Compare (p0 : List Int) (p1 : List Int) : Option Int := (natural_trim p0).bind fun y1 => ((natural_trim p1).bind fun y3 => (if ((y1.length : Int) != (y3.length : Int)) = true then ((cmp_Compare_int (y1.length : Int) (y3.length : Int)).bind fun y6 => (some y6)) else (bindE (loop (fun v : Int => natural_Compare_l1 y1 y3 v) (i64.wrap ((y1.length : Int) - 1))) (fun t => natural_Compare_a2) (fun t => natural_Compare_a3 t))))
set_option maxRecDepth 100000 in
theorem natural_Compare_con (p0 : List Int) (p1 : List Int) (r : Int) (h : natural_Compare p0 p1 = some r) : Con Try.prog 31 [vl 1 Ru32 p0, vl 1 Ru32 p1] [] (vi64 r) [] := by
 refine con_of tt_ok0 0 Try.func31 (by kernel_rfl) rfl (by kernel_rfl) (fun base X _ => AW.post ?_)
 unfold natural_Compare at h
 refine AW.sg tt_ok0 [] [] [] 1 [] (by kernel_rfl) ?_
 obtain ⟨y1, e2, h⟩ := bnd_some h
 obtain ⟨y3, e4, h⟩ := bnd_some h
 refine AW.sg tt_ok0 [(1, vl 1 Ru32 y3), (0, vl 1 Ru32 y1)] [] [] 5 [hn, hk (natural_trim_con p0 y1 e2), hn, hk (natural_trim_con p1 y3 e4)] (by kernel_rfl) ?_
 refine AW.seq ?_
 refine AW.sg tt_ok0 [(14, vb ((y1.length : Int) != (y3.length : Int)))] [] [] 10 [] (by kernel_rfl) ?_
 refine AW.co h (by kernel_rfl) (fun c5 h => ?_) (fun c5 h => ?_)
 ·
  obtain ⟨y6, e7, h⟩ := bnd_some h
  refine AW.sg tt_ok0 [(4, vi64 y6)] [] [] 15 [hn, hn, hn, hn, hk (cmp_Compare_int_con (y1.length : Int) (y3.length : Int) y6 e7)] (by kernel_rfl) ?_
  refine AW.ret (AW.tr ?_)
  obtain rfl := some_inj h
  exact fn0 (.inr rfl) [] 0 (vi64 y6) (by kernel_rfl)
 ·
  refine AW.skip (AW.tn (AW.seq ?_))
  refine AW.sg tt_ok0 [(5, vi64 (i64.wrap ((y1.length : Int) - 1)))] [] [] 14 [] (by kernel_rfl) ?_
  refine AW.block ?_
  refine AW.lpE h (fun v => ⟨[(0, vl 1 Ru32 y1), (1, vl 1 Ru32 y3), (5, vi64 v)], [], 0⟩) (fun t => (.exit 0, ⟨[], [], 0⟩)) (fun t => (.ret, ⟨[(4, vi64 t)], [], 0⟩)) (conv_re [] (by kernel_rfl)) (fun _ => tv) (fun _ => tv) ?_ (fun t h => ?_) (fun x18 h => ?_)
  ·
   clear h
   intro x9 o h
   unfold natural_Compare_l1 at h
   refine AW.seq ?_
   refine AW.sg tt_ok0 [(24, vb (decide (x9 ≥ 0)))] [] [] 2 [] (by kernel_rfl) ?_
   refine AW.co h (by kernel_rfl) (fun c11 h => ?_) (fun c11 h => ?_)
   ·
    refine AW.skip (AW.tn ?_)
    refine AW.seq (AW.block ?_)
    obtain ⟨g12, g13, h⟩ := ifd h
    obtain ⟨g14, h⟩ := ifc h
    refine AW.sd tt_ok0 mo0 [] [(35, vb ((y1.getD x9.toNat 0) != (y3.getD x9.toNat 0)))] [] 11 [hn, hn, hq g12 g13, hn, hn, hn, hq g12 g14] (by kernel_rfl) ?_
    refine AW.co h (by kernel_rfl) (fun c15 h => ?_) (fun c15 h => ?_)
    ·
     obtain ⟨y16, e17, h⟩ := bnd_some h
     refine AW.sd tt_ok0 mo0 [] [(4, vi64 y16)] [] 20 [hn, hn, hq g12 g13, hn, hn, hn, hq g12 g14, hn, hk (cmp_Compare_uint32_con (y1.getD x9.toNat 0) (y3.getD x9.toNat 0) y16 e17)] (by kernel_rfl) ?_
     refine AW.ret (AW.inBlock_ret (AW.tr ?_))
     exact lpo h rfl (conv_re [] (by kernel_rfl))
    ·
     refine AW.skip (AW.inBlock_normal (AW.tn ?_))
     refine AW.rg tt_ok0 [(5, vi64 (i64.wrap (x9 - 1)))] [] [] 14 [] (by kernel_rfl) ?_
     exact lpn h (conv_re [] (by kernel_rfl))
   ·
    refine AW.exit (AW.thenQ_exit ?_)
    exact lpo h rfl (conv_re [] (by kernel_rfl))
  ·
   replace h : natural_Compare_a2 = some r := h
   unfold natural_Compare_a2 at h
   show (_ : Exit → St → Prop) (.exit 0) _
   refine AW.inBlock_hit (AW.tn ?_)
   refine AW.sg tt_ok0 [(4, vi64 0)] [] [] 1 [] (by kernel_rfl) ?_
   refine AW.ret ?_
   obtain rfl := some_inj h
   exact fn0 (.inr rfl) [] 0 (vi64 0) (by kernel_rfl)
  ·
   unfold natural_Compare_a3 at h
   show (_ : Exit → St → Prop) (.ret) _
   refine AW.inBlock_ret (AW.tr ?_)
   obtain rfl := some_inj h
   exact fn0 (.inr rfl) [] 0 (vi64 x18) (by kernel_rfl)
/-! recordlink/natural.times -/
noncomputable def natural_times_l2 (p0 : List Int) (p1 : List Int) (x6 : Int) (x14 : List Int) (x15 : Int) (x16 : Int) : Option (((List Int) × Int × Int) ⊕ ((List Int) × Int)) := if (decide (x16 < (p1.length : Int))) = true then (if 0 ≤ x16 then (if x16 < (p1.length : Int) then (if 0 ≤ (i64.wrap (x6 + x16)) then (if (i64.wrap (x6 + x16)) < (x14.length : Int) then ((some (u64.wrap (x15 + (u64.wrap ((u64.wrap ((u64.wrap (p0.getD x6.toNat 0)) * (u64.wrap (p1.getD x16.toNat 0)))) + (u64.wrap (x14.getD (0 + (i64.wrap (x6 + x16)).toNat) 0))))))).bind fun z24 => (some (.inl ((x14.set (0 + (i64.wrap (x6 + x16)).toNat) (u32.wrap z24)), ishr .u64 z24 32, i64.wrap (x16 + 1))))) else none) else none) else none) else none) else (some (.inr (x14, x15)))
noncomputable def natural_times_l1 (p0 : List Int) (p1 : List Int) (x5 : List Int) (x6 : Int) : Option (((List Int) × Int) ⊕ (List Int)) := if (decide (x6 < (p0.length : Int))) = true then (if 0 ≤ x6 then (if x6 < (p0.length : Int) then (bind2 (loop (fun v : (List Int) × Int × Int => natural_times_l2 p0 p1 x6 v.1 v.2.1 v.2.2) (x5, 0, 0)) fun x26 x27 => (if 0 ≤ (i64.wrap (x6 + (p1.length : Int))) then (if (i64.wrap (x6 + (p1.length : Int))) < (x26.length : Int) then (some (.inl ((x26.set (0 + (i64.wrap (x6 + (p1.length : Int))).toNat) (u32.wrap x27)), i64.wrap (x6 + 1)))) else none) else none)) else none) else none) else (some (.inr x5))
noncomputable def natural_times (p0 : List Int) (p1 : List Int) : Option (List Int) := if 0 ≤ (i64.wrap ((p0.length : Int) + (p1.length : Int))) then (if (i64.wrap ((p0.length : Int) + (p1.length : Int))) ≤ 1099511627776 then ((loop (fun v : (List Int) × Int => natural_times_l1 p0 p1 v.1 v.2) ((List.replicate ((i64.wrap ((p0.length : Int) + (p1.length : Int))).toNat) (0 : Int)), 0)).bind fun x31 => ((natural_trim x31).bind fun y32 => (some y32))) else none) else none
set_option maxRecDepth 100000 in
theorem natural_times_con (p0 : List Int) (p1 : List Int) (r : List Int) (h : natural_times p0 p1 = some r) : Con Try.prog 67 [vl 1 Ru32 p0, vl 1 Ru32 p1] [] (vl 1 Ru32 r) [] := by
 refine con_of tt_ok0 0 Try.func67 (by kernel_rfl) rfl (by kernel_rfl) (fun base X _ => AW.post ?_)
 unfold natural_times at h
 refine AW.sg tt_ok0 [] [] [] 1 [] (by kernel_rfl) ?_
 obtain ⟨g1, g2, h⟩ := ifd h
 refine AW.sg tt_ok0 [(5, .c (.ref 6 1 0 ((List.replicate ((i64.wrap ((p0.length : Int) + (p1.length : Int))).toNat) (0 : Int)).length)))] [6] [(6, .row 78 false 1 (List.replicate ((i64.wrap ((p0.length : Int) + (p1.length : Int))).toNat) (0 : Int)).length (Ru32 (List.replicate ((i64.wrap ((p0.length : Int) + (p1.length : Int))).toNat) (0 : Int))))] 8 [hn, hn, hn, hn, hn, hmk 0 Eu32 1 4 [.int .u32 0] rfl rfl (i64.wrap ((p0.length : Int) + (p1.length : Int))) (i64.wrap ((p0.length : Int) + (p1.length : Int))) g1 (Int.le_refl _) g2 (by decide)] (by kernel_rfl) ?_
 refine AW.seq ?_
 refine AW.sg tt_ok0 [(19, vi64 0), (18, vi64 (p0.length : Int)), (17, vl 1 Ru32 p0)] [] [] 11 [] (by kernel_rfl) ?_
 refine AW.block ?_
 obtain ⟨x31, l34, h⟩ := bnd_some h
 refine AW.lp l34 (fun v => ⟨[(1, vl 1 Ru32 p1), (5, .c (.ref 0 1 0 v.1.length)), (17, vl 1 Ru32 p0), (18, vi64 (p0.length : Int)), (19, vi64 v.2)], [(0, .row 78 false 1 v.1.length (Ru32 v.1))], 1⟩) (fun t : List Int => (.exit 0, ⟨[(5, .c (.ref 0 1 0 t.length))], [(0, .row 78 false 1 t.length (Ru32 t))], 1⟩)) (conv_re [(0, 6)] (by kernel_rfl)) (fun _ => tv) ?_ ?_
 ·
  clear l34 h
  intro v o h
  obtain ⟨x5, x6⟩ := v
  replace h : natural_times_l1 p0 p1 x5 x6 = some o := h
  unfold natural_times_l1 at h
  refine AW.sg tt_ok0 [(20, vb (decide (x6 < (p0.length : Int))))] [] [] 2 [] (by kernel_rfl) ?_
  refine AW.seq ?_
  refine AW.co h (by kernel_rfl) (fun c8 h => ?_) (fun c8 h => ?_)
  ·
   refine AW.skip (AW.tn ?_)
   refine AW.seq (AW.block ?_)
   obtain ⟨g9, g10, h⟩ := ifd h
   refine AW.sg tt_ok0 [(7, vu32 (p0.getD x6.toNat 0)), (6, vi64 x6)] [] [] 7 [hn, hq g9 g10] (by kernel_rfl) ?_
   refine AW.sg tt_ok0 [(8, vu64 0)] [] [] 8 [] (by kernel_rfl) ?_
   refine AW.seq ?_
   refine AW.sg tt_ok0 [(26, vi64 0), (25, vi64 (p1.length : Int)), (24, vl 1 Ru32 p1)] [] [] 11 [] (by kernel_rfl) ?_
   refine AW.block ?_
   obtain ⟨x26, x27, l30, h⟩ := bind2_some h
   refine AW.lp l30 (fun v => ⟨[(1, vl 1 Ru32 p1), (5, .c (.ref 0 1 0 v.1.length)), (6, vi64 x6), (7, vu32 (p0.getD x6.toNat 0)), (8, vu64 v.2.1), (17, vl 1 Ru32 p0), (18, vi64 (p0.length : Int)), (19, vi64 x6), (24, vl 1 Ru32 p1), (25, vi64 (p1.length : Int)), (26, vi64 v.2.2)], [(0, .row 78 false 1 v.1.length (Ru32 v.1))], 1⟩) (fun t : (List Int) × Int => (.exit 2, ⟨[(1, vl 1 Ru32 p1), (5, .c (.ref 0 1 0 t.1.length)), (6, vi64 x6), (8, vu64 t.2), (17, vl 1 Ru32 p0), (18, vi64 (p0.length : Int)), (19, vi64 x6)], [(0, .row 78 false 1 t.1.length (Ru32 t.1))], 1⟩)) (conv_re [(0, 0)] (by kernel_rfl)) (fun _ => tv) ?_ ?_
   ·
    clear l30 h
    intro v o h
    obtain ⟨x14, x15, x16⟩ := v
    replace h : natural_times_l2 p0 p1 x6 x14 x15 x16 = some o := h
    unfold natural_times_l2 at h
    refine AW.sg tt_ok0 [(27, vb (decide (x16 < (p1.length : Int))))] [] [] 2 [] (by kernel_rfl) ?_
    refine AW.seq ?_
    refine AW.co h (by kernel_rfl) (fun c19 h => ?_) (fun c19 h => ?_)
    ·
     refine AW.skip (AW.tn ?_)
     refine AW.seq (AW.block ?_)
     obtain ⟨g20, g21, h⟩ := ifd h
     refine AW.sg tt_ok0 [(10, vu32 (p1.getD x16.toNat 0)), (9, vi64 x16)] [] [] 7 [hn, hq g20 g21] (by kernel_rfl) ?_
     obtain ⟨g22, g23, h⟩ := ifd h
     obtain ⟨z24, n25, h⟩ := bnd_some h
     replace n25 := some_inj n25
     refine AW.sg tt_ok0 [(8, vu64 z24)] [] [] 23 [hn, hn, hn, hn, hn, hn, hn, hn, hn, hn, hq g22 g23, ho (p := (0 + (i64.wrap (x6 + x16)).toNat) < x14.length) (by have h1 : 0 ≤ (i64.wrap (x6 + x16)) := g22; have h2 : (i64.wrap (x6 + x16)) < (x14.length : Int) := g23; omega)] (by subst n25; kernel_rfl) ?_
     refine AW.sg tt_ok0 [] [0] [(0, .row 78 false 1 x14.length (Ru32 (x14.set (0 + (i64.wrap (x6 + x16)).toNat) (u32.wrap z24))))] 31 [hn, hn, hn, hn, hn, hn, hq g22 g23, hset 0 Eu32 x14 (0 + (i64.wrap (x6 + x16)).toNat) (u32.wrap z24) (n := x14.length) (by have h1 : 0 ≤ (i64.wrap (x6 + x16)) := g22; have h2 : (i64.wrap (x6 + x16)) < (x14.length : Int) := g23; omega) rfl] (by kernel_rfl) ?_
     refine AW.rg tt_ok0 [(8, vu64 (ishr .u64 z24 32))] [] [] 34 [hn, ho (p := 0 ≤ (32 : Int)) (by decide)] (by kernel_rfl) ?_
     refine AW.inBlock_normal (AW.tn ?_)
     refine AW.rg tt_ok0 [(26, vi64 (i64.wrap (x16 + 1)))] [] [] 36 [] (by kernel_rfl) ?_
     exact lpn h (Conv.trans (conv_tms [(5, .c (.ref 0 1 0 ((x14.set (0 + (i64.wrap (x6 + x16)).toNat) (u32.wrap z24)).length)))] ⟨⟨.c (.ref 0 1 0 x14.length), by kernel_rfl, ALe.len (by simp only [List.length_set])⟩, tv⟩) (Conv.trans (conv_rowN 0 78 false 1 x14.length ((x14.set (0 + (i64.wrap (x6 + x16)).toNat) (u32.wrap z24)).length) (Ru32 (x14.set (0 + (i64.wrap (x6 + x16)).toNat) (u32.wrap z24))) (by kernel_rfl) (by simp only [List.length_set])) (conv_re [(0, 0)] (by kernel_rfl))))
    ·
     refine AW.exit (AW.thenQ_exit ?_)
     exact lpo h rfl (conv_re [(0, 0)] (by kernel_rfl))
   ·
    show (_ : Exit → St → Prop) (.exit 2) _
    refine AW.inBlock_hit (AW.tn ?_)
    obtain ⟨g28, g29, h⟩ := ifd h
    refine AW.rg tt_ok0 [] [0] [(0, .row 78 false 1 x26.length (Ru32 (x26.set (0 + (i64.wrap (x6 + (p1.length : Int))).toNat) (u32.wrap x27))))] 10 [hn, hn, hn, hn, hn, hn, hn, hq g28 g29, hset 0 Eu32 x26 (0 + (i64.wrap (x6 + (p1.length : Int))).toNat) (u32.wrap x27) (n := x26.length) (by have h1 : 0 ≤ (i64.wrap (x6 + (p1.length : Int))) := g28; have h2 : (i64.wrap (x6 + (p1.length : Int))) < (x26.length : Int) := g29; omega) rfl] (by kernel_rfl) ?_
    refine AW.inBlock_normal (AW.tn ?_)
    refine AW.rg tt_ok0 [(19, vi64 (i64.wrap (x6 + 1)))] [] [] 12 [] (by kernel_rfl) ?_
    exact lpn h (Conv.trans (conv_tms [(5, .c (.ref 0 1 0 ((x26.set (0 + (i64.wrap (x6 + (p1.length : Int))).toNat) (u32.wrap x27)).length)))] ⟨⟨.c (.ref 0 1 0 x26.length), by kernel_rfl, ALe.len (by simp only [List.length_set])⟩, tv⟩) (Conv.trans (conv_rowN 0 78 false 1 x26.length ((x26.set (0 + (i64.wrap (x6 + (p1.length : Int))).toNat) (u32.wrap x27)).length) (Ru32 (x26.set (0 + (i64.wrap (x6 + (p1.length : Int))).toNat) (u32.wrap x27))) (by kernel_rfl) (by simp only [List.length_set])) (conv_re [(0, 0)] (by kernel_rfl))))
  ·
   refine AW.exit (AW.thenQ_exit ?_)
   exact lpo h rfl (conv_re [(0, 0)] (by kernel_rfl))
 ·
  show (_ : Exit → St → Prop) (.exit 0) _
  refine AW.inBlock_hit (AW.tn ?_)
  obtain ⟨y32, e33, h⟩ := bnd_some h
  refine AW.sg tt_ok0 [(4, vl 1 Ru32 y32)] [0] [] 3 [hn, hg [] [0] false 0 (q := (0 + x31.length ≤ x31.length) ∧ (True)) ⟨le0, tv⟩ (a0 := [vl 1 Ru32 x31]) (natural_trim_con x31 y32 e33) ⟨ArgLe.refl _, tv⟩ (fun h => by cases h)] (by kernel_rfl) ?_
  refine AW.ret ?_
  obtain rfl := some_inj h
  exact fn0 (.inr rfl) [] 0 (vl 1 Ru32 y32) (by kernel_rfl)
/-! recordlink/natural.Power -/
noncomputable def natural_Power_l3 (p0 : List Int) (p1 : Int) (x13 : List Int) (x14 : Int) : Option (((List Int) × Int) ⊕ ((List Int) ⊕ Unit)) := if (decide (x14 < p1)) = true then ((natural_times x13 p0).bind fun y17 => ((natural_Valid y17).bind fun y19 => (if (!y19) = true then (some (.inr (.inr ()))) else (some (.inl (y17, i64.wrap (x14 + 1))))))) else (some (.inr (.inl x13)))
noncomputable def natural_Power_a4 (x22 : List Int) : Option ((List Int) × Int) := some (x22, 0)
noncomputable def natural_Power_a5 : Option ((List Int) × Int) := some (([] : List Int), 1)
noncomputable def natural_Power_k2 (p0 : List Int) (p1 : Int) (x6 : Bool) : Option ((List Int) × Int) := if x6 = true then (some (([] : List Int), 0)) else ((natural_Compare p0 ([1] : List Int)).bind fun y8 => (if (y8 == 0) = true then (some (([1] : List Int), 0)) else (bindE (loop (fun v : (List Int) × Int => natural_Power_l3 p0 p1 v.1 v.2) (([1] : List Int), 0)) (fun t => natural_Power_a4 t) (fun t => natural_Power_a5))))
noncomputable def natural_Power_k1 (p0 : List Int) (p1 : Int) (x4 : Bool) : Option ((List Int) × Int) := if x4 = true then (some (([] : List Int), 2)) else (if ((p0.length : Int) == 0) = true then (natural_Power_k2 p0 p1 (decide (p1 > 0))) else (natural_Power_k2 p0 p1 false))
noncomputable def natural_Power (p0 : List Int) (p1 : Int) : Option ((List Int) × Int) := (natural_Valid p0).bind fun y1 => (if (!y1) = true then (some (([] : List Int), 20)) else (if (decide (p1 < 0)) = true then (natural_Power_k1 p0 p1 true) else (natural_Power_k1 p0 p1 (decide (p1 > 4096)))))
set_option maxRecDepth 100000 in
theorem natural_Power_con (p0 : List Int) (p1 : Int) (r : (List Int) × Int) (h : natural_Power p0 p1 = some r) : Con Try.prog 49 [vl 1 Ru32 p0, vi64 p1] [] (.tup [vl 1 Ru32 r.1, vi64 r.2]) [] := by
 refine con_of tt_ok0 0 Try.func49 (by kernel_rfl) rfl (by kernel_rfl) (fun base X _ => AW.post ?_)
 unfold natural_Power at h
 refine AW.sg tt_ok0 [] [] [] 2 [] (by kernel_rfl) ?_
 refine AW.seq (AW.block ?_)
 obtain ⟨y1, e2, h⟩ := bnd_some h
 refine AW.sg tt_ok0 [(7, vb (!y1))] [] [] 5 [hn, hk (natural_Valid_con p0 y1 e2)] (by kernel_rfl) ?_
 refine AW.co h (by kernel_rfl) (fun c3 h => ?_) (fun c3 h => ?_)
 ·
  refine AW.sg tt_ok0 [(5, vi64 20), (4, .c (.t (.v (.slice none 0 0))))] [] [] 7 [] (by kernel_rfl) ?_
  refine AW.ret (AW.inBlock_ret (AW.tr ?_))
  obtain rfl := some_inj h
  exact fnR (.inr rfl) [] 0 (.tup [vl 1 Ru32 ([] : List Int), vi64 20]) (conv_tms [(4, vl 1 Ru32 ([] : List Int))] ⟨⟨.c (.t (.v (.slice none 0 0))), by kernel_rfl, ALe.c (CLe.nil rfl)⟩, tv⟩) (by kernel_rfl)
 ·
  refine AW.seq ?_
  refine AW.join (ι := Bool) (fun v => ⟨[(0, vl 1 Ru32 p0), (1, vi64 p1), (11, vb v)], [], 0⟩) (fun v : Bool => natural_Power_k1 p0 p1 v = some r) (fun x4 h => ?_) ?_
  ·
   unfold natural_Power_k1 at h
   refine AW.tn ?_
   refine AW.co h (by kernel_rfl) (fun c5 h => ?_) (fun c5 h => ?_)
   ·
    refine AW.sg tt_ok0 [(5, vi64 2), (4, .c (.t (.v (.slice none 0 0))))] [] [] 2 [] (by kernel_rfl) ?_
    refine AW.ret (AW.inBlock_ret (AW.tr ?_))
    obtain rfl := some_inj h
    exact fnR (.inr rfl) [] 0 (.tup [vl 1 Ru32 ([] : List Int), vi64 2]) (conv_tms [(4, vl 1 Ru32 ([] : List Int))] ⟨⟨.c (.t (.v (.slice none 0 0))), by kernel_rfl, ALe.c (CLe.nil rfl)⟩, tv⟩) (by kernel_rfl)
   ·
    refine AW.seq ?_
    refine AW.join (ι := Bool) (fun v => ⟨[(0, vl 1 Ru32 p0), (1, vi64 p1), (18, vb v)], [], 0⟩) (fun v : Bool => natural_Power_k2 p0 p1 v = some r) (fun x6 h => ?_) ?_
    ·
     unfold natural_Power_k2 at h
     refine AW.tn ?_
     refine AW.co h (by kernel_rfl) (fun c7 h => ?_) (fun c7 h => ?_)
     ·
      refine AW.sg tt_ok0 [(5, vi64 0), (4, .c (.t (.v (.slice none 0 0))))] [] [] 2 [] (by kernel_rfl) ?_
      refine AW.ret (AW.inBlock_ret (AW.tr ?_))
      obtain rfl := some_inj h
      exact fnR (.inr rfl) [] 0 (.tup [vl 1 Ru32 ([] : List Int), vi64 0]) (conv_tms [(4, vl 1 Ru32 ([] : List Int))] ⟨⟨.c (.t (.v (.slice none 0 0))), by kernel_rfl, ALe.c (CLe.nil rfl)⟩, tv⟩) (by kernel_rfl)
     ·
      refine AW.skip (AW.inBlock_normal (AW.tn ?_))
      refine AW.sg tt_ok0 [(6, .c (.ref 0 1 0 (([1] : List Int).length)))] [0] [(0, .row 78 false 1 ([1] : List Int).length (Ru32 ([1] : List Int)))] 2 [hlit 0 Eu32 1 (fun _ => rfl) ([1] : List Int)] (by kernel_rfl) ?_
      refine AW.seq ?_
      obtain ⟨y8, e9, h⟩ := bnd_some h
      refine AW.sg tt_ok0 [(30, vb (y8 == 0))] [] [] 5 [hn, hn, hg [] [] true 0 (q := (True) ∧ (0 + ([1] : List Int).length ≤ ([1] : List Int).length) ∧ (True)) ⟨tv, le0, tv⟩ (a0 := [vl 1 Ru32 p0, vl 1 Ru32 ([1] : List Int)]) (natural_Compare_con p0 ([1] : List Int) y8 e9) ⟨ArgLe.refl _, ArgLe.refl _, tv⟩ (fun _ => tv)] (by kernel_rfl) ?_
      refine AW.co h (by kernel_rfl) (fun c10 h => ?_) (fun c10 h => ?_)
      ·
       refine AW.sg tt_ok0 [(5, vi64 0), (4, .c (.ref 0 1 0 (([1] : List Int).length)))] [] [] 8 [] (by kernel_rfl) ?_
       refine AW.ret (AW.tr ?_)
       obtain rfl := some_inj h
       exact fnR (.inr rfl) [] 0 (.tup [vl 1 Ru32 ([1] : List Int), vi64 0]) (Conv.trans (cfz 0 78 1 (([1] : List Int).length) (Ru32 ([1] : List Int)) (by kernel_rfl)) (conv_tms [(4, vl 1 Ru32 ([1] : List Int))] ⟨⟨.c (.ref 0 1 0 (([1] : List Int).length)), by kernel_rfl, ALe.c (CLe.ref (ty := 78) (f := Ru32 ([1] : List Int)) (by kernel_rfl) le0)⟩, tv⟩)) (by kernel_rfl)
      ·
       refine AW.skip (AW.tn (AW.seq ?_))
       refine AW.sg tt_ok0 [(33, vi64 0), (32, vi64 p1)] [] [] 7 [] (by kernel_rfl) ?_
       refine AW.block ?_
       refine AW.lpE h (fun v => ⟨[(0, vl 1 Ru32 p0), (6, vl 1 Ru32 v.1), (32, vi64 p1), (33, vi64 v.2)], [], 0⟩) (fun t => (.exit 1, ⟨[(6, vl 1 Ru32 t)], [], 0⟩)) (fun t => (.ret, ⟨[(4, .c (.t (.v (.slice none 0 0)))), (5, vi64 1)], [], 0⟩)) (Conv.trans (cfz 0 78 1 (([1] : List Int).length) (Ru32 ([1] : List Int)) (by kernel_rfl)) (Conv.trans (conv_tms [(6, vl 1 Ru32 ([1] : List Int))] ⟨⟨.c (.ref 0 1 0 (([1] : List Int).length)), by kernel_rfl, ALe.c (CLe.ref (ty := 78) (f := Ru32 ([1] : List Int)) (by kernel_rfl) le0)⟩, tv⟩) (conv_re [] (by kernel_rfl)))) (fun _ => tv) (fun _ => tv) ?_ (fun x22 h => ?_) (fun t h => ?_)
       ·
        clear h
        intro v o h
        obtain ⟨x13, x14⟩ := v
        replace h : natural_Power_l3 p0 p1 x13 x14 = some o := h
        unfold natural_Power_l3 at h
        refine AW.sg tt_ok0 [(34, vb (decide (x14 < p1)))] [] [] 1 [] (by kernel_rfl) ?_
        refine AW.seq ?_
        refine AW.co h (by kernel_rfl) (fun c16 h => ?_) (fun c16 h => ?_)
        ·
         refine AW.skip (AW.tn ?_)
         refine AW.seq (AW.block ?_)
         obtain ⟨y17, e18, h⟩ := bnd_some h
         refine AW.sg tt_ok0 [(6, vl 1 Ru32 y17)] [] [] 4 [hn, hn, hk (natural_times_con x13 p0 y17 e18)] (by kernel_rfl) ?_
         obtain ⟨y19, e20, h⟩ := bnd_some h
         refine AW.sg tt_ok0 [(40, vb (!y19))] [] [] 6 [hn, hk (natural_Valid_con y17 y19 e20)] (by kernel_rfl) ?_
         refine AW.co h (by kernel_rfl) (fun c21 h => ?_) (fun c21 h => ?_)
         ·
          refine AW.sg tt_ok0 [(5, vi64 1), (4, .c (.t (.v (.slice none 0 0))))] [] [] 8 [] (by kernel_rfl) ?_
          refine AW.ret (AW.inBlock_ret (AW.tr ?_))
          exact lpo h rfl (conv_re [] (by kernel_rfl))
         ·
          refine AW.skip (AW.inBlock_normal (AW.tn ?_))
          refine AW.rg tt_ok0 [(33, vi64 (i64.wrap (x14 + 1)))] [] [] 8 [] (by kernel_rfl) ?_
          exact lpn h (conv_re [] (by kernel_rfl))
        ·
         refine AW.exit (AW.thenQ_exit ?_)
         exact lpo h rfl (conv_re [] (by kernel_rfl))
       ·
        unfold natural_Power_a4 at h
        show (_ : Exit → St → Prop) (.exit 1) _
        refine AW.inBlock_hit (AW.tn ?_)
        refine AW.sg tt_ok0 [(5, vi64 0), (4, vl 1 Ru32 x22)] [] [] 3 [] (by kernel_rfl) ?_
        refine AW.ret ?_
        obtain rfl := some_inj h
        exact fn0 (.inr rfl) [] 0 (.tup [vl 1 Ru32 x22, vi64 0]) (by kernel_rfl)
       ·
        replace h : natural_Power_a5 = some r := h
        unfold natural_Power_a5 at h
        show (_ : Exit → St → Prop) (.ret) _
        refine AW.inBlock_ret (AW.tr ?_)
        obtain rfl := some_inj h
        exact fnR (.inr rfl) [] 0 (.tup [vl 1 Ru32 ([] : List Int), vi64 1]) (conv_tms [(4, vl 1 Ru32 ([] : List Int))] ⟨⟨.c (.t (.v (.slice none 0 0))), by kernel_rfl, ALe.c (CLe.nil rfl)⟩, tv⟩) (by kernel_rfl)
    ·
     rcases ifs h with ⟨c24, h⟩ | ⟨c24, h⟩
     ·
      refine AW.rg tt_ok0 [(18, vb (decide (p1 > 0)))] [] [] 8 [hn, hn, ht c24] (by kernel_rfl) ?_
      exact jl (decide (p1 > 0)) h (conv_re [] (by kernel_rfl))
     ·
      refine AW.rg tt_ok0 [(18, vb false)] [] [] 8 [hn, hn, hf c24] (by kernel_rfl) ?_
      exact jl false h (conv_re [] (by kernel_rfl))
  ·
   rcases ifs h with ⟨c25, h⟩ | ⟨c25, h⟩
   ·
    refine AW.rg tt_ok0 [(11, vb true)] [] [] 12 [hn, ht c25] (by kernel_rfl) ?_
    exact jl true h (conv_re [] (by kernel_rfl))
   ·
    refine AW.rg tt_ok0 [(11, vb (decide (p1 > 4096)))] [] [] 12 [hn, hf c25] (by kernel_rfl) ?_
    exact jl (decide (p1 > 4096)) h (conv_re [] (by kernel_rfl))
/-! recordlink/weight.power -/
noncomputable def weight_power (p0 : Int) : Option (List Int) := bind2 (natural_FromInt p0) fun y1 y2 => (bind2 (natural_Power y1 16) fun y4 y5 => (some y4))
set_option maxRecDepth 100000 in
theorem weight_power_con (p0 : Int) (r : List Int) (h : weight_power p0 = some r) : Con Try.prog 29 [vi64 p0] [] (vl 1 Ru32 r) [] := by
 refine con_of tt_ok0 0 Try.func29 (by kernel_rfl) rfl (by kernel_rfl) (fun base X _ => AW.post ?_)
 unfold weight_power at h
 refine AW.sg tt_ok0 [] [] [] 1 [] (by kernel_rfl) ?_
 obtain ⟨y1, y2, e3, h⟩ := bind2_some h
 refine AW.sg tt_ok0 [(3, vl 1 Ru32 y1)] [] [] 7 [hn, hk (natural_FromInt_con p0 (y1, y2) e3)] (by kernel_rfl) ?_
 obtain ⟨y4, y5, e6, h⟩ := bind2_some h
 refine AW.sg tt_ok0 [(5, vl 1 Ru32 y4)] [] [] 13 [hn, hk (natural_Power_con y1 16 (y4, y5) e6)] (by kernel_rfl) ?_
 refine AW.sg tt_ok0 [(2, vl 1 Ru32 y4)] [] [] 15 [] (by kernel_rfl) ?_
 refine AW.ret ?_
 obtain rfl := some_inj h
 exact fn0 (.inr rfl) [] 0 (vl 1 Ru32 y4) (by kernel_rfl)
def bigS0 : ByteArray := ByteArray.mk #[0, 1, 2, 2, 3, 3, 3, 3, 4, 4, 4, 4, 4, 4, 4, 4, 5, 5, 5, 5, 5, 5, 5, 5, 5, 5, 5, 5, 5, 5, 5, 5, 6, 6, 6, 6, 6, 6, 6, 6, 6, 6, 6, 6, 6, 6, 6, 6, 6, 6, 6, 6, 6, 6, 6, 6, 6, 6, 6, 6, 6, 6, 6, 6, 7, 7, 7, 7, 7, 7, 7, 7, 7, 7, 7, 7, 7, 7, 7, 7, 7, 7, 7, 7, 7, 7, 7, 7, 7, 7, 7, 7, 7, 7, 7, 7, 7, 7, 7, 7, 7, 7, 7, 7, 7, 7, 7, 7, 7, 7, 7, 7, 7, 7, 7, 7, 7, 7, 7, 7, 7, 7, 7, 7, 7, 7, 7, 7, 8, 8, 8, 8, 8, 8, 8, 8, 8, 8, 8, 8, 8, 8, 8, 8, 8, 8, 8, 8, 8, 8, 8, 8, 8, 8, 8, 8, 8, 8, 8, 8, 8, 8, 8, 8, 8, 8, 8, 8, 8, 8, 8, 8, 8, 8, 8, 8, 8, 8, 8, 8, 8, 8, 8, 8, 8, 8, 8, 8, 8, 8, 8, 8, 8, 8, 8, 8, 8, 8, 8, 8, 8, 8, 8, 8, 8, 8, 8, 8, 8, 8, 8, 8, 8, 8, 8, 8, 8, 8, 8, 8, 8, 8, 8, 8, 8, 8, 8, 8, 8, 8, 8, 8, 8, 8, 8, 8, 8, 8, 8, 8, 8, 8, 8, 8, 8, 8, 8, 8, 8, 8, 8, 8, 8, 8, 8, 8]
/-! math/bits.Len32 -/
noncomputable def bits_Len32_k2 (x3 : Int) (x4 : Int) : Option Int := if 0 ≤ (u8.wrap x3) then (if (u8.wrap x3) < ((bigS0.size : Nat) : Int) then ((some (i64.wrap (x4 + (i64.wrap ((bigS0.data.toList.getD ((u8.wrap x3).toNat) 0).toNat : Int))))).bind fun z7 => (some z7)) else none) else none
noncomputable def bits_Len32_k1 (x1 : Int) (x2 : Int) : Option Int := if (decide (x1 ≥ 256)) = true then (bits_Len32_k2 (ishr .u32 x1 8) (i64.wrap (x2 + 8))) else (bits_Len32_k2 x1 x2)
noncomputable def bits_Len32 (p0 : Int) : Option Int := if (decide (p0 ≥ 65536)) = true then (bits_Len32_k1 (ishr .u32 p0 16) 16) else (bits_Len32_k1 p0 0)
set_option maxRecDepth 100000 in
theorem bits_Len32_con (p0 : Int) (r : Int) (h : bits_Len32 p0 = some r) : Con Try.prog 50 [vu32 p0] [] (vi64 r) [] := by
 refine con_of tt_ok0 0 Try.func50 (by kernel_rfl) rfl (by kernel_rfl) (fun base X _ => AW.post ?_)
 unfold bits_Len32 at h
 refine AW.sg tt_ok0 [(2, vi64 0)] [] [] 1 [] (by kernel_rfl) ?_
 refine AW.seq ?_
 refine AW.join (ι := Int × Int) (fun v => ⟨[(0, vu32 v.1), (2, vi64 v.2)], [], 0⟩) (fun v : Int × Int => bits_Len32_k1 v.1 v.2 = some r) (fun v h => ?_) ?_
 ·
  obtain ⟨x1, x2⟩ := v
  replace h : bits_Len32_k1 x1 x2 = some r := h
  unfold bits_Len32_k1 at h
  refine AW.tn (AW.seq ?_)
  refine AW.join (ι := Int × Int) (fun v => ⟨[(0, vu32 v.1), (2, vi64 v.2)], [], 0⟩) (fun v : Int × Int => bits_Len32_k2 v.1 v.2 = some r) (fun v h => ?_) ?_
  ·
   obtain ⟨x3, x4⟩ := v
   replace h : bits_Len32_k2 x3 x4 = some r := h
   unfold bits_Len32_k2 at h
   refine AW.tn ?_
   obtain ⟨g5, g6, h⟩ := ifd h
   obtain ⟨z7, n8, h⟩ := bnd_some h
   replace n8 := some_inj n8
   refine AW.sg tt_ok0 [(2, vi64 z7)] [] [] 7 [hn, hn, hn, hq g5 g6] (by subst n8; kernel_rfl) ?_
   refine AW.ret ?_
   obtain rfl := some_inj h
   exact fn0 (.inr rfl) [] 0 (vi64 z7) (by kernel_rfl)
  ·
   refine AW.sg tt_ok0 [(8, vb (decide (x1 ≥ 256)))] [] [] 2 [] (by kernel_rfl) ?_
   refine AW.co h (by kernel_rfl) (fun c9 h => ?_) (fun c9 h => ?_)
   ·
    refine AW.sg tt_ok0 [(0, vu32 (ishr .u32 x1 8))] [] [] 5 [hn, ho (p := 0 ≤ (8 : Int)) (by decide)] (by kernel_rfl) ?_
    refine AW.rg tt_ok0 [(2, vi64 (i64.wrap (x2 + 8)))] [] [] 8 [] (by kernel_rfl) ?_
    exact jl (ishr .u32 x1 8, i64.wrap (x2 + 8)) h (conv_re [] (by kernel_rfl))
   ·
    refine AW.skip ?_
    exact jl (x1, x2) h (conv_re [] (by kernel_rfl))
 ·
  refine AW.sg tt_ok0 [(4, vb (decide (p0 ≥ 65536)))] [] [] 3 [] (by kernel_rfl) ?_
  refine AW.co h (by kernel_rfl) (fun c10 h => ?_) (fun c10 h => ?_)
  ·
   refine AW.sg tt_ok0 [(0, vu32 (ishr .u32 p0 16))] [] [] 6 [hn, ho (p := 0 ≤ (16 : Int)) (by decide)] (by kernel_rfl) ?_
   refine AW.rg tt_ok0 [(2, vi64 16)] [] [] 7 [] (by kernel_rfl) ?_
   exact jl (ishr .u32 p0 16, 16) h (conv_re [] (by kernel_rfl))
  ·
   refine AW.skip ?_
   exact jl (p0, 0) h (conv_re [] (by kernel_rfl))
/-! recordlink/weight.length -/
noncomputable def weight_length (p0 : List Int) : Option Int := if ((p0.length : Int) == 0) = true then (some 0) else (if 0 ≤ (i64.wrap ((p0.length : Int) - 1)) then (if (i64.wrap ((p0.length : Int) - 1)) < (p0.length : Int) then ((bits_Len32 (p0.getD ((i64.wrap ((p0.length : Int) - 1)).toNat) 0)).bind fun y4 => ((some (i64.wrap ((i64.wrap (32 * (i64.wrap ((p0.length : Int) - 1)))) + y4))).bind fun z6 => (some z6))) else none) else none)
set_option maxRecDepth 100000 in
theorem weight_length_con (p0 : List Int) (r : Int) (h : weight_length p0 = some r) : Con Try.prog 30 [vl 1 Ru32 p0] [] (vi64 r) [] := by
 refine con_of tt_ok0 0 Try.func30 (by kernel_rfl) rfl (by kernel_rfl) (fun base X _ => AW.post ?_)
 unfold weight_length at h
 refine AW.sg tt_ok0 [] [] [] 1 [] (by kernel_rfl) ?_
 refine AW.seq ?_
 refine AW.sg tt_ok0 [(5, vb ((p0.length : Int) == 0))] [] [] 4 [] (by kernel_rfl) ?_
 refine AW.co h (by kernel_rfl) (fun c1 h => ?_) (fun c1 h => ?_)
 ·
  refine AW.sg tt_ok0 [(2, vi64 0)] [] [] 5 [] (by kernel_rfl) ?_
  refine AW.ret (AW.tr ?_)
  obtain rfl := some_inj h
  exact fn0 (.inr rfl) [] 0 (vi64 0) (by kernel_rfl)
 ·
  refine AW.skip (AW.tn ?_)
  obtain ⟨g2, g3, h⟩ := ifd h
  obtain ⟨y4, e5, h⟩ := bnd_some h
  obtain ⟨z6, n7, h⟩ := bnd_some h
  replace n7 := some_inj n7
  refine AW.sg tt_ok0 [(2, vi64 z6)] [] [] 16 [hn, hn, hn, hn, hn, hn, hn, hn, hq g2 g3, hn, hk (bits_Len32_con (p0.getD ((i64.wrap ((p0.length : Int) - 1)).toNat) 0) y4 e5)] (by subst n7; kernel_rfl) ?_
  refine AW.ret ?_
  obtain rfl := some_inj h
  exact fn0 (.inr rfl) [] 0 (vi64 z6) (by kernel_rfl)
/-! recordlink/natural.both -/
noncomputable def natural_both_k1 (x1 : Bool) : Option Int := if x1 = true then (some 20) else (some 0)
noncomputable def natural_both (p0 : List Int) (p1 : List Int) : Option Int := (natural_Valid p0).bind fun y3 => (if (!y3) = true then (natural_both_k1 true) else ((natural_Valid p1).bind fun y6 => (natural_both_k1 (!y6))))
set_option maxRecDepth 100000 in
theorem natural_both_con (p0 : List Int) (p1 : List Int) (r : Int) (h : natural_both p0 p1 = some r) : Con Try.prog 70 [vl 1 Ru32 p0, vl 1 Ru32 p1] [] (vi64 r) [] := by
 refine con_of tt_ok0 0 Try.func70 (by kernel_rfl) rfl (by kernel_rfl) (fun base X _ => AW.post ?_)
 unfold natural_both at h
 refine AW.sg tt_ok0 [] [] [] 1 [] (by kernel_rfl) ?_
 refine AW.seq (AW.seq ?_)
 refine AW.join (ι := Bool) (fun v => ⟨[(12, vb v)], [], 0⟩) (fun v : Bool => natural_both_k1 v = some r) (fun x1 h => ?_) ?_
 ·
  unfold natural_both_k1 at h
  refine AW.tn ?_
  refine AW.co h (by kernel_rfl) (fun c2 h => ?_) (fun c2 h => ?_)
  ·
   refine AW.sg tt_ok0 [(4, vi64 20)] [] [] 1 [] (by kernel_rfl) ?_
   refine AW.ret (AW.tr ?_)
   obtain rfl := some_inj h
   exact fn0 (.inr rfl) [] 0 (vi64 20) (by kernel_rfl)
  ·
   refine AW.skip (AW.tn ?_)
   refine AW.sg tt_ok0 [(4, vi64 0)] [] [] 1 [] (by kernel_rfl) ?_
   refine AW.ret ?_
   obtain rfl := some_inj h
   exact fn0 (.inr rfl) [] 0 (vi64 0) (by kernel_rfl)
 ·
  obtain ⟨y3, e4, h⟩ := bnd_some h
  rcases ifs h with ⟨c5, h⟩ | ⟨c5, h⟩
  ·
   refine AW.rg tt_ok0 [(12, vb true)] [] [] 8 [hn, hk (natural_Valid_con p0 y3 e4), ht c5] (by kernel_rfl) ?_
   exact jl true h (conv_re [] (by kernel_rfl))
  ·
   obtain ⟨y6, e7, h⟩ := bnd_some h
   refine AW.rg tt_ok0 [(12, vb (!y6))] [] [] 7 [hn, hk (natural_Valid_con p0 y3 e4), hf c5, hn, hn, hk (natural_Valid_con p1 y6 e7)] (by kernel_rfl) ?_
   exact jl (!y6) h (conv_re [] (by kernel_rfl))
/-! recordlink/natural.done -/
noncomputable def natural_done (p0 : List Int) : Option ((List Int) × Int) := (natural_trim p0).bind fun y1 => ((natural_Valid y1).bind fun y3 => (if (!y3) = true then (some (([] : List Int), 1)) else (some (y1, 0))))
set_option maxRecDepth 100000 in
theorem natural_done_con (p0 : List Int) (r : (List Int) × Int) (h : natural_done p0 = some r) : Con Try.prog 71 [vl 1 Ru32 p0] [] (.tup [vl 1 Ru32 r.1, vi64 r.2]) [] := by
 refine con_of tt_ok0 0 Try.func71 (by kernel_rfl) rfl (by kernel_rfl) (fun base X _ => AW.post ?_)
 unfold natural_done at h
 refine AW.sg tt_ok0 [] [] [] 2 [] (by kernel_rfl) ?_
 obtain ⟨y1, e2, h⟩ := bnd_some h
 refine AW.sg tt_ok0 [(0, vl 1 Ru32 y1)] [] [] 4 [hn, hk (natural_trim_con p0 y1 e2)] (by kernel_rfl) ?_
 refine AW.seq ?_
 obtain ⟨y3, e4, h⟩ := bnd_some h
 refine AW.sg tt_ok0 [(8, vb (!y3))] [] [] 6 [hn, hk (natural_Valid_con y1 y3 e4)] (by kernel_rfl) ?_
 refine AW.co h (by kernel_rfl) (fun c5 h => ?_) (fun c5 h => ?_)
 ·
  refine AW.sg tt_ok0 [(3, vi64 1), (2, .c (.t (.v (.slice none 0 0))))] [] [] 8 [] (by kernel_rfl) ?_
  refine AW.ret (AW.tr ?_)
  obtain rfl := some_inj h
  exact fnR (.inr rfl) [] 0 (.tup [vl 1 Ru32 ([] : List Int), vi64 1]) (conv_tms [(2, vl 1 Ru32 ([] : List Int))] ⟨⟨.c (.t (.v (.slice none 0 0))), by kernel_rfl, ALe.c (CLe.nil rfl)⟩, tv⟩) (by kernel_rfl)
 ·
  refine AW.skip (AW.tn ?_)
  refine AW.sg tt_ok0 [(3, vi64 0), (2, vl 1 Ru32 y1)] [] [] 9 [] (by kernel_rfl) ?_
  refine AW.ret ?_
  obtain rfl := some_inj h
  exact fn0 (.inr rfl) [] 0 (.tup [vl 1 Ru32 y1, vi64 0]) (by kernel_rfl)
/-! recordlink/natural.Mul -/
noncomputable def natural_Mul (p0 : List Int) (p1 : List Int) : Option ((List Int) × Int) := (natural_both p0 p1).bind fun y1 => (if (y1 != 0) = true then (some (([] : List Int), y1)) else ((natural_times p0 p1).bind fun y4 => (bind2 (natural_done y4) fun y6 y7 => (some (y6, y7)))))
set_option maxRecDepth 100000 in
theorem natural_Mul_con (p0 : List Int) (p1 : List Int) (r : (List Int) × Int) (h : natural_Mul p0 p1 = some r) : Con Try.prog 54 [vl 1 Ru32 p0, vl 1 Ru32 p1] [] (.tup [vl 1 Ru32 r.1, vi64 r.2]) [] := by
 refine con_of tt_ok0 0 Try.func54 (by kernel_rfl) rfl (by kernel_rfl) (fun base X _ => AW.post ?_)
 unfold natural_Mul at h
 refine AW.sg tt_ok0 [] [] [] 2 [] (by kernel_rfl) ?_
 refine AW.seq ?_
 obtain ⟨y1, e2, h⟩ := bnd_some h
 refine AW.sg tt_ok0 [(6, vi64 y1)] [] [] 5 [hn, hn, hk (natural_both_con p0 p1 y1 e2)] (by kernel_rfl) ?_
 refine AW.sg tt_ok0 [(11, vb (y1 != 0))] [] [] 7 [] (by kernel_rfl) ?_
 refine AW.co h (by kernel_rfl) (fun c3 h => ?_) (fun c3 h => ?_)
 ·
  refine AW.sg tt_ok0 [(5, vi64 y1), (4, .c (.t (.v (.slice none 0 0))))] [] [] 10 [] (by kernel_rfl) ?_
  refine AW.ret (AW.tr ?_)
  obtain rfl := some_inj h
  exact fnR (.inr rfl) [] 0 (.tup [vl 1 Ru32 ([] : List Int), vi64 y1]) (conv_tms [(4, vl 1 Ru32 ([] : List Int))] ⟨⟨.c (.t (.v (.slice none 0 0))), by kernel_rfl, ALe.c (CLe.nil rfl)⟩, tv⟩) (by kernel_rfl)
 ·
  refine AW.skip (AW.tn ?_)
  obtain ⟨y4, e5, h⟩ := bnd_some h
  obtain ⟨y6, y7, e8, h⟩ := bind2_some h
  refine AW.sg tt_ok0 [(5, vi64 y7), (4, vl 1 Ru32 y6)] [] [] 13 [hn, hn, hk (natural_times_con p0 p1 y4 e5), hk (natural_done_con y4 (y6, y7) e8)] (by kernel_rfl) ?_
  refine AW.ret ?_
  obtain rfl := some_inj h
  exact fn0 (.inr rfl) [] 0 (.tup [vl 1 Ru32 y6, vi64 y7]) (by kernel_rfl)
/-! recordlink/weight.shifted -/
noncomputable def weight_shifted (p0 : List Int) (p1 : Int) : Option (List Int) := bind2 (natural_FromInt 2) fun y1 y2 => (bind2 (natural_Power y1 p1) fun y4 y5 => (bind2 (natural_Mul p0 y4) fun y7 y8 => (some y7)))
set_option maxRecDepth 100000 in
theorem weight_shifted_con (p0 : List Int) (p1 : Int) (r : List Int) (h : weight_shifted p0 p1 = some r) : Con Try.prog 32 [vl 1 Ru32 p0, vi64 p1] [] (vl 1 Ru32 r) [] := by
 refine con_of tt_ok0 0 Try.func32 (by kernel_rfl) rfl (by kernel_rfl) (fun base X _ => AW.post ?_)
 unfold weight_shifted at h
 refine AW.sg tt_ok0 [] [] [] 1 [] (by kernel_rfl) ?_
 obtain ⟨y1, y2, e3, h⟩ := bind2_some h
 refine AW.sg tt_ok0 [(5, vl 1 Ru32 y1)] [] [] 6 [hk (natural_FromInt_con 2 (y1, y2) e3)] (by kernel_rfl) ?_
 obtain ⟨y4, y5, e6, h⟩ := bind2_some h
 refine AW.sg tt_ok0 [(7, vl 1 Ru32 y4)] [] [] 13 [hn, hn, hk (natural_Power_con y1 p1 (y4, y5) e6)] (by kernel_rfl) ?_
 obtain ⟨y7, y8, e9, h⟩ := bind2_some h
 refine AW.sg tt_ok0 [(9, vl 1 Ru32 y7)] [] [] 20 [hn, hn, hk (natural_Mul_con p0 y4 (y7, y8) e9)] (by kernel_rfl) ?_
 refine AW.sg tt_ok0 [(4, vl 1 Ru32 y7)] [] [] 22 [] (by kernel_rfl) ?_
 refine AW.ret ?_
 obtain rfl := some_inj h
 exact fn0 (.inr rfl) [] 0 (vl 1 Ru32 y7) (by kernel_rfl)
/-! recordlink/weight.Log -/
noncomputable def weight_Log_k2 (x11 : Int) : Option (Int × Int) := some (x11, 0)
noncomputable def weight_Log_k1 (p0 : Int) (p1 : Int) (x1 : Bool) : Option (Int × Int) := if x1 = true then (some (0, 2)) else ((weight_power p0).bind fun y3 => ((weight_power p1).bind fun y5 => ((weight_length y3).bind fun y7 => ((weight_length y5).bind fun y9 => ((weight_shifted y5 (if (0 : Int) > (i64.wrap (y7 - y9)) then 0 else (i64.wrap (y7 - y9)))).bind fun y12 => ((weight_shifted y3 (if (0 : Int) > (i64.wrap (0 - (i64.wrap (y7 - y9)))) then 0 else (i64.wrap (0 - (i64.wrap (y7 - y9)))))).bind fun y14 => ((natural_Compare y12 y14).bind fun y16 => (if (decide (y16 > 0)) = true then (weight_Log_k2 (i64.wrap ((i64.wrap (y7 - y9)) - 1))) else (weight_Log_k2 (i64.wrap (y7 - y9)))))))))))
noncomputable def weight_Log (p0 : Int) (p1 : Int) : Option (Int × Int) := if (decide (p0 < 1)) = true then (weight_Log_k1 p0 p1 true) else (if (decide (p0 > 65536)) = true then (weight_Log_k1 p0 p1 true) else (if (decide (p1 < 1)) = true then (weight_Log_k1 p0 p1 true) else (weight_Log_k1 p0 p1 (decide (p1 > 65536)))))
set_option maxRecDepth 100000 in
theorem weight_Log_con (p0 : Int) (p1 : Int) (r : Int × Int) (h : weight_Log p0 p1 = some r) : Con Try.prog 9 [vi64 p0, vi64 p1] [] (.tup [vi64 r.1, vi64 r.2]) [] := by
 refine con_of tt_ok0 0 Try.func9 (by kernel_rfl) rfl (by kernel_rfl) (fun base X _ => AW.post ?_)
 unfold weight_Log at h
 refine AW.sg tt_ok0 [] [] [] 2 [] (by kernel_rfl) ?_
 refine AW.seq (AW.seq ?_)
 refine AW.join (ι := Bool) (fun v => ⟨[(0, vi64 p0), (1, vi64 p1), (22, vb v)], [], 0⟩) (fun v : Bool => weight_Log_k1 p0 p1 v = some r) (fun x1 h => ?_) ?_
 ·
  unfold weight_Log_k1 at h
  refine AW.tn ?_
  refine AW.co h (by kernel_rfl) (fun c2 h => ?_) (fun c2 h => ?_)
  ·
   refine AW.sg tt_ok0 [(5, vi64 2), (4, vi64 0)] [] [] 2 [] (by kernel_rfl) ?_
   refine AW.ret (AW.tr ?_)
   obtain rfl := some_inj h
   exact fn0 (.inr rfl) [] 0 (.tup [vi64 0, vi64 2]) (by kernel_rfl)
  ·
   refine AW.skip (AW.tn ?_)
   obtain ⟨y3, e4, h⟩ := bnd_some h
   obtain ⟨y5, e6, h⟩ := bnd_some h
   refine AW.sg tt_ok0 [(7, vl 1 Ru32 y5), (6, vl 1 Ru32 y3)] [] [] 4 [hn, hk (weight_power_con p0 y3 e4), hn, hk (weight_power_con p1 y5 e6)] (by kernel_rfl) ?_
   obtain ⟨y7, e8, h⟩ := bnd_some h
   obtain ⟨y9, e10, h⟩ := bnd_some h
   refine AW.sg tt_ok0 [(8, vi64 (i64.wrap (y7 - y9)))] [] [] 8 [hn, hk (weight_length_con y3 y7 e8), hn, hk (weight_length_con y5 y9 e10)] (by kernel_rfl) ?_
   refine AW.seq ?_
   refine AW.join (ι := Int) (fun v => ⟨[(8, vi64 v)], [], 0⟩) (fun v : Int => weight_Log_k2 v = some r) (fun x11 h => ?_) ?_
   ·
    unfold weight_Log_k2 at h
    refine AW.tn ?_
    refine AW.sg tt_ok0 [(5, vi64 0), (4, vi64 x11)] [] [] 3 [] (by kernel_rfl) ?_
    refine AW.ret ?_
    obtain rfl := some_inj h
    exact fn0 (.inr rfl) [] 0 (.tup [vi64 x11, vi64 0]) (by kernel_rfl)
   ·
    obtain ⟨y12, e13, h⟩ := bnd_some h
    obtain ⟨y14, e15, h⟩ := bnd_some h
    obtain ⟨y16, e17, h⟩ := bnd_some h
    refine AW.sg tt_ok0 [(42, vb (decide (y16 > 0)))] [] [] 16 [hn, hn, hn, hk (weight_shifted_con y5 (if (0 : Int) > (i64.wrap (y7 - y9)) then 0 else (i64.wrap (y7 - y9))) y12 e13), hn, hn, hn, hn, hk (weight_shifted_con y3 (if (0 : Int) > (i64.wrap (0 - (i64.wrap (y7 - y9)))) then 0 else (i64.wrap (0 - (i64.wrap (y7 - y9))))) y14 e15), hk (natural_Compare_con y12 y14 y16 e17)] (by kernel_rfl) ?_
    refine AW.co h (by kernel_rfl) (fun c18 h => ?_) (fun c18 h => ?_)
    ·
     refine AW.rg tt_ok0 [(8, vi64 (i64.wrap ((i64.wrap (y7 - y9)) - 1)))] [] [] 19 [] (by kernel_rfl) ?_
     exact jl (i64.wrap ((i64.wrap (y7 - y9)) - 1)) h (conv_re [] (by kernel_rfl))
    ·
     refine AW.skip ?_
     exact jl (i64.wrap (y7 - y9)) h (conv_re [] (by kernel_rfl))
 ·
  rcases ifs h with ⟨c19, h⟩ | ⟨c19, h⟩
  ·
   refine AW.rg tt_ok0 [(22, vb true)] [] [] 16 [hn, ht c19] (by kernel_rfl) ?_
   exact jl true h (conv_re [] (by kernel_rfl))
  ·
   rcases ifs h with ⟨c20, h⟩ | ⟨c20, h⟩
   ·
    refine AW.rg tt_ok0 [(22, vb true)] [] [] 16 [hn, hf c19, hn, hn, ht c20] (by kernel_rfl) ?_
    exact jl true h (conv_re [] (by kernel_rfl))
   ·
    rcases ifs h with ⟨c21, h⟩ | ⟨c21, h⟩
    ·
     refine AW.rg tt_ok0 [(22, vb true)] [] [] 16 [hn, hf c19, hn, hn, hf c20, hn, hn, hn, ht c21] (by kernel_rfl) ?_
     exact jl true h (conv_re [] (by kernel_rfl))
    ·
     refine AW.rg tt_ok0 [(22, vb (decide (p1 > 65536)))] [] [] 16 [hn, hf c19, hn, hn, hf c20, hn, hn, hn, hf c21] (by kernel_rfl) ?_
     exact jl (decide (p1 > 65536)) h (conv_re [] (by kernel_rfl))
/-! recordlink/recordlinklaw25.awake -/
noncomputable def rl_law25_awake_k1 (x7 : Bool) : Option Bool := some x7
noncomputable def rl_law25_awake : Option Bool := bind2 (weight_Log 2 1) fun y1 y2 => (bind2 (weight_Log 1 3) fun y4 y5 => (if (y2 == 0) = true then (if (y5 == 0) = true then (if (y1 == 16) = true then (rl_law25_awake_k1 (y4 == (-26))) else (rl_law25_awake_k1 false)) else (rl_law25_awake_k1 false)) else (rl_law25_awake_k1 false)))
set_option maxRecDepth 100000 in
theorem rl_law25_awake_con (r : Bool) (h : rl_law25_awake = some r) : Con Try.prog 10 [] [] (vb r) [] := by
 refine con_of tt_ok0 0 Try.func10 (by kernel_rfl) rfl (by kernel_rfl) (fun base X _ => AW.post ?_)
 unfold rl_law25_awake at h
 refine AW.sg tt_ok0 [] [] [] 1 [] (by kernel_rfl) ?_
 obtain ⟨y1, y2, e3, h⟩ := bind2_some h
 refine AW.sg tt_ok0 [(2, vi64 y2), (1, vi64 y1)] [] [] 6 [hk (weight_Log_con 2 1 (y1, y2) e3)] (by kernel_rfl) ?_
 obtain ⟨y4, y5, e6, h⟩ := bind2_some h
 refine AW.sg tt_ok0 [(4, vi64 y5), (3, vi64 y4)] [] [] 11 [hk (weight_Log_con 1 3 (y4, y5) e6)] (by kernel_rfl) ?_
 refine AW.seq ?_
 refine AW.join (ι := Bool) (fun v => ⟨[(0, vb v)], [], 0⟩) (fun v : Bool => rl_law25_awake_k1 v = some r) (fun x7 h => ?_) ?_
 ·
  unfold rl_law25_awake_k1 at h
  refine AW.tn (AW.ret ?_)
  obtain rfl := some_inj h
  exact fn0 (.inr rfl) [] 0 (vb x7) (by kernel_rfl)
 ·
  rcases ifs h with ⟨c8, h⟩ | ⟨c8, h⟩
  ·
   rcases ifs h with ⟨c9, h⟩ | ⟨c9, h⟩
   ·
    rcases ifs h with ⟨c10, h⟩ | ⟨c10, h⟩
    ·
     refine AW.rg tt_ok0 [(0, vb (y4 == (-26)))] [] [] 26 [hn, ht c8, hn, hn, ht c9, hn, hn, hn, ht c10] (by kernel_rfl) ?_
     exact jl (y4 == (-26)) h (conv_re [] (by kernel_rfl))
    ·
     refine AW.rg tt_ok0 [(0, vb false)] [] [] 26 [hn, ht c8, hn, hn, ht c9, hn, hn, hn, hf c10] (by kernel_rfl) ?_
     exact jl false h (conv_re [] (by kernel_rfl))
   ·
    refine AW.rg tt_ok0 [(0, vb false)] [] [] 26 [hn, ht c8, hn, hn, hf c9] (by kernel_rfl) ?_
    exact jl false h (conv_re [] (by kernel_rfl))
  ·
   refine AW.rg tt_ok0 [(0, vb false)] [] [] 26 [hn, hf c8] (by kernel_rfl) ?_
   exact jl false h (conv_re [] (by kernel_rfl))
def Ei64 (x : Int) : List T := [.v (.int .i64 x)]
def Ri64 (xs : List Int) : Nat → Nat → T := rowL 0 Ei64 xs
theorem Vi64 : ∀ x, allV (Ei64 x) := fun _ => ⟨tv, tv⟩
/-! recordlink/recordlinkmake.Few -/
noncomputable def rl_make_Few (p0 : List Int) : Option Bool := some (decide ((p0.length : Int) ≤ 400))
set_option maxRecDepth 100000 in
theorem rl_make_Few_con (p0 : List Int) (r : Bool) (h : rl_make_Few p0 = some r) : Con Try.prog 11 [vl 1 Ri64 p0] [] (vb r) [] := by
 refine con_of tt_ok0 0 Try.func11 (by kernel_rfl) rfl (by kernel_rfl) (fun base X _ => AW.post ?_)
 unfold rl_make_Few at h
 refine AW.sg tt_ok0 [] [] [] 1 [] (by kernel_rfl) ?_
 refine AW.sg tt_ok0 [(2, vb (decide ((p0.length : Int) ≤ 400)))] [] [] 5 [] (by kernel_rfl) ?_
 refine AW.ret ?_
 obtain rfl := some_inj h
 exact fn0 (.inr rfl) [] 0 (vb (decide ((p0.length : Int) ≤ 400))) (by kernel_rfl)
structure S_recordlinkmake_Deck where
 list : List Int
 at_ : Int
 state : Int
def dS_recordlinkmake_Deck : S_recordlinkmake_Deck := ⟨([] : List Int), 0, 0⟩
instance : Inhabited S_recordlinkmake_Deck := ⟨dS_recordlinkmake_Deck⟩
/-! recordlink/recordlinkmake.New -/
noncomputable def rl_make_New (p0 : List Int) : Option S_recordlinkmake_Deck := some (⟨p0, 0, 11400714819323198485⟩ : S_recordlinkmake_Deck)
set_option maxRecDepth 100000 in
theorem rl_make_New_con (p0 : List Int) (r : S_recordlinkmake_Deck) (h : rl_make_New p0 = some r) : Con Try.prog 12 [vl 1 Ri64 p0] [] (.c (.ptr 0 3 0 0)) [(0, .box 60 [cl 1 Ri64 r.list, ci64 r.at_, cu64 r.state])] := by
 refine con_of tt_ok0 0 Try.func12 (by kernel_rfl) rfl (by kernel_rfl) (fun base X _ => AW.post ?_)
 unfold rl_make_New at h
 refine AW.sg tt_ok0 [] [] [] 1 [] (by kernel_rfl) ?_
 refine AW.sg tt_ok0 [(2, .c (.ptr 3 3 0 0))] [3] [(3, .box 60 [cl 1 Ri64 p0, ci64 0, cu64 11400714819323198485])] 5 [] (by kernel_rfl) ?_
 refine AW.ret ?_
 obtain rfl := some_inj h
 exact fn0 (.inr rfl) [(0, 3)] 1 (.c (.ptr 3 3 0 0)) (by kernel_rfl)
/-! (*recordlink/recordlinkmake.Deck).Word -/
noncomputable def rl_make_Deck_Word_k1 (p0 : S_recordlinkmake_Deck) (x1 : Int) (x2 : Int) : Option (Int × S_recordlinkmake_Deck) := (some (u64.wrap ((u64.wrap ((u64.wrap (p0.state + x1)) * 6364136223846793005)) + 1442695040888963407))).bind fun z3 => ((some (u64.wrap ((ixor .u64 z3 (ishr .u64 z3 33)) * 18397679294719823053))).bind fun z5 => (some (ixor .u64 z5 (ishr .u64 z5 29), (⟨p0.list, x2, z3⟩ : S_recordlinkmake_Deck))))
noncomputable def rl_make_Deck_Word (p0 : S_recordlinkmake_Deck) : Option (Int × S_recordlinkmake_Deck) := if (decide (p0.at_ < ((p0.list.length : Nat) : Int))) = true then (if 0 ≤ p0.at_ then (if p0.at_ < ((p0.list.length : Nat) : Int) then (rl_make_Deck_Word_k1 p0 (u64.wrap (p0.list.getD p0.at_.toNat 0)) (i64.wrap (p0.at_ + 1))) else none) else none) else (rl_make_Deck_Word_k1 p0 0 p0.at_)
set_option maxRecDepth 100000 in
theorem rl_make_Deck_Word_con (p0 : S_recordlinkmake_Deck) (r : Int × S_recordlinkmake_Deck) (h : rl_make_Deck_Word p0 = some r) : Con Try.prog 34 [.c (.ptr 0 3 0 0)] [(0, .box 60 [cl 1 Ri64 p0.list, ci64 p0.at_, cu64 p0.state])] (vu64 r.1) [(0, .box 60 [cl 1 Ri64 r.2.list, ci64 r.2.at_, cu64 r.2.state])] := by
 refine con_of tt_ok0 1 Try.func34 (by kernel_rfl) rfl (by kernel_rfl) (fun base X _ => AW.post ?_)
 unfold rl_make_Deck_Word at h
 refine AW.sg tt_ok0 [] [] [] 2 [] (by kernel_rfl) ?_
 refine AW.sg tt_ok0 [(3, vu64 0)] [] [] 3 [] (by kernel_rfl) ?_
 refine AW.seq ?_
 refine AW.join (ι := Int × Int) (fun v => ⟨[(0, .c (.ptr 0 3 0 0)), (3, vu64 v.1)], [(0, .box 60 [cl 1 Ri64 p0.list, ci64 v.2, cu64 p0.state])], 1⟩) (fun v : Int × Int => rl_make_Deck_Word_k1 p0 v.1 v.2 = some r) (fun v h => ?_) ?_
 ·
  obtain ⟨x1, x2⟩ := v
  replace h : rl_make_Deck_Word_k1 p0 x1 x2 = some r := h
  unfold rl_make_Deck_Word_k1 at h
  refine AW.tn ?_
  obtain ⟨z3, n4, h⟩ := bnd_some h
  replace n4 := some_inj n4
  refine AW.sg tt_ok0 [] [0] [(0, .box 60 [cl 1 Ri64 p0.list, ci64 x2, cu64 z3])] 13 [] (by subst n4; kernel_rfl) ?_
  refine AW.sd tt_ok0 mo0 [] [(4, vu64 (ixor .u64 z3 (ishr .u64 z3 33)))] [] 24 [hn, hn, hn, hn, hn, hn, hn, hn, ho (p := 0 ≤ (33 : Int)) (by decide)] (by kernel_rfl) ?_
  obtain ⟨z5, n6, h⟩ := bnd_some h
  replace n6 := some_inj n6
  refine AW.sg tt_ok0 [(4, vu64 z5)] [] [] 27 [] (by subst n6; kernel_rfl) ?_
  refine AW.sg tt_ok0 [(2, vu64 (ixor .u64 z5 (ishr .u64 z5 29)))] [] [] 32 [hn, hn, ho (p := 0 ≤ (29 : Int)) (by decide)] (by kernel_rfl) ?_
  refine AW.ret ?_
  obtain rfl := some_inj h
  exact fn0 (.inr rfl) [(0, 0)] 1 (vu64 (ixor .u64 z5 (ishr .u64 z5 29))) (by kernel_rfl)
 ·
  refine AW.sd tt_ok0 mo0 [] [(14, vb (decide (p0.at_ < ((p0.list.length : Nat) : Int))))] [] 13 [] (by kernel_rfl) ?_
  refine AW.co h (by kernel_rfl) (fun c7 h => ?_) (fun c7 h => ?_)
  ·
   obtain ⟨g8, g9, h⟩ := ifd h
   refine AW.sd tt_ok0 mo0 [] [(3, vu64 (u64.wrap (p0.list.getD p0.at_.toNat 0)))] [] 25 [hn, hn, hn, hn, hn, hn, hn, hn, hq g8 g9] (by kernel_rfl) ?_
   refine AW.rg tt_ok0 [] [0] [(0, .box 60 [cl 1 Ri64 p0.list, ci64 (i64.wrap (p0.at_ + 1)), cu64 p0.state])] 33 [] (by kernel_rfl) ?_
   exact jl (u64.wrap (p0.list.getD p0.at_.toNat 0), i64.wrap (p0.at_ + 1)) h (conv_re [(0, 0)] (by kernel_rfl))
  ·
   refine AW.skip ?_
   exact jl (0, p0.at_) h (conv_re [(0, 0)] (by kernel_rfl))
/-! (*recordlink/recordlinkmake.Deck).Next -/
noncomputable def rl_make_Deck_Next (p0 : S_recordlinkmake_Deck) (p1 : Int) : Option (Int × S_recordlinkmake_Deck) := if (decide (p1 < 1)) = true then (some (0, p0)) else (bind2 (rl_make_Deck_Word p0) fun y2 y3 => (if p1 ≠ 0 then (some (((i64.wrap (ishr .u64 y2 1)).tmod p1), y3)) else none))
set_option maxRecDepth 100000 in
theorem rl_make_Deck_Next_con (p0 : S_recordlinkmake_Deck) (p1 : Int) (r : Int × S_recordlinkmake_Deck) (h : rl_make_Deck_Next p0 p1 = some r) : Con Try.prog 14 [.c (.ptr 0 3 0 0), vi64 p1] [(0, .box 60 [cl 1 Ri64 p0.list, ci64 p0.at_, cu64 p0.state])] (vi64 r.1) [(0, .box 60 [cl 1 Ri64 r.2.list, ci64 r.2.at_, cu64 r.2.state])] := by
 refine con_of tt_ok0 1 Try.func14 (by kernel_rfl) rfl (by kernel_rfl) (fun base X _ => AW.post ?_)
 unfold rl_make_Deck_Next at h
 refine AW.sg tt_ok0 [] [] [] 2 [] (by kernel_rfl) ?_
 refine AW.seq ?_
 refine AW.sg tt_ok0 [(6, vb (decide (p1 < 1)))] [] [] 4 [] (by kernel_rfl) ?_
 refine AW.co h (by kernel_rfl) (fun c1 h => ?_) (fun c1 h => ?_)
 ·
  refine AW.sg tt_ok0 [(4, vi64 0)] [] [] 5 [] (by kernel_rfl) ?_
  refine AW.ret (AW.tr ?_)
  obtain rfl := some_inj h
  exact fn0 (.inr rfl) [(0, 0)] 1 (vi64 0) (by kernel_rfl)
 ·
  refine AW.skip (AW.tn ?_)
  obtain ⟨y2, y3, e4, h⟩ := bind2_some h
  obtain ⟨g5, h⟩ := ifc h
  refine AW.sg tt_ok0 [(4, vi64 ((i64.wrap (ishr .u64 y2 1)).tmod p1))] [0] [(0, .box 60 [cl 1 Ri64 y3.list, ci64 y3.at_, cu64 y3.state])] 10 [hn, hl [0] [] 0 (rl_make_Deck_Word_con p0 (y2, y3) e4), ho (p := 0 ≤ (1 : Int)) (by decide), hn, hn, ho g5] (by kernel_rfl) ?_
  refine AW.ret ?_
  obtain rfl := some_inj h
  exact fn0 (.inr rfl) [(0, 0)] 1 (vi64 ((i64.wrap (ishr .u64 y2 1)).tmod p1)) (by kernel_rfl)
/-! (*recordlink/recordlinkmake.Deck).One -/
noncomputable def rl_make_Deck_One (p0 : S_recordlinkmake_Deck) (p1 : Int) : Option (Bool × S_recordlinkmake_Deck) := bind2 (rl_make_Deck_Next p0 p1) fun y1 y2 => (some ((y1 == 0), y2))
set_option maxRecDepth 100000 in
theorem rl_make_Deck_One_con (p0 : S_recordlinkmake_Deck) (p1 : Int) (r : Bool × S_recordlinkmake_Deck) (h : rl_make_Deck_One p0 p1 = some r) : Con Try.prog 33 [.c (.ptr 0 3 0 0), vi64 p1] [(0, .box 60 [cl 1 Ri64 p0.list, ci64 p0.at_, cu64 p0.state])] (vb r.1) [(0, .box 60 [cl 1 Ri64 r.2.list, ci64 r.2.at_, cu64 r.2.state])] := by
 refine con_of tt_ok0 1 Try.func33 (by kernel_rfl) rfl (by kernel_rfl) (fun base X _ => AW.post ?_)
 unfold rl_make_Deck_One at h
 refine AW.sg tt_ok0 [] [] [] 2 [] (by kernel_rfl) ?_
 obtain ⟨y1, y2, e3, h⟩ := bind2_some h
 refine AW.sg tt_ok0 [(4, vb (y1 == 0))] [0] [(0, .box 60 [cl 1 Ri64 y2.list, ci64 y2.at_, cu64 y2.state])] 6 [hn, hn, hl [0] [] 0 (rl_make_Deck_Next_con p0 p1 (y1, y2) e3)] (by kernel_rfl) ?_
 refine AW.ret ?_
 obtain rfl := some_inj h
 exact fn0 (.inr rfl) [(0, 0)] 1 (vb (y1 == 0)) (by kernel_rfl)
structure S_api_Model where
 Prior : Int
 Match : List Int
 Random : List Int
def dS_api_Model : S_api_Model := ⟨0, ([] : List Int), ([] : List Int)⟩
instance : Inhabited S_api_Model := ⟨dS_api_Model⟩
/-! (*recordlink/recordlinkmake.Deck).Model -/
noncomputable def rl_make_Deck_Model_k2 (x10 : Int) (x22 : List Int) (x23 : Int) (x24 : Int) (x25 : List Int) (x26 : List Int) : Option ((Int × (List Int) × Int × Int × (List Int) × (List Int)) ⊕ ((List Int) × Int × Int × (List Int) × (List Int))) := some (.inl (i64.wrap (x10 + 1), x22, x23, x24, x25, x26))
noncomputable def rl_make_Deck_Model_l1 (p1 : Int) (x10 : Int) (x11 : List Int) (x12 : Int) (x13 : Int) (x14 : List Int) (x15 : List Int) : Option ((Int × (List Int) × Int × Int × (List Int) × (List Int)) ⊕ ((List Int) × Int × Int × (List Int) × (List Int))) := if (decide (x10 < p1)) = true then (bind2 (rl_make_Deck_Next (⟨x11, x12, x13⟩ : S_recordlinkmake_Deck) 32768) fun y27 y28 => (if x14.length + ([i64.wrap (32768 + y27)] : List Int).length ≤ 1099511627776 then (bind2 (rl_make_Deck_Next y28 32768) fun y31 y32 => (if x15.length + ([i64.wrap (1 + y31)] : List Int).length ≤ 1099511627776 then (bind2 (rl_make_Deck_One y32 6) fun y35 y36 => (if y35 = true then (bind2 (rl_make_Deck_Next y36 2) fun y39 y40 => (if 0 ≤ y39 then (if y39 < ((([1, 65535] : List Int).length : Nat) : Int) then (if 0 ≤ x10 then (if x10 < (((x14 ++ ([i64.wrap (32768 + y27)] : List Int)).length : Nat) : Int) then (rl_make_Deck_Model_k2 x10 y40.list y40.at_ y40.state ((x14 ++ ([i64.wrap (32768 + y27)] : List Int)).set (0 + x10.toNat) (([1, 65535] : List Int).getD (0 + y39.toNat) 0)) (x15 ++ ([i64.wrap (1 + y31)] : List Int))) else none) else none) else none) else none)) else (rl_make_Deck_Model_k2 x10 y36.list y36.at_ y36.state (x14 ++ ([i64.wrap (32768 + y27)] : List Int)) (x15 ++ ([i64.wrap (1 + y31)] : List Int))))) else none)) else none)) else (some (.inr (x11, x12, x13, x14, x15)))
noncomputable def rl_make_Deck_Model (p0 : S_recordlinkmake_Deck) (p1 : Int) : Option (S_api_Model × S_recordlinkmake_Deck) := bind2 (rl_make_Deck_Next p0 65535) fun y1 y2 => (bind5 (loop (fun v : Int × (List Int) × Int × Int × (List Int) × (List Int) => rl_make_Deck_Model_l1 p1 v.1 v.2.1 v.2.2.1 v.2.2.2.1 v.2.2.2.2.1 v.2.2.2.2.2) (0, y2.list, y2.at_, y2.state, ([] : List Int), ([] : List Int))) fun x46 x47 x48 x49 x50 => (some ((⟨i64.wrap (1 + y1), x49, x50⟩ : S_api_Model), (⟨x46, x47, x48⟩ : S_recordlinkmake_Deck))))
set_option maxRecDepth 100000 in
theorem rl_make_Deck_Model_con (p0 : S_recordlinkmake_Deck) (p1 : Int) (r : S_api_Model × S_recordlinkmake_Deck) (h : rl_make_Deck_Model p0 p1 = some r) : Con Try.prog 13 [.c (.ptr 0 3 0 0), vi64 p1] [(0, .box 60 [cl 1 Ri64 p0.list, ci64 p0.at_, cu64 p0.state])] (.agg [ci64 r.1.Prior, .ref 1 1 0 r.1.Match.length, .ref 2 1 0 r.1.Random.length]) [(0, .box 60 [cl 1 Ri64 r.2.list, ci64 r.2.at_, cu64 r.2.state]), (1, .row 3 false 1 r.1.Match.length (Ri64 r.1.Match)), (2, .row 3 false 1 r.1.Random.length (Ri64 r.1.Random))] := by
 refine con_of tt_ok0 1 Try.func13 (by kernel_rfl) rfl (by kernel_rfl) (fun base X _ => AW.post ?_)
 unfold rl_make_Deck_Model at h
 refine AW.sg tt_ok0 [(4, .c (.ptr 1 3 0 0))] [1] [(1, .box 36 [ci64 0, .t (.v (.slice none 0 0)), .t (.v (.slice none 0 0))])] 2 [] (by kernel_rfl) ?_
 obtain ⟨y1, y2, e3, h⟩ := bind2_some h
 refine AW.sg tt_ok0 [(5, .c (.ptr 5 3 0 0))] [0, 5] [(5, .box 36 [ci64 (i64.wrap (1 + y1)), .t (.v (.slice none 0 0)), .t (.v (.slice none 0 0))]), (0, .box 60 [cl 1 Ri64 y2.list, ci64 y2.at_, cu64 y2.state])] 7 [hn, hl [0] [] 0 (rl_make_Deck_Next_con p0 65535 (y1, y2) e3)] (by kernel_rfl) ?_
 refine AW.seq ?_
 refine AW.sg tt_ok0 [(6, vi64 0)] [] [] 8 [] (by kernel_rfl) ?_
 refine AW.block ?_
 obtain ⟨x46, x47, x48, x49, x50, l51, h⟩ := bind5_some h
 refine AW.lp l51 (fun v => ⟨[(0, .c (.ptr 0 3 0 0)), (1, vi64 p1), (4, .c (.ptr 1 3 0 0)), (5, .c (.ptr 2 3 0 0)), (6, vi64 v.1)], [(0, .box 60 [cl 1 Ri64 v.2.1, ci64 v.2.2.1, cu64 v.2.2.2.1]), (1, .box 36 [ci64 0, .t (.v (.slice none 0 0)), .t (.v (.slice none 0 0))]), (2, .box 36 [ci64 (i64.wrap (1 + y1)), .ref 3 1 0 v.2.2.2.2.1.length, .ref 4 1 0 v.2.2.2.2.2.length]), (3, .row 3 false 1 v.2.2.2.2.1.length (Ri64 v.2.2.2.2.1)), (4, .row 3 false 1 v.2.2.2.2.2.length (Ri64 v.2.2.2.2.2))], 5⟩) (fun t : (List Int) × Int × Int × (List Int) × (List Int) => (.exit 0, ⟨[(4, .c (.ptr 1 3 0 0)), (5, .c (.ptr 2 3 0 0))], [(0, .box 60 [cl 1 Ri64 t.1, ci64 t.2.1, cu64 t.2.2.1]), (1, .box 36 [ci64 0, .t (.v (.slice none 0 0)), .t (.v (.slice none 0 0))]), (2, .box 36 [ci64 (i64.wrap (1 + y1)), .ref 3 1 0 t.2.2.2.1.length, .ref 4 1 0 t.2.2.2.2.length]), (3, .row 3 false 1 t.2.2.2.1.length (Ri64 t.2.2.2.1)), (4, .row 3 false 1 t.2.2.2.2.length (Ri64 t.2.2.2.2))], 5⟩)) (Conv.trans (conv_adoptB (id := 5) (ty0 := 36) (cs := [ci64 (i64.wrap (1 + y1)), .t (.v (.slice none 0 0)), .t (.v (.slice none 0 0))]) 1 (ty := 3) (sz := 1) (n := ([] : List Int).length) (f := Ri64 ([] : List Int)) (by kernel_rfl) (by kernel_rfl) rfl) (Conv.trans (conv_adoptB (id := 5) (ty0 := 36) (cs := [ci64 (i64.wrap (1 + y1)), .ref 8 1 0 (([] : List Int).length), .t (.v (.slice none 0 0))]) 2 (ty := 3) (sz := 1) (n := ([] : List Int).length) (f := Ri64 ([] : List Int)) (by kernel_rfl) (by kernel_rfl) rfl) (conv_re [(0, 0), (1, 1), (2, 5), (3, 8), (4, 9)] (by kernel_rfl)))) (fun _ => tv) ?_ ?_
 ·
  clear l51 h
  intro v o h
  obtain ⟨x10, x11, x12, x13, x14, x15⟩ := v
  replace h : rl_make_Deck_Model_l1 p1 x10 x11 x12 x13 x14 x15 = some o := h
  unfold rl_make_Deck_Model_l1 at h
  refine AW.seq ?_
  refine AW.sg tt_ok0 [(13, vb (decide (x10 < p1)))] [] [] 8 [] (by kernel_rfl) ?_
  refine AW.co h (by kernel_rfl) (fun c21 h => ?_) (fun c21 h => ?_)
  ·
   refine AW.skip (AW.tn (AW.seq ?_))
   refine AW.join (ι := (List Int) × Int × Int × (List Int) × (List Int)) (fun v => ⟨[(0, .c (.ptr 0 3 0 0)), (1, vi64 p1), (4, .c (.ptr 1 3 0 0)), (5, .c (.ptr 2 3 0 0)), (6, vi64 x10)], [(0, .box 60 [cl 1 Ri64 v.1, ci64 v.2.1, cu64 v.2.2.1]), (1, .box 36 [ci64 0, .t (.v (.slice none 0 0)), .t (.v (.slice none 0 0))]), (2, .box 36 [ci64 (i64.wrap (1 + y1)), .ref 3 1 0 v.2.2.2.1.length, .ref 4 1 0 v.2.2.2.2.length]), (3, .row 3 false 1 v.2.2.2.1.length (Ri64 v.2.2.2.1)), (4, .row 3 false 1 v.2.2.2.2.length (Ri64 v.2.2.2.2))], 5⟩) (fun v : (List Int) × Int × Int × (List Int) × (List Int) => rl_make_Deck_Model_k2 x10 v.1 v.2.1 v.2.2.1 v.2.2.2.1 v.2.2.2.2 = some o) (fun v h => ?_) ?_
   ·
    obtain ⟨x22, x23, x24, x25, x26⟩ := v
    replace h : rl_make_Deck_Model_k2 x10 x22 x23 x24 x25 x26 = some o := h
    unfold rl_make_Deck_Model_k2 at h
    refine AW.tn ?_
    refine AW.rg tt_ok0 [(6, vi64 (i64.wrap (x10 + 1)))] [] [] 8 [] (by kernel_rfl) ?_
    exact lpn h (conv_re [(0, 0), (1, 1), (2, 2), (3, 3), (4, 4)] (by kernel_rfl))
   ·
    refine AW.block ?_
    obtain ⟨y27, y28, e29, h⟩ := bind2_some h
    obtain ⟨g30, h⟩ := ifc h
    refine AW.sd tt_ok0 mo0 [[], [], [], [0], [], [12], [13, 3], [], [2]] [] [(2, .box 36 [ci64 (i64.wrap (1 + y1)), .ref 13 1 0 ((x14 ++ ([i64.wrap (32768 + y27)] : List Int)).length), .ref 4 1 0 x15.length]), (13, .row 3 false 1 (x14 ++ ([i64.wrap (32768 + y27)] : List Int)).length (Ri64 (x14 ++ ([i64.wrap (32768 + y27)] : List Int)))), (0, .box 60 [cl 1 Ri64 y28.list, ci64 y28.at_, cu64 y28.state])] 16 [hn, hn, hn, hl [0] [] 0 (rl_make_Deck_Next_con (⟨x11, x12, x13⟩ : S_recordlinkmake_Deck) 32768 (y27, y28) e29), hn, hlit 0 Ei64 1 (fun _ => rfl) ([i64.wrap (32768 + y27)] : List Int), happ 0 Ei64 1 8 x14 ([i64.wrap (32768 + y27)] : List Int) g30 (by decide)] (by kernel_rfl) ?_
    obtain ⟨y31, y32, e33, h⟩ := bind2_some h
    obtain ⟨g34, h⟩ := ifc h
    refine AW.sd tt_ok0 mo0 [[], [], [], [0], [], [20], [21, 4], [], [2]] [] [(2, .box 36 [ci64 (i64.wrap (1 + y1)), .ref 13 1 0 ((x14 ++ ([i64.wrap (32768 + y27)] : List Int)).length), .ref 21 1 0 ((x15 ++ ([i64.wrap (1 + y31)] : List Int)).length)]), (21, .row 3 false 1 (x15 ++ ([i64.wrap (1 + y31)] : List Int)).length (Ri64 (x15 ++ ([i64.wrap (1 + y31)] : List Int)))), (0, .box 60 [cl 1 Ri64 y32.list, ci64 y32.at_, cu64 y32.state])] 24 [hn, hn, hn, hl [0] [] 0 (rl_make_Deck_Next_con y28 32768 (y31, y32) e33), hn, hlit 0 Ei64 1 (fun _ => rfl) ([i64.wrap (1 + y31)] : List Int), happ 0 Ei64 1 8 x15 ([i64.wrap (1 + y31)] : List Int) g34 (by decide)] (by kernel_rfl) ?_
    obtain ⟨y35, y36, e37, h⟩ := bind2_some h
    refine AW.sg tt_ok0 [(33, vb y35)] [0] [(0, .box 60 [cl 1 Ri64 y36.list, ci64 y36.at_, cu64 y36.state])] 25 [hn, hl [0] [] 0 (rl_make_Deck_One_con y32 6 (y35, y36) e37)] (by kernel_rfl) ?_
    refine AW.co h (by kernel_rfl) (fun c38 h => ?_) (fun c38 h => ?_)
    ·
     obtain ⟨y39, y40, e41, h⟩ := bind2_some h
     obtain ⟨g42, g43, h⟩ := ifd h
     obtain ⟨g44, g45, h⟩ := ifd h
     refine AW.rd tt_ok0 mo0 [[], [], [], [28], [], [0], [], [], [], [13]] [] [(13, .row 3 false 1 (x14 ++ ([i64.wrap (32768 + y27)] : List Int)).length (Ri64 ((x14 ++ ([i64.wrap (32768 + y27)] : List Int)).set (0 + x10.toNat) (([1, 65535] : List Int).getD (0 + y39.toNat) 0)))), (0, .box 60 [cl 1 Ri64 y40.list, ci64 y40.at_, cu64 y40.state])] 34 [hn, hn, hn, hlit 0 Ei64 1 (fun _ => rfl) ([1, 65535] : List Int), hn, hl [0] [] 0 (rl_make_Deck_Next_con y36 2 (y39, y40) e41), hq g42 g43, ho (p := (0 + y39.toNat) < ([1, 65535] : List Int).length) (by have h1 : 0 ≤ y39 := g42; have h2 : y39 < ((([1, 65535] : List Int).length : Nat) : Int) := g43; omega), hq g44 g45, hset 0 Ei64 (x14 ++ ([i64.wrap (32768 + y27)] : List Int)) (0 + x10.toNat) (([1, 65535] : List Int).getD (0 + y39.toNat) 0) (n := (x14 ++ ([i64.wrap (32768 + y27)] : List Int)).length) (by have h1 : 0 ≤ x10 := g44; have h2 : x10 < (((x14 ++ ([i64.wrap (32768 + y27)] : List Int)).length : Nat) : Int) := g45; omega) rfl] (by kernel_rfl) ?_
     refine AW.inBlock_normal ?_
     exact jl (y40.list, y40.at_, y40.state, ((x14 ++ ([i64.wrap (32768 + y27)] : List Int)).set (0 + x10.toNat) (([1, 65535] : List Int).getD (0 + y39.toNat) 0)), (x15 ++ ([i64.wrap (1 + y31)] : List Int))) h (Conv.trans (conv_re (S' := ⟨[(0, .c (.ptr 0 3 0 0)), (1, vi64 p1), (4, .c (.ptr 1 3 0 0)), (5, .c (.ptr 2 3 0 0)), (6, vi64 x10)], [(13, .row 3 false 1 (x14 ++ ([i64.wrap (32768 + y27)] : List Int)).length (Ri64 ((x14 ++ ([i64.wrap (32768 + y27)] : List Int)).set (0 + x10.toNat) (([1, 65535] : List Int).getD (0 + y39.toNat) 0)))), (0, .box 60 [cl 1 Ri64 y40.list, ci64 y40.at_, cu64 y40.state]), (2, .box 36 [ci64 (i64.wrap (1 + y1)), .ref 13 1 0 ((x14 ++ ([i64.wrap (32768 + y27)] : List Int)).length), .ref 21 1 0 ((x15 ++ ([i64.wrap (1 + y31)] : List Int)).length)]), (21, .row 3 false 1 (x15 ++ ([i64.wrap (1 + y31)] : List Int)).length (Ri64 (x15 ++ ([i64.wrap (1 + y31)] : List Int)))), (1, .box 36 [ci64 0, .t (.v (.slice none 0 0)), .t (.v (.slice none 0 0))])], 34⟩) [(13, 13), (0, 0), (2, 2), (21, 21), (1, 1)] (by kernel_rfl)) (Conv.trans (conv_len (S' := ⟨[(0, .c (.ptr 0 3 0 0)), (1, vi64 p1), (4, .c (.ptr 1 3 0 0)), (5, .c (.ptr 2 3 0 0)), (6, vi64 x10)], [(13, .row 3 false 1 ((x14 ++ ([i64.wrap (32768 + y27)] : List Int)).set (0 + x10.toNat) (([1, 65535] : List Int).getD (0 + y39.toNat) 0)).length (Ri64 ((x14 ++ ([i64.wrap (32768 + y27)] : List Int)).set (0 + x10.toNat) (([1, 65535] : List Int).getD (0 + y39.toNat) 0)))), (0, .box 60 [cl 1 Ri64 y40.list, ci64 y40.at_, cu64 y40.state]), (2, .box 36 [ci64 (i64.wrap (1 + y1)), .ref 13 1 0 (((x14 ++ ([i64.wrap (32768 + y27)] : List Int)).set (0 + x10.toNat) (([1, 65535] : List Int).getD (0 + y39.toNat) 0)).length), .ref 21 1 0 ((x15 ++ ([i64.wrap (1 + y31)] : List Int)).length)]), (21, .row 3 false 1 (x15 ++ ([i64.wrap (1 + y31)] : List Int)).length (Ri64 (x15 ++ ([i64.wrap (1 + y31)] : List Int)))), (1, .box 36 [ci64 0, .t (.v (.slice none 0 0)), .t (.v (.slice none 0 0))])], 34⟩) (by simp only [List.length_set])) (conv_re [(0, 0), (1, 1), (2, 2), (3, 13), (4, 21)] (by kernel_rfl))))
    ·
     refine AW.skip (AW.inBlock_normal ?_)
     exact jl (y36.list, y36.at_, y36.state, (x14 ++ ([i64.wrap (32768 + y27)] : List Int)), (x15 ++ ([i64.wrap (1 + y31)] : List Int))) h (conv_re [(0, 0), (1, 1), (2, 2), (3, 13), (4, 21)] (by kernel_rfl))
  ·
   refine AW.exit (AW.thenQ_exit ?_)
   exact lpo h rfl (conv_re [(0, 0), (1, 1), (2, 2), (3, 3), (4, 4)] (by kernel_rfl))
 ·
  show (_ : Exit → St → Prop) (.exit 0) _
  refine AW.inBlock_hit (AW.tn ?_)
  refine AW.sg tt_ok0 [] [1] [(1, .box 36 [ci64 (i64.wrap (1 + y1)), .ref 3 1 0 x49.length, .ref 4 1 0 x50.length])] 7 [] (by kernel_rfl) ?_
  refine AW.ret ?_
  obtain rfl := some_inj h
  exact fn0 (.inr rfl) [(0, 0), (1, 3), (2, 4)] 3 (.agg [ci64 (i64.wrap (1 + y1)), .ref 3 1 0 x49.length, .ref 4 1 0 x50.length]) (by kernel_rfl)
/-! recordlink/em.probability -/
noncomputable def em_probability_k1 (x1 : Bool) : Option Bool := some x1
noncomputable def em_probability (p0 : Int) : Option Bool := if (decide (p0 ≥ 1)) = true then (em_probability_k1 (decide (p0 < 65536))) else (em_probability_k1 false)
set_option maxRecDepth 100000 in
theorem em_probability_con (p0 : Int) (r : Bool) (h : em_probability p0 = some r) : Con Try.prog 56 [vi64 p0] [] (vb r) [] := by
 refine con_of tt_ok0 0 Try.func56 (by kernel_rfl) rfl (by kernel_rfl) (fun base X _ => AW.post ?_)
 unfold em_probability at h
 refine AW.sg tt_ok0 [] [] [] 1 [] (by kernel_rfl) ?_
 refine AW.seq ?_
 refine AW.join (ι := Bool) (fun v => ⟨[(2, vb v)], [], 0⟩) (fun v : Bool => em_probability_k1 v = some r) (fun x1 h => ?_) ?_
 ·
  unfold em_probability_k1 at h
  refine AW.tn (AW.ret ?_)
  obtain rfl := some_inj h
  exact fn0 (.inr rfl) [] 0 (vb x1) (by kernel_rfl)
 ·
  rcases ifs h with ⟨c2, h⟩ | ⟨c2, h⟩
  ·
   refine AW.rg tt_ok0 [(2, vb (decide (p0 < 65536)))] [] [] 8 [hn, ht c2] (by kernel_rfl) ?_
   exact jl (decide (p0 < 65536)) h (conv_re [] (by kernel_rfl))
  ·
   refine AW.rg tt_ok0 [(2, vb false)] [] [] 8 [hn, hf c2] (by kernel_rfl) ?_
   exact jl false h (conv_re [] (by kernel_rfl))
/-! recordlink/em.Check$1 -/
noncomputable def em_Check_f1 (p0 : Int) : Option Bool := (em_probability p0).bind fun y1 => (some (!y1))
set_option maxRecDepth 100000 in
theorem em_Check_f1_con (p0 : Int) (r : Bool) (h : em_Check_f1 p0 = some r) : Con Try.prog 55 [vi64 p0] [] (vb r) [] := by
 refine con_of tt_ok0 0 Try.func55 (by kernel_rfl) rfl (by kernel_rfl) (fun base X _ => AW.post ?_)
 unfold em_Check_f1 at h
 refine AW.sg tt_ok0 [] [] [] 1 [] (by kernel_rfl) ?_
 obtain ⟨y1, e2, h⟩ := bnd_some h
 refine AW.sg tt_ok0 [(2, vb (!y1))] [] [] 4 [hn, hk (em_probability_con p0 y1 e2)] (by kernel_rfl) ?_
 refine AW.ret ?_
 obtain rfl := some_inj h
 exact fn0 (.inr rfl) [] 0 (vb (!y1)) (by kernel_rfl)
/-! slices.IndexFunc[[]int,int] -/
noncomputable def slices_IndexFunc_int_em_Check_f1_l1 (p0 : List Int) (x2 : Int) : Option (Int ⊕ (Unit ⊕ Int)) := if (decide (x2 < (p0.length : Int))) = true then (if 0 ≤ x2 then (if x2 < (p0.length : Int) then ((em_Check_f1 (p0.getD x2.toNat 0)).bind fun y7 => (if y7 = true then (some (.inr (.inr x2))) else (some (.inl (i64.wrap (x2 + 1)))))) else none) else none) else (some (.inr (.inl ())))
noncomputable def slices_IndexFunc_int_em_Check_f1_a2 : Option Int := some (-1)
noncomputable def slices_IndexFunc_int_em_Check_f1_a3 (x10 : Int) : Option Int := some x10
noncomputable def slices_IndexFunc_int_em_Check_f1 (p0 : List Int) : Option Int := bindE (loop (fun v : Int => slices_IndexFunc_int_em_Check_f1_l1 p0 v) 0) (fun t => slices_IndexFunc_int_em_Check_f1_a2) (fun t => slices_IndexFunc_int_em_Check_f1_a3 t)
set_option maxRecDepth 100000 in
theorem slices_IndexFunc_int_em_Check_f1_con (p0 : List Int) (r : Int) (h : slices_IndexFunc_int_em_Check_f1 p0 = some r) : Con Try.prog 72 [vl 1 Ri64 p0, .c (.t (.v (.func (.func 55) #[] #[])))] [] (vi64 r) [] := by
 refine con_of tt_ok0 0 Try.func72 (by kernel_rfl) rfl (by kernel_rfl) (fun base X _ => AW.post ?_)
 unfold slices_IndexFunc_int_em_Check_f1 at h
 refine AW.sg tt_ok0 [] [] [] 1 [] (by kernel_rfl) ?_
 refine AW.seq ?_
 refine AW.sg tt_ok0 [(8, vi64 0), (7, vi64 (p0.length : Int))] [] [] 4 [] (by kernel_rfl) ?_
 refine AW.block ?_
 refine AW.lpE h (fun v => ⟨[(0, vl 1 Ri64 p0), (1, .c (.t (.v (.func (.func 55) #[] #[])))), (7, vi64 (p0.length : Int)), (8, vi64 v)], [], 0⟩) (fun t => (.exit 0, ⟨[], [], 0⟩)) (fun t => (.ret, ⟨[(4, vi64 t)], [], 0⟩)) (conv_re [] (by kernel_rfl)) (fun _ => tv) (fun _ => tv) ?_ (fun t h => ?_) (fun x10 h => ?_)
 ·
  clear h
  intro x2 o h
  unfold slices_IndexFunc_int_em_Check_f1_l1 at h
  refine AW.sg tt_ok0 [(9, vb (decide (x2 < (p0.length : Int))))] [] [] 1 [] (by kernel_rfl) ?_
  refine AW.seq ?_
  refine AW.co h (by kernel_rfl) (fun c4 h => ?_) (fun c4 h => ?_)
  ·
   refine AW.skip (AW.tn ?_)
   refine AW.seq (AW.block ?_)
   refine AW.sg tt_ok0 [(5, vi64 x2)] [] [] 3 [] (by kernel_rfl) ?_
   obtain ⟨g5, g6, h⟩ := ifd h
   obtain ⟨y7, e8, h⟩ := bnd_some h
   refine AW.sg tt_ok0 [(16, vb y7)] [] [] 8 [hn, hn, hn, hq g5 g6, hn, hk (em_Check_f1_con (p0.getD x2.toNat 0) y7 e8)] (by kernel_rfl) ?_
   refine AW.co h (by kernel_rfl) (fun c9 h => ?_) (fun c9 h => ?_)
   ·
    refine AW.sg tt_ok0 [(4, vi64 x2)] [] [] 10 [] (by kernel_rfl) ?_
    refine AW.ret (AW.inBlock_ret (AW.tr ?_))
    exact lpo h rfl (conv_re [] (by kernel_rfl))
   ·
    refine AW.skip (AW.inBlock_normal (AW.tn ?_))
    refine AW.rg tt_ok0 [(8, vi64 (i64.wrap (x2 + 1)))] [] [] 10 [] (by kernel_rfl) ?_
    exact lpn h (conv_re [] (by kernel_rfl))
  ·
   refine AW.exit (AW.thenQ_exit ?_)
   exact lpo h rfl (conv_re [] (by kernel_rfl))
 ·
  replace h : slices_IndexFunc_int_em_Check_f1_a2 = some r := h
  unfold slices_IndexFunc_int_em_Check_f1_a2 at h
  show (_ : Exit → St → Prop) (.exit 0) _
  refine AW.inBlock_hit (AW.tn ?_)
  refine AW.sg tt_ok0 [(4, vi64 (-1))] [] [] 1 [] (by kernel_rfl) ?_
  refine AW.ret ?_
  obtain rfl := some_inj h
  exact fn0 (.inr rfl) [] 0 (vi64 (-1)) (by kernel_rfl)
 ·
  unfold slices_IndexFunc_int_em_Check_f1_a3 at h
  show (_ : Exit → St → Prop) (.ret) _
  refine AW.inBlock_ret (AW.tr ?_)
  obtain rfl := some_inj h
  exact fn0 (.inr rfl) [] 0 (vi64 x10) (by kernel_rfl)
/-! slices.ContainsFunc[[]int,int] -/
noncomputable def slices_ContainsFunc_int_em_Check_f1 (p0 : List Int) : Option Bool := (slices_IndexFunc_int_em_Check_f1 p0).bind fun y1 => (some (decide (y1 ≥ 0)))
set_option maxRecDepth 100000 in
theorem slices_ContainsFunc_int_em_Check_f1_con (p0 : List Int) (r : Bool) (h : slices_ContainsFunc_int_em_Check_f1 p0 = some r) : Con Try.prog 57 [vl 1 Ri64 p0, .c (.t (.v (.func (.func 55) #[] #[])))] [] (vb r) [] := by
 refine con_of tt_ok0 0 Try.func57 (by kernel_rfl) rfl (by kernel_rfl) (fun base X _ => AW.post ?_)
 unfold slices_ContainsFunc_int_em_Check_f1 at h
 refine AW.sg tt_ok0 [] [] [] 1 [] (by kernel_rfl) ?_
 obtain ⟨y1, e2, h⟩ := bnd_some h
 refine AW.sg tt_ok0 [(4, vb (decide (y1 ≥ 0)))] [] [] 5 [hn, hn, hk (slices_IndexFunc_int_em_Check_f1_con p0 y1 e2)] (by kernel_rfl) ?_
 refine AW.ret ?_
 obtain rfl := some_inj h
 exact fn0 (.inr rfl) [] 0 (vb (decide (y1 ≥ 0))) (by kernel_rfl)
/-! recordlink/em.Check -/
noncomputable def em_Check_k1 (x1 : Bool) : Option Int := if x1 = true then (some 18) else (some 0)
noncomputable def em_Check (p0 : S_api_Model) : Option Int := if (((p0.Match.length : Nat) : Int) != ((p0.Random.length : Nat) : Int)) = true then (em_Check_k1 true) else (if (decide (((p0.Match.length : Nat) : Int) < 1)) = true then (em_Check_k1 true) else (if (decide (((p0.Match.length : Nat) : Int) > 5)) = true then (em_Check_k1 true) else ((em_Check_f1 p0.Prior).bind fun y6 => (if y6 = true then (em_Check_k1 true) else ((slices_ContainsFunc_int_em_Check_f1 p0.Match).bind fun y9 => (if y9 = true then (em_Check_k1 true) else ((slices_ContainsFunc_int_em_Check_f1 p0.Random).bind fun y12 => (em_Check_k1 y12))))))))
set_option maxRecDepth 100000 in
theorem em_Check_con (p0 : S_api_Model) (r : Int) (h : em_Check p0 = some r) : Con Try.prog 35 [.agg [ci64 p0.Prior, cl 1 Ri64 p0.Match, cl 1 Ri64 p0.Random]] [] (vi64 r) [] := by
 refine con_of tt_ok0 0 Try.func35 (by kernel_rfl) rfl (by kernel_rfl) (fun base X _ => AW.post ?_)
 unfold em_Check at h
 refine AW.sg tt_ok0 [(1, .c (.ptr 0 3 0 0))] [0] [(0, .box 36 [ci64 p0.Prior, cl 1 Ri64 p0.Match, cl 1 Ri64 p0.Random])] 2 [] (by kernel_rfl) ?_
 refine AW.sg tt_ok0 [(3, .c (.t (.v (.func (.func 55) #[] #[]))))] [] [] 3 [] (by kernel_rfl) ?_
 refine AW.seq (AW.seq ?_)
 refine AW.join (ι := Bool) (fun v => ⟨[(40, vb v)], [], 0⟩) (fun v : Bool => em_Check_k1 v = some r) (fun x1 h => ?_) ?_
 ·
  unfold em_Check_k1 at h
  refine AW.tn ?_
  refine AW.co h (by kernel_rfl) (fun c2 h => ?_) (fun c2 h => ?_)
  ·
   refine AW.sg tt_ok0 [(2, vi64 18)] [] [] 1 [] (by kernel_rfl) ?_
   refine AW.ret (AW.tr ?_)
   obtain rfl := some_inj h
   exact fn0 (.inr rfl) [] 0 (vi64 18) (by kernel_rfl)
  ·
   refine AW.skip (AW.tn ?_)
   refine AW.sg tt_ok0 [(2, vi64 0)] [] [] 1 [] (by kernel_rfl) ?_
   refine AW.ret ?_
   obtain rfl := some_inj h
   exact fn0 (.inr rfl) [] 0 (vi64 0) (by kernel_rfl)
 ·
  rcases ifs h with ⟨c3, h⟩ | ⟨c3, h⟩
  ·
   refine AW.rg tt_ok0 [(40, vb true)] [] [] 40 [hn, hn, hn, hn, hn, hn, ht c3] (by kernel_rfl) ?_
   exact jl true h (conv_re [] (by kernel_rfl))
  ·
   rcases ifs h with ⟨c4, h⟩ | ⟨c4, h⟩
   ·
    refine AW.rg tt_ok0 [(40, vb true)] [] [] 40 [hn, hn, hn, hn, hn, hn, hf c3, hn, hn, hn, hn, ht c4] (by kernel_rfl) ?_
    exact jl true h (conv_re [] (by kernel_rfl))
   ·
    rcases ifs h with ⟨c5, h⟩ | ⟨c5, h⟩
    ·
     refine AW.rg tt_ok0 [(40, vb true)] [] [] 40 [hn, hn, hn, hn, hn, hn, hf c3, hn, hn, hn, hn, hf c4, hn, hn, hn, hn, hn, ht c5] (by kernel_rfl) ?_
     exact jl true h (conv_re [] (by kernel_rfl))
    ·
     obtain ⟨y6, e7, h⟩ := bnd_some h
     rcases ifs h with ⟨c8, hs⟩ | ⟨c8, hs⟩
     ·clear h; subst c8; have h := hs; clear hs
      refine AW.rg tt_ok0 [(40, vb true)] [] [] 39 [hn, hn, hn, hn, hn, hn, hf c3, hn, hn, hn, hn, hf c4, hn, hn, hn, hn, hn, hf c5, hn, hn, hn, hn, hn, hk (em_Check_f1_con p0.Prior true e7)] (by kernel_rfl) ?_
      exact jl true h (conv_re [] (by kernel_rfl))
     ·clear h; subst c8; have h := hs; clear hs
      obtain ⟨y9, e10, h⟩ := bnd_some h
      rcases ifs h with ⟨c11, hs⟩ | ⟨c11, hs⟩
      ·clear h; subst c11; have h := hs; clear hs
       refine AW.rg tt_ok0 [(40, vb true)] [] [] 38 [hn, hn, hn, hn, hn, hn, hf c3, hn, hn, hn, hn, hf c4, hn, hn, hn, hn, hn, hf c5, hn, hn, hn, hn, hn, hk (em_Check_f1_con p0.Prior false e7), hn, hn, hn, hn, hn, hk (slices_ContainsFunc_int_em_Check_f1_con p0.Match true e10)] (by kernel_rfl) ?_
       exact jl true h (conv_re [] (by kernel_rfl))
      ·clear h; subst c11; have h := hs; clear hs
       obtain ⟨y12, e13, h⟩ := bnd_some h
       refine AW.rg tt_ok0 [(40, vb y12)] [] [] 37 [hn, hn, hn, hn, hn, hn, hf c3, hn, hn, hn, hn, hf c4, hn, hn, hn, hn, hn, hf c5, hn, hn, hn, hn, hn, hk (em_Check_f1_con p0.Prior false e7), hn, hn, hn, hn, hn, hk (slices_ContainsFunc_int_em_Check_f1_con p0.Match false e10), hn, hn, hn, hn, hn, hk (slices_ContainsFunc_int_em_Check_f1_con p0.Random y12 e13)] (by kernel_rfl) ?_
       exact jl y12 h (conv_re [] (by kernel_rfl))
structure S_api_Weights where
 Prior : Int
 Agree : List Int
 Differ : List Int
def dS_api_Weights : S_api_Weights := ⟨0, ([] : List Int), ([] : List Int)⟩
instance : Inhabited S_api_Weights := ⟨dS_api_Weights⟩
/-! recordlink/weight.Of -/
noncomputable def weight_Of_l1 (p0 : S_api_Model) (x10 : Int) (x11 : List Int) (x12 : List Int) : Option ((Int × (List Int) × (List Int)) ⊕ ((List Int) × (List Int))) := if (decide (x10 < ((p0.Match.length : Nat) : Int))) = true then (if 0 ≤ x10 then (if x10 < ((p0.Match.length : Nat) : Int) then (if x10 < ((p0.Random.length : Nat) : Int) then (bind2 (weight_Log (p0.Match.getD x10.toNat 0) (p0.Random.getD x10.toNat 0)) fun y19 y20 => (bind2 (weight_Log (i64.wrap (65536 - (p0.Match.getD x10.toNat 0))) (i64.wrap (65536 - (p0.Random.getD x10.toNat 0)))) fun y22 y23 => (if x11.length + ([y19] : List Int).length ≤ 1099511627776 then (if x12.length + ([y22] : List Int).length ≤ 1099511627776 then (some (.inl (i64.wrap (x10 + 1), (x11 ++ ([y19] : List Int)), (x12 ++ ([y22] : List Int))))) else none) else none))) else none) else none) else none) else (some (.inr (x11, x12)))
noncomputable def weight_Of (p0 : S_api_Model) : Option (S_api_Weights × Int) := (em_Check p0).bind fun y1 => (if (y1 != 0) = true then (some ((⟨0, ([] : List Int), ([] : List Int)⟩ : S_api_Weights), y1)) else (bind2 (weight_Log p0.Prior (i64.wrap (65536 - p0.Prior))) fun y4 y5 => (bind2 (loop (fun v : Int × (List Int) × (List Int) => weight_Of_l1 p0 v.1 v.2.1 v.2.2) (0, ([] : List Int), ([] : List Int))) fun x27 x28 => (some ((⟨y4, x27, x28⟩ : S_api_Weights), 0)))))
set_option maxRecDepth 100000 in
theorem weight_Of_con (p0 : S_api_Model) (r : S_api_Weights × Int) (h : weight_Of p0 = some r) : Con Try.prog 15 [.agg [ci64 p0.Prior, cl 1 Ri64 p0.Match, cl 1 Ri64 p0.Random]] [] (.tup [.agg [ci64 r.1.Prior, .ref 0 1 0 r.1.Agree.length, .ref 1 1 0 r.1.Differ.length], vi64 r.2]) [(0, .row 3 false 1 r.1.Agree.length (Ri64 r.1.Agree)), (1, .row 3 false 1 r.1.Differ.length (Ri64 r.1.Differ))] := by
 refine con_of tt_ok0 0 Try.func15 (by kernel_rfl) rfl (by kernel_rfl) (fun base X _ => AW.post ?_)
 unfold weight_Of at h
 refine AW.sg tt_ok0 [(2, .c (.ptr 1 3 0 0)), (1, .c (.ptr 0 3 0 0))] [0, 1] [(1, .box 40 [ci64 0, .t (.v (.slice none 0 0)), .t (.v (.slice none 0 0))]), (0, .box 36 [ci64 p0.Prior, cl 1 Ri64 p0.Match, cl 1 Ri64 p0.Random])] 3 [] (by kernel_rfl) ?_
 refine AW.seq ?_
 obtain ⟨y1, e2, h⟩ := bnd_some h
 refine AW.sg tt_ok0 [(4, vi64 y1)] [] [] 5 [hn, hk (em_Check_con p0 y1 e2)] (by kernel_rfl) ?_
 refine AW.sg tt_ok0 [(14, vb (y1 != 0))] [] [] 7 [] (by kernel_rfl) ?_
 refine AW.co h (by kernel_rfl) (fun c3 h => ?_) (fun c3 h => ?_)
 ·
  refine AW.sg tt_ok0 [(3, vi64 y1)] [1] [(1, .box 40 [ci64 0, .t (.v (.slice none 0 0)), .t (.v (.slice none 0 0))])] 11 [] (by kernel_rfl) ?_
  refine AW.ret (AW.tr ?_)
  obtain rfl := some_inj h
  exact fnR (.inr rfl) [(0, 11), (1, 12)] 2 (.tup [.agg [ci64 0, .ref 11 1 0 (([] : List Int).length), .ref 12 1 0 (([] : List Int).length)], vi64 y1]) (Conv.trans (conv_adoptB (id := 1) (ty0 := 40) (cs := [ci64 0, .t (.v (.slice none 0 0)), .t (.v (.slice none 0 0))]) 1 (ty := 3) (sz := 1) (n := ([] : List Int).length) (f := Ri64 ([] : List Int)) (by kernel_rfl) (by kernel_rfl) rfl) (conv_adoptB (id := 1) (ty0 := 40) (cs := [ci64 0, .ref 11 1 0 (([] : List Int).length), .t (.v (.slice none 0 0))]) 2 (ty := 3) (sz := 1) (n := ([] : List Int).length) (f := Ri64 ([] : List Int)) (by kernel_rfl) (by kernel_rfl) rfl)) (by kernel_rfl)
 ·
  refine AW.skip (AW.tn ?_)
  refine AW.sg tt_ok0 [(5, .c (.ptr 7 3 0 0))] [7] [(7, .box 40 [ci64 0, .t (.v (.slice none 0 0)), .t (.v (.slice none 0 0))])] 8 [] (by kernel_rfl) ?_
  obtain ⟨y4, y5, e6, h⟩ := bind2_some h
  refine AW.sg tt_ok0 [] [7] [(7, .box 40 [ci64 y4, .t (.v (.slice none 0 0)), .t (.v (.slice none 0 0))])] 18 [hn, hn, hn, hn, hn, hk (weight_Log_con p0.Prior (i64.wrap (65536 - p0.Prior)) (y4, y5) e6)] (by kernel_rfl) ?_
  refine AW.seq ?_
  refine AW.sg tt_ok0 [(30, vi64 0), (29, vi64 ((p0.Match.length : Nat) : Int))] [] [] 22 [] (by kernel_rfl) ?_
  refine AW.block ?_
  obtain ⟨x27, x28, l29, h⟩ := bind2_some h
  refine AW.lp l29 (fun v => ⟨[(1, .c (.ptr 0 3 0 0)), (2, .c (.ptr 1 3 0 0)), (5, .c (.ptr 2 3 0 0)), (29, vi64 ((p0.Match.length : Nat) : Int)), (30, vi64 v.1)], [(0, .box 36 [ci64 p0.Prior, cl 1 Ri64 p0.Match, cl 1 Ri64 p0.Random]), (1, .box 40 [ci64 0, .t (.v (.slice none 0 0)), .t (.v (.slice none 0 0))]), (2, .box 40 [ci64 y4, .ref 3 1 0 v.2.1.length, .ref 4 1 0 v.2.2.length]), (3, .row 3 false 1 v.2.1.length (Ri64 v.2.1)), (4, .row 3 false 1 v.2.2.length (Ri64 v.2.2))], 5⟩) (fun t : (List Int) × (List Int) => (.exit 0, ⟨[(2, .c (.ptr 0 3 0 0)), (5, .c (.ptr 1 3 0 0))], [(0, .box 40 [ci64 0, .t (.v (.slice none 0 0)), .t (.v (.slice none 0 0))]), (1, .box 40 [ci64 y4, .ref 2 1 0 t.1.length, .ref 3 1 0 t.2.length]), (2, .row 3 false 1 t.1.length (Ri64 t.1)), (3, .row 3 false 1 t.2.length (Ri64 t.2))], 4⟩)) (Conv.trans (conv_adoptB (id := 7) (ty0 := 40) (cs := [ci64 y4, .t (.v (.slice none 0 0)), .t (.v (.slice none 0 0))]) 1 (ty := 3) (sz := 1) (n := ([] : List Int).length) (f := Ri64 ([] : List Int)) (by kernel_rfl) (by kernel_rfl) rfl) (Conv.trans (conv_adoptB (id := 7) (ty0 := 40) (cs := [ci64 y4, .ref 22 1 0 (([] : List Int).length), .t (.v (.slice none 0 0))]) 2 (ty := 3) (sz := 1) (n := ([] : List Int).length) (f := Ri64 ([] : List Int)) (by kernel_rfl) (by kernel_rfl) rfl) (conv_re [(0, 0), (1, 1), (2, 7), (3, 22), (4, 23)] (by kernel_rfl)))) (fun _ => tv) ?_ ?_
  ·
   clear l29 h
   intro v o h
   obtain ⟨x10, x11, x12⟩ := v
   replace h : weight_Of_l1 p0 x10 x11 x12 = some o := h
   unfold weight_Of_l1 at h
   refine AW.sg tt_ok0 [(31, vb (decide (x10 < ((p0.Match.length : Nat) : Int))))] [] [] 6 [] (by kernel_rfl) ?_
   refine AW.seq ?_
   refine AW.co h (by kernel_rfl) (fun c15 h => ?_) (fun c15 h => ?_)
   ·
    refine AW.skip (AW.tn ?_)
    refine AW.seq (AW.block ?_)
    refine AW.sg tt_ok0 [(6, vi64 x10)] [] [] 8 [] (by kernel_rfl) ?_
    obtain ⟨g16, g17, h⟩ := ifd h
    obtain ⟨g18, h⟩ := ifc h
    obtain ⟨y19, y20, e21, h⟩ := bind2_some h
    refine AW.sd tt_ok0 mo0 [] [(7, vi64 y19)] [] 23 [hn, hn, hn, hq g16 g17, hn, hn, hn, hn, hq g16 g18, hn, hk (weight_Log_con (p0.Match.getD x10.toNat 0) (p0.Random.getD x10.toNat 0) (y19, y20) e21)] (by kernel_rfl) ?_
    obtain ⟨y22, y23, e24, h⟩ := bind2_some h
    refine AW.sd tt_ok0 mo0 [] [(9, vi64 y22)] [] 40 [hn, hn, hn, hq g16 g17, hn, hn, hn, hn, hn, hq g16 g18, hn, hn, hk (weight_Log_con (i64.wrap (65536 - (p0.Match.getD x10.toNat 0))) (i64.wrap (65536 - (p0.Random.getD x10.toNat 0))) (y22, y23) e24)] (by kernel_rfl) ?_
    obtain ⟨g25, g26, h⟩ := ifd h
    refine AW.rd tt_ok0 mo0 [[], [], [], [43], [44, 3], [], [], [], [48], [49, 4], [], [2], [], [2]] [] [(2, .box 40 [ci64 y4, .ref 44 1 0 ((x11 ++ ([y19] : List Int)).length), .ref 49 1 0 ((x12 ++ ([y22] : List Int)).length)]), (49, .row 3 false 1 (x12 ++ ([y22] : List Int)).length (Ri64 (x12 ++ ([y22] : List Int)))), (44, .row 3 false 1 (x11 ++ ([y19] : List Int)).length (Ri64 (x11 ++ ([y19] : List Int))))] 54 [hn, hn, hn, hlit 0 Ei64 1 (fun _ => rfl) ([y19] : List Int), happ 0 Ei64 1 8 x11 ([y19] : List Int) g25 (by decide), hn, hn, hn, hlit 0 Ei64 1 (fun _ => rfl) ([y22] : List Int), happ 0 Ei64 1 8 x12 ([y22] : List Int) g26 (by decide)] (by kernel_rfl) ?_
    refine AW.inBlock_normal (AW.tn ?_)
    refine AW.rg tt_ok0 [(30, vi64 (i64.wrap (x10 + 1)))] [] [] 56 [] (by kernel_rfl) ?_
    exact lpn h (conv_re [(0, 0), (1, 1), (2, 2), (3, 44), (4, 49)] (by kernel_rfl))
   ·
    refine AW.exit (AW.thenQ_exit ?_)
    exact lpo h rfl (conv_re [(0, 1), (1, 2), (2, 3), (3, 4)] (by kernel_rfl))
  ·
   show (_ : Exit → St → Prop) (.exit 0) _
   refine AW.inBlock_hit (AW.tn ?_)
   refine AW.sg tt_ok0 [(3, vi64 0)] [0] [(0, .box 40 [ci64 y4, .ref 2 1 0 x27.length, .ref 3 1 0 x28.length])] 7 [] (by kernel_rfl) ?_
   refine AW.ret ?_
   obtain rfl := some_inj h
   exact fn0 (.inr rfl) [(0, 2), (1, 3)] 2 (.tup [.agg [ci64 y4, .ref 2 1 0 x27.length, .ref 3 1 0 x28.length], vi64 0]) (by kernel_rfl)
/-! recordlink/weight.fits -/
noncomputable def weight_fits_k1 (x1 : Bool) : Option Bool := some x1
noncomputable def weight_fits (p0 : Int) : Option Bool := if (decide (p0 ≥ (-65536))) = true then (weight_fits_k1 (decide (p0 ≤ 65536))) else (weight_fits_k1 false)
set_option maxRecDepth 100000 in
theorem weight_fits_con (p0 : Int) (r : Bool) (h : weight_fits p0 = some r) : Con Try.prog 36 [vi64 p0] [] (vb r) [] := by
 refine con_of tt_ok0 0 Try.func36 (by kernel_rfl) rfl (by kernel_rfl) (fun base X _ => AW.post ?_)
 unfold weight_fits at h
 refine AW.sg tt_ok0 [] [] [] 1 [] (by kernel_rfl) ?_
 refine AW.seq ?_
 refine AW.join (ι := Bool) (fun v => ⟨[(2, vb v)], [], 0⟩) (fun v : Bool => weight_fits_k1 v = some r) (fun x1 h => ?_) ?_
 ·
  unfold weight_fits_k1 at h
  refine AW.tn (AW.ret ?_)
  obtain rfl := some_inj h
  exact fn0 (.inr rfl) [] 0 (vb x1) (by kernel_rfl)
 ·
  rcases ifs h with ⟨c2, h⟩ | ⟨c2, h⟩
  ·
   refine AW.rg tt_ok0 [(2, vb (decide (p0 ≤ 65536)))] [] [] 8 [hn, ht c2] (by kernel_rfl) ?_
   exact jl (decide (p0 ≤ 65536)) h (conv_re [] (by kernel_rfl))
  ·
   refine AW.rg tt_ok0 [(2, vb false)] [] [] 8 [hn, hf c2] (by kernel_rfl) ?_
   exact jl false h (conv_re [] (by kernel_rfl))
/-! recordlink/weight.Check -/
noncomputable def weight_Check_k3 (x4 : Int) (x6 : Bool) : Option (Int ⊕ (Unit ⊕ Unit)) := if x6 = true then (some (.inr (.inr ()))) else (some (.inl (i64.wrap (x4 + 1))))
noncomputable def weight_Check_l2 (p0 : S_api_Weights) (x4 : Int) : Option (Int ⊕ (Unit ⊕ Unit)) := if (decide (x4 < ((p0.Agree.length : Nat) : Int))) = true then (if 0 ≤ x4 then (if x4 < ((p0.Agree.length : Nat) : Int) then ((weight_fits (p0.Agree.getD x4.toNat 0)).bind fun y10 => (if (!y10) = true then (weight_Check_k3 x4 true) else (if x4 < ((p0.Differ.length : Nat) : Int) then ((weight_fits (p0.Differ.getD x4.toNat 0)).bind fun y14 => (weight_Check_k3 x4 (!y14))) else none))) else none) else none) else (some (.inr (.inl ())))
noncomputable def weight_Check_a4 : Option Int := some 0
noncomputable def weight_Check_a5 : Option Int := some 40
noncomputable def weight_Check_k1 (p0 : S_api_Weights) (x1 : Bool) : Option Int := if x1 = true then (some 40) else (bindE (loop (fun v : Int => weight_Check_l2 p0 v) 0) (fun t => weight_Check_a4) (fun t => weight_Check_a5))
noncomputable def weight_Check (p0 : S_api_Weights) : Option Int := if (decide (((p0.Agree.length : Nat) : Int) < 1)) = true then (weight_Check_k1 p0 true) else (if (decide (((p0.Agree.length : Nat) : Int) > 5)) = true then (weight_Check_k1 p0 true) else (if (((p0.Differ.length : Nat) : Int) != ((p0.Agree.length : Nat) : Int)) = true then (weight_Check_k1 p0 true) else ((weight_fits p0.Prior).bind fun y20 => (weight_Check_k1 p0 (!y20)))))
set_option maxRecDepth 100000 in
theorem weight_Check_con (p0 : S_api_Weights) (r : Int) (h : weight_Check p0 = some r) : Con Try.prog 16 [.agg [ci64 p0.Prior, cl 1 Ri64 p0.Agree, cl 1 Ri64 p0.Differ]] [] (vi64 r) [] := by
 refine con_of tt_ok0 0 Try.func16 (by kernel_rfl) rfl (by kernel_rfl) (fun base X _ => AW.post ?_)
 unfold weight_Check at h
 refine AW.sg tt_ok0 [(1, .c (.ptr 0 3 0 0))] [0] [(0, .box 40 [ci64 p0.Prior, cl 1 Ri64 p0.Agree, cl 1 Ri64 p0.Differ])] 2 [] (by kernel_rfl) ?_
 refine AW.seq (AW.seq ?_)
 refine AW.join (ι := Bool) (fun v => ⟨[(1, .c (.ptr 0 3 0 0)), (28, vb v)], [(0, .box 40 [ci64 p0.Prior, cl 1 Ri64 p0.Agree, cl 1 Ri64 p0.Differ])], 1⟩) (fun v : Bool => weight_Check_k1 p0 v = some r) (fun x1 h => ?_) ?_
 ·
  unfold weight_Check_k1 at h
  refine AW.tn ?_
  refine AW.co h (by kernel_rfl) (fun c2 h => ?_) (fun c2 h => ?_)
  ·
   refine AW.sg tt_ok0 [(2, vi64 40)] [] [] 2 [] (by kernel_rfl) ?_
   refine AW.ret (AW.tr ?_)
   obtain rfl := some_inj h
   exact fn0 (.inr rfl) [] 0 (vi64 40) (by kernel_rfl)
  ·
   refine AW.skip (AW.tn (AW.seq ?_))
   refine AW.sg tt_ok0 [(32, vi64 0), (31, vi64 ((p0.Agree.length : Nat) : Int))] [] [] 5 [] (by kernel_rfl) ?_
   refine AW.block ?_
   refine AW.lpE h (fun v => ⟨[(1, .c (.ptr 0 3 0 0)), (31, vi64 ((p0.Agree.length : Nat) : Int)), (32, vi64 v)], [(0, .box 40 [ci64 p0.Prior, cl 1 Ri64 p0.Agree, cl 1 Ri64 p0.Differ])], 1⟩) (fun t => (.exit 0, ⟨[], [], 0⟩)) (fun t => (.ret, ⟨[(2, vi64 40)], [], 0⟩)) (conv_re [(0, 0)] (by kernel_rfl)) (fun _ => tv) (fun _ => tv) ?_ (fun t h => ?_) (fun t h => ?_)
   ·
    clear h
    intro x4 o h
    unfold weight_Check_l2 at h
    refine AW.sg tt_ok0 [(33, vb (decide (x4 < ((p0.Agree.length : Nat) : Int))))] [] [] 2 [] (by kernel_rfl) ?_
    refine AW.seq ?_
    refine AW.co h (by kernel_rfl) (fun c5 h => ?_) (fun c5 h => ?_)
    ·
     refine AW.skip (AW.tn ?_)
     refine AW.seq (AW.block ?_)
     refine AW.sg tt_ok0 [(3, vi64 x4)] [] [] 4 [] (by kernel_rfl) ?_
     refine AW.seq ?_
     refine AW.join (ι := Bool) (fun v => ⟨[(1, .c (.ptr 0 3 0 0)), (31, vi64 ((p0.Agree.length : Nat) : Int)), (32, vi64 x4), (50, vb v)], [(0, .box 40 [ci64 p0.Prior, cl 1 Ri64 p0.Agree, cl 1 Ri64 p0.Differ])], 1⟩) (fun v : Bool => weight_Check_k3 x4 v = some o) (fun x6 h => ?_) ?_
     ·
      unfold weight_Check_k3 at h
      refine AW.tn ?_
      refine AW.co h (by kernel_rfl) (fun c7 h => ?_) (fun c7 h => ?_)
      ·
       refine AW.sg tt_ok0 [(2, vi64 40)] [] [] 2 [] (by kernel_rfl) ?_
       refine AW.ret (AW.inBlock_ret (AW.tr ?_))
       exact lpo h rfl (conv_re [] (by kernel_rfl))
      ·
       refine AW.skip (AW.inBlock_normal (AW.tn ?_))
       refine AW.rg tt_ok0 [(32, vi64 (i64.wrap (x4 + 1)))] [] [] 3 [] (by kernel_rfl) ?_
       exact lpn h (conv_re [(0, 0)] (by kernel_rfl))
     ·
      obtain ⟨g8, g9, h⟩ := ifd h
      obtain ⟨y10, e11, h⟩ := bnd_some h
      rcases ifs h with ⟨c12, h⟩ | ⟨c12, h⟩
      ·
       refine AW.rg tt_ok0 [(50, vb true)] [] [] 19 [hn, hn, hn, hq g8 g9, hn, hk (weight_fits_con (p0.Agree.getD x4.toNat 0) y10 e11), ht c12] (by kernel_rfl) ?_
       exact jl true h (conv_re [(0, 0)] (by kernel_rfl))
      ·
       obtain ⟨g13, h⟩ := ifc h
       obtain ⟨y14, e15, h⟩ := bnd_some h
       refine AW.rg tt_ok0 [(50, vb (!y14))] [] [] 18 [hn, hn, hn, hq g8 g9, hn, hk (weight_fits_con (p0.Agree.getD x4.toNat 0) y10 e11), hf c12, hn, hn, hn, hn, hq g8 g13, hn, hk (weight_fits_con (p0.Differ.getD x4.toNat 0) y14 e15)] (by kernel_rfl) ?_
       exact jl (!y14) h (conv_re [(0, 0)] (by kernel_rfl))
    ·
     refine AW.exit (AW.thenQ_exit ?_)
     exact lpo h rfl (conv_re [] (by kernel_rfl))
   ·
    replace h : weight_Check_a4 = some r := h
    unfold weight_Check_a4 at h
    show (_ : Exit → St → Prop) (.exit 0) _
    refine AW.inBlock_hit (AW.tn ?_)
    refine AW.sg tt_ok0 [(2, vi64 0)] [] [] 1 [] (by kernel_rfl) ?_
    refine AW.ret ?_
    obtain rfl := some_inj h
    exact fn0 (.inr rfl) [] 0 (vi64 0) (by kernel_rfl)
   ·
    replace h : weight_Check_a5 = some r := h
    unfold weight_Check_a5 at h
    show (_ : Exit → St → Prop) (.ret) _
    refine AW.inBlock_ret (AW.tr ?_)
    obtain rfl := some_inj h
    exact fn0 (.inr rfl) [] 0 (vi64 40) (by kernel_rfl)
 ·
  rcases ifs h with ⟨c17, h⟩ | ⟨c17, h⟩
  ·
   refine AW.rg tt_ok0 [(28, vb true)] [] [] 27 [hn, hn, hn, ht c17] (by kernel_rfl) ?_
   exact jl true h (conv_re [(0, 0)] (by kernel_rfl))
  ·
   rcases ifs h with ⟨c18, h⟩ | ⟨c18, h⟩
   ·
    refine AW.rg tt_ok0 [(28, vb true)] [] [] 27 [hn, hn, hn, hf c17, hn, hn, hn, hn, ht c18] (by kernel_rfl) ?_
    exact jl true h (conv_re [(0, 0)] (by kernel_rfl))
   ·
    rcases ifs h with ⟨c19, h⟩ | ⟨c19, h⟩
    ·
     refine AW.rg tt_ok0 [(28, vb true)] [] [] 27 [hn, hn, hn, hf c17, hn, hn, hn, hn, hf c18, hn, hn, hn, hn, hn, hn, hn, hn, ht c19] (by kernel_rfl) ?_
     exact jl true h (conv_re [(0, 0)] (by kernel_rfl))
    ·
     obtain ⟨y20, e21, h⟩ := bnd_some h
     refine AW.rg tt_ok0 [(28, vb (!y20))] [] [] 26 [hn, hn, hn, hf c17, hn, hn, hn, hn, hf c18, hn, hn, hn, hn, hn, hn, hn, hn, hf c19, hn, hn, hn, hn, hk (weight_fits_con p0.Prior y20 e21)] (by kernel_rfl) ?_
     exact jl (!y20) h (conv_re [(0, 0)] (by kernel_rfl))
/-! recordlink/recordlinkplay.Range -/
noncomputable def rl_play_Range (p0 : S_recordlinkmake_Deck) (p1 : Int) (p2 : Int) : Option (Int × S_recordlinkmake_Deck) := bind2 (rl_make_Deck_Next p0 (i64.wrap ((i64.wrap (p2 - p1)) + 1))) fun y1 y2 => (some (i64.wrap (p1 + y1), y2))
set_option maxRecDepth 100000 in
theorem rl_play_Range_con (p0 : S_recordlinkmake_Deck) (p1 : Int) (p2 : Int) (r : Int × S_recordlinkmake_Deck) (h : rl_play_Range p0 p1 p2 = some r) : Con Try.prog 37 [.c (.ptr 0 3 0 0), vi64 p1, vi64 p2] [(0, .box 60 [cl 1 Ri64 p0.list, ci64 p0.at_, cu64 p0.state])] (vi64 r.1) [(0, .box 60 [cl 1 Ri64 r.2.list, ci64 r.2.at_, cu64 r.2.state])] := by
 refine con_of tt_ok0 1 Try.func37 (by kernel_rfl) rfl (by kernel_rfl) (fun base X _ => AW.post ?_)
 unfold rl_play_Range at h
 refine AW.sg tt_ok0 [] [] [] 2 [] (by kernel_rfl) ?_
 obtain ⟨y1, y2, e3, h⟩ := bind2_some h
 refine AW.sg tt_ok0 [(6, vi64 (i64.wrap (p1 + y1)))] [0] [(0, .box 60 [cl 1 Ri64 y2.list, ci64 y2.at_, cu64 y2.state])] 10 [hn, hn, hn, hn, hn, hn, hl [0] [] 0 (rl_make_Deck_Next_con p0 (i64.wrap ((i64.wrap (p2 - p1)) + 1)) (y1, y2) e3)] (by kernel_rfl) ?_
 refine AW.ret ?_
 obtain rfl := some_inj h
 exact fn0 (.inr rfl) [(0, 0)] 1 (vi64 (i64.wrap (p1 + y1))) (by kernel_rfl)
/-! recordlink/recordlinkplay.Weights -/
noncomputable def rl_play_Weights_l1 (p1 : Int) (x10 : Int) (x11 : List Int) (x12 : Int) (x13 : Int) (x14 : List Int) (x15 : List Int) : Option ((Int × (List Int) × Int × Int × (List Int) × (List Int)) ⊕ ((List Int) × Int × Int × (List Int) × (List Int))) := if (decide (x10 < p1)) = true then (bind2 (rl_play_Range (⟨x11, x12, x13⟩ : S_recordlinkmake_Deck) (-3) 60) fun y22 y23 => (if x14.length + ([y22] : List Int).length ≤ 1099511627776 then (bind2 (rl_play_Range y23 (-60) 3) fun y26 y27 => (if x15.length + ([y26] : List Int).length ≤ 1099511627776 then (some (.inl (i64.wrap (x10 + 1), y27.list, y27.at_, y27.state, (x14 ++ ([y22] : List Int)), (x15 ++ ([y26] : List Int))))) else none)) else none)) else (some (.inr (x11, x12, x13, x14, x15)))
noncomputable def rl_play_Weights (p0 : S_recordlinkmake_Deck) (p1 : Int) : Option (S_api_Weights × S_recordlinkmake_Deck) := bind2 (rl_play_Range p0 (-40) 10) fun y1 y2 => (bind5 (loop (fun v : Int × (List Int) × Int × Int × (List Int) × (List Int) => rl_play_Weights_l1 p1 v.1 v.2.1 v.2.2.1 v.2.2.2.1 v.2.2.2.2.1 v.2.2.2.2.2) (0, y2.list, y2.at_, y2.state, ([] : List Int), ([] : List Int))) fun x30 x31 x32 x33 x34 => (some ((⟨y1, x33, x34⟩ : S_api_Weights), (⟨x30, x31, x32⟩ : S_recordlinkmake_Deck))))
set_option maxRecDepth 100000 in
theorem rl_play_Weights_con (p0 : S_recordlinkmake_Deck) (p1 : Int) (r : S_api_Weights × S_recordlinkmake_Deck) (h : rl_play_Weights p0 p1 = some r) : Con Try.prog 17 [.c (.ptr 0 3 0 0), vi64 p1] [(0, .box 60 [cl 1 Ri64 p0.list, ci64 p0.at_, cu64 p0.state])] (.agg [ci64 r.1.Prior, .ref 1 1 0 r.1.Agree.length, .ref 2 1 0 r.1.Differ.length]) [(0, .box 60 [cl 1 Ri64 r.2.list, ci64 r.2.at_, cu64 r.2.state]), (1, .row 3 false 1 r.1.Agree.length (Ri64 r.1.Agree)), (2, .row 3 false 1 r.1.Differ.length (Ri64 r.1.Differ))] := by
 refine con_of tt_ok0 1 Try.func17 (by kernel_rfl) rfl (by kernel_rfl) (fun base X _ => AW.post ?_)
 unfold rl_play_Weights at h
 refine AW.sg tt_ok0 [(4, .c (.ptr 1 3 0 0))] [1] [(1, .box 40 [ci64 0, .t (.v (.slice none 0 0)), .t (.v (.slice none 0 0))])] 2 [] (by kernel_rfl) ?_
 obtain ⟨y1, y2, e3, h⟩ := bind2_some h
 refine AW.sg tt_ok0 [(5, .c (.ptr 4 3 0 0))] [0, 4] [(4, .box 40 [ci64 y1, .t (.v (.slice none 0 0)), .t (.v (.slice none 0 0))]), (0, .box 60 [cl 1 Ri64 y2.list, ci64 y2.at_, cu64 y2.state])] 6 [hn, hl [0] [] 0 (rl_play_Range_con p0 (-40) 10 (y1, y2) e3)] (by kernel_rfl) ?_
 refine AW.seq ?_
 refine AW.sg tt_ok0 [(6, vi64 0)] [] [] 7 [] (by kernel_rfl) ?_
 refine AW.block ?_
 obtain ⟨x30, x31, x32, x33, x34, l35, h⟩ := bind5_some h
 refine AW.lp l35 (fun v => ⟨[(0, .c (.ptr 0 3 0 0)), (1, vi64 p1), (4, .c (.ptr 1 3 0 0)), (5, .c (.ptr 2 3 0 0)), (6, vi64 v.1)], [(0, .box 60 [cl 1 Ri64 v.2.1, ci64 v.2.2.1, cu64 v.2.2.2.1]), (1, .box 40 [ci64 0, .t (.v (.slice none 0 0)), .t (.v (.slice none 0 0))]), (2, .box 40 [ci64 y1, .ref 3 1 0 v.2.2.2.2.1.length, .ref 4 1 0 v.2.2.2.2.2.length]), (3, .row 3 false 1 v.2.2.2.2.1.length (Ri64 v.2.2.2.2.1)), (4, .row 3 false 1 v.2.2.2.2.2.length (Ri64 v.2.2.2.2.2))], 5⟩) (fun t : (List Int) × Int × Int × (List Int) × (List Int) => (.exit 0, ⟨[(4, .c (.ptr 1 3 0 0)), (5, .c (.ptr 2 3 0 0))], [(0, .box 60 [cl 1 Ri64 t.1, ci64 t.2.1, cu64 t.2.2.1]), (1, .box 40 [ci64 0, .t (.v (.slice none 0 0)), .t (.v (.slice none 0 0))]), (2, .box 40 [ci64 y1, .ref 3 1 0 t.2.2.2.1.length, .ref 4 1 0 t.2.2.2.2.length]), (3, .row 3 false 1 t.2.2.2.1.length (Ri64 t.2.2.2.1)), (4, .row 3 false 1 t.2.2.2.2.length (Ri64 t.2.2.2.2))], 5⟩)) (Conv.trans (conv_adoptB (id := 4) (ty0 := 40) (cs := [ci64 y1, .t (.v (.slice none 0 0)), .t (.v (.slice none 0 0))]) 1 (ty := 3) (sz := 1) (n := ([] : List Int).length) (f := Ri64 ([] : List Int)) (by kernel_rfl) (by kernel_rfl) rfl) (Conv.trans (conv_adoptB (id := 4) (ty0 := 40) (cs := [ci64 y1, .ref 7 1 0 (([] : List Int).length), .t (.v (.slice none 0 0))]) 2 (ty := 3) (sz := 1) (n := ([] : List Int).length) (f := Ri64 ([] : List Int)) (by kernel_rfl) (by kernel_rfl) rfl) (conv_re [(0, 0), (1, 1), (2, 4), (3, 7), (4, 8)] (by kernel_rfl)))) (fun _ => tv) ?_ ?_
 ·
  clear l35 h
  intro v o h
  obtain ⟨x10, x11, x12, x13, x14, x15⟩ := v
  replace h : rl_play_Weights_l1 p1 x10 x11 x12 x13 x14 x15 = some o := h
  unfold rl_play_Weights_l1 at h
  refine AW.seq ?_
  refine AW.sg tt_ok0 [(12, vb (decide (x10 < p1)))] [] [] 8 [] (by kernel_rfl) ?_
  refine AW.co h (by kernel_rfl) (fun c21 h => ?_) (fun c21 h => ?_)
  ·
   refine AW.skip (AW.tn ?_)
   refine AW.seq (AW.block ?_)
   obtain ⟨y22, y23, e24, h⟩ := bind2_some h
   obtain ⟨g25, h⟩ := ifc h
   obtain ⟨y26, y27, e28, h⟩ := bind2_some h
   obtain ⟨g29, h⟩ := ifc h
   refine AW.rd tt_ok0 mo0 [[], [], [], [0], [11], [12, 3], [], [], [], [0], [16], [17, 4], [], [2], [], [2]] [] [(2, .box 40 [ci64 y1, .ref 12 1 0 ((x14 ++ ([y22] : List Int)).length), .ref 17 1 0 ((x15 ++ ([y26] : List Int)).length)]), (17, .row 3 false 1 (x15 ++ ([y26] : List Int)).length (Ri64 (x15 ++ ([y26] : List Int)))), (0, .box 60 [cl 1 Ri64 y27.list, ci64 y27.at_, cu64 y27.state]), (12, .row 3 false 1 (x14 ++ ([y22] : List Int)).length (Ri64 (x14 ++ ([y22] : List Int))))] 22 [hn, hn, hn, hl [0] [] 0 (rl_play_Range_con (⟨x11, x12, x13⟩ : S_recordlinkmake_Deck) (-3) 60 (y22, y23) e24), hlit 0 Ei64 1 (fun _ => rfl) ([y22] : List Int), happ 0 Ei64 1 8 x14 ([y22] : List Int) g25 (by decide), hn, hn, hn, hl [0] [] 0 (rl_play_Range_con y23 (-60) 3 (y26, y27) e28), hlit 0 Ei64 1 (fun _ => rfl) ([y26] : List Int), happ 0 Ei64 1 8 x15 ([y26] : List Int) g29 (by decide)] (by kernel_rfl) ?_
   refine AW.inBlock_normal (AW.tn ?_)
   refine AW.rg tt_ok0 [(6, vi64 (i64.wrap (x10 + 1)))] [] [] 25 [] (by kernel_rfl) ?_
   exact lpn h (conv_re [(0, 0), (1, 1), (2, 2), (3, 12), (4, 17)] (by kernel_rfl))
  ·
   refine AW.exit (AW.thenQ_exit ?_)
   exact lpo h rfl (conv_re [(0, 0), (1, 1), (2, 2), (3, 3), (4, 4)] (by kernel_rfl))
 ·
  show (_ : Exit → St → Prop) (.exit 0) _
  refine AW.inBlock_hit (AW.tn ?_)
  refine AW.sg tt_ok0 [] [1] [(1, .box 40 [ci64 y1, .ref 3 1 0 x33.length, .ref 4 1 0 x34.length])] 7 [] (by kernel_rfl) ?_
  refine AW.ret ?_
  obtain rfl := some_inj h
  exact fn0 (.inr rfl) [(0, 0), (1, 3), (2, 4)] 3 (.agg [ci64 y1, .ref 3 1 0 x33.length, .ref 4 1 0 x34.length]) (by kernel_rfl)
/-! recordlink/weight.counts -/
noncomputable def weight_counts (p0 : S_api_Weights) (p1 : Int) : Option (List Int) := if 0 ≤ p1 then (if p1 < ((p0.Differ.length : Nat) : Int) then (if p1 < ((p0.Agree.length : Nat) : Int) then (some ([0, (p0.Differ.getD p1.toNat 0), (p0.Agree.getD p1.toNat 0)] : List Int)) else none) else none) else none
set_option maxRecDepth 100000 in
theorem weight_counts_con (p0 : S_api_Weights) (p1 : Int) (r : List Int) (h : weight_counts p0 p1 = some r) : Con Try.prog 38 [.agg [ci64 p0.Prior, cl 1 Ri64 p0.Agree, cl 1 Ri64 p0.Differ], vi64 p1] [] (.agg [ci64 (r.getD 0 0), ci64 (r.getD 1 0), ci64 (r.getD 2 0)]) [] := by
 refine con_of tt_ok0 0 Try.func38 (by kernel_rfl) rfl (by kernel_rfl) (fun base X _ => AW.post ?_)
 unfold weight_counts at h
 refine AW.sg tt_ok0 [(4, .c (.ptr 1 1 0 0)), (2, .c (.ptr 0 3 0 0))] [0, 1] [(1, .row 65 false 1 3 (Ri64 ([0, 0, 0] : List Int))), (0, .box 40 [ci64 p0.Prior, cl 1 Ri64 p0.Agree, cl 1 Ri64 p0.Differ])] 2 [hn, hr 3 (Ri64 ([0, 0, 0] : List Int)) (p := 3 = 3 ∧ ∀ i, i < 3 → ∀ j, j < 1 → TLe (rowOf [.v (.int .i64 0), .v (.int .i64 0), .v (.int .i64 0)] 1 i j) (Ri64 ([0, 0, 0] : List Int) i j)) (⟨rfl, fun i hi j hj => match i, hi, j, hj with | 0, _, 0, _ => TLe.refl _ | 1, _, 0, _ => TLe.refl _ | 2, _, 0, _ => TLe.refl _ | _ + 3, h, _, _ => absurd h (by omega) | _, _, _ + 1, h => absurd h (by omega)⟩)] (by kernel_rfl) ?_
 obtain ⟨g1, g2, h⟩ := ifd h
 obtain ⟨g3, h⟩ := ifc h
 refine AW.sd tt_ok0 mo0 [[], [], [], [], [], [], [], [], [], [], [], [1]] [] [(1, .row 65 false 1 3 (Ri64 ([0, (p0.Differ.getD p1.toNat 0), (p0.Agree.getD p1.toNat 0)] : List Int)))] 14 [hn, hn, hn, hq g1 g2, hn, hn, hn, hn, hq g1 g3, hn, hn, hr 3 (Ri64 ([0, (p0.Differ.getD p1.toNat 0), (p0.Agree.getD p1.toNat 0)] : List Int)) (p := 3 = 3 ∧ ∀ i, i < 3 → ∀ j, j < 1 → TLe (rowOf [.v (.int .i64 0), .v (.int .i64 (p0.Differ.getD p1.toNat 0)), .v (.int .i64 (p0.Agree.getD p1.toNat 0))] 1 i j) (Ri64 ([0, (p0.Differ.getD p1.toNat 0), (p0.Agree.getD p1.toNat 0)] : List Int) i j)) (⟨rfl, fun i hi j hj => match i, hi, j, hj with | 0, _, 0, _ => TLe.refl _ | 1, _, 0, _ => TLe.refl _ | 2, _, 0, _ => TLe.refl _ | _ + 3, h, _, _ => absurd h (by omega) | _, _, _ + 1, h => absurd h (by omega)⟩)] (by kernel_rfl) ?_
 refine AW.ret ?_
 obtain rfl := some_inj h
 exact ⟨_, Conv.refl _ _, .inr rfl, OutOk.mk [] 0 (out0 := .agg [ci64 (([0, (p0.Differ.getD p1.toNat 0), (p0.Agree.getD p1.toNat 0)] : List Int).getD 0 0), ci64 (([0, (p0.Differ.getD p1.toNat 0), (p0.Agree.getD p1.toNat 0)] : List Int).getD 1 0), ci64 (([0, (p0.Differ.getD p1.toNat 0), (p0.Agree.getD p1.toNat 0)] : List Int).getD 2 0)]) (ps := [0 + 2 < 3]) (by kernel_rfl) ⟨(by decide), tv⟩ (by kernel_rfl) (by kernel_rfl)⟩
/-! recordlink/weight.Bounds -/
noncomputable def weight_Bounds_l1 (p0 : S_api_Weights) (x7 : Int) (x8 : Int) (x9 : Int) : Option ((Int × Int × Int) ⊕ (Int × Int)) := if (decide (x9 < ((p0.Agree.length : Nat) : Int))) = true then ((weight_counts p0 x9).bind fun y13 => ((some (i64.wrap (x7 + (if (y13.getD 2 0) < (if (y13.getD 1 0) < (y13.getD 0 0) then (y13.getD 1 0) else (y13.getD 0 0)) then (y13.getD 2 0) else (if (y13.getD 1 0) < (y13.getD 0 0) then (y13.getD 1 0) else (y13.getD 0 0)))))).bind fun z15 => ((some (i64.wrap (x8 + (if (y13.getD 2 0) > (if (y13.getD 1 0) > (y13.getD 0 0) then (y13.getD 1 0) else (y13.getD 0 0)) then (y13.getD 2 0) else (if (y13.getD 1 0) > (y13.getD 0 0) then (y13.getD 1 0) else (y13.getD 0 0)))))).bind fun z17 => (some (.inl (z15, z17, i64.wrap (x9 + 1))))))) else (some (.inr (x7, x8)))
noncomputable def weight_Bounds (p0 : S_api_Weights) : Option (Int × Int × Int) := (weight_Check p0).bind fun y1 => (if (y1 != 0) = true then (some (0, 0, y1)) else (bind2 (loop (fun v : Int × Int × Int => weight_Bounds_l1 p0 v.1 v.2.1 v.2.2) (p0.Prior, p0.Prior, 0)) fun x19 x20 => (some (x19, x20, 0))))
set_option maxRecDepth 100000 in
theorem weight_Bounds_con (p0 : S_api_Weights) (r : Int × Int × Int) (h : weight_Bounds p0 = some r) : Con Try.prog 18 [.agg [ci64 p0.Prior, cl 1 Ri64 p0.Agree, cl 1 Ri64 p0.Differ]] [] (.tup [vi64 r.1, vi64 r.2.1, vi64 r.2.2]) [] := by
 refine con_of tt_ok0 0 Try.func18 (by kernel_rfl) rfl (by kernel_rfl) (fun base X _ => AW.post ?_)
 unfold weight_Bounds at h
 refine AW.sg tt_ok0 [(1, .c (.ptr 0 3 0 0))] [0] [(0, .box 40 [ci64 p0.Prior, cl 1 Ri64 p0.Agree, cl 1 Ri64 p0.Differ])] 4 [] (by kernel_rfl) ?_
 refine AW.seq ?_
 obtain ⟨y1, e2, h⟩ := bnd_some h
 refine AW.sg tt_ok0 [(5, vi64 y1)] [] [] 6 [hn, hk (weight_Check_con p0 y1 e2)] (by kernel_rfl) ?_
 refine AW.sg tt_ok0 [(13, vb (y1 != 0))] [] [] 8 [] (by kernel_rfl) ?_
 refine AW.co h (by kernel_rfl) (fun c3 h => ?_) (fun c3 h => ?_)
 ·
  refine AW.sg tt_ok0 [(4, vi64 y1), (3, vi64 0), (2, vi64 0)] [] [] 12 [] (by kernel_rfl) ?_
  refine AW.ret (AW.tr ?_)
  obtain rfl := some_inj h
  exact fn0 (.inr rfl) [] 0 (.tup [vi64 0, vi64 0, vi64 y1]) (by kernel_rfl)
 ·
  refine AW.skip (AW.tn ?_)
  refine AW.sd tt_ok0 mo0 [] [(7, vi64 p0.Prior), (6, vi64 p0.Prior)] [] 14 [] (by kernel_rfl) ?_
  refine AW.seq ?_
  refine AW.sg tt_ok0 [(22, vi64 0), (21, vi64 ((p0.Agree.length : Nat) : Int))] [] [] 18 [] (by kernel_rfl) ?_
  refine AW.block ?_
  obtain ⟨x19, x20, l21, h⟩ := bind2_some h
  refine AW.lp l21 (fun v => ⟨[(1, .c (.ptr 0 3 0 0)), (6, vi64 v.1), (7, vi64 v.2.1), (21, vi64 ((p0.Agree.length : Nat) : Int)), (22, vi64 v.2.2)], [(0, .box 40 [ci64 p0.Prior, cl 1 Ri64 p0.Agree, cl 1 Ri64 p0.Differ])], 1⟩) (fun t : Int × Int => (.exit 0, ⟨[(6, vi64 t.1), (7, vi64 t.2)], [], 0⟩)) (conv_re [(0, 0)] (by kernel_rfl)) (fun _ => tv) ?_ ?_
  ·
   clear l21 h
   intro v o h
   obtain ⟨x7, x8, x9⟩ := v
   replace h : weight_Bounds_l1 p0 x7 x8 x9 = some o := h
   unfold weight_Bounds_l1 at h
   refine AW.sg tt_ok0 [(23, vb (decide (x9 < ((p0.Agree.length : Nat) : Int))))] [] [] 2 [] (by kernel_rfl) ?_
   refine AW.seq ?_
   refine AW.co h (by kernel_rfl) (fun c12 h => ?_) (fun c12 h => ?_)
   ·
    refine AW.skip (AW.tn ?_)
    refine AW.seq (AW.block ?_)
    refine AW.sg tt_ok0 [(8, vi64 x9)] [] [] 4 [] (by kernel_rfl) ?_
    obtain ⟨y13, e14, h⟩ := bnd_some h
    refine AW.sg tt_ok0 [(9, .c (.ptr 6 1 0 0))] [6] [(6, .row 65 false 1 3 (Ri64 y13))] 8 [hn, hn, hk (weight_counts_con p0 x9 y13 e14), hr 3 (Ri64 ([0, 0, 0] : List Int)) (p := 3 = 3 ∧ ∀ i, i < 3 → ∀ j, j < 1 → TLe (rowOf [.v (.int .i64 0), .v (.int .i64 0), .v (.int .i64 0)] 1 i j) (Ri64 ([0, 0, 0] : List Int) i j)) (⟨rfl, fun i hi j hj => match i, hi, j, hj with | 0, _, 0, _ => TLe.refl _ | 1, _, 0, _ => TLe.refl _ | 2, _, 0, _ => TLe.refl _ | _ + 3, h, _, _ => absurd h (by omega) | _, _, _ + 1, h => absurd h (by omega)⟩), hr 3 (Ri64 y13) (p := 3 = 3 ∧ ∀ i, i < 3 → ∀ j, j < 1 → TLe (rowOf [.v (.int .i64 (y13.getD 0 0)), .v (.int .i64 (y13.getD 1 0)), .v (.int .i64 (y13.getD 2 0))] 1 i j) (Ri64 y13 i j)) (⟨rfl, fun i hi j hj => match i, hi, j, hj with | 0, _, 0, _ => TLe.refl _ | 1, _, 0, _ => TLe.refl _ | 2, _, 0, _ => TLe.refl _ | _ + 3, h, _, _ => absurd h (by omega) | _, _, _ + 1, h => absurd h (by omega)⟩)] (by kernel_rfl) ?_
    obtain ⟨z15, n16, h⟩ := bnd_some h
    replace n16 := some_inj n16
    refine AW.sg tt_ok0 [(6, vi64 z15)] [] [] 18 [hn, ho (p := (0 ≤ (0 : Int)) ∧ ((0 : Int) < ((3 : Nat) : Int))) (⟨(by decide), (by decide)⟩), ho (p := 0 < 3) (by decide), ho (p := (0 ≤ (1 : Int)) ∧ ((1 : Int) < ((3 : Nat) : Int))) (⟨(by decide), (by decide)⟩), ho (p := 1 < 3) (by decide), ho (p := (0 ≤ (2 : Int)) ∧ ((2 : Int) < ((3 : Nat) : Int))) (⟨(by decide), (by decide)⟩), ho (p := 2 < 3) (by decide)] (by subst n16; kernel_rfl) ?_
    obtain ⟨z17, n18, h⟩ := bnd_some h
    replace n18 := some_inj n18
    refine AW.rg tt_ok0 [(7, vi64 z17)] [] [] 28 [hn, ho (p := (0 ≤ (0 : Int)) ∧ ((0 : Int) < ((3 : Nat) : Int))) (⟨(by decide), (by decide)⟩), ho (p := 0 < 3) (by decide), ho (p := (0 ≤ (1 : Int)) ∧ ((1 : Int) < ((3 : Nat) : Int))) (⟨(by decide), (by decide)⟩), ho (p := 1 < 3) (by decide), ho (p := (0 ≤ (2 : Int)) ∧ ((2 : Int) < ((3 : Nat) : Int))) (⟨(by decide), (by decide)⟩), ho (p := 2 < 3) (by decide)] (by subst n18; kernel_rfl) ?_
    refine AW.inBlock_normal (AW.tn ?_)
    refine AW.rg tt_ok0 [(22, vi64 (i64.wrap (x9 + 1)))] [] [] 30 [] (by kernel_rfl) ?_
    exact lpn h (conv_re [(0, 0)] (by kernel_rfl))
   ·
    refine AW.exit (AW.thenQ_exit ?_)
    exact lpo h rfl (conv_re [] (by kernel_rfl))
  ·
   show (_ : Exit → St → Prop) (.exit 0) _
   refine AW.inBlock_hit (AW.tn ?_)
   refine AW.sg tt_ok0 [(4, vi64 0), (3, vi64 x20), (2, vi64 x19)] [] [] 5 [] (by kernel_rfl) ?_
   refine AW.ret ?_
   obtain rfl := some_inj h
   exact fn0 (.inr rfl) [] 0 (.tup [vi64 x19, vi64 x20, vi64 0]) (by kernel_rfl)
/-! recordlink/similarity.fields -/
noncomputable def similarity_fields_k1 (x1 : Bool) : Option Bool := some x1
noncomputable def similarity_fields (p0 : Int) : Option Bool := if (decide (p0 ≥ 1)) = true then (similarity_fields_k1 (decide (p0 ≤ 5))) else (similarity_fields_k1 false)
set_option maxRecDepth 100000 in
theorem similarity_fields_con (p0 : Int) (r : Bool) (h : similarity_fields p0 = some r) : Con Try.prog 73 [vi64 p0] [] (vb r) [] := by
 refine con_of tt_ok0 0 Try.func73 (by kernel_rfl) rfl (by kernel_rfl) (fun base X _ => AW.post ?_)
 unfold similarity_fields at h
 refine AW.sg tt_ok0 [] [] [] 1 [] (by kernel_rfl) ?_
 refine AW.seq ?_
 refine AW.join (ι := Bool) (fun v => ⟨[(2, vb v)], [], 0⟩) (fun v : Bool => similarity_fields_k1 v = some r) (fun x1 h => ?_) ?_
 ·
  unfold similarity_fields_k1 at h
  refine AW.tn (AW.ret ?_)
  obtain rfl := some_inj h
  exact fn0 (.inr rfl) [] 0 (vb x1) (by kernel_rfl)
 ·
  rcases ifs h with ⟨c2, h⟩ | ⟨c2, h⟩
  ·
   refine AW.rg tt_ok0 [(2, vb (decide (p0 ≤ 5)))] [] [] 8 [hn, ht c2] (by kernel_rfl) ?_
   exact jl (decide (p0 ≤ 5)) h (conv_re [] (by kernel_rfl))
  ·
   refine AW.rg tt_ok0 [(2, vb false)] [] [] 8 [hn, hf c2] (by kernel_rfl) ?_
   exact jl false h (conv_re [] (by kernel_rfl))
/-! recordlink/similarity.powers -/
noncomputable def similarity_powers : Option (List Int) := some ([1, 3, 9, 27, 81, 243] : List Int)
set_option maxRecDepth 100000 in
theorem similarity_powers_con (r : List Int) (h : similarity_powers = some r) : Con Try.prog 74 [] [] (.agg [ci64 (r.getD 0 0), ci64 (r.getD 1 0), ci64 (r.getD 2 0), ci64 (r.getD 3 0), ci64 (r.getD 4 0), ci64 (r.getD 5 0)]) [] := by
 refine con_of tt_ok0 0 Try.func74 (by kernel_rfl) rfl (by kernel_rfl) (fun base X _ => AW.post ?_)
 unfold similarity_powers at h
 refine AW.sg tt_ok0 [(0, .c (.ptr 0 1 0 0))] [0] [(0, .row 91 false 1 6 (Ri64 ([0, 0, 0, 0, 0, 0] : List Int)))] 1 [hr 6 (Ri64 ([0, 0, 0, 0, 0, 0] : List Int)) (p := 6 = 6 ∧ ∀ i, i < 6 → ∀ j, j < 1 → TLe (rowOf [.v (.int .i64 0), .v (.int .i64 0), .v (.int .i64 0), .v (.int .i64 0), .v (.int .i64 0), .v (.int .i64 0)] 1 i j) (Ri64 ([0, 0, 0, 0, 0, 0] : List Int) i j)) (⟨rfl, fun i hi j hj => match i, hi, j, hj with | 0, _, 0, _ => TLe.refl _ | 1, _, 0, _ => TLe.refl _ | 2, _, 0, _ => TLe.refl _ | 3, _, 0, _ => TLe.refl _ | 4, _, 0, _ => TLe.refl _ | 5, _, 0, _ => TLe.refl _ | _ + 6, h, _, _ => absurd h (by omega) | _, _, _ + 1, h => absurd h (by omega)⟩)] (by kernel_rfl) ?_
 refine AW.sg tt_ok0 [] [0] [(0, .row 91 false 1 6 (Ri64 ([1, 3, 9, 27, 81, 243] : List Int)))] 3 [hn, hr 6 (Ri64 ([1, 3, 9, 27, 81, 243] : List Int)) (p := 6 = 6 ∧ ∀ i, i < 6 → ∀ j, j < 1 → TLe (rowOf [.v (.int .i64 1), .v (.int .i64 3), .v (.int .i64 9), .v (.int .i64 27), .v (.int .i64 81), .v (.int .i64 243)] 1 i j) (Ri64 ([1, 3, 9, 27, 81, 243] : List Int) i j)) (⟨rfl, fun i hi j hj => match i, hi, j, hj with | 0, _, 0, _ => TLe.refl _ | 1, _, 0, _ => TLe.refl _ | 2, _, 0, _ => TLe.refl _ | 3, _, 0, _ => TLe.refl _ | 4, _, 0, _ => TLe.refl _ | 5, _, 0, _ => TLe.refl _ | _ + 6, h, _, _ => absurd h (by omega) | _, _, _ + 1, h => absurd h (by omega)⟩)] (by kernel_rfl) ?_
 refine AW.ret ?_
 obtain rfl := some_inj h
 exact ⟨_, Conv.refl _ _, .inr rfl, OutOk.mk [] 0 (out0 := .agg [ci64 (([1, 3, 9, 27, 81, 243] : List Int).getD 0 0), ci64 (([1, 3, 9, 27, 81, 243] : List Int).getD 1 0), ci64 (([1, 3, 9, 27, 81, 243] : List Int).getD 2 0), ci64 (([1, 3, 9, 27, 81, 243] : List Int).getD 3 0), ci64 (([1, 3, 9, 27, 81, 243] : List Int).getD 4 0), ci64 (([1, 3, 9, 27, 81, 243] : List Int).getD 5 0)]) (ps := [0 + 5 < 6]) (by kernel_rfl) ⟨(by decide), tv⟩ (by kernel_rfl) (by kernel_rfl)⟩
/-! recordlink/similarity.Digits -/
noncomputable def similarity_Digits_l2 (p0 : Int) (p1 : Int) (x8 : List Int) (x9 : Int) : Option (((List Int) × Int) ⊕ (List Int)) := if (decide (x9 < p1)) = true then ((similarity_powers).bind fun y12 => (if 0 ≤ x9 then (if x9 < ((6 : Nat) : Int) then (if (y12.getD x9.toNat 0) ≠ 0 then (if x8.length + ([((i64.wrap (p0.tdiv (y12.getD x9.toNat 0))).tmod 3)] : List Int).length ≤ 1099511627776 then (some (.inl ((x8 ++ ([((i64.wrap (p0.tdiv (y12.getD x9.toNat 0))).tmod 3)] : List Int)), i64.wrap (x9 + 1)))) else none) else none) else none) else none)) else (some (.inr x8))
noncomputable def similarity_Digits_k1 (p0 : Int) (p1 : Int) (x4 : Bool) : Option ((List Int) × Int) := if x4 = true then (some (([] : List Int), 2)) else ((loop (fun v : (List Int) × Int => similarity_Digits_l2 p0 p1 v.1 v.2) (([] : List Int), 0)).bind fun x18 => (some (x18, 0)))
noncomputable def similarity_Digits (p0 : Int) (p1 : Int) : Option ((List Int) × Int) := (similarity_fields p1).bind fun y1 => (if (!y1) = true then (some (([] : List Int), 8)) else (if (decide (p0 < 0)) = true then (similarity_Digits_k1 p0 p1 true) else ((similarity_powers).bind fun y21 => (if 0 ≤ p1 then (if p1 < ((6 : Nat) : Int) then (similarity_Digits_k1 p0 p1 (decide (p0 ≥ (y21.getD p1.toNat 0)))) else none) else none))))
set_option maxRecDepth 100000 in
theorem similarity_Digits_con (p0 : Int) (p1 : Int) (r : (List Int) × Int) (h : similarity_Digits p0 p1 = some r) : Con Try.prog 58 [vi64 p0, vi64 p1] [] (.tup [.c (.ref 0 1 0 r.1.length), vi64 r.2]) [(0, .row 3 false 1 r.1.length (Ri64 r.1))] := by
 refine con_of tt_ok0 0 Try.func58 (by kernel_rfl) rfl (by kernel_rfl) (fun base X _ => AW.post ?_)
 unfold similarity_Digits at h
 refine AW.sg tt_ok0 [] [] [] 2 [] (by kernel_rfl) ?_
 refine AW.seq ?_
 obtain ⟨y1, e2, h⟩ := bnd_some h
 refine AW.sg tt_ok0 [(10, vb (!y1))] [] [] 4 [hn, hk (similarity_fields_con p1 y1 e2)] (by kernel_rfl) ?_
 refine AW.co h (by kernel_rfl) (fun c3 h => ?_) (fun c3 h => ?_)
 ·
  refine AW.sg tt_ok0 [(5, vi64 8), (4, .c (.t (.v (.slice none 0 0))))] [] [] 6 [] (by kernel_rfl) ?_
  refine AW.ret (AW.tr ?_)
  obtain rfl := some_inj h
  exact fnR (.inr rfl) [(0, 6)] 1 (.tup [.c (.ref 6 1 0 (([] : List Int).length)), vi64 8]) (conv_adopt (t := 4) (ty := 3) (sz := 1) (n := ([] : List Int).length) (f := Ri64 ([] : List Int)) (by kernel_rfl) rfl) (by kernel_rfl)
 ·
  refine AW.skip (AW.tn ?_)
  refine AW.seq (AW.seq ?_)
  refine AW.join (ι := Bool) (fun v => ⟨[(0, vi64 p0), (1, vi64 p1), (19, vb v)], [], 0⟩) (fun v : Bool => similarity_Digits_k1 p0 p1 v = some r) (fun x4 h => ?_) ?_
  ·
   unfold similarity_Digits_k1 at h
   refine AW.tn ?_
   refine AW.co h (by kernel_rfl) (fun c5 h => ?_) (fun c5 h => ?_)
   ·
    refine AW.sg tt_ok0 [(5, vi64 2), (4, .c (.t (.v (.slice none 0 0))))] [] [] 2 [] (by kernel_rfl) ?_
    refine AW.ret (AW.tr ?_)
    obtain rfl := some_inj h
    exact fnR (.inr rfl) [(0, 2)] 1 (.tup [.c (.ref 2 1 0 (([] : List Int).length)), vi64 2]) (conv_adopt (t := 4) (ty := 3) (sz := 1) (n := ([] : List Int).length) (f := Ri64 ([] : List Int)) (by kernel_rfl) rfl) (by kernel_rfl)
   ·
    refine AW.skip (AW.tn ?_)
    refine AW.sg tt_ok0 [(6, .c (.t (.v (.slice none 0 0))))] [] [] 1 [] (by kernel_rfl) ?_
    refine AW.seq ?_
    refine AW.sg tt_ok0 [(21, vi64 0), (20, vi64 p1)] [] [] 3 [] (by kernel_rfl) ?_
    refine AW.block ?_
    obtain ⟨x18, l19, h⟩ := bnd_some h
    refine AW.lp l19 (fun v => ⟨[(0, vi64 p0), (6, .c (.ref 0 1 0 v.1.length)), (20, vi64 p1), (21, vi64 v.2)], [(0, .row 3 false 1 v.1.length (Ri64 v.1))], 1⟩) (fun t : List Int => (.exit 0, ⟨[(6, .c (.ref 0 1 0 t.length))], [(0, .row 3 false 1 t.length (Ri64 t))], 1⟩)) (Conv.trans (conv_adopt (t := 6) (ty := 3) (sz := 1) (n := ([] : List Int).length) (f := Ri64 ([] : List Int)) (by kernel_rfl) rfl) (conv_re [(0, 3)] (by kernel_rfl))) (fun _ => tv) ?_ ?_
    ·
     clear l19 h
     intro v o h
     obtain ⟨x8, x9⟩ := v
     replace h : similarity_Digits_l2 p0 p1 x8 x9 = some o := h
     unfold similarity_Digits_l2 at h
     refine AW.sg tt_ok0 [(22, vb (decide (x9 < p1)))] [] [] 2 [] (by kernel_rfl) ?_
     refine AW.seq ?_
     refine AW.co h (by kernel_rfl) (fun c11 h => ?_) (fun c11 h => ?_)
     ·
      refine AW.skip (AW.tn ?_)
      refine AW.seq (AW.block ?_)
      refine AW.sg tt_ok0 [(7, vi64 x9)] [] [] 4 [] (by kernel_rfl) ?_
      obtain ⟨y12, e13, h⟩ := bnd_some h
      obtain ⟨g14, g15, h⟩ := ifd h
      obtain ⟨g16, g17, h⟩ := ifd h
      refine AW.rg tt_ok0 [(6, .c (.ref 11 1 0 ((x8 ++ ([((i64.wrap (p0.tdiv (y12.getD x9.toNat 0))).tmod 3)] : List Int)).length)))] [0, 10, 11] [(11, .row 3 false 1 (x8 ++ ([((i64.wrap (p0.tdiv (y12.getD x9.toNat 0))).tmod 3)] : List Int)).length (Ri64 (x8 ++ ([((i64.wrap (p0.tdiv (y12.getD x9.toNat 0))).tmod 3)] : List Int))))] 13 [hn, hn, hk (similarity_powers_con y12 e13), hn, hr 6 (Ri64 y12) (p := ((0 ≤ x9) ∧ (x9 < ((6 : Nat) : Int))) ∧ (6 = 6 ∧ ∀ i, i < 6 → ∀ j, j < 1 → rowOf [.v (.int .i64 (y12.getD 0 0)), .v (.int .i64 (y12.getD 1 0)), .v (.int .i64 (y12.getD 2 0)), .v (.int .i64 (y12.getD 3 0)), .v (.int .i64 (y12.getD 4 0)), .v (.int .i64 (y12.getD 5 0))] 1 i j = Ri64 y12 i j)) (⟨⟨g14, g15⟩, ⟨rfl, fun i hi j hj => match i, hi, j, hj with | 0, _, 0, _ => rfl | 1, _, 0, _ => rfl | 2, _, 0, _ => rfl | 3, _, 0, _ => rfl | 4, _, 0, _ => rfl | 5, _, 0, _ => rfl | _ + 6, h, _, _ => absurd h (by omega) | _, _, _ + 1, h => absurd h (by omega)⟩⟩), ho g16, ho (p := (3 : Int) ≠ 0) (by decide), hlit 0 Ei64 1 (fun _ => rfl) ([((i64.wrap (p0.tdiv (y12.getD x9.toNat 0))).tmod 3)] : List Int), happ 0 Ei64 1 8 x8 ([((i64.wrap (p0.tdiv (y12.getD x9.toNat 0))).tmod 3)] : List Int) g17 (by decide)] (by kernel_rfl) ?_
      refine AW.inBlock_normal (AW.tn ?_)
      refine AW.rg tt_ok0 [(21, vi64 (i64.wrap (x9 + 1)))] [] [] 15 [] (by kernel_rfl) ?_
      exact lpn h (conv_re [(0, 11)] (by kernel_rfl))
     ·
      refine AW.exit (AW.thenQ_exit ?_)
      exact lpo h rfl (conv_re [(0, 0)] (by kernel_rfl))
    ·
     show (_ : Exit → St → Prop) (.exit 0) _
     refine AW.inBlock_hit (AW.tn ?_)
     refine AW.sg tt_ok0 [(5, vi64 0), (4, .c (.ref 0 1 0 x18.length))] [] [] 4 [] (by kernel_rfl) ?_
     refine AW.ret ?_
     obtain rfl := some_inj h
     exact fn0 (.inr rfl) [(0, 0)] 1 (.tup [.c (.ref 0 1 0 x18.length), vi64 0]) (by kernel_rfl)
  ·
   rcases ifs h with ⟨c20, h⟩ | ⟨c20, h⟩
   ·
    refine AW.rg tt_ok0 [(19, vb true)] [] [] 13 [hn, ht c20] (by kernel_rfl) ?_
    exact jl true h (conv_re [] (by kernel_rfl))
   ·
    obtain ⟨y21, e22, h⟩ := bnd_some h
    obtain ⟨g23, g24, h⟩ := ifd h
    refine AW.rg tt_ok0 [(19, vb (decide (p0 ≥ (y21.getD p1.toNat 0))))] [] [] 12 [hn, hf c20, hn, hn, hk (similarity_powers_con y21 e22), hn, hr 6 (Ri64 y21) (p := ((0 ≤ p1) ∧ (p1 < ((6 : Nat) : Int))) ∧ (6 = 6 ∧ ∀ i, i < 6 → ∀ j, j < 1 → rowOf [.v (.int .i64 (y21.getD 0 0)), .v (.int .i64 (y21.getD 1 0)), .v (.int .i64 (y21.getD 2 0)), .v (.int .i64 (y21.getD 3 0)), .v (.int .i64 (y21.getD 4 0)), .v (.int .i64 (y21.getD 5 0))] 1 i j = Ri64 y21 i j)) (⟨⟨g23, g24⟩, ⟨rfl, fun i hi j hj => match i, hi, j, hj with | 0, _, 0, _ => rfl | 1, _, 0, _ => rfl | 2, _, 0, _ => rfl | 3, _, 0, _ => rfl | 4, _, 0, _ => rfl | 5, _, 0, _ => rfl | _ + 6, h, _, _ => absurd h (by omega) | _, _, _ + 1, h => absurd h (by omega)⟩⟩)] (by kernel_rfl) ?_
    exact jl (decide (p0 ≥ (y21.getD p1.toNat 0))) h (conv_re [] (by kernel_rfl))
/-! recordlink/weight.Score$1 -/
noncomputable def weight_Score_f1 (p0 : List Int) (p1 : Int) : Option Int := if 0 ≤ p1 then (if p1 < ((3 : Nat) : Int) then (some (p0.getD (0 + p1.toNat) 0)) else none) else none
set_option maxRecDepth 100000 in
theorem weight_Score_f1_con (p0 : List Int) (p1 : Int) (r : Int) (h : weight_Score_f1 p0 p1 = some r) : Con Try.prog 40 [.agg [ci64 (p0.getD 0 0), ci64 (p0.getD 1 0), ci64 (p0.getD 2 0)], vi64 p1] [] (vi64 r) [] := by
 refine con_of tt_ok0 0 Try.func40 (by kernel_rfl) rfl (by kernel_rfl) (fun base X _ => AW.post ?_)
 unfold weight_Score_f1 at h
 refine AW.sg tt_ok0 [(2, .c (.ptr 0 1 0 0))] [0] [(0, .row 65 false 1 3 (Ri64 p0))] 2 [hr 3 (Ri64 p0) (p := 3 = 3 ∧ ∀ i, i < 3 → ∀ j, j < 1 → TLe (rowOf [.v (.int .i64 (p0.getD 0 0)), .v (.int .i64 (p0.getD 1 0)), .v (.int .i64 (p0.getD 2 0))] 1 i j) (Ri64 p0 i j)) (⟨rfl, fun i hi j hj => match i, hi, j, hj with | 0, _, 0, _ => TLe.refl _ | 1, _, 0, _ => TLe.refl _ | 2, _, 0, _ => TLe.refl _ | _ + 3, h, _, _ => absurd h (by omega) | _, _, _ + 1, h => absurd h (by omega)⟩)] (by kernel_rfl) ?_
 obtain ⟨g1, g2, h⟩ := ifd h
 refine AW.sg tt_ok0 [(4, vi64 (p0.getD (0 + p1.toNat) 0))] [] [] 6 [hn, hq g1 g2, ho (p := (0 + p1.toNat) < 3) (by have h1 : 0 ≤ p1 := g1; have h2 : p1 < ((3 : Nat) : Int) := g2; omega)] (by kernel_rfl) ?_
 refine AW.ret ?_
 obtain rfl := some_inj h
 exact fn0 (.inr rfl) [] 0 (vi64 (p0.getD (0 + p1.toNat) 0)) (by kernel_rfl)
/-! recordlink/weight.sum -/
noncomputable def weight_sum_weight_Score_f1_l1 (p0 : S_api_Weights) (y4 : List Int) (x10 : Int) (x11 : Int) : Option ((Int × Int) ⊕ Int) := if (decide (x11 < (y4.length : Int))) = true then (if 0 ≤ x11 then (if x11 < (y4.length : Int) then ((weight_counts p0 x11).bind fun y16 => ((weight_Score_f1 y16 (y4.getD (0 + x11.toNat) 0)).bind fun y18 => (some (.inl (i64.wrap (x10 + y18), i64.wrap (x11 + 1)))))) else none) else none) else (some (.inr x10))
noncomputable def weight_sum_weight_Score_f1 (p0 : S_api_Weights) (p1 : Int) : Option (Int × Int) := (weight_Check p0).bind fun y1 => (if (y1 != 0) = true then (some (0, y1)) else (bind2 (similarity_Digits p1 ((p0.Agree.length : Nat) : Int)) fun y4 y5 => (if (y5 != 0) = true then (some (0, y5)) else ((loop (fun v : Int × Int => weight_sum_weight_Score_f1_l1 p0 y4 v.1 v.2) (p0.Prior, 0)).bind fun x20 => (some (x20, 0))))))
set_option maxRecDepth 100000 in
theorem weight_sum_weight_Score_f1_con (p0 : S_api_Weights) (p1 : Int) (r : Int × Int) (h : weight_sum_weight_Score_f1 p0 p1 = some r) : Con Try.prog 39 [.agg [ci64 p0.Prior, cl 1 Ri64 p0.Agree, cl 1 Ri64 p0.Differ], vi64 p1, .c (.t (.v (.func (.func 40) #[] #[])))] [] (.tup [vi64 r.1, vi64 r.2]) [] := by
 refine con_of tt_ok0 0 Try.func39 (by kernel_rfl) rfl (by kernel_rfl) (fun base X _ => AW.post ?_)
 unfold weight_sum_weight_Score_f1 at h
 refine AW.sg tt_ok0 [(3, .c (.ptr 0 3 0 0))] [0] [(0, .box 40 [ci64 p0.Prior, cl 1 Ri64 p0.Agree, cl 1 Ri64 p0.Differ])] 3 [] (by kernel_rfl) ?_
 refine AW.seq ?_
 obtain ⟨y1, e2, h⟩ := bnd_some h
 refine AW.sg tt_ok0 [(8, vi64 y1)] [] [] 5 [hn, hk (weight_Check_con p0 y1 e2)] (by kernel_rfl) ?_
 refine AW.sg tt_ok0 [(17, vb (y1 != 0))] [] [] 7 [] (by kernel_rfl) ?_
 refine AW.co h (by kernel_rfl) (fun c3 h => ?_) (fun c3 h => ?_)
 ·
  refine AW.sg tt_ok0 [(7, vi64 y1), (6, vi64 0)] [] [] 10 [] (by kernel_rfl) ?_
  refine AW.ret (AW.tr ?_)
  obtain rfl := some_inj h
  exact fn0 (.inr rfl) [] 0 (.tup [vi64 0, vi64 y1]) (by kernel_rfl)
 ·
  refine AW.skip (AW.tn ?_)
  obtain ⟨y4, y5, e6, h⟩ := bind2_some h
  refine AW.sg tt_ok0 [(10, vi64 y5), (9, .c (.ref 11 1 0 y4.length))] [11] [(11, .row 3 false 1 y4.length (Ri64 y4))] 17 [hn, hn, hn, hn, hm [] [] 1 (similarity_Digits_con p1 ((p0.Agree.length : Nat) : Int) (y4, y5) e6) ⟨rowL_flat Vi64 _ _ _, tv⟩] (by kernel_rfl) ?_
  refine AW.seq ?_
  refine AW.sg tt_ok0 [(28, vb (y5 != 0))] [] [] 19 [] (by kernel_rfl) ?_
  refine AW.co h (by kernel_rfl) (fun c7 h => ?_) (fun c7 h => ?_)
  ·
   refine AW.sg tt_ok0 [(7, vi64 y5), (6, vi64 0)] [] [] 22 [] (by kernel_rfl) ?_
   refine AW.ret (AW.tr ?_)
   obtain rfl := some_inj h
   exact fn0 (.inr rfl) [] 0 (.tup [vi64 0, vi64 y5]) (by kernel_rfl)
  ·
   refine AW.skip (AW.tn ?_)
   refine AW.sg tt_ok0 [(11, vi64 p0.Prior)] [] [] 22 [] (by kernel_rfl) ?_
   refine AW.seq ?_
   refine AW.sg tt_ok0 [(34, vi64 0), (33, vi64 (y4.length : Int)), (32, .c (.ref 11 1 0 y4.length))] [] [] 25 [] (by kernel_rfl) ?_
   refine AW.block ?_
   obtain ⟨x20, l21, h⟩ := bnd_some h
   refine AW.lp l21 (fun v => ⟨[(2, .c (.t (.v (.func (.func 40) #[] #[])))), (3, .c (.ptr 0 3 0 0)), (11, vi64 v.1), (32, .c (.ref 1 1 0 y4.length)), (33, vi64 (y4.length : Int)), (34, vi64 v.2)], [(0, .box 40 [ci64 p0.Prior, cl 1 Ri64 p0.Agree, cl 1 Ri64 p0.Differ]), (1, .row 3 false 1 y4.length (Ri64 y4))], 2⟩) (fun t : Int => (.exit 0, ⟨[(11, vi64 t)], [], 0⟩)) (conv_re [(0, 0), (1, 11)] (by kernel_rfl)) (fun _ => tv) ?_ ?_
   ·
    clear l21 h
    intro v o h
    obtain ⟨x10, x11⟩ := v
    replace h : weight_sum_weight_Score_f1_l1 p0 y4 x10 x11 = some o := h
    unfold weight_sum_weight_Score_f1_l1 at h
    refine AW.sg tt_ok0 [(35, vb (decide (x11 < (y4.length : Int))))] [] [] 3 [] (by kernel_rfl) ?_
    refine AW.seq ?_
    refine AW.co h (by kernel_rfl) (fun c13 h => ?_) (fun c13 h => ?_)
    ·
     refine AW.skip (AW.tn ?_)
     refine AW.seq (AW.block ?_)
     obtain ⟨g14, g15, h⟩ := ifd h
     refine AW.sg tt_ok0 [(13, vi64 (y4.getD (0 + x11.toNat) 0)), (12, vi64 x11)] [] [] 8 [hn, hq g14 g15, ho (p := (0 + x11.toNat) < y4.length) (by have h1 : 0 ≤ x11 := g14; have h2 : x11 < (y4.length : Int) := g15; omega)] (by kernel_rfl) ?_
     obtain ⟨y16, e17, h⟩ := bnd_some h
     obtain ⟨y18, e19, h⟩ := bnd_some h
     refine AW.rg tt_ok0 [(11, vi64 (i64.wrap (x10 + y18)))] [] [] 15 [hn, hn, hn, hn, hk (weight_counts_con p0 x11 y16 e17), hn, hk (weight_Score_f1_con y16 (y4.getD (0 + x11.toNat) 0) y18 e19)] (by kernel_rfl) ?_
     refine AW.inBlock_normal (AW.tn ?_)
     refine AW.rg tt_ok0 [(34, vi64 (i64.wrap (x11 + 1)))] [] [] 17 [] (by kernel_rfl) ?_
     exact lpn h (conv_re [(0, 0), (1, 1)] (by kernel_rfl))
    ·
     refine AW.exit (AW.thenQ_exit ?_)
     exact lpo h rfl (conv_re [] (by kernel_rfl))
   ·
    show (_ : Exit → St → Prop) (.exit 0) _
    refine AW.inBlock_hit (AW.tn ?_)
    refine AW.sg tt_ok0 [(7, vi64 0), (6, vi64 x20)] [] [] 3 [] (by kernel_rfl) ?_
    refine AW.ret ?_
    obtain rfl := some_inj h
    exact fn0 (.inr rfl) [] 0 (.tup [vi64 x20, vi64 0]) (by kernel_rfl)
/-! recordlink/weight.Score -/
noncomputable def weight_Score (p0 : S_api_Weights) (p1 : Int) : Option (Int × Int) := bind2 (weight_sum_weight_Score_f1 p0 p1) fun y1 y2 => (some (y1, y2))
set_option maxRecDepth 100000 in
theorem weight_Score_con (p0 : S_api_Weights) (p1 : Int) (r : Int × Int) (h : weight_Score p0 p1 = some r) : Con Try.prog 19 [.agg [ci64 p0.Prior, cl 1 Ri64 p0.Agree, cl 1 Ri64 p0.Differ], vi64 p1] [] (.tup [vi64 r.1, vi64 r.2]) [] := by
 refine con_of tt_ok0 0 Try.func19 (by kernel_rfl) rfl (by kernel_rfl) (fun base X _ => AW.post ?_)
 unfold weight_Score at h
 refine AW.sg tt_ok0 [(2, .c (.ptr 0 3 0 0))] [0] [(0, .box 40 [ci64 p0.Prior, cl 1 Ri64 p0.Agree, cl 1 Ri64 p0.Differ])] 3 [] (by kernel_rfl) ?_
 obtain ⟨y1, y2, e3, h⟩ := bind2_some h
 refine AW.sg tt_ok0 [(5, vi64 y2), (4, vi64 y1)] [] [] 9 [hn, hn, hk (weight_sum_weight_Score_f1_con p0 p1 (y1, y2) e3)] (by kernel_rfl) ?_
 refine AW.ret ?_
 obtain rfl := some_inj h
 exact fn0 (.inr rfl) [] 0 (.tup [vi64 y1, vi64 y2]) (by kernel_rfl)
/-! recordlink/weight.Best$1 -/
noncomputable def weight_Best_f1 (p0 : List Int) (p1 : Int) : Option Int := if 0 ≤ p1 then (if p1 < ((3 : Nat) : Int) then ((some ((if (p0.getD 2 0) > (p0.getD (0 + p1.toNat) 0) then (p0.getD 2 0) else (p0.getD (0 + p1.toNat) 0)))).bind fun z3 => (some z3)) else none) else none
set_option maxRecDepth 100000 in
theorem weight_Best_f1_con (p0 : List Int) (p1 : Int) (r : Int) (h : weight_Best_f1 p0 p1 = some r) : Con Try.prog 41 [.agg [ci64 (p0.getD 0 0), ci64 (p0.getD 1 0), ci64 (p0.getD 2 0)], vi64 p1] [] (vi64 r) [] := by
 refine con_of tt_ok0 0 Try.func41 (by kernel_rfl) rfl (by kernel_rfl) (fun base X _ => AW.post ?_)
 unfold weight_Best_f1 at h
 refine AW.sg tt_ok0 [(2, .c (.ptr 0 1 0 0))] [0] [(0, .row 65 false 1 3 (Ri64 p0))] 2 [hr 3 (Ri64 p0) (p := 3 = 3 ∧ ∀ i, i < 3 → ∀ j, j < 1 → TLe (rowOf [.v (.int .i64 (p0.getD 0 0)), .v (.int .i64 (p0.getD 1 0)), .v (.int .i64 (p0.getD 2 0))] 1 i j) (Ri64 p0 i j)) (⟨rfl, fun i hi j hj => match i, hi, j, hj with | 0, _, 0, _ => TLe.refl _ | 1, _, 0, _ => TLe.refl _ | 2, _, 0, _ => TLe.refl _ | _ + 3, h, _, _ => absurd h (by omega) | _, _, _ + 1, h => absurd h (by omega)⟩)] (by kernel_rfl) ?_
 obtain ⟨g1, g2, h⟩ := ifd h
 obtain ⟨z3, n4, h⟩ := bnd_some h
 replace n4 := some_inj n4
 refine AW.sd tt_ok0 mo0 [] [(4, vi64 z3)] [] 9 [hn, hq g1 g2, ho (p := (0 + p1.toNat) < 3) (by have h1 : 0 ≤ p1 := g1; have h2 : p1 < ((3 : Nat) : Int) := g2; omega), ho (p := (0 ≤ (2 : Int)) ∧ ((2 : Int) < ((3 : Nat) : Int))) (⟨(by decide), (by decide)⟩), ho (p := 2 < 3) (by decide)] (by subst n4; kernel_rfl) ?_
 refine AW.ret ?_
 obtain rfl := some_inj h
 exact fn0 (.inr rfl) [] 0 (vi64 z3) (by kernel_rfl)
/-! recordlink/weight.sum -/
noncomputable def weight_sum_weight_Best_f1_l1 (p0 : S_api_Weights) (y4 : List Int) (x10 : Int) (x11 : Int) : Option ((Int × Int) ⊕ Int) := if (decide (x11 < (y4.length : Int))) = true then (if 0 ≤ x11 then (if x11 < (y4.length : Int) then ((weight_counts p0 x11).bind fun y16 => ((weight_Best_f1 y16 (y4.getD (0 + x11.toNat) 0)).bind fun y18 => (some (.inl (i64.wrap (x10 + y18), i64.wrap (x11 + 1)))))) else none) else none) else (some (.inr x10))
noncomputable def weight_sum_weight_Best_f1 (p0 : S_api_Weights) (p1 : Int) : Option (Int × Int) := (weight_Check p0).bind fun y1 => (if (y1 != 0) = true then (some (0, y1)) else (bind2 (similarity_Digits p1 ((p0.Agree.length : Nat) : Int)) fun y4 y5 => (if (y5 != 0) = true then (some (0, y5)) else ((loop (fun v : Int × Int => weight_sum_weight_Best_f1_l1 p0 y4 v.1 v.2) (p0.Prior, 0)).bind fun x20 => (some (x20, 0))))))
set_option maxRecDepth 100000 in
theorem weight_sum_weight_Best_f1_con (p0 : S_api_Weights) (p1 : Int) (r : Int × Int) (h : weight_sum_weight_Best_f1 p0 p1 = some r) : Con Try.prog 39 [.agg [ci64 p0.Prior, cl 1 Ri64 p0.Agree, cl 1 Ri64 p0.Differ], vi64 p1, .c (.t (.v (.func (.func 41) #[] #[])))] [] (.tup [vi64 r.1, vi64 r.2]) [] := by
 refine con_of tt_ok0 0 Try.func39 (by kernel_rfl) rfl (by kernel_rfl) (fun base X _ => AW.post ?_)
 unfold weight_sum_weight_Best_f1 at h
 refine AW.sg tt_ok0 [(3, .c (.ptr 0 3 0 0))] [0] [(0, .box 40 [ci64 p0.Prior, cl 1 Ri64 p0.Agree, cl 1 Ri64 p0.Differ])] 3 [] (by kernel_rfl) ?_
 refine AW.seq ?_
 obtain ⟨y1, e2, h⟩ := bnd_some h
 refine AW.sg tt_ok0 [(8, vi64 y1)] [] [] 5 [hn, hk (weight_Check_con p0 y1 e2)] (by kernel_rfl) ?_
 refine AW.sg tt_ok0 [(17, vb (y1 != 0))] [] [] 7 [] (by kernel_rfl) ?_
 refine AW.co h (by kernel_rfl) (fun c3 h => ?_) (fun c3 h => ?_)
 ·
  refine AW.sg tt_ok0 [(7, vi64 y1), (6, vi64 0)] [] [] 10 [] (by kernel_rfl) ?_
  refine AW.ret (AW.tr ?_)
  obtain rfl := some_inj h
  exact fn0 (.inr rfl) [] 0 (.tup [vi64 0, vi64 y1]) (by kernel_rfl)
 ·
  refine AW.skip (AW.tn ?_)
  obtain ⟨y4, y5, e6, h⟩ := bind2_some h
  refine AW.sg tt_ok0 [(10, vi64 y5), (9, .c (.ref 11 1 0 y4.length))] [11] [(11, .row 3 false 1 y4.length (Ri64 y4))] 17 [hn, hn, hn, hn, hm [] [] 1 (similarity_Digits_con p1 ((p0.Agree.length : Nat) : Int) (y4, y5) e6) ⟨rowL_flat Vi64 _ _ _, tv⟩] (by kernel_rfl) ?_
  refine AW.seq ?_
  refine AW.sg tt_ok0 [(28, vb (y5 != 0))] [] [] 19 [] (by kernel_rfl) ?_
  refine AW.co h (by kernel_rfl) (fun c7 h => ?_) (fun c7 h => ?_)
  ·
   refine AW.sg tt_ok0 [(7, vi64 y5), (6, vi64 0)] [] [] 22 [] (by kernel_rfl) ?_
   refine AW.ret (AW.tr ?_)
   obtain rfl := some_inj h
   exact fn0 (.inr rfl) [] 0 (.tup [vi64 0, vi64 y5]) (by kernel_rfl)
  ·
   refine AW.skip (AW.tn ?_)
   refine AW.sg tt_ok0 [(11, vi64 p0.Prior)] [] [] 22 [] (by kernel_rfl) ?_
   refine AW.seq ?_
   refine AW.sg tt_ok0 [(34, vi64 0), (33, vi64 (y4.length : Int)), (32, .c (.ref 11 1 0 y4.length))] [] [] 25 [] (by kernel_rfl) ?_
   refine AW.block ?_
   obtain ⟨x20, l21, h⟩ := bnd_some h
   refine AW.lp l21 (fun v => ⟨[(2, .c (.t (.v (.func (.func 41) #[] #[])))), (3, .c (.ptr 0 3 0 0)), (11, vi64 v.1), (32, .c (.ref 1 1 0 y4.length)), (33, vi64 (y4.length : Int)), (34, vi64 v.2)], [(0, .box 40 [ci64 p0.Prior, cl 1 Ri64 p0.Agree, cl 1 Ri64 p0.Differ]), (1, .row 3 false 1 y4.length (Ri64 y4))], 2⟩) (fun t : Int => (.exit 0, ⟨[(11, vi64 t)], [], 0⟩)) (conv_re [(0, 0), (1, 11)] (by kernel_rfl)) (fun _ => tv) ?_ ?_
   ·
    clear l21 h
    intro v o h
    obtain ⟨x10, x11⟩ := v
    replace h : weight_sum_weight_Best_f1_l1 p0 y4 x10 x11 = some o := h
    unfold weight_sum_weight_Best_f1_l1 at h
    refine AW.sg tt_ok0 [(35, vb (decide (x11 < (y4.length : Int))))] [] [] 3 [] (by kernel_rfl) ?_
    refine AW.seq ?_
    refine AW.co h (by kernel_rfl) (fun c13 h => ?_) (fun c13 h => ?_)
    ·
     refine AW.skip (AW.tn ?_)
     refine AW.seq (AW.block ?_)
     obtain ⟨g14, g15, h⟩ := ifd h
     refine AW.sg tt_ok0 [(13, vi64 (y4.getD (0 + x11.toNat) 0)), (12, vi64 x11)] [] [] 8 [hn, hq g14 g15, ho (p := (0 + x11.toNat) < y4.length) (by have h1 : 0 ≤ x11 := g14; have h2 : x11 < (y4.length : Int) := g15; omega)] (by kernel_rfl) ?_
     obtain ⟨y16, e17, h⟩ := bnd_some h
     obtain ⟨y18, e19, h⟩ := bnd_some h
     refine AW.rg tt_ok0 [(11, vi64 (i64.wrap (x10 + y18)))] [] [] 15 [hn, hn, hn, hn, hk (weight_counts_con p0 x11 y16 e17), hn, hk (weight_Best_f1_con y16 (y4.getD (0 + x11.toNat) 0) y18 e19)] (by kernel_rfl) ?_
     refine AW.inBlock_normal (AW.tn ?_)
     refine AW.rg tt_ok0 [(34, vi64 (i64.wrap (x11 + 1)))] [] [] 17 [] (by kernel_rfl) ?_
     exact lpn h (conv_re [(0, 0), (1, 1)] (by kernel_rfl))
    ·
     refine AW.exit (AW.thenQ_exit ?_)
     exact lpo h rfl (conv_re [] (by kernel_rfl))
   ·
    show (_ : Exit → St → Prop) (.exit 0) _
    refine AW.inBlock_hit (AW.tn ?_)
    refine AW.sg tt_ok0 [(7, vi64 0), (6, vi64 x20)] [] [] 3 [] (by kernel_rfl) ?_
    refine AW.ret ?_
    obtain rfl := some_inj h
    exact fn0 (.inr rfl) [] 0 (.tup [vi64 x20, vi64 0]) (by kernel_rfl)
/-! recordlink/weight.Best -/
noncomputable def weight_Best (p0 : S_api_Weights) (p1 : Int) : Option (Int × Int) := bind2 (weight_sum_weight_Best_f1 p0 p1) fun y1 y2 => (some (y1, y2))
set_option maxRecDepth 100000 in
theorem weight_Best_con (p0 : S_api_Weights) (p1 : Int) (r : Int × Int) (h : weight_Best p0 p1 = some r) : Con Try.prog 20 [.agg [ci64 p0.Prior, cl 1 Ri64 p0.Agree, cl 1 Ri64 p0.Differ], vi64 p1] [] (.tup [vi64 r.1, vi64 r.2]) [] := by
 refine con_of tt_ok0 0 Try.func20 (by kernel_rfl) rfl (by kernel_rfl) (fun base X _ => AW.post ?_)
 unfold weight_Best at h
 refine AW.sg tt_ok0 [(2, .c (.ptr 0 3 0 0))] [0] [(0, .box 40 [ci64 p0.Prior, cl 1 Ri64 p0.Agree, cl 1 Ri64 p0.Differ])] 3 [] (by kernel_rfl) ?_
 obtain ⟨y1, y2, e3, h⟩ := bind2_some h
 refine AW.sg tt_ok0 [(5, vi64 y2), (4, vi64 y1)] [] [] 9 [hn, hn, hk (weight_sum_weight_Best_f1_con p0 p1 (y1, y2) e3)] (by kernel_rfl) ?_
 refine AW.ret ?_
 obtain rfl := some_inj h
 exact fn0 (.inr rfl) [] 0 (.tup [vi64 y1, vi64 y2]) (by kernel_rfl)
/-! recordlink/recordlinkref10.trim -/
noncomputable def rl_ref10_trim_k2 (x2 : List Int) (x4 : Bool) : Option ((List Int) ⊕ (List Int)) := if x4 = true then (if 0 ≤ (i64.wrap ((x2.length : Int) - 1)) then (if ((i64.wrap ((x2.length : Int) - 1)).toNat) ≤ x2.length then (some (.inl (x2.take ((i64.wrap ((x2.length : Int) - 1)).toNat)))) else none) else none) else (some (.inr x2))
noncomputable def rl_ref10_trim_l1 (x2 : List Int) : Option ((List Int) ⊕ (List Int)) := if (decide ((x2.length : Int) > 0)) = true then (if 0 ≤ (i64.wrap ((x2.length : Int) - 1)) then (if (i64.wrap ((x2.length : Int) - 1)) < (x2.length : Int) then (rl_ref10_trim_k2 x2 ((x2.getD ((i64.wrap ((x2.length : Int) - 1)).toNat) 0) == 0)) else none) else none) else (rl_ref10_trim_k2 x2 false)
noncomputable def rl_ref10_trim (p0 : List Int) : Option (List Int) := (loop (fun v : List Int => rl_ref10_trim_l1 v) p0).bind fun x11 => (some x11)
set_option maxRecDepth 100000 in
theorem rl_ref10_trim_con (p0 : List Int) (r : List Int) (h : rl_ref10_trim p0 = some r) : Con Try.prog 75 [vl 1 Ru32 p0] [] (vl 1 Ru32 r) [] := by
 refine con_of tt_ok0 0 Try.func75 (by kernel_rfl) rfl (by kernel_rfl) (fun base X _ => AW.post ?_)
 unfold rl_ref10_trim at h
 refine AW.sg tt_ok0 [] [] [] 1 [] (by kernel_rfl) ?_
 refine AW.seq (AW.block ?_)
 obtain ⟨x11, l12, h⟩ := bnd_some h
 refine AW.lp l12 (fun v => ⟨[(0, vl 1 Ru32 v)], [], 0⟩) (fun t : List Int => (.exit 0, ⟨[(0, vl 1 Ru32 t)], [], 0⟩)) (conv_re [] (by kernel_rfl)) (fun _ => tv) ?_ ?_
 ·
  clear l12 h
  intro x2 o h
  unfold rl_ref10_trim_l1 at h
  refine AW.seq (AW.seq ?_)
  refine AW.join (ι := Bool) (fun v => ⟨[(0, vl 1 Ru32 x2), (14, vb v)], [], 0⟩) (fun v : Bool => rl_ref10_trim_k2 x2 v = some o) (fun x4 h => ?_) ?_
  ·
   unfold rl_ref10_trim_k2 at h
   refine AW.tn ?_
   refine AW.co h (by kernel_rfl) (fun c5 h => ?_) (fun c5 h => ?_)
   ·
    refine AW.skip (AW.tn (AW.block ?_))
    obtain ⟨g6, g7, h⟩ := ifd h
    refine AW.rg tt_ok0 [(0, .c (.t (.tree ((i64.wrap ((x2.length : Int) - 1)).toNat) 1 (Ru32 x2))))] [] [] 6 [hn, hn, hn, hn, ho (p := (True) ∧ (0 ≤ (i64.wrap ((x2.length : Int) - 1))) ∧ (0 ≤ ((i64.wrap ((x2.length : Int) - 1)).toNat)) ∧ (((i64.wrap ((x2.length : Int) - 1)).toNat) ≤ x2.length)) (⟨tv, g6, (Nat.zero_le _), g7⟩)] (by kernel_rfl) ?_
    refine AW.inBlock_normal ?_
    exact lpn h (Conv.trans (conv_tms [(0, vl 1 Ru32 (x2.take ((i64.wrap ((x2.length : Int) - 1)).toNat)))] ⟨⟨.c (.t (.tree ((i64.wrap ((x2.length : Int) - 1)).toNat) 1 (Ru32 x2))), by kernel_rfl, ALe.c (CAle.cle (CAle.tree (take_row (by omega))))⟩, tv⟩) (conv_re [] (by kernel_rfl)))
   ·
    refine AW.exit (AW.thenQ_exit ?_)
    exact lpo h rfl (conv_re [] (by kernel_rfl))
  ·
   rcases ifs h with ⟨c8, h⟩ | ⟨c8, h⟩
   ·
    obtain ⟨g9, g10, h⟩ := ifd h
    refine AW.rg tt_ok0 [(14, vb ((x2.getD ((i64.wrap ((x2.length : Int) - 1)).toNat) 0) == 0))] [] [] 12 [hn, hn, ht c8, hn, hn, hn, hn, hn, hq g9 g10] (by kernel_rfl) ?_
    exact jl ((x2.getD ((i64.wrap ((x2.length : Int) - 1)).toNat) 0) == 0) h (conv_re [] (by kernel_rfl))
   ·
    refine AW.rg tt_ok0 [(14, vb false)] [] [] 12 [hn, hn, hf c8] (by kernel_rfl) ?_
    exact jl false h (conv_re [] (by kernel_rfl))
 ·
  show (_ : Exit → St → Prop) (.exit 0) _
  refine AW.inBlock_hit (AW.tn ?_)
  refine AW.sg tt_ok0 [(2, vl 1 Ru32 x11)] [] [] 2 [] (by kernel_rfl) ?_
  refine AW.ret ?_
  obtain rfl := some_inj h
  exact fn0 (.inr rfl) [] 0 (vl 1 Ru32 x11) (by kernel_rfl)
/-! recordlink/recordlinkref10.FromInt -/
noncomputable def rl_ref10_FromInt (p0 : Int) : Option ((List Int) × Int) := if (decide (p0 < 0)) = true then (some (([] : List Int), 2)) else ((rl_ref10_trim ([u32.wrap p0, u32.wrap (ishr .i64 p0 32)] : List Int)).bind fun y2 => (some (y2, 0)))
set_option maxRecDepth 100000 in
theorem rl_ref10_FromInt_con (p0 : Int) (r : (List Int) × Int) (h : rl_ref10_FromInt p0 = some r) : Con Try.prog 59 [vi64 p0] [] (.tup [vl 1 Ru32 r.1, vi64 r.2]) [] := by
 refine con_of tt_ok0 0 Try.func59 (by kernel_rfl) rfl (by kernel_rfl) (fun base X _ => AW.post ?_)
 unfold rl_ref10_FromInt at h
 refine AW.sg tt_ok0 [] [] [] 2 [] (by kernel_rfl) ?_
 refine AW.seq ?_
 refine AW.sg tt_ok0 [(5, vb (decide (p0 < 0)))] [] [] 4 [] (by kernel_rfl) ?_
 refine AW.co h (by kernel_rfl) (fun c1 h => ?_) (fun c1 h => ?_)
 ·
  refine AW.sg tt_ok0 [(3, vi64 2), (2, .c (.t (.v (.slice none 0 0))))] [] [] 6 [] (by kernel_rfl) ?_
  refine AW.ret (AW.tr ?_)
  obtain rfl := some_inj h
  exact fnR (.inr rfl) [] 0 (.tup [vl 1 Ru32 ([] : List Int), vi64 2]) (conv_tms [(2, vl 1 Ru32 ([] : List Int))] ⟨⟨.c (.t (.v (.slice none 0 0))), by kernel_rfl, ALe.c (CLe.nil rfl)⟩, tv⟩) (by kernel_rfl)
 ·
  refine AW.skip (AW.tn ?_)
  obtain ⟨y2, e3, h⟩ := bnd_some h
  refine AW.sg tt_ok0 [(3, vi64 0), (2, vl 1 Ru32 y2)] [9] [] 12 [hn, hn, hn, ho (p := 0 ≤ (32 : Int)) (by decide), hn, hlit 0 Eu32 1 (fun _ => rfl) ([u32.wrap p0, u32.wrap (ishr .i64 p0 32)] : List Int), hg [] [9] false 0 (q := (0 + ([u32.wrap p0, u32.wrap (ishr .i64 p0 32)] : List Int).length ≤ ([u32.wrap p0, u32.wrap (ishr .i64 p0 32)] : List Int).length) ∧ (True)) ⟨le0, tv⟩ (a0 := [vl 1 Ru32 ([u32.wrap p0, u32.wrap (ishr .i64 p0 32)] : List Int)]) (rl_ref10_trim_con ([u32.wrap p0, u32.wrap (ishr .i64 p0 32)] : List Int) y2 e3) ⟨ArgLe.refl _, tv⟩ (fun h => by cases h)] (by kernel_rfl) ?_
  refine AW.ret ?_
  obtain rfl := some_inj h
  exact fn0 (.inr rfl) [] 0 (.tup [vl 1 Ru32 y2, vi64 0]) (by kernel_rfl)
/-! recordlink/recordlinkref10.Valid -/
noncomputable def rl_ref10_Valid_k1 (x1 : Bool) : Option Bool := some x1
noncomputable def rl_ref10_Valid (p0 : List Int) : Option Bool := if (decide ((p0.length : Int) ≤ 64)) = true then (if ((p0.length : Int) == 0) = true then (rl_ref10_Valid_k1 true) else (if 0 ≤ (i64.wrap ((p0.length : Int) - 1)) then (if (i64.wrap ((p0.length : Int) - 1)) < (p0.length : Int) then (rl_ref10_Valid_k1 ((p0.getD ((i64.wrap ((p0.length : Int) - 1)).toNat) 0) != 0)) else none) else none)) else (rl_ref10_Valid_k1 false)
set_option maxRecDepth 100000 in
theorem rl_ref10_Valid_con (p0 : List Int) (r : Bool) (h : rl_ref10_Valid p0 = some r) : Con Try.prog 76 [vl 1 Ru32 p0] [] (vb r) [] := by
 refine con_of tt_ok0 0 Try.func76 (by kernel_rfl) rfl (by kernel_rfl) (fun base X _ => AW.post ?_)
 unfold rl_ref10_Valid at h
 refine AW.sg tt_ok0 [] [] [] 1 [] (by kernel_rfl) ?_
 refine AW.seq ?_
 refine AW.join (ι := Bool) (fun v => ⟨[(2, vb v)], [], 0⟩) (fun v : Bool => rl_ref10_Valid_k1 v = some r) (fun x1 h => ?_) ?_
 ·
  unfold rl_ref10_Valid_k1 at h
  refine AW.tn (AW.ret ?_)
  obtain rfl := some_inj h
  exact fn0 (.inr rfl) [] 0 (vb x1) (by kernel_rfl)
 ·
  rcases ifs h with ⟨c2, h⟩ | ⟨c2, h⟩
  ·
   rcases ifs h with ⟨c3, h⟩ | ⟨c3, h⟩
   ·
    refine AW.rg tt_ok0 [(2, vb true)] [] [] 19 [hn, hn, ht c2, hn, hn, hn, ht c3] (by kernel_rfl) ?_
    exact jl true h (conv_re [] (by kernel_rfl))
   ·
    obtain ⟨g4, g5, h⟩ := ifd h
    refine AW.rg tt_ok0 [(2, vb ((p0.getD ((i64.wrap ((p0.length : Int) - 1)).toNat) 0) != 0))] [] [] 19 [hn, hn, ht c2, hn, hn, hn, hf c3, hn, hn, hn, hn, hn, hq g4 g5] (by kernel_rfl) ?_
    exact jl ((p0.getD ((i64.wrap ((p0.length : Int) - 1)).toNat) 0) != 0) h (conv_re [] (by kernel_rfl))
  ·
   refine AW.rg tt_ok0 [(2, vb false)] [] [] 19 [hn, hn, hf c2] (by kernel_rfl) ?_
   exact jl false h (conv_re [] (by kernel_rfl))
/-! recordlink/recordlinkref10.product -/
noncomputable def rl_ref10_product_l2 (p0 : List Int) (p1 : List Int) (x6 : Int) (x12 : List Int) (x13 : Int) (x14 : Int) : Option (((List Int) × Int × Int) ⊕ ((List Int) × Int)) := if (decide (x14 < (p1.length : Int))) = true then (if 0 ≤ x6 then (if x6 < (p0.length : Int) then (if 0 ≤ x14 then (if x14 < (p1.length : Int) then (if 0 ≤ (i64.wrap (x6 + x14)) then (if (i64.wrap (x6 + x14)) < (x12.length : Int) then ((some (u64.wrap ((u64.wrap ((u64.wrap ((u64.wrap (p0.getD x6.toNat 0)) * (u64.wrap (p1.getD x14.toNat 0)))) + (u64.wrap (x12.getD (0 + (i64.wrap (x6 + x14)).toNat) 0)))) + x13))).bind fun z24 => (some (.inl ((x12.set (0 + (i64.wrap (x6 + x14)).toNat) (u32.wrap z24)), ishr .u64 z24 32, i64.wrap (x14 + 1))))) else none) else none) else none) else none) else none) else none) else (some (.inr (x12, x13)))
noncomputable def rl_ref10_product_l1 (p0 : List Int) (p1 : List Int) (x5 : List Int) (x6 : Int) : Option (((List Int) × Int) ⊕ (List Int)) := if (decide (x6 < (p0.length : Int))) = true then (bind2 (loop (fun v : (List Int) × Int × Int => rl_ref10_product_l2 p0 p1 x6 v.1 v.2.1 v.2.2) (x5, 0, 0)) fun x26 x27 => (if 0 ≤ (i64.wrap (x6 + (p1.length : Int))) then (if (i64.wrap (x6 + (p1.length : Int))) < (x26.length : Int) then (some (.inl ((x26.set (0 + (i64.wrap (x6 + (p1.length : Int))).toNat) (u32.wrap x27)), i64.wrap (x6 + 1)))) else none) else none)) else (some (.inr x5))
noncomputable def rl_ref10_product (p0 : List Int) (p1 : List Int) : Option (List Int) := if 0 ≤ (i64.wrap ((p0.length : Int) + (p1.length : Int))) then (if (i64.wrap ((p0.length : Int) + (p1.length : Int))) ≤ 1099511627776 then ((loop (fun v : (List Int) × Int => rl_ref10_product_l1 p0 p1 v.1 v.2) ((List.replicate ((i64.wrap ((p0.length : Int) + (p1.length : Int))).toNat) (0 : Int)), 0)).bind fun x31 => ((rl_ref10_trim x31).bind fun y32 => (some y32))) else none) else none
set_option maxRecDepth 100000 in
theorem rl_ref10_product_con (p0 : List Int) (p1 : List Int) (r : List Int) (h : rl_ref10_product p0 p1 = some r) : Con Try.prog 77 [vl 1 Ru32 p0, vl 1 Ru32 p1] [] (vl 1 Ru32 r) [] := by
 refine con_of tt_ok0 0 Try.func77 (by kernel_rfl) rfl (by kernel_rfl) (fun base X _ => AW.post ?_)
 unfold rl_ref10_product at h
 refine AW.sg tt_ok0 [] [] [] 1 [] (by kernel_rfl) ?_
 obtain ⟨g1, g2, h⟩ := ifd h
 refine AW.sg tt_ok0 [(5, .c (.ref 6 1 0 ((List.replicate ((i64.wrap ((p0.length : Int) + (p1.length : Int))).toNat) (0 : Int)).length)))] [6] [(6, .row 78 false 1 (List.replicate ((i64.wrap ((p0.length : Int) + (p1.length : Int))).toNat) (0 : Int)).length (Ru32 (List.replicate ((i64.wrap ((p0.length : Int) + (p1.length : Int))).toNat) (0 : Int))))] 8 [hn, hn, hn, hn, hn, hmk 0 Eu32 1 4 [.int .u32 0] rfl rfl (i64.wrap ((p0.length : Int) + (p1.length : Int))) (i64.wrap ((p0.length : Int) + (p1.length : Int))) g1 (Int.le_refl _) g2 (by decide)] (by kernel_rfl) ?_
 refine AW.seq ?_
 refine AW.sg tt_ok0 [(6, vi64 0)] [] [] 9 [] (by kernel_rfl) ?_
 refine AW.block ?_
 obtain ⟨x31, l34, h⟩ := bnd_some h
 refine AW.lp l34 (fun v => ⟨[(0, vl 1 Ru32 p0), (1, vl 1 Ru32 p1), (5, .c (.ref 0 1 0 v.1.length)), (6, vi64 v.2)], [(0, .row 78 false 1 v.1.length (Ru32 v.1))], 1⟩) (fun t : List Int => (.exit 0, ⟨[(5, .c (.ref 0 1 0 t.length))], [(0, .row 78 false 1 t.length (Ru32 t))], 1⟩)) (conv_re [(0, 6)] (by kernel_rfl)) (fun _ => tv) ?_ ?_
 ·
  clear l34 h
  intro v o h
  obtain ⟨x5, x6⟩ := v
  replace h : rl_ref10_product_l1 p0 p1 x5 x6 = some o := h
  unfold rl_ref10_product_l1 at h
  refine AW.seq ?_
  refine AW.sg tt_ok0 [(19, vb (decide (x6 < (p0.length : Int))))] [] [] 5 [] (by kernel_rfl) ?_
  refine AW.co h (by kernel_rfl) (fun c8 h => ?_) (fun c8 h => ?_)
  ·
   refine AW.skip (AW.tn ?_)
   refine AW.seq (AW.block ?_)
   refine AW.sg tt_ok0 [(7, vu64 0)] [] [] 6 [] (by kernel_rfl) ?_
   refine AW.seq ?_
   refine AW.sg tt_ok0 [(8, vi64 0)] [] [] 7 [] (by kernel_rfl) ?_
   refine AW.block ?_
   obtain ⟨x26, x27, l30, h⟩ := bind2_some h
   refine AW.lp l30 (fun v => ⟨[(0, vl 1 Ru32 p0), (1, vl 1 Ru32 p1), (5, .c (.ref 0 1 0 v.1.length)), (6, vi64 x6), (7, vu64 v.2.1), (8, vi64 v.2.2)], [(0, .row 78 false 1 v.1.length (Ru32 v.1))], 1⟩) (fun t : (List Int) × Int => (.exit 2, ⟨[(0, vl 1 Ru32 p0), (1, vl 1 Ru32 p1), (5, .c (.ref 0 1 0 t.1.length)), (6, vi64 x6), (7, vu64 t.2)], [(0, .row 78 false 1 t.1.length (Ru32 t.1))], 1⟩)) (conv_re [(0, 0)] (by kernel_rfl)) (fun _ => tv) ?_ ?_
   ·
    clear l30 h
    intro v o h
    obtain ⟨x12, x13, x14⟩ := v
    replace h : rl_ref10_product_l2 p0 p1 x6 x12 x13 x14 = some o := h
    unfold rl_ref10_product_l2 at h
    refine AW.seq ?_
    refine AW.sg tt_ok0 [(25, vb (decide (x14 < (p1.length : Int))))] [] [] 5 [] (by kernel_rfl) ?_
    refine AW.co h (by kernel_rfl) (fun c17 h => ?_) (fun c17 h => ?_)
    ·
     refine AW.skip (AW.tn ?_)
     refine AW.seq (AW.block ?_)
     obtain ⟨g18, g19, h⟩ := ifd h
     obtain ⟨g20, g21, h⟩ := ifd h
     obtain ⟨g22, g23, h⟩ := ifd h
     obtain ⟨z24, n25, h⟩ := bnd_some h
     replace n25 := some_inj n25
     refine AW.sd tt_ok0 mo0 [] [(9, vu64 z24)] [] 27 [hn, hn, hq g18 g19, hn, hn, hn, hn, hq g20 g21, hn, hn, hn, hn, hn, hn, hn, hq g22 g23, ho (p := (0 + (i64.wrap (x6 + x14)).toNat) < x12.length) (by have h1 : 0 ≤ (i64.wrap (x6 + x14)) := g22; have h2 : (i64.wrap (x6 + x14)) < (x12.length : Int) := g23; omega)] (by subst n25; kernel_rfl) ?_
     refine AW.sg tt_ok0 [] [0] [(0, .row 78 false 1 x12.length (Ru32 (x12.set (0 + (i64.wrap (x6 + x14)).toNat) (u32.wrap z24))))] 35 [hn, hn, hn, hn, hn, hn, hq g22 g23, hset 0 Eu32 x12 (0 + (i64.wrap (x6 + x14)).toNat) (u32.wrap z24) (n := x12.length) (by have h1 : 0 ≤ (i64.wrap (x6 + x14)) := g22; have h2 : (i64.wrap (x6 + x14)) < (x12.length : Int) := g23; omega) rfl] (by kernel_rfl) ?_
     refine AW.rg tt_ok0 [(7, vu64 (ishr .u64 z24 32))] [] [] 38 [hn, ho (p := 0 ≤ (32 : Int)) (by decide)] (by kernel_rfl) ?_
     refine AW.inBlock_normal (AW.tn ?_)
     refine AW.rg tt_ok0 [(8, vi64 (i64.wrap (x14 + 1)))] [] [] 41 [] (by kernel_rfl) ?_
     exact lpn h (Conv.trans (conv_tms [(5, .c (.ref 0 1 0 ((x12.set (0 + (i64.wrap (x6 + x14)).toNat) (u32.wrap z24)).length)))] ⟨⟨.c (.ref 0 1 0 x12.length), by kernel_rfl, ALe.len (by simp only [List.length_set])⟩, tv⟩) (Conv.trans (conv_rowN 0 78 false 1 x12.length ((x12.set (0 + (i64.wrap (x6 + x14)).toNat) (u32.wrap z24)).length) (Ru32 (x12.set (0 + (i64.wrap (x6 + x14)).toNat) (u32.wrap z24))) (by kernel_rfl) (by simp only [List.length_set])) (conv_re [(0, 0)] (by kernel_rfl))))
    ·
     refine AW.exit (AW.thenQ_exit ?_)
     exact lpo h rfl (conv_re [(0, 0)] (by kernel_rfl))
   ·
    show (_ : Exit → St → Prop) (.exit 2) _
    refine AW.inBlock_hit (AW.tn ?_)
    obtain ⟨g28, g29, h⟩ := ifd h
    refine AW.rg tt_ok0 [] [0] [(0, .row 78 false 1 x26.length (Ru32 (x26.set (0 + (i64.wrap (x6 + (p1.length : Int))).toNat) (u32.wrap x27))))] 10 [hn, hn, hn, hn, hn, hn, hn, hq g28 g29, hset 0 Eu32 x26 (0 + (i64.wrap (x6 + (p1.length : Int))).toNat) (u32.wrap x27) (n := x26.length) (by have h1 : 0 ≤ (i64.wrap (x6 + (p1.length : Int))) := g28; have h2 : (i64.wrap (x6 + (p1.length : Int))) < (x26.length : Int) := g29; omega) rfl] (by kernel_rfl) ?_
    refine AW.inBlock_normal (AW.tn ?_)
    refine AW.rg tt_ok0 [(6, vi64 (i64.wrap (x6 + 1)))] [] [] 13 [] (by kernel_rfl) ?_
    exact lpn h (Conv.trans (conv_tms [(5, .c (.ref 0 1 0 ((x26.set (0 + (i64.wrap (x6 + (p1.length : Int))).toNat) (u32.wrap x27)).length)))] ⟨⟨.c (.ref 0 1 0 x26.length), by kernel_rfl, ALe.len (by simp only [List.length_set])⟩, tv⟩) (Conv.trans (conv_rowN 0 78 false 1 x26.length ((x26.set (0 + (i64.wrap (x6 + (p1.length : Int))).toNat) (u32.wrap x27)).length) (Ru32 (x26.set (0 + (i64.wrap (x6 + (p1.length : Int))).toNat) (u32.wrap x27))) (by kernel_rfl) (by simp only [List.length_set])) (conv_re [(0, 0)] (by kernel_rfl))))
  ·
   refine AW.exit (AW.thenQ_exit ?_)
   exact lpo h rfl (conv_re [(0, 0)] (by kernel_rfl))
 ·
  show (_ : Exit → St → Prop) (.exit 0) _
  refine AW.inBlock_hit (AW.tn ?_)
  obtain ⟨y32, e33, h⟩ := bnd_some h
  refine AW.sg tt_ok0 [(4, vl 1 Ru32 y32)] [0] [] 3 [hn, hg [] [0] false 0 (q := (0 + x31.length ≤ x31.length) ∧ (True)) ⟨le0, tv⟩ (a0 := [vl 1 Ru32 x31]) (rl_ref10_trim_con x31 y32 e33) ⟨ArgLe.refl _, tv⟩ (fun h => by cases h)] (by kernel_rfl) ?_
  refine AW.ret ?_
  obtain rfl := some_inj h
  exact fn0 (.inr rfl) [] 0 (vl 1 Ru32 y32) (by kernel_rfl)
/-! recordlink/recordlinkref10.Power -/
noncomputable def rl_ref10_Power_l2 (p0 : List Int) (p1 : Int) (x8 : List Int) (x9 : Int) : Option (((List Int) × Int) ⊕ ((List Int) ⊕ Unit)) := if (decide (x9 < p1)) = true then ((rl_ref10_product x8 p0).bind fun y12 => (if (decide ((y12.length : Int) > 64)) = true then (some (.inr (.inr ()))) else (some (.inl (y12, i64.wrap (x9 + 1)))))) else (some (.inr (.inl x8)))
noncomputable def rl_ref10_Power_a3 (x15 : List Int) : Option ((List Int) × Int) := some (x15, 0)
noncomputable def rl_ref10_Power_a4 : Option ((List Int) × Int) := some (([] : List Int), 1)
noncomputable def rl_ref10_Power_k1 (p0 : List Int) (p1 : Int) (x4 : Bool) : Option ((List Int) × Int) := if x4 = true then (some (([] : List Int), 2)) else (bindE (loop (fun v : (List Int) × Int => rl_ref10_Power_l2 p0 p1 v.1 v.2) (([1] : List Int), 0)) (fun t => rl_ref10_Power_a3 t) (fun t => rl_ref10_Power_a4))
noncomputable def rl_ref10_Power (p0 : List Int) (p1 : Int) : Option ((List Int) × Int) := (rl_ref10_Valid p0).bind fun y1 => (if (!y1) = true then (some (([] : List Int), 20)) else (if (decide (p1 < 0)) = true then (rl_ref10_Power_k1 p0 p1 true) else (rl_ref10_Power_k1 p0 p1 (decide (p1 > 4096)))))
set_option maxRecDepth 100000 in
theorem rl_ref10_Power_con (p0 : List Int) (p1 : Int) (r : (List Int) × Int) (h : rl_ref10_Power p0 p1 = some r) : Con Try.prog 60 [vl 1 Ru32 p0, vi64 p1] [] (.tup [vl 1 Ru32 r.1, vi64 r.2]) [] := by
 refine con_of tt_ok0 0 Try.func60 (by kernel_rfl) rfl (by kernel_rfl) (fun base X _ => AW.post ?_)
 unfold rl_ref10_Power at h
 refine AW.sg tt_ok0 [] [] [] 2 [] (by kernel_rfl) ?_
 refine AW.seq ?_
 obtain ⟨y1, e2, h⟩ := bnd_some h
 refine AW.sg tt_ok0 [(10, vb (!y1))] [] [] 4 [hn, hk (rl_ref10_Valid_con p0 y1 e2)] (by kernel_rfl) ?_
 refine AW.co h (by kernel_rfl) (fun c3 h => ?_) (fun c3 h => ?_)
 ·
  refine AW.sg tt_ok0 [(5, vi64 20), (4, .c (.t (.v (.slice none 0 0))))] [] [] 6 [] (by kernel_rfl) ?_
  refine AW.ret (AW.tr ?_)
  obtain rfl := some_inj h
  exact fnR (.inr rfl) [] 0 (.tup [vl 1 Ru32 ([] : List Int), vi64 20]) (conv_tms [(4, vl 1 Ru32 ([] : List Int))] ⟨⟨.c (.t (.v (.slice none 0 0))), by kernel_rfl, ALe.c (CLe.nil rfl)⟩, tv⟩) (by kernel_rfl)
 ·
  refine AW.skip (AW.tn ?_)
  refine AW.seq (AW.seq ?_)
  refine AW.join (ι := Bool) (fun v => ⟨[(0, vl 1 Ru32 p0), (1, vi64 p1), (16, vb v)], [], 0⟩) (fun v : Bool => rl_ref10_Power_k1 p0 p1 v = some r) (fun x4 h => ?_) ?_
  ·
   unfold rl_ref10_Power_k1 at h
   refine AW.tn ?_
   refine AW.co h (by kernel_rfl) (fun c5 h => ?_) (fun c5 h => ?_)
   ·
    refine AW.sg tt_ok0 [(5, vi64 2), (4, .c (.t (.v (.slice none 0 0))))] [] [] 2 [] (by kernel_rfl) ?_
    refine AW.ret (AW.tr ?_)
    obtain rfl := some_inj h
    exact fnR (.inr rfl) [] 0 (.tup [vl 1 Ru32 ([] : List Int), vi64 2]) (conv_tms [(4, vl 1 Ru32 ([] : List Int))] ⟨⟨.c (.t (.v (.slice none 0 0))), by kernel_rfl, ALe.c (CLe.nil rfl)⟩, tv⟩) (by kernel_rfl)
   ·
    refine AW.skip (AW.tn ?_)
    refine AW.sg tt_ok0 [(6, .c (.ref 0 1 0 (([1] : List Int).length)))] [0] [(0, .row 78 false 1 ([1] : List Int).length (Ru32 ([1] : List Int)))] 2 [hlit 0 Eu32 1 (fun _ => rfl) ([1] : List Int)] (by kernel_rfl) ?_
    refine AW.seq ?_
    refine AW.sg tt_ok0 [(7, vi64 0)] [] [] 3 [] (by kernel_rfl) ?_
    refine AW.block ?_
    refine AW.lpE h (fun v => ⟨[(0, vl 1 Ru32 p0), (1, vi64 p1), (6, vl 1 Ru32 v.1), (7, vi64 v.2)], [], 0⟩) (fun t => (.exit 0, ⟨[(6, vl 1 Ru32 t)], [], 0⟩)) (fun t => (.ret, ⟨[(4, .c (.t (.v (.slice none 0 0)))), (5, vi64 1)], [], 0⟩)) (Conv.trans (cfz 0 78 1 (([1] : List Int).length) (Ru32 ([1] : List Int)) (by kernel_rfl)) (Conv.trans (conv_tms [(6, vl 1 Ru32 ([1] : List Int))] ⟨⟨.c (.ref 0 1 0 (([1] : List Int).length)), by kernel_rfl, ALe.c (CLe.ref (ty := 78) (f := Ru32 ([1] : List Int)) (by kernel_rfl) le0)⟩, tv⟩) (conv_re [] (by kernel_rfl)))) (fun _ => tv) (fun _ => tv) ?_ (fun x15 h => ?_) (fun t h => ?_)
    ·
     clear h
     intro v o h
     obtain ⟨x8, x9⟩ := v
     replace h : rl_ref10_Power_l2 p0 p1 x8 x9 = some o := h
     unfold rl_ref10_Power_l2 at h
     refine AW.seq ?_
     refine AW.sg tt_ok0 [(20, vb (decide (x9 < p1)))] [] [] 3 [] (by kernel_rfl) ?_
     refine AW.co h (by kernel_rfl) (fun c11 h => ?_) (fun c11 h => ?_)
     ·
      refine AW.skip (AW.tn ?_)
      refine AW.seq (AW.block ?_)
      obtain ⟨y12, e13, h⟩ := bnd_some h
      refine AW.sg tt_ok0 [(6, vl 1 Ru32 y12)] [] [] 6 [hn, hn, hk (rl_ref10_product_con x8 p0 y12 e13)] (by kernel_rfl) ?_
      refine AW.sg tt_ok0 [(28, vb (decide ((y12.length : Int) > 64)))] [] [] 9 [] (by kernel_rfl) ?_
      refine AW.co h (by kernel_rfl) (fun c14 h => ?_) (fun c14 h => ?_)
      ·
       refine AW.sg tt_ok0 [(5, vi64 1), (4, .c (.t (.v (.slice none 0 0))))] [] [] 11 [] (by kernel_rfl) ?_
       refine AW.ret (AW.inBlock_ret (AW.tr ?_))
       exact lpo h rfl (conv_re [] (by kernel_rfl))
      ·
       refine AW.skip (AW.inBlock_normal (AW.tn ?_))
       refine AW.rg tt_ok0 [(7, vi64 (i64.wrap (x9 + 1)))] [] [] 12 [] (by kernel_rfl) ?_
       exact lpn h (conv_re [] (by kernel_rfl))
     ·
      refine AW.exit (AW.thenQ_exit ?_)
      exact lpo h rfl (conv_re [] (by kernel_rfl))
    ·
     unfold rl_ref10_Power_a3 at h
     show (_ : Exit → St → Prop) (.exit 0) _
     refine AW.inBlock_hit (AW.tn ?_)
     refine AW.sg tt_ok0 [(5, vi64 0), (4, vl 1 Ru32 x15)] [] [] 3 [] (by kernel_rfl) ?_
     refine AW.ret ?_
     obtain rfl := some_inj h
     exact fn0 (.inr rfl) [] 0 (.tup [vl 1 Ru32 x15, vi64 0]) (by kernel_rfl)
    ·
     replace h : rl_ref10_Power_a4 = some r := h
     unfold rl_ref10_Power_a4 at h
     show (_ : Exit → St → Prop) (.ret) _
     refine AW.inBlock_ret (AW.tr ?_)
     obtain rfl := some_inj h
     exact fnR (.inr rfl) [] 0 (.tup [vl 1 Ru32 ([] : List Int), vi64 1]) (conv_tms [(4, vl 1 Ru32 ([] : List Int))] ⟨⟨.c (.t (.v (.slice none 0 0))), by kernel_rfl, ALe.c (CLe.nil rfl)⟩, tv⟩) (by kernel_rfl)
  ·
   rcases ifs h with ⟨c17, h⟩ | ⟨c17, h⟩
   ·
    refine AW.rg tt_ok0 [(16, vb true)] [] [] 10 [hn, ht c17] (by kernel_rfl) ?_
    exact jl true h (conv_re [] (by kernel_rfl))
   ·
    refine AW.rg tt_ok0 [(16, vb (decide (p1 > 4096)))] [] [] 10 [hn, hf c17] (by kernel_rfl) ?_
    exact jl (decide (p1 > 4096)) h (conv_re [] (by kernel_rfl))
/-! recordlink/recordlinkref25.power -/
noncomputable def rl_ref25_power (p0 : Int) : Option (List Int) := bind2 (rl_ref10_FromInt 2) fun y1 y2 => (bind2 (rl_ref10_Power y1 p0) fun y4 y5 => (some y4))
set_option maxRecDepth 100000 in
theorem rl_ref25_power_con (p0 : Int) (r : List Int) (h : rl_ref25_power p0 = some r) : Con Try.prog 62 [vi64 p0] [] (vl 1 Ru32 r) [] := by
 refine con_of tt_ok0 0 Try.func62 (by kernel_rfl) rfl (by kernel_rfl) (fun base X _ => AW.post ?_)
 unfold rl_ref25_power at h
 refine AW.sg tt_ok0 [] [] [] 1 [] (by kernel_rfl) ?_
 obtain ⟨y1, y2, e3, h⟩ := bind2_some h
 refine AW.sg tt_ok0 [(3, vl 1 Ru32 y1)] [] [] 6 [hk (rl_ref10_FromInt_con 2 (y1, y2) e3)] (by kernel_rfl) ?_
 obtain ⟨y4, y5, e6, h⟩ := bind2_some h
 refine AW.sg tt_ok0 [(5, vl 1 Ru32 y4)] [] [] 13 [hn, hn, hk (rl_ref10_Power_con y1 p0 (y4, y5) e6)] (by kernel_rfl) ?_
 refine AW.sg tt_ok0 [(2, vl 1 Ru32 y4)] [] [] 15 [] (by kernel_rfl) ?_
 refine AW.ret ?_
 obtain rfl := some_inj h
 exact fn0 (.inr rfl) [] 0 (vl 1 Ru32 y4) (by kernel_rfl)
/-! recordlink/recordlinkref10.limited -/
noncomputable def rl_ref10_limited (p0 : List Int) : Option ((List Int) × Int) := if (decide ((p0.length : Int) > 64)) = true then (some (([] : List Int), 1)) else (some (p0, 0))
set_option maxRecDepth 100000 in
theorem rl_ref10_limited_con (p0 : List Int) (r : (List Int) × Int) (h : rl_ref10_limited p0 = some r) : Con Try.prog 78 [vl 1 Ru32 p0] [] (.tup [vl 1 Ru32 r.1, vi64 r.2]) [] := by
 refine con_of tt_ok0 0 Try.func78 (by kernel_rfl) rfl (by kernel_rfl) (fun base X _ => AW.post ?_)
 unfold rl_ref10_limited at h
 refine AW.sg tt_ok0 [] [] [] 2 [] (by kernel_rfl) ?_
 refine AW.seq ?_
 refine AW.sg tt_ok0 [(6, vb (decide ((p0.length : Int) > 64)))] [] [] 5 [] (by kernel_rfl) ?_
 refine AW.co h (by kernel_rfl) (fun c1 h => ?_) (fun c1 h => ?_)
 ·
  refine AW.sg tt_ok0 [(3, vi64 1), (2, .c (.t (.v (.slice none 0 0))))] [] [] 7 [] (by kernel_rfl) ?_
  refine AW.ret (AW.tr ?_)
  obtain rfl := some_inj h
  exact fnR (.inr rfl) [] 0 (.tup [vl 1 Ru32 ([] : List Int), vi64 1]) (conv_tms [(2, vl 1 Ru32 ([] : List Int))] ⟨⟨.c (.t (.v (.slice none 0 0))), by kernel_rfl, ALe.c (CLe.nil rfl)⟩, tv⟩) (by kernel_rfl)
 ·
  refine AW.skip (AW.tn ?_)
  refine AW.sg tt_ok0 [(3, vi64 0), (2, vl 1 Ru32 p0)] [] [] 8 [] (by kernel_rfl) ?_
  refine AW.ret ?_
  obtain rfl := some_inj h
  exact fn0 (.inr rfl) [] 0 (.tup [vl 1 Ru32 p0, vi64 0]) (by kernel_rfl)
/-! recordlink/recordlinkref10.Mul -/
noncomputable def rl_ref10_Mul_k1 (p0 : List Int) (p1 : List Int) (x1 : Bool) : Option ((List Int) × Int) := if x1 = true then (some (([] : List Int), 20)) else ((rl_ref10_product p0 p1).bind fun y3 => (bind2 (rl_ref10_limited y3) fun y5 y6 => (some (y5, y6))))
noncomputable def rl_ref10_Mul (p0 : List Int) (p1 : List Int) : Option ((List Int) × Int) := (rl_ref10_Valid p0).bind fun y8 => (if (!y8) = true then (rl_ref10_Mul_k1 p0 p1 true) else ((rl_ref10_Valid p1).bind fun y11 => (rl_ref10_Mul_k1 p0 p1 (!y11))))
set_option maxRecDepth 100000 in
theorem rl_ref10_Mul_con (p0 : List Int) (p1 : List Int) (r : (List Int) × Int) (h : rl_ref10_Mul p0 p1 = some r) : Con Try.prog 61 [vl 1 Ru32 p0, vl 1 Ru32 p1] [] (.tup [vl 1 Ru32 r.1, vi64 r.2]) [] := by
 refine con_of tt_ok0 0 Try.func61 (by kernel_rfl) rfl (by kernel_rfl) (fun base X _ => AW.post ?_)
 unfold rl_ref10_Mul at h
 refine AW.sg tt_ok0 [] [] [] 2 [] (by kernel_rfl) ?_
 refine AW.seq (AW.seq ?_)
 refine AW.join (ι := Bool) (fun v => ⟨[(0, vl 1 Ru32 p0), (1, vl 1 Ru32 p1), (13, vb v)], [], 0⟩) (fun v : Bool => rl_ref10_Mul_k1 p0 p1 v = some r) (fun x1 h => ?_) ?_
 ·
  unfold rl_ref10_Mul_k1 at h
  refine AW.tn ?_
  refine AW.co h (by kernel_rfl) (fun c2 h => ?_) (fun c2 h => ?_)
  ·
   refine AW.sg tt_ok0 [(5, vi64 20), (4, .c (.t (.v (.slice none 0 0))))] [] [] 2 [] (by kernel_rfl) ?_
   refine AW.ret (AW.tr ?_)
   obtain rfl := some_inj h
   exact fnR (.inr rfl) [] 0 (.tup [vl 1 Ru32 ([] : List Int), vi64 20]) (conv_tms [(4, vl 1 Ru32 ([] : List Int))] ⟨⟨.c (.t (.v (.slice none 0 0))), by kernel_rfl, ALe.c (CLe.nil rfl)⟩, tv⟩) (by kernel_rfl)
  ·
   refine AW.skip (AW.tn ?_)
   obtain ⟨y3, e4, h⟩ := bnd_some h
   obtain ⟨y5, y6, e7, h⟩ := bind2_some h
   refine AW.sg tt_ok0 [(5, vi64 y6), (4, vl 1 Ru32 y5)] [] [] 6 [hn, hn, hk (rl_ref10_product_con p0 p1 y3 e4), hk (rl_ref10_limited_con y3 (y5, y6) e7)] (by kernel_rfl) ?_
   refine AW.ret ?_
   obtain rfl := some_inj h
   exact fn0 (.inr rfl) [] 0 (.tup [vl 1 Ru32 y5, vi64 y6]) (by kernel_rfl)
 ·
  obtain ⟨y8, e9, h⟩ := bnd_some h
  rcases ifs h with ⟨c10, h⟩ | ⟨c10, h⟩
  ·
   refine AW.rg tt_ok0 [(13, vb true)] [] [] 9 [hn, hk (rl_ref10_Valid_con p0 y8 e9), ht c10] (by kernel_rfl) ?_
   exact jl true h (conv_re [] (by kernel_rfl))
  ·
   obtain ⟨y11, e12, h⟩ := bnd_some h
   refine AW.rg tt_ok0 [(13, vb (!y11))] [] [] 8 [hn, hk (rl_ref10_Valid_con p0 y8 e9), hf c10, hn, hn, hk (rl_ref10_Valid_con p1 y11 e12)] (by kernel_rfl) ?_
   exact jl (!y11) h (conv_re [] (by kernel_rfl))
/-! recordlink/recordlinkref10.Compare -/
noncomputable def rl_ref10_Compare_l1 (y1 : List Int) (y3 : List Int) (x8 : Int) : Option (Int ⊕ (Unit ⊕ Int)) := if (decide (x8 ≥ 0)) = true then (if 0 ≤ x8 then (if x8 < (y1.length : Int) then (if x8 < (y3.length : Int) then (if (decide ((y1.getD x8.toNat 0) < (y3.getD x8.toNat 0))) = true then (some (.inr (.inr (-1)))) else (if (decide ((y1.getD x8.toNat 0) > (y3.getD x8.toNat 0))) = true then (some (.inr (.inr 1))) else (some (.inl (i64.wrap (x8 - 1)))))) else none) else none) else none) else (some (.inr (.inl ())))
noncomputable def rl_ref10_Compare_a2 : Option Int := some 0
noncomputable def rl_ref10_Compare_a3 (x16 : Int) : Option Int := some x16
noncomputable def rl_ref10_Compare (p0 : List Int) (p1 : List Int) : Option Int := (rl_ref10_trim p0).bind fun y1 => ((rl_ref10_trim p1).bind fun y3 => (if ((y1.length : Int) != (y3.length : Int)) = true then (if (decide ((y1.length : Int) < (y3.length : Int))) = true then (some (-1)) else (some 1)) else (bindE (loop (fun v : Int => rl_ref10_Compare_l1 y1 y3 v) (i64.wrap ((y1.length : Int) - 1))) (fun t => rl_ref10_Compare_a2) (fun t => rl_ref10_Compare_a3 t))))
set_option maxRecDepth 100000 in
theorem rl_ref10_Compare_con (p0 : List Int) (p1 : List Int) (r : Int) (h : rl_ref10_Compare p0 p1 = some r) : Con Try.prog 63 [vl 1 Ru32 p0, vl 1 Ru32 p1] [] (vi64 r) [] := by
 refine con_of tt_ok0 0 Try.func63 (by kernel_rfl) rfl (by kernel_rfl) (fun base X _ => AW.post ?_)
 unfold rl_ref10_Compare at h
 refine AW.sg tt_ok0 [] [] [] 1 [] (by kernel_rfl) ?_
 obtain ⟨y1, e2, h⟩ := bnd_some h
 obtain ⟨y3, e4, h⟩ := bnd_some h
 refine AW.sg tt_ok0 [(1, vl 1 Ru32 y3), (0, vl 1 Ru32 y1)] [] [] 5 [hn, hk (rl_ref10_trim_con p0 y1 e2), hn, hk (rl_ref10_trim_con p1 y3 e4)] (by kernel_rfl) ?_
 refine AW.seq ?_
 refine AW.sg tt_ok0 [(14, vb ((y1.length : Int) != (y3.length : Int)))] [] [] 10 [] (by kernel_rfl) ?_
 refine AW.co h (by kernel_rfl) (fun c5 h => ?_) (fun c5 h => ?_)
 ·
  refine AW.seq ?_
  refine AW.sg tt_ok0 [(19, vb (decide ((y1.length : Int) < (y3.length : Int))))] [] [] 15 [] (by kernel_rfl) ?_
  refine AW.co h (by kernel_rfl) (fun c6 h => ?_) (fun c6 h => ?_)
  ·
   refine AW.sg tt_ok0 [(4, vi64 (-1))] [] [] 16 [] (by kernel_rfl) ?_
   refine AW.ret (AW.tr (AW.tr ?_))
   obtain rfl := some_inj h
   exact fn0 (.inr rfl) [] 0 (vi64 (-1)) (by kernel_rfl)
  ·
   refine AW.skip (AW.tn ?_)
   refine AW.sg tt_ok0 [(4, vi64 1)] [] [] 16 [] (by kernel_rfl) ?_
   refine AW.ret (AW.tr ?_)
   obtain rfl := some_inj h
   exact fn0 (.inr rfl) [] 0 (vi64 1) (by kernel_rfl)
 ·
  refine AW.skip (AW.tn (AW.seq ?_))
  refine AW.sg tt_ok0 [(5, vi64 (i64.wrap ((y1.length : Int) - 1)))] [] [] 14 [] (by kernel_rfl) ?_
  refine AW.block ?_
  refine AW.lpE h (fun v => ⟨[(0, vl 1 Ru32 y1), (1, vl 1 Ru32 y3), (5, vi64 v)], [], 0⟩) (fun t => (.exit 0, ⟨[], [], 0⟩)) (fun t => (.ret, ⟨[(4, vi64 t)], [], 0⟩)) (conv_re [] (by kernel_rfl)) (fun _ => tv) (fun _ => tv) ?_ (fun t h => ?_) (fun x16 h => ?_)
  ·
   clear h
   intro x8 o h
   unfold rl_ref10_Compare_l1 at h
   refine AW.seq ?_
   refine AW.sg tt_ok0 [(24, vb (decide (x8 ≥ 0)))] [] [] 2 [] (by kernel_rfl) ?_
   refine AW.co h (by kernel_rfl) (fun c10 h => ?_) (fun c10 h => ?_)
   ·
    refine AW.skip (AW.tn ?_)
    refine AW.seq (AW.block (AW.seq ?_))
    obtain ⟨g11, g12, h⟩ := ifd h
    obtain ⟨g13, h⟩ := ifc h
    refine AW.sd tt_ok0 mo0 [] [(35, vb (decide ((y1.getD x8.toNat 0) < (y3.getD x8.toNat 0))))] [] 11 [hn, hn, hq g11 g12, hn, hn, hn, hq g11 g13] (by kernel_rfl) ?_
    refine AW.co h (by kernel_rfl) (fun c14 h => ?_) (fun c14 h => ?_)
    ·
     refine AW.sg tt_ok0 [(4, vi64 (-1))] [] [] 12 [] (by kernel_rfl) ?_
     refine AW.ret (AW.tr ?_)
     refine AW.inBlock_ret (AW.tr ?_)
     exact lpo h rfl (conv_re [] (by kernel_rfl))
    ·
     refine AW.skip (AW.tn ?_)
     refine AW.sd tt_ok0 mo0 [] [(44, vb (decide ((y1.getD x8.toNat 0) > (y3.getD x8.toNat 0))))] [] 20 [hn, hn, hq g11 g12, hn, hn, hn, hq g11 g13] (by kernel_rfl) ?_
     refine AW.co h (by kernel_rfl) (fun c15 h => ?_) (fun c15 h => ?_)
     ·
      refine AW.sg tt_ok0 [(4, vi64 1)] [] [] 21 [] (by kernel_rfl) ?_
      refine AW.ret (AW.inBlock_ret (AW.tr ?_))
      exact lpo h rfl (conv_re [] (by kernel_rfl))
     ·
      refine AW.skip (AW.inBlock_normal (AW.tn ?_))
      refine AW.rg tt_ok0 [(5, vi64 (i64.wrap (x8 - 1)))] [] [] 23 [] (by kernel_rfl) ?_
      exact lpn h (conv_re [] (by kernel_rfl))
   ·
    refine AW.exit (AW.thenQ_exit ?_)
    exact lpo h rfl (conv_re [] (by kernel_rfl))
  ·
   replace h : rl_ref10_Compare_a2 = some r := h
   unfold rl_ref10_Compare_a2 at h
   show (_ : Exit → St → Prop) (.exit 0) _
   refine AW.inBlock_hit (AW.tn ?_)
   refine AW.sg tt_ok0 [(4, vi64 0)] [] [] 1 [] (by kernel_rfl) ?_
   refine AW.ret ?_
   obtain rfl := some_inj h
   exact fn0 (.inr rfl) [] 0 (vi64 0) (by kernel_rfl)
  ·
   unfold rl_ref10_Compare_a3 at h
   show (_ : Exit → St → Prop) (.ret) _
   refine AW.inBlock_ret (AW.tr ?_)
   obtain rfl := some_inj h
   exact fn0 (.inr rfl) [] 0 (vi64 x16) (by kernel_rfl)
/-! recordlink/recordlinkref25.least -/
noncomputable def rl_ref25_least_k1 (x13 : List Int) (x14 : List Int) : Option Bool := (rl_ref10_Compare x14 x13).bind fun y15 => (some (decide (y15 ≤ 0)))
noncomputable def rl_ref25_least (p0 : Int) (p1 : Int) (p2 : Int) : Option Bool := bind2 (rl_ref10_FromInt p1) fun y1 y2 => (bind2 (rl_ref10_FromInt p2) fun y4 y5 => (bind2 (rl_ref10_Power y1 16) fun y7 y8 => (bind2 (rl_ref10_Power y4 16) fun y10 y11 => (if (decide (p0 ≥ 0)) = true then ((rl_ref25_power p0).bind fun y18 => (bind2 (rl_ref10_Mul y10 y18) fun y20 y21 => (rl_ref25_least_k1 y7 y20))) else ((rl_ref25_power (i64.wrap (0 - p0))).bind fun y23 => (bind2 (rl_ref10_Mul y7 y23) fun y25 y26 => (rl_ref25_least_k1 y25 y10)))))))
set_option maxRecDepth 100000 in
theorem rl_ref25_least_con (p0 : Int) (p1 : Int) (p2 : Int) (r : Bool) (h : rl_ref25_least p0 p1 p2 = some r) : Con Try.prog 42 [vi64 p0, vi64 p1, vi64 p2] [] (vb r) [] := by
 refine con_of tt_ok0 0 Try.func42 (by kernel_rfl) rfl (by kernel_rfl) (fun base X _ => AW.post ?_)
 unfold rl_ref25_least at h
 refine AW.sg tt_ok0 [] [] [] 1 [] (by kernel_rfl) ?_
 obtain ⟨y1, y2, e3, h⟩ := bind2_some h
 refine AW.sg tt_ok0 [(7, vl 1 Ru32 y1)] [] [] 7 [hn, hk (rl_ref10_FromInt_con p1 (y1, y2) e3)] (by kernel_rfl) ?_
 obtain ⟨y4, y5, e6, h⟩ := bind2_some h
 refine AW.sg tt_ok0 [(9, vl 1 Ru32 y4)] [] [] 13 [hn, hk (rl_ref10_FromInt_con p2 (y4, y5) e6)] (by kernel_rfl) ?_
 obtain ⟨y7, y8, e9, h⟩ := bind2_some h
 refine AW.sg tt_ok0 [(7, vl 1 Ru32 y7)] [] [] 18 [hn, hk (rl_ref10_Power_con y1 16 (y7, y8) e9)] (by kernel_rfl) ?_
 obtain ⟨y10, y11, e12, h⟩ := bind2_some h
 refine AW.sg tt_ok0 [(9, vl 1 Ru32 y10)] [] [] 23 [hn, hk (rl_ref10_Power_con y4 16 (y10, y11) e12)] (by kernel_rfl) ?_
 refine AW.seq ?_
 refine AW.join (ι := (List Int) × (List Int)) (fun v => ⟨[(7, vl 1 Ru32 v.1), (9, vl 1 Ru32 v.2)], [], 0⟩) (fun v : (List Int) × (List Int) => rl_ref25_least_k1 v.1 v.2 = some r) (fun v h => ?_) ?_
 ·
  obtain ⟨x13, x14⟩ := v
  replace h : rl_ref25_least_k1 x13 x14 = some r := h
  unfold rl_ref25_least_k1 at h
  refine AW.tn ?_
  obtain ⟨y15, e16, h⟩ := bnd_some h
  refine AW.sg tt_ok0 [(6, vb (decide (y15 ≤ 0)))] [] [] 4 [hn, hn, hk (rl_ref10_Compare_con x14 x13 y15 e16)] (by kernel_rfl) ?_
  refine AW.ret ?_
  obtain rfl := some_inj h
  exact fn0 (.inr rfl) [] 0 (vb (decide (y15 ≤ 0))) (by kernel_rfl)
 ·
  refine AW.sg tt_ok0 [(32, vb (decide (p0 ≥ 0)))] [] [] 25 [] (by kernel_rfl) ?_
  refine AW.co h (by kernel_rfl) (fun c17 h => ?_) (fun c17 h => ?_)
  ·
   obtain ⟨y18, e19, h⟩ := bnd_some h
   obtain ⟨y20, y21, e22, h⟩ := bind2_some h
   refine AW.rg tt_ok0 [(9, vl 1 Ru32 y20)] [] [] 31 [hn, hn, hk (rl_ref25_power_con p0 y18 e19), hk (rl_ref10_Mul_con y10 y18 (y20, y21) e22)] (by kernel_rfl) ?_
   exact jl (y7, y20) h (conv_re [] (by kernel_rfl))
  ·
   obtain ⟨y23, e24, h⟩ := bnd_some h
   obtain ⟨y25, y26, e27, h⟩ := bind2_some h
   refine AW.rg tt_ok0 [(7, vl 1 Ru32 y25)] [] [] 32 [hn, hn, hn, hk (rl_ref25_power_con (i64.wrap (0 - p0)) y23 e24), hk (rl_ref10_Mul_con y7 y23 (y25, y26) e27)] (by kernel_rfl) ?_
   exact jl (y25, y10) h (conv_re [] (by kernel_rfl))
/-! recordlink/recordlinkref25.Log -/
noncomputable def rl_ref25_Log_k3 (p0 : Int) (p1 : Int) (x5 : Int) (x6 : Int) (x9 : Int) : Option ((Int × Int) ⊕ Int) := (rl_ref25_least x9 p0 p1).bind fun y10 => (if y10 = true then (some (.inl (x9, x6))) else (some (.inl (x5, x9))))
noncomputable def rl_ref25_Log_k4 (p0 : Int) (p1 : Int) (x5 : Int) (x6 : Int) (x13 : Bool) : Option ((Int × Int) ⊕ Int) := if x13 = true then ((some (i64.wrap ((i64.wrap ((i64.wrap (x5 + x6)).tdiv 2)) - 1))).bind fun z15 => (rl_ref25_Log_k3 p0 p1 x5 x6 z15)) else (rl_ref25_Log_k3 p0 p1 x5 x6 (i64.wrap ((i64.wrap (x5 + x6)).tdiv 2)))
noncomputable def rl_ref25_Log_l2 (p0 : Int) (p1 : Int) (x5 : Int) (x6 : Int) : Option ((Int × Int) ⊕ Int) := if (decide ((i64.wrap (x6 - x5)) > 1)) = true then (if (decide ((i64.wrap (x5 + x6)) < 0)) = true then (rl_ref25_Log_k4 p0 p1 x5 x6 (((i64.wrap (x5 + x6)).tmod 2) != 0)) else (rl_ref25_Log_k4 p0 p1 x5 x6 false)) else (some (.inr x5))
noncomputable def rl_ref25_Log_k1 (p0 : Int) (p1 : Int) (x1 : Bool) : Option (Int × Int) := if x1 = true then (some (0, 2)) else ((loop (fun v : Int × Int => rl_ref25_Log_l2 p0 p1 v.1 v.2) ((-257), 257)).bind fun x18 => (some (x18, 0)))
noncomputable def rl_ref25_Log (p0 : Int) (p1 : Int) : Option (Int × Int) := if (decide (p0 < 1)) = true then (rl_ref25_Log_k1 p0 p1 true) else (if (decide (p0 > 65536)) = true then (rl_ref25_Log_k1 p0 p1 true) else (if (decide (p1 < 1)) = true then (rl_ref25_Log_k1 p0 p1 true) else (rl_ref25_Log_k1 p0 p1 (decide (p1 > 65536)))))
set_option maxRecDepth 100000 in
theorem rl_ref25_Log_con (p0 : Int) (p1 : Int) (r : Int × Int) (h : rl_ref25_Log p0 p1 = some r) : Con Try.prog 21 [vi64 p0, vi64 p1] [] (.tup [vi64 r.1, vi64 r.2]) [] := by
 refine con_of tt_ok0 0 Try.func21 (by kernel_rfl) rfl (by kernel_rfl) (fun base X _ => AW.post ?_)
 unfold rl_ref25_Log at h
 refine AW.sg tt_ok0 [] [] [] 2 [] (by kernel_rfl) ?_
 refine AW.seq (AW.seq ?_)
 refine AW.join (ι := Bool) (fun v => ⟨[(0, vi64 p0), (1, vi64 p1), (22, vb v)], [], 0⟩) (fun v : Bool => rl_ref25_Log_k1 p0 p1 v = some r) (fun x1 h => ?_) ?_
 ·
  unfold rl_ref25_Log_k1 at h
  refine AW.tn ?_
  refine AW.co h (by kernel_rfl) (fun c2 h => ?_) (fun c2 h => ?_)
  ·
   refine AW.sg tt_ok0 [(5, vi64 2), (4, vi64 0)] [] [] 2 [] (by kernel_rfl) ?_
   refine AW.ret (AW.tr ?_)
   obtain rfl := some_inj h
   exact fn0 (.inr rfl) [] 0 (.tup [vi64 0, vi64 2]) (by kernel_rfl)
  ·
   refine AW.skip (AW.tn ?_)
   refine AW.sg tt_ok0 [(7, vi64 257), (6, vi64 (-257))] [] [] 2 [] (by kernel_rfl) ?_
   refine AW.seq (AW.block ?_)
   obtain ⟨x18, l19, h⟩ := bnd_some h
   refine AW.lp l19 (fun v => ⟨[(0, vi64 p0), (1, vi64 p1), (6, vi64 v.1), (7, vi64 v.2)], [], 0⟩) (fun t : Int => (.exit 0, ⟨[(6, vi64 t)], [], 0⟩)) (conv_re [] (by kernel_rfl)) (fun _ => tv) ?_ ?_
   ·
    clear l19 h
    intro v o h
    obtain ⟨x5, x6⟩ := v
    replace h : rl_ref25_Log_l2 p0 p1 x5 x6 = some o := h
    unfold rl_ref25_Log_l2 at h
    refine AW.seq ?_
    refine AW.sg tt_ok0 [(26, vb (decide ((i64.wrap (x6 - x5)) > 1)))] [] [] 4 [] (by kernel_rfl) ?_
    refine AW.co h (by kernel_rfl) (fun c8 h => ?_) (fun c8 h => ?_)
    ·
     refine AW.skip (AW.tn (AW.block ?_))
     refine AW.sg tt_ok0 [(8, vi64 (i64.wrap ((i64.wrap (x5 + x6)).tdiv 2)))] [] [] 9 [hn, hn, hn, ho (p := (2 : Int) ≠ 0) (by decide)] (by kernel_rfl) ?_
     refine AW.seq ?_
     refine AW.join (ι := Int) (fun v => ⟨[(0, vi64 p0), (1, vi64 p1), (6, vi64 x5), (7, vi64 x6), (8, vi64 v)], [], 0⟩) (fun v : Int => rl_ref25_Log_k3 p0 p1 x5 x6 v = some o) (fun x9 h => ?_) ?_
     ·
      unfold rl_ref25_Log_k3 at h
      refine AW.tn ?_
      obtain ⟨y10, e11, h⟩ := bnd_some h
      refine AW.sg tt_ok0 [(47, vb y10)] [] [] 3 [hn, hn, hn, hk (rl_ref25_least_con x9 p0 p1 y10 e11)] (by kernel_rfl) ?_
      refine AW.co h (by kernel_rfl) (fun c12 h => ?_) (fun c12 h => ?_)
      ·
       refine AW.rg tt_ok0 [(6, vi64 x9)] [] [] 5 [] (by kernel_rfl) ?_
       refine AW.inBlock_normal ?_
       exact lpn h (conv_re [] (by kernel_rfl))
      ·
       refine AW.rg tt_ok0 [(7, vi64 x9)] [] [] 5 [] (by kernel_rfl) ?_
       refine AW.inBlock_normal ?_
       exact lpn h (conv_re [] (by kernel_rfl))
     ·
      refine AW.seq ?_
      refine AW.join (ι := Bool) (fun v => ⟨[(0, vi64 p0), (1, vi64 p1), (6, vi64 x5), (7, vi64 x6), (8, vi64 (i64.wrap ((i64.wrap (x5 + x6)).tdiv 2))), (41, vb v)], [], 0⟩) (fun v : Bool => rl_ref25_Log_k4 p0 p1 x5 x6 v = some o) (fun x13 h => ?_) ?_
      ·
       unfold rl_ref25_Log_k4 at h
       refine AW.tn ?_
       refine AW.co h (by kernel_rfl) (fun c14 h => ?_) (fun c14 h => ?_)
       ·
        obtain ⟨z15, n16, h⟩ := bnd_some h
        replace n16 := some_inj n16
        refine AW.rg tt_ok0 [(8, vi64 z15)] [] [] 3 [] (by subst n16; kernel_rfl) ?_
        exact jl z15 h (conv_re [] (by kernel_rfl))
       ·
        refine AW.skip ?_
        exact jl (i64.wrap ((i64.wrap (x5 + x6)).tdiv 2)) h (conv_re [] (by kernel_rfl))
      ·
       rcases ifs h with ⟨c17, h⟩ | ⟨c17, h⟩
       ·
        refine AW.rg tt_ok0 [(41, vb (((i64.wrap (x5 + x6)).tmod 2) != 0))] [] [] 20 [hn, hn, hn, ht c17, hn, hn, hn, hn, ho (p := (2 : Int) ≠ 0) (by decide)] (by kernel_rfl) ?_
        exact jl (((i64.wrap (x5 + x6)).tmod 2) != 0) h (conv_re [] (by kernel_rfl))
       ·
        refine AW.rg tt_ok0 [(41, vb false)] [] [] 20 [hn, hn, hn, hf c17] (by kernel_rfl) ?_
        exact jl false h (conv_re [] (by kernel_rfl))
    ·
     refine AW.exit (AW.thenQ_exit ?_)
     exact lpo h rfl (conv_re [] (by kernel_rfl))
   ·
    show (_ : Exit → St → Prop) (.exit 0) _
    refine AW.inBlock_hit (AW.tn ?_)
    refine AW.sg tt_ok0 [(5, vi64 0), (4, vi64 x18)] [] [] 3 [] (by kernel_rfl) ?_
    refine AW.ret ?_
    obtain rfl := some_inj h
    exact fn0 (.inr rfl) [] 0 (.tup [vi64 x18, vi64 0]) (by kernel_rfl)
 ·
  rcases ifs h with ⟨c20, h⟩ | ⟨c20, h⟩
  ·
   refine AW.rg tt_ok0 [(22, vb true)] [] [] 16 [hn, ht c20] (by kernel_rfl) ?_
   exact jl true h (conv_re [] (by kernel_rfl))
  ·
   rcases ifs h with ⟨c21, h⟩ | ⟨c21, h⟩
   ·
    refine AW.rg tt_ok0 [(22, vb true)] [] [] 16 [hn, hf c20, hn, hn, ht c21] (by kernel_rfl) ?_
    exact jl true h (conv_re [] (by kernel_rfl))
   ·
    rcases ifs h with ⟨c22, h⟩ | ⟨c22, h⟩
    ·
     refine AW.rg tt_ok0 [(22, vb true)] [] [] 16 [hn, hf c20, hn, hn, hf c21, hn, hn, hn, ht c22] (by kernel_rfl) ?_
     exact jl true h (conv_re [] (by kernel_rfl))
    ·
     refine AW.rg tt_ok0 [(22, vb (decide (p1 > 65536)))] [] [] 16 [hn, hf c20, hn, hn, hf c21, hn, hn, hn, hf c22] (by kernel_rfl) ?_
     exact jl (decide (p1 > 65536)) h (conv_re [] (by kernel_rfl))
/-! (*recordlink/recordlinkmake.Deck).Model -/
set_option maxRecDepth 100000 in
theorem rl_make_Deck_Model_conT (p0 : S_recordlinkmake_Deck) (p1 : Int) (r : S_api_Model × S_recordlinkmake_Deck) (h : rl_make_Deck_Model p0 p1 = some r) : Con Try.prog 13 [.c (.ptr 0 3 0 0), vi64 p1] [(0, .box 60 [cl 1 Ri64 p0.list, ci64 p0.at_, cu64 p0.state])] (.agg [ci64 r.1.Prior, cl 1 Ri64 r.1.Match, cl 1 Ri64 r.1.Random]) [(0, .box 60 [cl 1 Ri64 r.2.list, ci64 r.2.at_, cu64 r.2.state])] := by
 refine con_of tt_ok0 1 Try.func13 (by kernel_rfl) rfl (by kernel_rfl) (fun base X _ => AW.post ?_)
 unfold rl_make_Deck_Model at h
 refine AW.sg tt_ok0 [(4, .c (.ptr 1 3 0 0))] [1] [(1, .box 36 [ci64 0, .t (.v (.slice none 0 0)), .t (.v (.slice none 0 0))])] 2 [] (by kernel_rfl) ?_
 obtain ⟨y1, y2, e3, h⟩ := bind2_some h
 refine AW.sg tt_ok0 [(5, .c (.ptr 5 3 0 0))] [0, 5] [(5, .box 36 [ci64 (i64.wrap (1 + y1)), .t (.v (.slice none 0 0)), .t (.v (.slice none 0 0))]), (0, .box 60 [cl 1 Ri64 y2.list, ci64 y2.at_, cu64 y2.state])] 7 [hn, hl [0] [] 0 (rl_make_Deck_Next_con p0 65535 (y1, y2) e3)] (by kernel_rfl) ?_
 refine AW.seq ?_
 refine AW.sg tt_ok0 [(6, vi64 0)] [] [] 8 [] (by kernel_rfl) ?_
 refine AW.block ?_
 obtain ⟨x46, x47, x48, x49, x50, l51, h⟩ := bind5_some h
 refine AW.lp l51 (fun v => ⟨[(0, .c (.ptr 0 3 0 0)), (1, vi64 p1), (4, .c (.ptr 1 3 0 0)), (5, .c (.ptr 2 3 0 0)), (6, vi64 v.1)], [(0, .box 60 [cl 1 Ri64 v.2.1, ci64 v.2.2.1, cu64 v.2.2.2.1]), (1, .box 36 [ci64 0, .t (.v (.slice none 0 0)), .t (.v (.slice none 0 0))]), (2, .box 36 [ci64 (i64.wrap (1 + y1)), .ref 3 1 0 v.2.2.2.2.1.length, .ref 4 1 0 v.2.2.2.2.2.length]), (3, .row 3 false 1 v.2.2.2.2.1.length (Ri64 v.2.2.2.2.1)), (4, .row 3 false 1 v.2.2.2.2.2.length (Ri64 v.2.2.2.2.2))], 5⟩) (fun t : (List Int) × Int × Int × (List Int) × (List Int) => (.exit 0, ⟨[(4, .c (.ptr 1 3 0 0)), (5, .c (.ptr 2 3 0 0))], [(0, .box 60 [cl 1 Ri64 t.1, ci64 t.2.1, cu64 t.2.2.1]), (1, .box 36 [ci64 0, .t (.v (.slice none 0 0)), .t (.v (.slice none 0 0))]), (2, .box 36 [ci64 (i64.wrap (1 + y1)), .ref 3 1 0 t.2.2.2.1.length, .ref 4 1 0 t.2.2.2.2.length]), (3, .row 3 false 1 t.2.2.2.1.length (Ri64 t.2.2.2.1)), (4, .row 3 false 1 t.2.2.2.2.length (Ri64 t.2.2.2.2))], 5⟩)) (Conv.trans (conv_adoptB (id := 5) (ty0 := 36) (cs := [ci64 (i64.wrap (1 + y1)), .t (.v (.slice none 0 0)), .t (.v (.slice none 0 0))]) 1 (ty := 3) (sz := 1) (n := ([] : List Int).length) (f := Ri64 ([] : List Int)) (by kernel_rfl) (by kernel_rfl) rfl) (Conv.trans (conv_adoptB (id := 5) (ty0 := 36) (cs := [ci64 (i64.wrap (1 + y1)), .ref 8 1 0 (([] : List Int).length), .t (.v (.slice none 0 0))]) 2 (ty := 3) (sz := 1) (n := ([] : List Int).length) (f := Ri64 ([] : List Int)) (by kernel_rfl) (by kernel_rfl) rfl) (conv_re [(0, 0), (1, 1), (2, 5), (3, 8), (4, 9)] (by kernel_rfl)))) (fun _ => tv) ?_ ?_
 ·
  clear l51 h
  intro v o h
  obtain ⟨x10, x11, x12, x13, x14, x15⟩ := v
  replace h : rl_make_Deck_Model_l1 p1 x10 x11 x12 x13 x14 x15 = some o := h
  unfold rl_make_Deck_Model_l1 at h
  refine AW.seq ?_
  refine AW.sg tt_ok0 [(13, vb (decide (x10 < p1)))] [] [] 8 [] (by kernel_rfl) ?_
  refine AW.co h (by kernel_rfl) (fun c21 h => ?_) (fun c21 h => ?_)
  ·
   refine AW.skip (AW.tn (AW.seq ?_))
   refine AW.join (ι := (List Int) × Int × Int × (List Int) × (List Int)) (fun v => ⟨[(0, .c (.ptr 0 3 0 0)), (1, vi64 p1), (4, .c (.ptr 1 3 0 0)), (5, .c (.ptr 2 3 0 0)), (6, vi64 x10)], [(0, .box 60 [cl 1 Ri64 v.1, ci64 v.2.1, cu64 v.2.2.1]), (1, .box 36 [ci64 0, .t (.v (.slice none 0 0)), .t (.v (.slice none 0 0))]), (2, .box 36 [ci64 (i64.wrap (1 + y1)), .ref 3 1 0 v.2.2.2.1.length, .ref 4 1 0 v.2.2.2.2.length]), (3, .row 3 false 1 v.2.2.2.1.length (Ri64 v.2.2.2.1)), (4, .row 3 false 1 v.2.2.2.2.length (Ri64 v.2.2.2.2))], 5⟩) (fun v : (List Int) × Int × Int × (List Int) × (List Int) => rl_make_Deck_Model_k2 x10 v.1 v.2.1 v.2.2.1 v.2.2.2.1 v.2.2.2.2 = some o) (fun v h => ?_) ?_
   ·
    obtain ⟨x22, x23, x24, x25, x26⟩ := v
    replace h : rl_make_Deck_Model_k2 x10 x22 x23 x24 x25 x26 = some o := h
    unfold rl_make_Deck_Model_k2 at h
    refine AW.tn ?_
    refine AW.rg tt_ok0 [(6, vi64 (i64.wrap (x10 + 1)))] [] [] 8 [] (by kernel_rfl) ?_
    exact lpn h (conv_re [(0, 0), (1, 1), (2, 2), (3, 3), (4, 4)] (by kernel_rfl))
   ·
    refine AW.block ?_
    obtain ⟨y27, y28, e29, h⟩ := bind2_some h
    obtain ⟨g30, h⟩ := ifc h
    refine AW.sd tt_ok0 mo0 [[], [], [], [0], [], [12], [13, 3], [], [2]] [] [(2, .box 36 [ci64 (i64.wrap (1 + y1)), .ref 13 1 0 ((x14 ++ ([i64.wrap (32768 + y27)] : List Int)).length), .ref 4 1 0 x15.length]), (13, .row 3 false 1 (x14 ++ ([i64.wrap (32768 + y27)] : List Int)).length (Ri64 (x14 ++ ([i64.wrap (32768 + y27)] : List Int)))), (0, .box 60 [cl 1 Ri64 y28.list, ci64 y28.at_, cu64 y28.state])] 16 [hn, hn, hn, hl [0] [] 0 (rl_make_Deck_Next_con (⟨x11, x12, x13⟩ : S_recordlinkmake_Deck) 32768 (y27, y28) e29), hn, hlit 0 Ei64 1 (fun _ => rfl) ([i64.wrap (32768 + y27)] : List Int), happ 0 Ei64 1 8 x14 ([i64.wrap (32768 + y27)] : List Int) g30 (by decide)] (by kernel_rfl) ?_
    obtain ⟨y31, y32, e33, h⟩ := bind2_some h
    obtain ⟨g34, h⟩ := ifc h
    refine AW.sd tt_ok0 mo0 [[], [], [], [0], [], [20], [21, 4], [], [2]] [] [(2, .box 36 [ci64 (i64.wrap (1 + y1)), .ref 13 1 0 ((x14 ++ ([i64.wrap (32768 + y27)] : List Int)).length), .ref 21 1 0 ((x15 ++ ([i64.wrap (1 + y31)] : List Int)).length)]), (21, .row 3 false 1 (x15 ++ ([i64.wrap (1 + y31)] : List Int)).length (Ri64 (x15 ++ ([i64.wrap (1 + y31)] : List Int)))), (0, .box 60 [cl 1 Ri64 y32.list, ci64 y32.at_, cu64 y32.state])] 24 [hn, hn, hn, hl [0] [] 0 (rl_make_Deck_Next_con y28 32768 (y31, y32) e33), hn, hlit 0 Ei64 1 (fun _ => rfl) ([i64.wrap (1 + y31)] : List Int), happ 0 Ei64 1 8 x15 ([i64.wrap (1 + y31)] : List Int) g34 (by decide)] (by kernel_rfl) ?_
    obtain ⟨y35, y36, e37, h⟩ := bind2_some h
    refine AW.sg tt_ok0 [(33, vb y35)] [0] [(0, .box 60 [cl 1 Ri64 y36.list, ci64 y36.at_, cu64 y36.state])] 25 [hn, hl [0] [] 0 (rl_make_Deck_One_con y32 6 (y35, y36) e37)] (by kernel_rfl) ?_
    refine AW.co h (by kernel_rfl) (fun c38 h => ?_) (fun c38 h => ?_)
    ·
     obtain ⟨y39, y40, e41, h⟩ := bind2_some h
     obtain ⟨g42, g43, h⟩ := ifd h
     obtain ⟨g44, g45, h⟩ := ifd h
     refine AW.rd tt_ok0 mo0 [[], [], [], [28], [], [0], [], [], [], [13]] [] [(13, .row 3 false 1 (x14 ++ ([i64.wrap (32768 + y27)] : List Int)).length (Ri64 ((x14 ++ ([i64.wrap (32768 + y27)] : List Int)).set (0 + x10.toNat) (([1, 65535] : List Int).getD (0 + y39.toNat) 0)))), (0, .box 60 [cl 1 Ri64 y40.list, ci64 y40.at_, cu64 y40.state])] 34 [hn, hn, hn, hlit 0 Ei64 1 (fun _ => rfl) ([1, 65535] : List Int), hn, hl [0] [] 0 (rl_make_Deck_Next_con y36 2 (y39, y40) e41), hq g42 g43, ho (p := (0 + y39.toNat) < ([1, 65535] : List Int).length) (by have h1 : 0 ≤ y39 := g42; have h2 : y39 < ((([1, 65535] : List Int).length : Nat) : Int) := g43; omega), hq g44 g45, hset 0 Ei64 (x14 ++ ([i64.wrap (32768 + y27)] : List Int)) (0 + x10.toNat) (([1, 65535] : List Int).getD (0 + y39.toNat) 0) (n := (x14 ++ ([i64.wrap (32768 + y27)] : List Int)).length) (by have h1 : 0 ≤ x10 := g44; have h2 : x10 < (((x14 ++ ([i64.wrap (32768 + y27)] : List Int)).length : Nat) : Int) := g45; omega) rfl] (by kernel_rfl) ?_
     refine AW.inBlock_normal ?_
     exact jl (y40.list, y40.at_, y40.state, ((x14 ++ ([i64.wrap (32768 + y27)] : List Int)).set (0 + x10.toNat) (([1, 65535] : List Int).getD (0 + y39.toNat) 0)), (x15 ++ ([i64.wrap (1 + y31)] : List Int))) h (Conv.trans (conv_re (S' := ⟨[(0, .c (.ptr 0 3 0 0)), (1, vi64 p1), (4, .c (.ptr 1 3 0 0)), (5, .c (.ptr 2 3 0 0)), (6, vi64 x10)], [(13, .row 3 false 1 (x14 ++ ([i64.wrap (32768 + y27)] : List Int)).length (Ri64 ((x14 ++ ([i64.wrap (32768 + y27)] : List Int)).set (0 + x10.toNat) (([1, 65535] : List Int).getD (0 + y39.toNat) 0)))), (0, .box 60 [cl 1 Ri64 y40.list, ci64 y40.at_, cu64 y40.state]), (2, .box 36 [ci64 (i64.wrap (1 + y1)), .ref 13 1 0 ((x14 ++ ([i64.wrap (32768 + y27)] : List Int)).length), .ref 21 1 0 ((x15 ++ ([i64.wrap (1 + y31)] : List Int)).length)]), (21, .row 3 false 1 (x15 ++ ([i64.wrap (1 + y31)] : List Int)).length (Ri64 (x15 ++ ([i64.wrap (1 + y31)] : List Int)))), (1, .box 36 [ci64 0, .t (.v (.slice none 0 0)), .t (.v (.slice none 0 0))])], 34⟩) [(13, 13), (0, 0), (2, 2), (21, 21), (1, 1)] (by kernel_rfl)) (Conv.trans (conv_len (S' := ⟨[(0, .c (.ptr 0 3 0 0)), (1, vi64 p1), (4, .c (.ptr 1 3 0 0)), (5, .c (.ptr 2 3 0 0)), (6, vi64 x10)], [(13, .row 3 false 1 ((x14 ++ ([i64.wrap (32768 + y27)] : List Int)).set (0 + x10.toNat) (([1, 65535] : List Int).getD (0 + y39.toNat) 0)).length (Ri64 ((x14 ++ ([i64.wrap (32768 + y27)] : List Int)).set (0 + x10.toNat) (([1, 65535] : List Int).getD (0 + y39.toNat) 0)))), (0, .box 60 [cl 1 Ri64 y40.list, ci64 y40.at_, cu64 y40.state]), (2, .box 36 [ci64 (i64.wrap (1 + y1)), .ref 13 1 0 (((x14 ++ ([i64.wrap (32768 + y27)] : List Int)).set (0 + x10.toNat) (([1, 65535] : List Int).getD (0 + y39.toNat) 0)).length), .ref 21 1 0 ((x15 ++ ([i64.wrap (1 + y31)] : List Int)).length)]), (21, .row 3 false 1 (x15 ++ ([i64.wrap (1 + y31)] : List Int)).length (Ri64 (x15 ++ ([i64.wrap (1 + y31)] : List Int)))), (1, .box 36 [ci64 0, .t (.v (.slice none 0 0)), .t (.v (.slice none 0 0))])], 34⟩) (by simp only [List.length_set])) (conv_re [(0, 0), (1, 1), (2, 2), (3, 13), (4, 21)] (by kernel_rfl))))
    ·
     refine AW.skip (AW.inBlock_normal ?_)
     exact jl (y36.list, y36.at_, y36.state, (x14 ++ ([i64.wrap (32768 + y27)] : List Int)), (x15 ++ ([i64.wrap (1 + y31)] : List Int))) h (conv_re [(0, 0), (1, 1), (2, 2), (3, 13), (4, 21)] (by kernel_rfl))
  ·
   refine AW.exit (AW.thenQ_exit ?_)
   exact lpo h rfl (conv_re [(0, 0), (1, 1), (2, 2), (3, 3), (4, 4)] (by kernel_rfl))
 ·
  show (_ : Exit → St → Prop) (.exit 0) _
  refine AW.inBlock_hit (AW.tn ?_)
  refine AW.sg tt_ok0 [] [1] [(1, .box 36 [ci64 (i64.wrap (1 + y1)), .ref 3 1 0 x49.length, .ref 4 1 0 x50.length])] 7 [] (by kernel_rfl) ?_
  refine AW.ret ?_
  obtain rfl := some_inj h
  exact fnR (.inr rfl) [(0, 0)] 1 (.agg [ci64 (i64.wrap (1 + y1)), cl 1 Ri64 x49, cl 1 Ri64 x50]) (Conv.trans (cfz 3 3 1 x49.length (Ri64 x49) (by kernel_rfl)) (Conv.trans (cfz 4 3 1 x50.length (Ri64 x50) (by kernel_rfl)) (conv_box (id := 1) (ty := 36) (cs := [ci64 (i64.wrap (1 + y1)), .ref 3 1 0 x49.length, .ref 4 1 0 x50.length]) (ds := [ci64 (i64.wrap (1 + y1)), cl 1 Ri64 x49, cl 1 Ri64 x50]) (by kernel_rfl) ⟨CLe.refl _ _, CLe.ref (ty := 3) (f := Ri64 x49) (by kernel_rfl) le0, CLe.ref (ty := 3) (f := Ri64 x50) (by kernel_rfl) le0, tv⟩))) (by kernel_rfl)
def ES_api_Model (x : S_api_Model) : List T := [.v (.int .i64 x.Prior), .tree x.Match.length 1 (Ri64 x.Match), .tree x.Random.length 1 (Ri64 x.Random)]
def RS_api_Model (xs : List S_api_Model) : Nat → Nat → T := rowL dS_api_Model ES_api_Model xs
/-! recordlink/recordlinkref24.right -/
noncomputable def rl_ref24_right_k1 (x1 : Bool) : Option Bool := some x1
noncomputable def rl_ref24_right (p0 : Int) : Option Bool := if (decide (p0 ≥ 1)) = true then (rl_ref24_right_k1 (decide (p0 < 65536))) else (rl_ref24_right_k1 false)
set_option maxRecDepth 100000 in
theorem rl_ref24_right_con (p0 : Int) (r : Bool) (h : rl_ref24_right p0 = some r) : Con Try.prog 64 [vi64 p0] [] (vb r) [] := by
 refine con_of tt_ok0 0 Try.func64 (by kernel_rfl) rfl (by kernel_rfl) (fun base X _ => AW.post ?_)
 unfold rl_ref24_right at h
 refine AW.sg tt_ok0 [] [] [] 1 [] (by kernel_rfl) ?_
 refine AW.seq ?_
 refine AW.join (ι := Bool) (fun v => ⟨[(2, vb v)], [], 0⟩) (fun v : Bool => rl_ref24_right_k1 v = some r) (fun x1 h => ?_) ?_
 ·
  unfold rl_ref24_right_k1 at h
  refine AW.tn (AW.ret ?_)
  obtain rfl := some_inj h
  exact fn0 (.inr rfl) [] 0 (vb x1) (by kernel_rfl)
 ·
  rcases ifs h with ⟨c2, h⟩ | ⟨c2, h⟩
  ·
   refine AW.rg tt_ok0 [(2, vb (decide (p0 < 65536)))] [] [] 8 [hn, ht c2] (by kernel_rfl) ?_
   exact jl (decide (p0 < 65536)) h (conv_re [] (by kernel_rfl))
  ·
   refine AW.rg tt_ok0 [(2, vb false)] [] [] 8 [hn, hf c2] (by kernel_rfl) ?_
   exact jl false h (conv_re [] (by kernel_rfl))
/-! recordlink/recordlinkref24.Check -/
noncomputable def rl_ref24_Check_k3 (x4 : Int) (x6 : Bool) : Option (Int ⊕ (Unit ⊕ Unit)) := if x6 = true then (some (.inr (.inr ()))) else (some (.inl (i64.wrap (x4 + 1))))
noncomputable def rl_ref24_Check_l2 (p0 : S_api_Model) (x4 : Int) : Option (Int ⊕ (Unit ⊕ Unit)) := if (decide (x4 < ((p0.Match.length : Nat) : Int))) = true then (if 0 ≤ x4 then (if x4 < ((p0.Match.length : Nat) : Int) then ((rl_ref24_right (p0.Match.getD x4.toNat 0)).bind fun y10 => (if (!y10) = true then (rl_ref24_Check_k3 x4 true) else (if x4 < ((p0.Random.length : Nat) : Int) then ((rl_ref24_right (p0.Random.getD x4.toNat 0)).bind fun y14 => (rl_ref24_Check_k3 x4 (!y14))) else none))) else none) else none) else (some (.inr (.inl ())))
noncomputable def rl_ref24_Check_a4 : Option Int := some 0
noncomputable def rl_ref24_Check_a5 : Option Int := some 18
noncomputable def rl_ref24_Check_k1 (p0 : S_api_Model) (x1 : Bool) : Option Int := if x1 = true then (some 18) else (bindE (loop (fun v : Int => rl_ref24_Check_l2 p0 v) 0) (fun t => rl_ref24_Check_a4) (fun t => rl_ref24_Check_a5))
noncomputable def rl_ref24_Check (p0 : S_api_Model) : Option Int := if (decide (((p0.Match.length : Nat) : Int) < 1)) = true then (rl_ref24_Check_k1 p0 true) else (if (decide (((p0.Match.length : Nat) : Int) > 5)) = true then (rl_ref24_Check_k1 p0 true) else (if (((p0.Random.length : Nat) : Int) != ((p0.Match.length : Nat) : Int)) = true then (rl_ref24_Check_k1 p0 true) else ((rl_ref24_right p0.Prior).bind fun y20 => (rl_ref24_Check_k1 p0 (!y20)))))
set_option maxRecDepth 100000 in
theorem rl_ref24_Check_con (p0 : S_api_Model) (r : Int) (h : rl_ref24_Check p0 = some r) : Con Try.prog 43 [.agg [ci64 p0.Prior, cl 1 Ri64 p0.Match, cl 1 Ri64 p0.Random]] [] (vi64 r) [] := by
 refine con_of tt_ok0 0 Try.func43 (by kernel_rfl) rfl (by kernel_rfl) (fun base X _ => AW.post ?_)
 unfold rl_ref24_Check at h
 refine AW.sg tt_ok0 [(1, .c (.ptr 0 3 0 0))] [0] [(0, .box 36 [ci64 p0.Prior, cl 1 Ri64 p0.Match, cl 1 Ri64 p0.Random])] 2 [] (by kernel_rfl) ?_
 refine AW.seq (AW.seq ?_)
 refine AW.join (ι := Bool) (fun v => ⟨[(1, .c (.ptr 0 3 0 0)), (28, vb v)], [(0, .box 36 [ci64 p0.Prior, cl 1 Ri64 p0.Match, cl 1 Ri64 p0.Random])], 1⟩) (fun v : Bool => rl_ref24_Check_k1 p0 v = some r) (fun x1 h => ?_) ?_
 ·
  unfold rl_ref24_Check_k1 at h
  refine AW.tn ?_
  refine AW.co h (by kernel_rfl) (fun c2 h => ?_) (fun c2 h => ?_)
  ·
   refine AW.sg tt_ok0 [(2, vi64 18)] [] [] 2 [] (by kernel_rfl) ?_
   refine AW.ret (AW.tr ?_)
   obtain rfl := some_inj h
   exact fn0 (.inr rfl) [] 0 (vi64 18) (by kernel_rfl)
  ·
   refine AW.skip (AW.tn (AW.seq ?_))
   refine AW.sg tt_ok0 [(3, vi64 0)] [] [] 2 [] (by kernel_rfl) ?_
   refine AW.block ?_
   refine AW.lpE h (fun v => ⟨[(1, .c (.ptr 0 3 0 0)), (3, vi64 v)], [(0, .box 36 [ci64 p0.Prior, cl 1 Ri64 p0.Match, cl 1 Ri64 p0.Random])], 1⟩) (fun t => (.exit 0, ⟨[], [], 0⟩)) (fun t => (.ret, ⟨[(2, vi64 18)], [], 0⟩)) (conv_re [(0, 0)] (by kernel_rfl)) (fun _ => tv) (fun _ => tv) ?_ (fun t h => ?_) (fun t h => ?_)
   ·
    clear h
    intro x4 o h
    unfold rl_ref24_Check_l2 at h
    refine AW.seq ?_
    refine AW.sg tt_ok0 [(33, vb (decide (x4 < ((p0.Match.length : Nat) : Int))))] [] [] 6 [] (by kernel_rfl) ?_
    refine AW.co h (by kernel_rfl) (fun c5 h => ?_) (fun c5 h => ?_)
    ·
     refine AW.skip (AW.tn ?_)
     refine AW.seq (AW.block (AW.seq ?_))
     refine AW.join (ι := Bool) (fun v => ⟨[(1, .c (.ptr 0 3 0 0)), (3, vi64 x4), (51, vb v)], [(0, .box 36 [ci64 p0.Prior, cl 1 Ri64 p0.Match, cl 1 Ri64 p0.Random])], 1⟩) (fun v : Bool => rl_ref24_Check_k3 x4 v = some o) (fun x6 h => ?_) ?_
     ·
      unfold rl_ref24_Check_k3 at h
      refine AW.tn ?_
      refine AW.co h (by kernel_rfl) (fun c7 h => ?_) (fun c7 h => ?_)
      ·
       refine AW.sg tt_ok0 [(2, vi64 18)] [] [] 2 [] (by kernel_rfl) ?_
       refine AW.ret (AW.inBlock_ret (AW.tr ?_))
       exact lpo h rfl (conv_re [] (by kernel_rfl))
      ·
       refine AW.skip (AW.inBlock_normal (AW.tn ?_))
       refine AW.rg tt_ok0 [(3, vi64 (i64.wrap (x4 + 1)))] [] [] 4 [] (by kernel_rfl) ?_
       exact lpn h (conv_re [(0, 0)] (by kernel_rfl))
     ·
      obtain ⟨g8, g9, h⟩ := ifd h
      obtain ⟨y10, e11, h⟩ := bnd_some h
      rcases ifs h with ⟨c12, h⟩ | ⟨c12, h⟩
      ·
       refine AW.rg tt_ok0 [(51, vb true)] [] [] 21 [hn, hn, hn, hq g8 g9, hn, hk (rl_ref24_right_con (p0.Match.getD x4.toNat 0) y10 e11), ht c12] (by kernel_rfl) ?_
       exact jl true h (conv_re [(0, 0)] (by kernel_rfl))
      ·
       obtain ⟨g13, h⟩ := ifc h
       obtain ⟨y14, e15, h⟩ := bnd_some h
       refine AW.rg tt_ok0 [(51, vb (!y14))] [] [] 20 [hn, hn, hn, hq g8 g9, hn, hk (rl_ref24_right_con (p0.Match.getD x4.toNat 0) y10 e11), hf c12, hn, hn, hn, hn, hq g8 g13, hn, hk (rl_ref24_right_con (p0.Random.getD x4.toNat 0) y14 e15)] (by kernel_rfl) ?_
       exact jl (!y14) h (conv_re [(0, 0)] (by kernel_rfl))
    ·
     refine AW.exit (AW.thenQ_exit ?_)
     exact lpo h rfl (conv_re [] (by kernel_rfl))
   ·
    replace h : rl_ref24_Check_a4 = some r := h
    unfold rl_ref24_Check_a4 at h
    show (_ : Exit → St → Prop) (.exit 0) _
    refine AW.inBlock_hit (AW.tn ?_)
    refine AW.sg tt_ok0 [(2, vi64 0)] [] [] 1 [] (by kernel_rfl) ?_
    refine AW.ret ?_
    obtain rfl := some_inj h
    exact fn0 (.inr rfl) [] 0 (vi64 0) (by kernel_rfl)
   ·
    replace h : rl_ref24_Check_a5 = some r := h
    unfold rl_ref24_Check_a5 at h
    show (_ : Exit → St → Prop) (.ret) _
    refine AW.inBlock_ret (AW.tr ?_)
    obtain rfl := some_inj h
    exact fn0 (.inr rfl) [] 0 (vi64 18) (by kernel_rfl)
 ·
  rcases ifs h with ⟨c17, h⟩ | ⟨c17, h⟩
  ·
   refine AW.rg tt_ok0 [(28, vb true)] [] [] 27 [hn, hn, hn, ht c17] (by kernel_rfl) ?_
   exact jl true h (conv_re [(0, 0)] (by kernel_rfl))
  ·
   rcases ifs h with ⟨c18, h⟩ | ⟨c18, h⟩
   ·
    refine AW.rg tt_ok0 [(28, vb true)] [] [] 27 [hn, hn, hn, hf c17, hn, hn, hn, hn, ht c18] (by kernel_rfl) ?_
    exact jl true h (conv_re [(0, 0)] (by kernel_rfl))
   ·
    rcases ifs h with ⟨c19, h⟩ | ⟨c19, h⟩
    ·
     refine AW.rg tt_ok0 [(28, vb true)] [] [] 27 [hn, hn, hn, hf c17, hn, hn, hn, hn, hf c18, hn, hn, hn, hn, hn, hn, hn, hn, ht c19] (by kernel_rfl) ?_
     exact jl true h (conv_re [(0, 0)] (by kernel_rfl))
    ·
     obtain ⟨y20, e21, h⟩ := bnd_some h
     refine AW.rg tt_ok0 [(28, vb (!y20))] [] [] 26 [hn, hn, hn, hf c17, hn, hn, hn, hn, hf c18, hn, hn, hn, hn, hn, hn, hn, hn, hf c19, hn, hn, hn, hn, hk (rl_ref24_right_con p0.Prior y20 e21)] (by kernel_rfl) ?_
     exact jl (!y20) h (conv_re [(0, 0)] (by kernel_rfl))
/-! recordlink/recordlinkref25.Of -/
noncomputable def rl_ref25_Of_l1 (p0 : S_api_Model) (x10 : Int) (x11 : List Int) (x12 : List Int) : Option ((Int × (List Int) × (List Int)) ⊕ ((List Int) × (List Int))) := if (decide (x10 < ((p0.Match.length : Nat) : Int))) = true then (if 0 ≤ x10 then (if x10 < ((p0.Match.length : Nat) : Int) then (if x10 < ((p0.Random.length : Nat) : Int) then (bind2 (rl_ref25_Log (p0.Match.getD x10.toNat 0) (p0.Random.getD x10.toNat 0)) fun y19 y20 => (bind2 (rl_ref25_Log (i64.wrap (65536 - (p0.Match.getD x10.toNat 0))) (i64.wrap (65536 - (p0.Random.getD x10.toNat 0)))) fun y22 y23 => (if x11.length + ([y19] : List Int).length ≤ 1099511627776 then (if x12.length + ([y22] : List Int).length ≤ 1099511627776 then (some (.inl (i64.wrap (x10 + 1), (x11 ++ ([y19] : List Int)), (x12 ++ ([y22] : List Int))))) else none) else none))) else none) else none) else none) else (some (.inr (x11, x12)))
noncomputable def rl_ref25_Of (p0 : S_api_Model) : Option (S_api_Weights × Int) := (rl_ref24_Check p0).bind fun y1 => (if (y1 != 0) = true then (some ((⟨0, ([] : List Int), ([] : List Int)⟩ : S_api_Weights), y1)) else (bind2 (rl_ref25_Log p0.Prior (i64.wrap (65536 - p0.Prior))) fun y4 y5 => (bind2 (loop (fun v : Int × (List Int) × (List Int) => rl_ref25_Of_l1 p0 v.1 v.2.1 v.2.2) (0, ([] : List Int), ([] : List Int))) fun x27 x28 => (some ((⟨y4, x27, x28⟩ : S_api_Weights), 0)))))
set_option maxRecDepth 100000 in
theorem rl_ref25_Of_con (p0 : S_api_Model) (r : S_api_Weights × Int) (h : rl_ref25_Of p0 = some r) : Con Try.prog 22 [.agg [ci64 p0.Prior, cl 1 Ri64 p0.Match, cl 1 Ri64 p0.Random]] [] (.tup [.agg [ci64 r.1.Prior, .ref 0 1 0 r.1.Agree.length, .ref 1 1 0 r.1.Differ.length], vi64 r.2]) [(0, .row 3 false 1 r.1.Agree.length (Ri64 r.1.Agree)), (1, .row 3 false 1 r.1.Differ.length (Ri64 r.1.Differ))] := by
 refine con_of tt_ok0 0 Try.func22 (by kernel_rfl) rfl (by kernel_rfl) (fun base X _ => AW.post ?_)
 unfold rl_ref25_Of at h
 refine AW.sg tt_ok0 [(2, .c (.ptr 1 3 0 0)), (1, .c (.ptr 0 3 0 0))] [0, 1] [(1, .box 40 [ci64 0, .t (.v (.slice none 0 0)), .t (.v (.slice none 0 0))]), (0, .box 36 [ci64 p0.Prior, cl 1 Ri64 p0.Match, cl 1 Ri64 p0.Random])] 3 [] (by kernel_rfl) ?_
 refine AW.seq ?_
 obtain ⟨y1, e2, h⟩ := bnd_some h
 refine AW.sg tt_ok0 [(4, vi64 y1)] [] [] 5 [hn, hk (rl_ref24_Check_con p0 y1 e2)] (by kernel_rfl) ?_
 refine AW.sg tt_ok0 [(14, vb (y1 != 0))] [] [] 7 [] (by kernel_rfl) ?_
 refine AW.co h (by kernel_rfl) (fun c3 h => ?_) (fun c3 h => ?_)
 ·
  refine AW.sg tt_ok0 [(3, vi64 y1)] [1] [(1, .box 40 [ci64 0, .t (.v (.slice none 0 0)), .t (.v (.slice none 0 0))])] 11 [] (by kernel_rfl) ?_
  refine AW.ret (AW.tr ?_)
  obtain rfl := some_inj h
  exact fnR (.inr rfl) [(0, 11), (1, 12)] 2 (.tup [.agg [ci64 0, .ref 11 1 0 (([] : List Int).length), .ref 12 1 0 (([] : List Int).length)], vi64 y1]) (Conv.trans (conv_adoptB (id := 1) (ty0 := 40) (cs := [ci64 0, .t (.v (.slice none 0 0)), .t (.v (.slice none 0 0))]) 1 (ty := 3) (sz := 1) (n := ([] : List Int).length) (f := Ri64 ([] : List Int)) (by kernel_rfl) (by kernel_rfl) rfl) (conv_adoptB (id := 1) (ty0 := 40) (cs := [ci64 0, .ref 11 1 0 (([] : List Int).length), .t (.v (.slice none 0 0))]) 2 (ty := 3) (sz := 1) (n := ([] : List Int).length) (f := Ri64 ([] : List Int)) (by kernel_rfl) (by kernel_rfl) rfl)) (by kernel_rfl)
 ·
  refine AW.skip (AW.tn ?_)
  refine AW.sg tt_ok0 [(5, .c (.ptr 7 3 0 0))] [7] [(7, .box 40 [ci64 0, .t (.v (.slice none 0 0)), .t (.v (.slice none 0 0))])] 8 [] (by kernel_rfl) ?_
  obtain ⟨y4, y5, e6, h⟩ := bind2_some h
  refine AW.sg tt_ok0 [] [7] [(7, .box 40 [ci64 y4, .t (.v (.slice none 0 0)), .t (.v (.slice none 0 0))])] 18 [hn, hn, hn, hn, hn, hk (rl_ref25_Log_con p0.Prior (i64.wrap (65536 - p0.Prior)) (y4, y5) e6)] (by kernel_rfl) ?_
  refine AW.seq ?_
  refine AW.sg tt_ok0 [(6, vi64 0)] [] [] 19 [] (by kernel_rfl) ?_
  refine AW.block ?_
  obtain ⟨x27, x28, l29, h⟩ := bind2_some h
  refine AW.lp l29 (fun v => ⟨[(1, .c (.ptr 0 3 0 0)), (2, .c (.ptr 1 3 0 0)), (5, .c (.ptr 2 3 0 0)), (6, vi64 v.1)], [(0, .box 36 [ci64 p0.Prior, cl 1 Ri64 p0.Match, cl 1 Ri64 p0.Random]), (1, .box 40 [ci64 0, .t (.v (.slice none 0 0)), .t (.v (.slice none 0 0))]), (2, .box 40 [ci64 y4, .ref 3 1 0 v.2.1.length, .ref 4 1 0 v.2.2.length]), (3, .row 3 false 1 v.2.1.length (Ri64 v.2.1)), (4, .row 3 false 1 v.2.2.length (Ri64 v.2.2))], 5⟩) (fun t : (List Int) × (List Int) => (.exit 0, ⟨[(2, .c (.ptr 0 3 0 0)), (5, .c (.ptr 1 3 0 0))], [(0, .box 40 [ci64 0, .t (.v (.slice none 0 0)), .t (.v (.slice none 0 0))]), (1, .box 40 [ci64 y4, .ref 2 1 0 t.1.length, .ref 3 1 0 t.2.length]), (2, .row 3 false 1 t.1.length (Ri64 t.1)), (3, .row 3 false 1 t.2.length (Ri64 t.2))], 4⟩)) (Conv.trans (conv_adoptB (id := 7) (ty0 := 40) (cs := [ci64 y4, .t (.v (.slice none 0 0)), .t (.v (.slice none 0 0))]) 1 (ty := 3) (sz := 1) (n := ([] : List Int).length) (f := Ri64 ([] : List Int)) (by kernel_rfl) (by kernel_rfl) rfl) (Conv.trans (conv_adoptB (id := 7) (ty0 := 40) (cs := [ci64 y4, .ref 19 1 0 (([] : List Int).length), .t (.v (.slice none 0 0))]) 2 (ty := 3) (sz := 1) (n := ([] : List Int).length) (f := Ri64 ([] : List Int)) (by kernel_rfl) (by kernel_rfl) rfl) (conv_re [(0, 0), (1, 1), (2, 7), (3, 19), (4, 20)] (by kernel_rfl)))) (fun _ => tv) ?_ ?_
  ·
   clear l29 h
   intro v o h
   obtain ⟨x10, x11, x12⟩ := v
   replace h : rl_ref25_Of_l1 p0 x10 x11 x12 = some o := h
   unfold rl_ref25_Of_l1 at h
   refine AW.seq ?_
   refine AW.sg tt_ok0 [(31, vb (decide (x10 < ((p0.Match.length : Nat) : Int))))] [] [] 10 [] (by kernel_rfl) ?_
   refine AW.co h (by kernel_rfl) (fun c15 h => ?_) (fun c15 h => ?_)
   ·
    refine AW.skip (AW.tn ?_)
    refine AW.seq (AW.block ?_)
    obtain ⟨g16, g17, h⟩ := ifd h
    obtain ⟨g18, h⟩ := ifc h
    obtain ⟨y19, y20, e21, h⟩ := bind2_some h
    refine AW.sd tt_ok0 mo0 [] [(7, vi64 y19)] [] 25 [hn, hn, hn, hq g16 g17, hn, hn, hn, hn, hq g16 g18, hn, hk (rl_ref25_Log_con (p0.Match.getD x10.toNat 0) (p0.Random.getD x10.toNat 0) (y19, y20) e21)] (by kernel_rfl) ?_
    obtain ⟨y22, y23, e24, h⟩ := bind2_some h
    refine AW.sd tt_ok0 mo0 [] [(9, vi64 y22)] [] 42 [hn, hn, hn, hq g16 g17, hn, hn, hn, hn, hn, hq g16 g18, hn, hn, hk (rl_ref25_Log_con (i64.wrap (65536 - (p0.Match.getD x10.toNat 0))) (i64.wrap (65536 - (p0.Random.getD x10.toNat 0))) (y22, y23) e24)] (by kernel_rfl) ?_
    obtain ⟨g25, g26, h⟩ := ifd h
    refine AW.rd tt_ok0 mo0 [[], [], [], [45], [46, 3], [], [], [], [50], [51, 4], [], [2], [], [2]] [] [(2, .box 40 [ci64 y4, .ref 46 1 0 ((x11 ++ ([y19] : List Int)).length), .ref 51 1 0 ((x12 ++ ([y22] : List Int)).length)]), (51, .row 3 false 1 (x12 ++ ([y22] : List Int)).length (Ri64 (x12 ++ ([y22] : List Int)))), (46, .row 3 false 1 (x11 ++ ([y19] : List Int)).length (Ri64 (x11 ++ ([y19] : List Int))))] 56 [hn, hn, hn, hlit 0 Ei64 1 (fun _ => rfl) ([y19] : List Int), happ 0 Ei64 1 8 x11 ([y19] : List Int) g25 (by decide), hn, hn, hn, hlit 0 Ei64 1 (fun _ => rfl) ([y22] : List Int), happ 0 Ei64 1 8 x12 ([y22] : List Int) g26 (by decide)] (by kernel_rfl) ?_
    refine AW.inBlock_normal (AW.tn ?_)
    refine AW.rg tt_ok0 [(6, vi64 (i64.wrap (x10 + 1)))] [] [] 59 [] (by kernel_rfl) ?_
    exact lpn h (conv_re [(0, 0), (1, 1), (2, 2), (3, 46), (4, 51)] (by kernel_rfl))
   ·
    refine AW.exit (AW.thenQ_exit ?_)
    exact lpo h rfl (conv_re [(0, 1), (1, 2), (2, 3), (3, 4)] (by kernel_rfl))
  ·
   show (_ : Exit → St → Prop) (.exit 0) _
   refine AW.inBlock_hit (AW.tn ?_)
   refine AW.sg tt_ok0 [(3, vi64 0)] [0] [(0, .box 40 [ci64 y4, .ref 2 1 0 x27.length, .ref 3 1 0 x28.length])] 7 [] (by kernel_rfl) ?_
   refine AW.ret ?_
   obtain rfl := some_inj h
   exact fn0 (.inr rfl) [(0, 2), (1, 3)] 2 (.tup [.agg [ci64 y4, .ref 2 1 0 x27.length, .ref 3 1 0 x28.length], vi64 0]) (by kernel_rfl)
end Go.Proofs.Ytafmpnilgknfhaa
