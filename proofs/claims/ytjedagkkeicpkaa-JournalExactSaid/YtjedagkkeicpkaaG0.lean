/- Printed by a program of mine (vmgen.py): Go functions, and what they come to. -/
import Derived.Test.YtjedagkkeicpkaaVr
import Derived.Test.YtjedagkkeicpkaaRows
namespace Go.Proofs.Ytjedagkkeicpkaa
open Vm
open IntKind (i64 u64 u32 u8)
set_option maxHeartbeats 10000000
set_option linter.unusedVariables false
set_option linter.unusedSimpArgs false
set_option linter.constructorNameAsVariable false
def ttl0 : List (Nat × TI) := [(3, ⟨.int .i64, 1, 8, [.int .i64 0], false⟩), (4, ⟨.bool, 1, 1, [.bool false], false⟩), (5, ⟨.int .u8, 1, 1, [.int .u8 0], false⟩), (9, ⟨.str, 1, 16, [.string ⟨#[]⟩], false⟩), (22, ⟨.slice 3, 1, 24, [.slice none 0 0], false⟩), (23, ⟨.int .u64, 1, 8, [.int .u64 0], false⟩), (26, ⟨.ptr 49, 1, 8, [.pointer none], false⟩), (28, ⟨.slice 9, 1, 24, [.slice none 0 0], false⟩), (31, ⟨.slice 5, 1, 24, [.slice none 0 0], false⟩), (34, ⟨.int .i64, 1, 8, [.int .i64 0], false⟩), (45, ⟨.int .u64, 1, 8, [.int .u64 0], false⟩), (49, ⟨.struct [(22, 0), (3, 1), (23, 2)], 3, 40, [.slice none 0 0, .int .i64 0, .int .u64 0], false⟩), (52, ⟨.struct [(23, 0), (23, 1)], 2, 16, [.int .u64 0, .int .u64 0], true⟩), (62, ⟨.struct [(23, 0), (23, 1), (23, 2), (23, 3)], 4, 32, [.int .u64 0, .int .u64 0, .int .u64 0, .int .u64 0], true⟩), (66, ⟨.arr 4 23, 4, 32, [.int .u64 0, .int .u64 0, .int .u64 0, .int .u64 0], true⟩)]
theorem tt_ok0 : TTok Try.prog (Vm.look ttl0) := ttok_of ⟨⟨by kernel_rfl, by kernel_rfl, by kernel_rfl⟩, ⟨by kernel_rfl, by kernel_rfl, by kernel_rfl⟩, ⟨by kernel_rfl, by kernel_rfl, by kernel_rfl⟩, ⟨by kernel_rfl, by kernel_rfl, by kernel_rfl⟩, ⟨by kernel_rfl, by kernel_rfl, by kernel_rfl⟩, ⟨by kernel_rfl, by kernel_rfl, by kernel_rfl⟩, ⟨by kernel_rfl, by kernel_rfl, by kernel_rfl⟩, ⟨by kernel_rfl, by kernel_rfl, by kernel_rfl⟩, ⟨by kernel_rfl, by kernel_rfl, by kernel_rfl⟩, ⟨by kernel_rfl, by kernel_rfl, by kernel_rfl⟩, ⟨by kernel_rfl, by kernel_rfl, by kernel_rfl⟩, ⟨by kernel_rfl, by kernel_rfl, by kernel_rfl⟩, ⟨by kernel_rfl, by kernel_rfl, by kernel_rfl⟩, ⟨by kernel_rfl, by kernel_rfl, by kernel_rfl⟩, ⟨by kernel_rfl, by kernel_rfl, by kernel_rfl⟩, trivial⟩
theorem mo0 : Try.prog.follows .mixedOrders = true := by kernel_rfl
def Eu8 (x : Int) : List T := [.v (.int .u8 x)]
def Ru8 (xs : List Int) : Nat → Nat → T := rowL 0 Eu8 xs
theorem Vu8 : ∀ x, allV (Eu8 x) := fun _ => ⟨tv, tv⟩
/-! recordlink/journal.put -/
noncomputable def journal_put_nil_l1 (p1 : Int) (x3 : List Int) (x4 : Int) : Option (((List Int) × Int) ⊕ (List Int)) := if (decide (x4 ≥ 0)) = true then (if 0 ≤ (i64.wrap (8 * x4)) then (if x3.length + ([u8.wrap (ishr .u64 p1 (i64.wrap (8 * x4)))] : List Int).length ≤ 1099511627776 then (some (.inl ((x3 ++ ([u8.wrap (ishr .u64 p1 (i64.wrap (8 * x4)))] : List Int)), i64.wrap (x4 - 1)))) else none) else none) else (some (.inr x3))
noncomputable def journal_put_nil (p1 : Int) (p2 : Int) : Option (List Int) := (loop (fun v : (List Int) × Int => journal_put_nil_l1 p1 v.1 v.2) (([] : List Int), i64.wrap (p2 - 1))).bind fun x9 => (some x9)
set_option maxRecDepth 100000 in
theorem journal_put_nil_con (p1 : Int) (p2 : Int) (r : List Int) (h : journal_put_nil p1 p2 = some r) : Con Try.prog 26 [.c (.t (.v (.slice none 0 0))), vu64 p1, vi64 p2] [] (.c (.ref 0 1 0 r.length)) [(0, .row 5 false 1 r.length (Ru8 r))] := by
 refine con_of tt_ok0 0 Try.func26 (by kernel_rfl) rfl (by kernel_rfl) (fun base X _ => AW.post ?_)
 unfold journal_put_nil at h
 refine AW.sg tt_ok0 [] [] [] 1 [] (by kernel_rfl) ?_
 refine AW.seq ?_
 refine AW.sg tt_ok0 [(7, vi64 (i64.wrap (p2 - 1)))] [] [] 4 [] (by kernel_rfl) ?_
 refine AW.block ?_
 obtain ⟨x9, l10, h⟩ := bnd_some h
 refine AW.lp l10 (fun v => ⟨[(0, .c (.ref 0 1 0 v.1.length)), (1, vu64 p1), (7, vi64 v.2)], [(0, .row 5 false 1 v.1.length (Ru8 v.1))], 1⟩) (fun t : List Int => (.exit 0, ⟨[(0, .c (.ref 0 1 0 t.length))], [(0, .row 5 false 1 t.length (Ru8 t))], 1⟩)) (Conv.trans (conv_adopt (t := 0) (ty := 5) (sz := 1) (n := ([] : List Int).length) (f := Ru8 ([] : List Int)) (by kernel_rfl) rfl) (conv_re [(0, 4)] (by kernel_rfl))) (fun _ => tv) ?_ ?_
 ·
  clear l10 h
  intro v o h
  obtain ⟨x3, x4⟩ := v
  replace h : journal_put_nil_l1 p1 x3 x4 = some o := h
  unfold journal_put_nil_l1 at h
  refine AW.seq ?_
  refine AW.sg tt_ok0 [(11, vb (decide (x4 ≥ 0)))] [] [] 3 [] (by kernel_rfl) ?_
  refine AW.co h (by kernel_rfl) (fun c6 h => ?_) (fun c6 h => ?_)
  ·
   refine AW.skip (AW.tn ?_)
   refine AW.seq (AW.block ?_)
   obtain ⟨g7, g8, h⟩ := ifd h
   refine AW.rg tt_ok0 [(0, .c (.ref 10 1 0 ((x3 ++ ([u8.wrap (ishr .u64 p1 (i64.wrap (8 * x4)))] : List Int)).length)))] [0, 9, 10] [(10, .row 5 false 1 (x3 ++ ([u8.wrap (ishr .u64 p1 (i64.wrap (8 * x4)))] : List Int)).length (Ru8 (x3 ++ ([u8.wrap (ishr .u64 p1 (i64.wrap (8 * x4)))] : List Int))))] 12 [hn, hn, hn, hn, ho g7, hn, hlit 0 Eu8 1 (fun _ => rfl) ([u8.wrap (ishr .u64 p1 (i64.wrap (8 * x4)))] : List Int), happ 0 Eu8 1 1 x3 ([u8.wrap (ishr .u64 p1 (i64.wrap (8 * x4)))] : List Int) g8 (by decide)] (by kernel_rfl) ?_
   refine AW.inBlock_normal (AW.tn ?_)
   refine AW.rg tt_ok0 [(7, vi64 (i64.wrap (x4 - 1)))] [] [] 15 [] (by kernel_rfl) ?_
   exact lpn h (conv_re [(0, 10)] (by kernel_rfl))
  ·
   refine AW.exit (AW.thenQ_exit ?_)
   exact lpo h rfl (conv_re [(0, 0)] (by kernel_rfl))
 ·
  show (_ : Exit → St → Prop) (.exit 0) _
  refine AW.inBlock_hit (AW.tn ?_)
  refine AW.sg tt_ok0 [(6, .c (.ref 0 1 0 x9.length))] [] [] 3 [] (by kernel_rfl) ?_
  refine AW.ret ?_
  obtain rfl := some_inj h
  exact fn0 (.inr rfl) [(0, 0)] 1 (.c (.ref 0 1 0 x9.length)) (by kernel_rfl)
structure S_api_Key where
 A : Int
 B : Int
def dS_api_Key : S_api_Key := ⟨0, 0⟩
instance : Inhabited S_api_Key := ⟨dS_api_Key⟩
/-! recordlink/siphash.number -/
noncomputable def siphash_number_l1 (p0 : List Int) (x3 : Int) (x4 : Int) : Option ((Int × Int) ⊕ Int) := if (decide (x4 < (p0.length : Int))) = true then (if 0 ≤ x4 then (if x4 < (p0.length : Int) then (if 0 ≤ (i64.wrap (8 * x4)) then ((some (ior .u64 x3 (ishl .u64 (u64.wrap (p0.getD x4.toNat 0)) (i64.wrap (8 * x4))))).bind fun z10 => (some (.inl (z10, i64.wrap (x4 + 1))))) else none) else none) else none) else (some (.inr x3))
noncomputable def siphash_number (p0 : List Int) : Option Int := (loop (fun v : Int × Int => siphash_number_l1 p0 v.1 v.2) (0, 0)).bind fun x12 => (some x12)
set_option maxRecDepth 100000 in
theorem siphash_number_con (p0 : List Int) (r : Int) (h : siphash_number p0 = some r) : Con Try.prog 35 [vl 1 Ru8 p0] [] (vu64 r) [] := by
 refine con_of tt_ok0 0 Try.func35 (by kernel_rfl) rfl (by kernel_rfl) (fun base X _ => AW.post ?_)
 unfold siphash_number at h
 refine AW.sg tt_ok0 [] [] [] 1 [] (by kernel_rfl) ?_
 refine AW.sg tt_ok0 [(3, vu64 0)] [] [] 2 [] (by kernel_rfl) ?_
 refine AW.seq ?_
 refine AW.sg tt_ok0 [(8, vi64 0), (7, vi64 (p0.length : Int)), (6, vl 1 Ru8 p0)] [] [] 5 [] (by kernel_rfl) ?_
 refine AW.block ?_
 obtain ⟨x12, l13, h⟩ := bnd_some h
 refine AW.lp l13 (fun v => ⟨[(3, vu64 v.1), (6, vl 1 Ru8 p0), (7, vi64 (p0.length : Int)), (8, vi64 v.2)], [], 0⟩) (fun t : Int => (.exit 0, ⟨[(3, vu64 t)], [], 0⟩)) (conv_re [] (by kernel_rfl)) (fun _ => tv) ?_ ?_
 ·
  clear l13 h
  intro v o h
  obtain ⟨x3, x4⟩ := v
  replace h : siphash_number_l1 p0 x3 x4 = some o := h
  unfold siphash_number_l1 at h
  refine AW.sg tt_ok0 [(9, vb (decide (x4 < (p0.length : Int))))] [] [] 1 [] (by kernel_rfl) ?_
  refine AW.seq ?_
  refine AW.co h (by kernel_rfl) (fun c6 h => ?_) (fun c6 h => ?_)
  ·
   refine AW.skip (AW.tn ?_)
   refine AW.seq (AW.block ?_)
   obtain ⟨g7, g8, h⟩ := ifd h
   refine AW.sg tt_ok0 [(5, vu8 (p0.getD x4.toNat 0)), (4, vi64 x4)] [] [] 6 [hn, hq g7 g8] (by kernel_rfl) ?_
   obtain ⟨g9, h⟩ := ifc h
   obtain ⟨z10, n11, h⟩ := bnd_some h
   replace n11 := some_inj n11
   refine AW.rg tt_ok0 [(3, vu64 z10)] [] [] 14 [hn, hn, hn, hn, hn, ho g9] (by subst n11; kernel_rfl) ?_
   refine AW.inBlock_normal (AW.tn ?_)
   refine AW.rg tt_ok0 [(8, vi64 (i64.wrap (x4 + 1)))] [] [] 16 [] (by kernel_rfl) ?_
   exact lpn h (conv_re [] (by kernel_rfl))
  ·
   refine AW.exit (AW.thenQ_exit ?_)
   exact lpo h rfl (conv_re [] (by kernel_rfl))
 ·
  show (_ : Exit → St → Prop) (.exit 0) _
  refine AW.inBlock_hit (AW.tn ?_)
  refine AW.sg tt_ok0 [(2, vu64 x12)] [] [] 2 [] (by kernel_rfl) ?_
  refine AW.ret ?_
  obtain rfl := some_inj h
  exact fn0 (.inr rfl) [] 0 (vu64 x12) (by kernel_rfl)
structure S_siphash_state where
 a : Int
 b : Int
 c : Int
 d : Int
def dS_siphash_state : S_siphash_state := ⟨0, 0, 0, 0⟩
instance : Inhabited S_siphash_state := ⟨dS_siphash_state⟩
/-! math/bits.RotateLeft64 -/
noncomputable def bits_RotateLeft64 (p0 : Int) (p1 : Int) : Option Int := if 0 ≤ (iand .u64 (u64.wrap p1) 63) then (if 0 ≤ (u64.wrap (64 - (iand .u64 (u64.wrap p1) 63))) then ((some (ior .u64 (ishl .u64 p0 (iand .u64 (u64.wrap p1) 63)) (ishr .u64 p0 (u64.wrap (64 - (iand .u64 (u64.wrap p1) 63)))))).bind fun z3 => (some z3)) else none) else none
set_option maxRecDepth 100000 in
theorem bits_RotateLeft64_con (p0 : Int) (p1 : Int) (r : Int) (h : bits_RotateLeft64 p0 p1 = some r) : Con Try.prog 39 [vu64 p0, vi64 p1] [] (vu64 r) [] := by
 refine con_of tt_ok0 0 Try.func39 (by kernel_rfl) rfl (by kernel_rfl) (fun base X _ => AW.post ?_)
 unfold bits_RotateLeft64 at h
 refine AW.sg tt_ok0 [] [] [] 1 [] (by kernel_rfl) ?_
 refine AW.sg tt_ok0 [(5, vu64 (iand .u64 (u64.wrap p1) 63))] [] [] 5 [] (by kernel_rfl) ?_
 obtain ⟨g1, g2, h⟩ := ifd h
 obtain ⟨z3, n4, h⟩ := bnd_some h
 replace n4 := some_inj n4
 refine AW.sg tt_ok0 [(4, vu64 z3)] [] [] 14 [hn, hn, ho g1, hn, hn, hn, ho g2] (by subst n4; kernel_rfl) ?_
 refine AW.ret ?_
 obtain rfl := some_inj h
 exact fn0 (.inr rfl) [] 0 (vu64 z3) (by kernel_rfl)
/-! (*recordlink/siphash.state).rounds -/
noncomputable def siphash_state_rounds_l1 (p1 : Int) (x6 : Int) (x7 : Int) (x8 : Int) (x9 : Int) (x10 : Int) : Option ((Int × Int × Int × Int × Int) ⊕ (Int × Int × Int × Int)) := if (decide (x6 < p1)) = true then ((bits_RotateLeft64 x8 13).bind fun y16 => ((bits_RotateLeft64 (u64.wrap (x7 + x8)) 32).bind fun y18 => ((bits_RotateLeft64 x10 16).bind fun y20 => ((some (u64.wrap (y18 + (ixor .u64 y20 (u64.wrap (x9 + x10)))))).bind fun z22 => ((bits_RotateLeft64 (ixor .u64 y20 (u64.wrap (x9 + x10))) 21).bind fun y24 => ((some (u64.wrap ((u64.wrap (x9 + x10)) + (ixor .u64 y16 (u64.wrap (x7 + x8)))))).bind fun z26 => ((bits_RotateLeft64 (ixor .u64 y16 (u64.wrap (x7 + x8))) 17).bind fun y28 => ((bits_RotateLeft64 z26 32).bind fun y30 => (some (.inl (i64.wrap (x6 + 1), z22, ixor .u64 y28 z26, y30, ixor .u64 y24 z22))))))))))) else (some (.inr (x7, x8, x9, x10)))
noncomputable def siphash_state_rounds (p0 : S_siphash_state) (p1 : Int) : Option S_siphash_state := bind4 (loop (fun v : Int × Int × Int × Int × Int => siphash_state_rounds_l1 p1 v.1 v.2.1 v.2.2.1 v.2.2.2.1 v.2.2.2.2) (0, p0.a, p0.b, p0.c, p0.d)) fun x32 x33 x34 x35 => (some (⟨x32, x33, x34, x35⟩ : S_siphash_state))
set_option maxRecDepth 100000 in
theorem siphash_state_rounds_con (p0 : S_siphash_state) (p1 : Int) (r : S_siphash_state) (h : siphash_state_rounds p0 p1 = some r) : Con Try.prog 36 [.c (.ptr 0 4 0 0), vi64 p1] [(0, .box 62 [cu64 p0.a, cu64 p0.b, cu64 p0.c, cu64 p0.d])] (.tup []) [(0, .box 62 [cu64 r.a, cu64 r.b, cu64 r.c, cu64 r.d])] := by
 refine con_of tt_ok0 1 Try.func36 (by kernel_rfl) rfl (by kernel_rfl) (fun base X _ => AW.post ?_)
 unfold siphash_state_rounds at h
 refine AW.sg tt_ok0 [(5, vi64 0), (4, vi64 p1)] [] [] 3 [] (by kernel_rfl) ?_
 refine AW.block ?_
 obtain ⟨x32, x33, x34, x35, l36, h⟩ := bind4_some h
 refine AW.lp l36 (fun v => ⟨[(0, .c (.ptr 0 4 0 0)), (4, vi64 p1), (5, vi64 v.1)], [(0, .box 62 [cu64 v.2.1, cu64 v.2.2.1, cu64 v.2.2.2.1, cu64 v.2.2.2.2])], 1⟩) (fun t : Int × Int × Int × Int => (.exit 0, ⟨[], [(0, .box 62 [cu64 t.1, cu64 t.2.1, cu64 t.2.2.1, cu64 t.2.2.2])], 1⟩)) (conv_re [(0, 0)] (by kernel_rfl)) (fun _ => tv) ?_ ?_
 ·
  clear l36 h
  intro v o h
  obtain ⟨x6, x7, x8, x9, x10⟩ := v
  replace h : siphash_state_rounds_l1 p1 x6 x7 x8 x9 x10 = some o := h
  unfold siphash_state_rounds_l1 at h
  refine AW.sg tt_ok0 [(6, vb (decide (x6 < p1)))] [] [] 2 [] (by kernel_rfl) ?_
  refine AW.seq ?_
  refine AW.co h (by kernel_rfl) (fun c15 h => ?_) (fun c15 h => ?_)
  ·
   refine AW.skip (AW.tn ?_)
   refine AW.seq (AW.block ?_)
   refine AW.sd tt_ok0 mo0 [[], [], [], [], [], [], [], [], [], [], [], [0]] [] [(0, .box 62 [cu64 (u64.wrap (x7 + x8)), cu64 x8, cu64 x9, cu64 x10])] 14 [] (by kernel_rfl) ?_
   obtain ⟨y16, e17, h⟩ := bnd_some h
   refine AW.sd tt_ok0 mo0 [[], [], [], [], [], [], [], [], [], [], [], [], [], [0]] [] [(0, .box 62 [cu64 (u64.wrap (x7 + x8)), cu64 (ixor .u64 y16 (u64.wrap (x7 + x8))), cu64 x9, cu64 x10])] 27 [hn, hn, hn, hn, hn, hk (bits_RotateLeft64_con x8 13 y16 e17)] (by kernel_rfl) ?_
   obtain ⟨y18, e19, h⟩ := bnd_some h
   refine AW.sg tt_ok0 [] [0] [(0, .box 62 [cu64 y18, cu64 (ixor .u64 y16 (u64.wrap (x7 + x8))), cu64 x9, cu64 x10])] 35 [hn, hn, hn, hn, hn, hk (bits_RotateLeft64_con (u64.wrap (x7 + x8)) 32 y18 e19)] (by kernel_rfl) ?_
   refine AW.sd tt_ok0 mo0 [[], [], [], [], [], [], [], [], [], [], [], [0]] [] [(0, .box 62 [cu64 y18, cu64 (ixor .u64 y16 (u64.wrap (x7 + x8))), cu64 (u64.wrap (x9 + x10)), cu64 x10])] 47 [] (by kernel_rfl) ?_
   obtain ⟨y20, e21, h⟩ := bnd_some h
   refine AW.sd tt_ok0 mo0 [[], [], [], [], [], [], [], [], [], [], [], [], [], [0]] [] [(0, .box 62 [cu64 y18, cu64 (ixor .u64 y16 (u64.wrap (x7 + x8))), cu64 (u64.wrap (x9 + x10)), cu64 (ixor .u64 y20 (u64.wrap (x9 + x10)))])] 60 [hn, hn, hn, hn, hn, hk (bits_RotateLeft64_con x10 16 y20 e21)] (by kernel_rfl) ?_
   obtain ⟨z22, n23, h⟩ := bnd_some h
   replace n23 := some_inj n23
   refine AW.sd tt_ok0 mo0 [[], [], [], [], [], [], [], [], [], [], [], [0]] [] [(0, .box 62 [cu64 z22, cu64 (ixor .u64 y16 (u64.wrap (x7 + x8))), cu64 (u64.wrap (x9 + x10)), cu64 (ixor .u64 y20 (u64.wrap (x9 + x10)))])] 72 [] (by subst n23; kernel_rfl) ?_
   obtain ⟨y24, e25, h⟩ := bnd_some h
   refine AW.sd tt_ok0 mo0 [[], [], [], [], [], [], [], [], [], [], [], [], [], [0]] [] [(0, .box 62 [cu64 z22, cu64 (ixor .u64 y16 (u64.wrap (x7 + x8))), cu64 (u64.wrap (x9 + x10)), cu64 (ixor .u64 y24 z22)])] 85 [hn, hn, hn, hn, hn, hk (bits_RotateLeft64_con (ixor .u64 y20 (u64.wrap (x9 + x10))) 21 y24 e25)] (by kernel_rfl) ?_
   obtain ⟨z26, n27, h⟩ := bnd_some h
   replace n27 := some_inj n27
   refine AW.sd tt_ok0 mo0 [[], [], [], [], [], [], [], [], [], [], [], [0]] [] [(0, .box 62 [cu64 z22, cu64 (ixor .u64 y16 (u64.wrap (x7 + x8))), cu64 z26, cu64 (ixor .u64 y24 z22)])] 97 [] (by subst n27; kernel_rfl) ?_
   obtain ⟨y28, e29, h⟩ := bnd_some h
   refine AW.sd tt_ok0 mo0 [[], [], [], [], [], [], [], [], [], [], [], [], [], [0]] [] [(0, .box 62 [cu64 z22, cu64 (ixor .u64 y28 z26), cu64 z26, cu64 (ixor .u64 y24 z22)])] 110 [hn, hn, hn, hn, hn, hk (bits_RotateLeft64_con (ixor .u64 y16 (u64.wrap (x7 + x8))) 17 y28 e29)] (by kernel_rfl) ?_
   obtain ⟨y30, e31, h⟩ := bnd_some h
   refine AW.rg tt_ok0 [] [0] [(0, .box 62 [cu64 z22, cu64 (ixor .u64 y28 z26), cu64 y30, cu64 (ixor .u64 y24 z22)])] 118 [hn, hn, hn, hn, hn, hk (bits_RotateLeft64_con z26 32 y30 e31)] (by kernel_rfl) ?_
   refine AW.inBlock_normal (AW.tn ?_)
   refine AW.rg tt_ok0 [(5, vi64 (i64.wrap (x6 + 1)))] [] [] 120 [] (by kernel_rfl) ?_
   exact lpn h (conv_re [(0, 0)] (by kernel_rfl))
  ·
   refine AW.exit (AW.thenQ_exit ?_)
   exact lpo h rfl (conv_re [(0, 0)] (by kernel_rfl))
 ·
  show (_ : Exit → St → Prop) (.exit 0) _
  refine AW.inBlock_hit ?_
  obtain rfl := some_inj h
  exact fn0 (.inl rfl) [(0, 0)] 1 (.tup []) (by kernel_rfl)
/-! (*recordlink/siphash.state).word -/
noncomputable def siphash_state_word (p0 : S_siphash_state) (p1 : Int) : Option S_siphash_state := (siphash_state_rounds (⟨p0.a, p0.b, p0.c, ixor .u64 p0.d p1⟩ : S_siphash_state) 2).bind fun y1 => (some (⟨ixor .u64 y1.a p1, y1.b, y1.c, y1.d⟩ : S_siphash_state))
set_option maxRecDepth 100000 in
theorem siphash_state_word_con (p0 : S_siphash_state) (p1 : Int) (r : S_siphash_state) (h : siphash_state_word p0 p1 = some r) : Con Try.prog 34 [.c (.ptr 0 4 0 0), vu64 p1] [(0, .box 62 [cu64 p0.a, cu64 p0.b, cu64 p0.c, cu64 p0.d])] (.tup []) [(0, .box 62 [cu64 r.a, cu64 r.b, cu64 r.c, cu64 r.d])] := by
 refine con_of tt_ok0 1 Try.func34 (by kernel_rfl) rfl (by kernel_rfl) (fun base X _ => AW.post ?_)
 unfold siphash_state_word at h
 refine AW.sg tt_ok0 [] [0] [(0, .box 62 [cu64 p0.a, cu64 p0.b, cu64 p0.c, cu64 (ixor .u64 p0.d p1)])] 10 [] (by kernel_rfl) ?_
 obtain ⟨y1, e2, h⟩ := bnd_some h
 refine AW.sg tt_ok0 [] [0] [(0, .box 62 [cu64 y1.a, cu64 y1.b, cu64 y1.c, cu64 y1.d])] 11 [hn, hm [0] [] 0 (siphash_state_rounds_con (⟨p0.a, p0.b, p0.c, ixor .u64 p0.d p1⟩ : S_siphash_state) 2 y1 e2) ⟨rfl, tv⟩] (by kernel_rfl) ?_
 refine AW.rg tt_ok0 [] [0] [(0, .box 62 [cu64 (ixor .u64 y1.a p1), cu64 y1.b, cu64 y1.c, cu64 y1.d])] 20 [] (by kernel_rfl) ?_
 obtain rfl := some_inj h
 exact fn0 (.inl rfl) [(0, 0)] 1 (.tup []) (by kernel_rfl)
/-! recordlink/siphash.Sum -/
noncomputable def siphash_Sum_l1 (x6 : List Int) (x7 : Int) (x8 : Int) (x9 : Int) (x10 : Int) : Option (((List Int) × Int × Int × Int × Int) ⊕ ((List Int) × Int × Int × Int × Int)) := if (decide ((x6.length : Int) ≥ 8)) = true then (if 8 ≤ x6.length then ((siphash_number (x6.take 8)).bind fun y18 => ((siphash_state_word (⟨x7, x8, x9, x10⟩ : S_siphash_state) y18).bind fun y20 => (some (.inl (((x6.drop 8).take (x6.length - 8)), y20.a, y20.b, y20.c, y20.d))))) else none) else (some (.inr (x6, x7, x8, x9, x10)))
noncomputable def siphash_Sum (p0 : S_api_Key) (p1 : List Int) : Option Int := bind5 (loop (fun v : (List Int) × Int × Int × Int × Int => siphash_Sum_l1 v.1 v.2.1 v.2.2.1 v.2.2.2.1 v.2.2.2.2) (p1, ixor .u64 p0.A 8317987319222330741, ixor .u64 p0.B 7237128888997146477, ixor .u64 p0.A 7816392313619706465, ixor .u64 p0.B 8387220255154660723)) fun x22 x23 x24 x25 x26 => ((siphash_number x22).bind fun y27 => ((siphash_state_word (⟨x23, x24, x25, x26⟩ : S_siphash_state) (ior .u64 y27 (ishl .u64 (u64.wrap (p1.length : Int)) 56))).bind fun y29 => ((siphash_state_rounds (⟨y29.a, y29.b, ixor .u64 y29.c 255, y29.d⟩ : S_siphash_state) 4).bind fun y31 => (some (ixor .u64 (ixor .u64 (ixor .u64 y31.a y31.b) y31.c) y31.d)))))
set_option maxRecDepth 100000 in
theorem siphash_Sum_con (p0 : S_api_Key) (p1 : List Int) (r : Int) (h : siphash_Sum p0 p1 = some r) : Con Try.prog 25 [.agg [cu64 p0.A, cu64 p0.B], vl 1 Ru8 p1] [] (vu64 r) [] := by
 refine con_of tt_ok0 0 Try.func25 (by kernel_rfl) rfl (by kernel_rfl) (fun base X _ => AW.post ?_)
 unfold siphash_Sum at h
 refine AW.sg tt_ok0 [(2, .c (.ptr 0 2 0 0))] [0] [(0, .box 52 [cu64 p0.A, cu64 p0.B])] 2 [] (by kernel_rfl) ?_
 refine AW.sg tt_ok0 [(5, .c (.ptr 15 4 0 0))] [15] [(15, .box 62 [cu64 (ixor .u64 p0.A 8317987319222330741), cu64 (ixor .u64 p0.B 7237128888997146477), cu64 (ixor .u64 p0.A 7816392313619706465), cu64 (ixor .u64 p0.B 8387220255154660723)])] 17 [] (by kernel_rfl) ?_
 refine AW.sg tt_ok0 [(6, vu64 (ishl .u64 (u64.wrap (p1.length : Int)) 56))] [] [] 22 [hn, hn, hn, ho (p := 0 ≤ (56 : Int)) (by decide)] (by kernel_rfl) ?_
 refine AW.seq (AW.block ?_)
 obtain ⟨x22, x23, x24, x25, x26, l33, h⟩ := bind5_some h
 refine AW.lp l33 (fun v => ⟨[(1, vl 1 Ru8 v.1), (5, .c (.ptr 0 4 0 0)), (6, vu64 (ishl .u64 (u64.wrap (p1.length : Int)) 56))], [(0, .box 62 [cu64 v.2.1, cu64 v.2.2.1, cu64 v.2.2.2.1, cu64 v.2.2.2.2])], 1⟩) (fun t : (List Int) × Int × Int × Int × Int => (.exit 0, ⟨[(1, vl 1 Ru8 t.1), (5, .c (.ptr 0 4 0 0)), (6, vu64 (ishl .u64 (u64.wrap (p1.length : Int)) 56))], [(0, .box 62 [cu64 t.2.1, cu64 t.2.2.1, cu64 t.2.2.2.1, cu64 t.2.2.2.2])], 1⟩)) (conv_re [(0, 15)] (by kernel_rfl)) (fun _ => tv) ?_ ?_
 ·
  clear l33 h
  intro v o h
  obtain ⟨x6, x7, x8, x9, x10⟩ := v
  replace h : siphash_Sum_l1 x6 x7 x8 x9 x10 = some o := h
  unfold siphash_Sum_l1 at h
  refine AW.seq ?_
  refine AW.sg tt_ok0 [(26, vb (decide ((x6.length : Int) ≥ 8)))] [] [] 4 [] (by kernel_rfl) ?_
  refine AW.co h (by kernel_rfl) (fun c16 h => ?_) (fun c16 h => ?_)
  ·
   refine AW.skip (AW.tn ?_)
   refine AW.seq (AW.block ?_)
   obtain ⟨g17, h⟩ := ifc h
   obtain ⟨y18, e19, h⟩ := bnd_some h
   obtain ⟨y20, e21, h⟩ := bnd_some h
   refine AW.rg tt_ok0 [] [0] [(0, .box 62 [cu64 y20.a, cu64 y20.b, cu64 y20.c, cu64 y20.d])] 6 [hn, ho (p := (True) ∧ (0 ≤ (8 : Int)) ∧ (0 ≤ 8) ∧ (8 ≤ x6.length)) (⟨tv, (by decide), (Nat.zero_le _), g17⟩), hg [] [] true 0 (q := (True) ∧ (True)) ⟨tv, tv⟩ (a0 := [.c (.t (.tree 8 1 (Ru8 x6)))]) (siphash_number_con (x6.take 8) y18 e19) ⟨ArgLe.c (CAle.tree (take_row (by omega))), tv⟩ (fun _ => tv), hm [0] [] 0 (siphash_state_word_con (⟨x7, x8, x9, x10⟩ : S_siphash_state) y18 y20 e21) ⟨rfl, tv⟩] (by kernel_rfl) ?_
   refine AW.inBlock_normal (AW.tn ?_)
   refine AW.rg tt_ok0 [(1, .c (.t (.tree (x6.length - 8) 1 (fun i j => Ru8 x6 (8 + i) j))))] [] [] 9 [hn, ho (p := (0 ≤ (8 : Int)) ∧ (True) ∧ (8 ≤ x6.length) ∧ (x6.length ≤ x6.length)) (⟨(by decide), tv, g17, (Nat.le_refl _)⟩)] (by kernel_rfl) ?_
   exact lpn h (Conv.trans (conv_tms [(1, vl 1 Ru8 ((x6.drop 8).take (x6.length - 8)))] ⟨⟨.c (.t (.tree (x6.length - 8) 1 (fun i j => Ru8 x6 (8 + i) j))), by kernel_rfl, ALe.c (CAle.cle (CAle.tree (part_row (by omega))))⟩, tv⟩) (conv_re [(0, 0)] (by kernel_rfl)))
  ·
   refine AW.exit (AW.thenQ_exit ?_)
   exact lpo h rfl (conv_re [(0, 0)] (by kernel_rfl))
 ·
  show (_ : Exit → St → Prop) (.exit 0) _
  refine AW.inBlock_hit (AW.tn ?_)
  obtain ⟨y27, e28, h⟩ := bnd_some h
  obtain ⟨y29, e30, h⟩ := bnd_some h
  refine AW.sg tt_ok0 [] [0] [(0, .box 62 [cu64 y29.a, cu64 y29.b, cu64 y29.c, cu64 y29.d])] 4 [hn, hk (siphash_number_con x22 y27 e28), hn, hn, hm [0] [] 0 (siphash_state_word_con (⟨x23, x24, x25, x26⟩ : S_siphash_state) (ior .u64 y27 (ishl .u64 (u64.wrap (p1.length : Int)) 56)) y29 e30) ⟨rfl, tv⟩] (by kernel_rfl) ?_
  refine AW.sg tt_ok0 [] [0] [(0, .box 62 [cu64 y29.a, cu64 y29.b, cu64 (ixor .u64 y29.c 255), cu64 y29.d])] 9 [] (by kernel_rfl) ?_
  obtain ⟨y31, e32, h⟩ := bnd_some h
  refine AW.sg tt_ok0 [] [0] [(0, .box 62 [cu64 y31.a, cu64 y31.b, cu64 y31.c, cu64 y31.d])] 9 [hm [0] [] 0 (siphash_state_rounds_con (⟨y29.a, y29.b, ixor .u64 y29.c 255, y29.d⟩ : S_siphash_state) 4 y31 e32) ⟨rfl, tv⟩] (by kernel_rfl) ?_
  refine AW.sg tt_ok0 [(4, vu64 (ixor .u64 (ixor .u64 (ixor .u64 y31.a y31.b) y31.c) y31.d))] [] [] 21 [] (by kernel_rfl) ?_
  refine AW.ret ?_
  obtain rfl := some_inj h
  exact fn0 (.inr rfl) [] 0 (vu64 (ixor .u64 (ixor .u64 (ixor .u64 y31.a y31.b) y31.c) y31.d)) (by kernel_rfl)
/-! recordlink/journal.Sum -/
noncomputable def journal_Sum (p0 : Int) (p1 : ByteArray) : Option Int := (journal_put_nil p0 8).bind fun y1 => (if y1.length + p1.size ≤ 1099511627776 then ((siphash_Sum (⟨1, 2⟩ : S_api_Key) (y1 ++ (bytesL p1))).bind fun y4 => (some y4)) else none)
set_option maxRecDepth 100000 in
theorem journal_Sum_con (p0 : Int) (p1 : ByteArray) (r : Int) (h : journal_Sum p0 p1 = some r) : Con Try.prog 15 [vu64 p0, vs p1] [] (vu64 r) [] := by
 refine con_of tt_ok0 0 Try.func15 (by kernel_rfl) rfl (by kernel_rfl) (fun base X _ => AW.post ?_)
 unfold journal_Sum at h
 refine AW.sg tt_ok0 [] [] [] 1 [] (by kernel_rfl) ?_
 obtain ⟨y1, e2, h⟩ := bnd_some h
 obtain ⟨g3, h⟩ := ifc h
 obtain ⟨y4, e5, h⟩ := bnd_some h
 refine AW.sg tt_ok0 [(4, vu64 y4)] [3, 5] [] 7 [hn, hn, hm [] [] 1 (journal_put_nil_con p0 8 y1 e2) ⟨rowL_flat Vu8 _ _ _, tv⟩, hn, hr ((y1 ++ (bytesL p1)).length) (Ru8 (y1 ++ (bytesL p1))) (p := (y1.length = y1.length) ∧ (True) ∧ ((y1.length + p1.size ≤ 1099511627776) ∧ ((1 : Nat) ≤ 128)) ∧ (y1.length + p1.size = (y1 ++ (bytesL p1)).length ∧ ∀ i, i < (y1 ++ (bytesL p1)).length → ∀ j, j < 1 → TLe ((appRow y1.length (Ru8 y1) (bytesT p1)) i j) (Ru8 (y1 ++ (bytesL p1)) i j))) (⟨rfl, tv, ⟨g3, (by decide)⟩, rowT (app_row rfl (bytesL_length _) row_rfl bytesL_row)⟩), hg [] [] true 0 (q := ((True) ∧ (True) ∧ (True)) ∧ (0 + (y1 ++ (bytesL p1)).length ≤ (y1 ++ (bytesL p1)).length) ∧ (True)) ⟨⟨tv, tv, tv⟩, le0, tv⟩ (a0 := [.agg [cu64 1, cu64 2], vl 1 Ru8 (y1 ++ (bytesL p1))]) (siphash_Sum_con (⟨1, 2⟩ : S_api_Key) (y1 ++ (bytesL p1)) y4 e5) ⟨ArgLe.refl _, ArgLe.refl _, tv⟩ (fun _ => tv)] (by kernel_rfl) ?_
 refine AW.ret ?_
 obtain rfl := some_inj h
 exact fn0 (.inr rfl) [] 0 (vu64 y4) (by kernel_rfl)
/-! recordlink/journal.next -/
noncomputable def journal_next_k1 (p0 : ByteArray) (p1 : Int) (z4 : Int) (x6 : Bool) : Option (ByteArray × Int × Int) := if x6 = true then (some ((ByteArray.mk #[]), 0, 14)) else (if (decide (z4 > 60000)) = true then (some ((ByteArray.mk #[]), 0, 1)) else (if (decide (((p0.size : Nat) : Int) < (i64.wrap ((i64.wrap (4 + z4)) + 8)))) = true then (some ((ByteArray.mk #[]), 0, 15)) else (if 0 ≤ (i64.wrap (4 + z4)) then (if 4 ≤ ((i64.wrap (4 + z4)).toNat) then (if ((i64.wrap (4 + z4)).toNat) ≤ p0.size then ((journal_Sum p1 (p0.extract 4 ((i64.wrap (4 + z4)).toNat))).bind fun y13 => (if 0 ≤ (i64.wrap ((i64.wrap (4 + z4)) + 8)) then (if ((i64.wrap (4 + z4)).toNat) ≤ ((i64.wrap ((i64.wrap (4 + z4)) + 8)).toNat) then (if ((i64.wrap ((i64.wrap (4 + z4)) + 8)).toNat) ≤ p0.size then ((journal_put_nil y13 8).bind fun y18 => (if (!((p0.extract ((i64.wrap (4 + z4)).toNat) ((i64.wrap ((i64.wrap (4 + z4)) + 8)).toNat)).toList == (strOf y18).toList)) = true then (some ((ByteArray.mk #[]), 0, 16)) else (some ((p0.extract 4 ((i64.wrap (4 + z4)).toNat)), y13, 0)))) else none) else none) else none)) else none) else none) else none)))
noncomputable def journal_next (p0 : ByteArray) (p1 : Int) : Option (ByteArray × Int × Int) := if (decide (((p0.size : Nat) : Int) < 4)) = true then (some ((ByteArray.mk #[]), 0, 15)) else (if (0 : Int) < ((p0.size : Nat) : Int) then (if (1 : Int) < ((p0.size : Nat) : Int) then ((some (ior .i64 (ishl .i64 (i64.wrap ((p0.data.toList.getD 0 0).toNat : Int)) 8) (i64.wrap ((p0.data.toList.getD 1 0).toNat : Int)))).bind fun z4 => (if (2 : Int) < ((p0.size : Nat) : Int) then (if (((p0.data.toList.getD 2 0).toNat : Int) != (u8.wrap (255 - ((p0.data.toList.getD 0 0).toNat : Int)))) = true then (journal_next_k1 p0 p1 z4 true) else (if (3 : Int) < ((p0.size : Nat) : Int) then (journal_next_k1 p0 p1 z4 (((p0.data.toList.getD 3 0).toNat : Int) != (u8.wrap (255 - ((p0.data.toList.getD 1 0).toNat : Int))))) else none)) else none)) else none) else none)
set_option maxRecDepth 100000 in
theorem journal_next_con (p0 : ByteArray) (p1 : Int) (r : ByteArray × Int × Int) (h : journal_next p0 p1 = some r) : Con Try.prog 38 [vs p0, vu64 p1] [] (.tup [vs r.1, vu64 r.2.1, vi64 r.2.2]) [] := by
 refine con_of tt_ok0 0 Try.func38 (by kernel_rfl) rfl (by kernel_rfl) (fun base X _ => AW.post ?_)
 unfold journal_next at h
 refine AW.sg tt_ok0 [] [] [] 3 [] (by kernel_rfl) ?_
 refine AW.seq ?_
 refine AW.sg tt_ok0 [(12, vb (decide (((p0.size : Nat) : Int) < 4)))] [] [] 6 [] (by kernel_rfl) ?_
 refine AW.co h (by kernel_rfl) (fun c1 h => ?_) (fun c1 h => ?_)
 ·
  refine AW.sg tt_ok0 [(6, vi64 15), (5, vu64 0), (4, vs (ByteArray.mk #[]))] [] [] 9 [] (by kernel_rfl) ?_
  refine AW.ret (AW.tr ?_)
  obtain rfl := some_inj h
  exact fn0 (.inr rfl) [] 0 (.tup [vs (ByteArray.mk #[]), vu64 0, vi64 15]) (by kernel_rfl)
 ·
  refine AW.skip (AW.tn ?_)
  obtain ⟨g2, g3, h⟩ := ifd h
  obtain ⟨z4, n5, h⟩ := bnd_some h
  replace n5 := some_inj n5
  refine AW.sd tt_ok0 mo0 [] [(7, vi64 z4)] [] 15 [hn, ho (p := (0 ≤ (0 : Int)) ∧ ((0 : Int) < ((p0.size : Nat) : Int))) (⟨(by decide), g2⟩), hn, ho (p := 0 ≤ (8 : Int)) (by decide), hn, ho (p := (0 ≤ (1 : Int)) ∧ ((1 : Int) < ((p0.size : Nat) : Int))) (⟨(by decide), g3⟩)] (by subst n5; kernel_rfl) ?_
  refine AW.seq (AW.block (AW.seq ?_))
  refine AW.join (ι := Bool) (fun v => ⟨[(0, vs p0), (1, vu64 p1), (7, vi64 z4), (21, vb v)], [], 0⟩) (fun v : Bool => journal_next_k1 p0 p1 z4 v = some r) (fun x6 h => ?_) ?_
  ·
   unfold journal_next_k1 at h
   refine AW.tn ?_
   refine AW.co h (by kernel_rfl) (fun c7 h => ?_) (fun c7 h => ?_)
   ·
    refine AW.sg tt_ok0 [(6, vi64 14), (5, vu64 0), (4, vs (ByteArray.mk #[]))] [] [] 3 [] (by kernel_rfl) ?_
    refine AW.ret (AW.inBlock_ret (AW.tr ?_))
    obtain rfl := some_inj h
    exact fn0 (.inr rfl) [] 0 (.tup [vs (ByteArray.mk #[]), vu64 0, vi64 14]) (by kernel_rfl)
   ·
    refine AW.sg tt_ok0 [(36, vb (decide (z4 > 60000)))] [] [] 3 [] (by kernel_rfl) ?_
    refine AW.co h (by kernel_rfl) (fun c8 h => ?_) (fun c8 h => ?_)
    ·
     refine AW.sg tt_ok0 [(6, vi64 1), (5, vu64 0), (4, vs (ByteArray.mk #[]))] [] [] 6 [] (by kernel_rfl) ?_
     refine AW.ret (AW.inBlock_ret (AW.tr ?_))
     obtain rfl := some_inj h
     exact fn0 (.inr rfl) [] 0 (.tup [vs (ByteArray.mk #[]), vu64 0, vi64 1]) (by kernel_rfl)
    ·
     refine AW.sg tt_ok0 [(39, vb (decide (((p0.size : Nat) : Int) < (i64.wrap ((i64.wrap (4 + z4)) + 8)))))] [] [] 10 [] (by kernel_rfl) ?_
     refine AW.co h (by kernel_rfl) (fun c9 h => ?_) (fun c9 h => ?_)
     ·
      refine AW.sg tt_ok0 [(6, vi64 15), (5, vu64 0), (4, vs (ByteArray.mk #[]))] [] [] 13 [] (by kernel_rfl) ?_
      refine AW.ret (AW.inBlock_ret (AW.tr ?_))
      obtain rfl := some_inj h
      exact fn0 (.inr rfl) [] 0 (.tup [vs (ByteArray.mk #[]), vu64 0, vi64 15]) (by kernel_rfl)
     ·
      refine AW.skip (AW.inBlock_normal (AW.tn ?_))
      obtain ⟨g10, g11, h⟩ := ifd h
      obtain ⟨g12, h⟩ := ifc h
      refine AW.sg tt_ok0 [(8, vs (p0.extract 4 ((i64.wrap (4 + z4)).toNat)))] [] [] 15 [hn, hn, hn, ho (p := (0 ≤ (4 : Int)) ∧ (0 ≤ (i64.wrap (4 + z4))) ∧ (4 ≤ ((i64.wrap (4 + z4)).toNat)) ∧ (((i64.wrap (4 + z4)).toNat) ≤ p0.size)) (⟨(by decide), g10, g11, g12⟩)] (by kernel_rfl) ?_
      obtain ⟨y13, e14, h⟩ := bnd_some h
      refine AW.sg tt_ok0 [(9, vu64 y13)] [] [] 18 [hn, hn, hk (journal_Sum_con p1 (p0.extract 4 ((i64.wrap (4 + z4)).toNat)) y13 e14)] (by kernel_rfl) ?_
      refine AW.seq ?_
      obtain ⟨g15, g16, h⟩ := ifd h
      obtain ⟨g17, h⟩ := ifc h
      obtain ⟨y18, e19, h⟩ := bnd_some h
      refine AW.sd tt_ok0 mo0 [[], [], [], [], [], [], [], [], [26]] [(63, vb (!((p0.extract ((i64.wrap (4 + z4)).toNat) ((i64.wrap ((i64.wrap (4 + z4)) + 8)).toNat)).toList == (strOf y18).toList)))] [] 29 [hn, hn, hn, hn, hn, hn, ho (p := (0 ≤ (i64.wrap (4 + z4))) ∧ (0 ≤ (i64.wrap ((i64.wrap (4 + z4)) + 8))) ∧ (((i64.wrap (4 + z4)).toNat) ≤ ((i64.wrap ((i64.wrap (4 + z4)) + 8)).toNat)) ∧ (((i64.wrap ((i64.wrap (4 + z4)) + 8)).toNat) ≤ p0.size)) (⟨g10, g15, g16, g17⟩), hn, hm [] [] 1 (journal_put_nil_con y13 8 y18 e19) ⟨rowL_flat Vu8 _ _ _, tv⟩, hi (fun i => y18.getD i 0) (p := (0 + y18.length ≤ y18.length) ∧ ∀ i, i < y18.length → (fun i j => Ru8 y18 (0 + i) j) i 0 = .v (.int .u8 (y18.getD i 0))) (⟨le0, fun i _ => by simp only [Nat.zero_add] <;> rfl⟩)] (by kernel_rfl) ?_
      refine AW.co h (by kernel_rfl) (fun c20 h => ?_) (fun c20 h => ?_)
      ·
       refine AW.sg tt_ok0 [(6, vi64 16), (5, vu64 0), (4, vs (ByteArray.mk #[]))] [] [] 32 [] (by kernel_rfl) ?_
       refine AW.ret (AW.tr ?_)
       obtain rfl := some_inj h
       exact fn0 (.inr rfl) [] 0 (.tup [vs (ByteArray.mk #[]), vu64 0, vi64 16]) (by kernel_rfl)
      ·
       refine AW.skip (AW.tn ?_)
       refine AW.sg tt_ok0 [(6, vi64 0), (5, vu64 y13), (4, vs (p0.extract 4 ((i64.wrap (4 + z4)).toNat)))] [] [] 34 [] (by kernel_rfl) ?_
       refine AW.ret ?_
       obtain rfl := some_inj h
       exact fn0 (.inr rfl) [] 0 (.tup [vs (p0.extract 4 ((i64.wrap (4 + z4)).toNat)), vu64 y13, vi64 0]) (by kernel_rfl)
  ·
   obtain ⟨g21, h⟩ := ifc h
   rcases ifs h with ⟨c22, h⟩ | ⟨c22, h⟩
   ·
    refine AW.rd tt_ok0 mo0 [] [(21, vb true)] [] 30 [hn, ho (p := (0 ≤ (2 : Int)) ∧ ((2 : Int) < ((p0.size : Nat) : Int))) (⟨(by decide), g21⟩), hn, ho (p := (0 ≤ (0 : Int)) ∧ ((0 : Int) < ((p0.size : Nat) : Int))) (⟨(by decide), g2⟩), hn, ht c22] (by kernel_rfl) ?_
    exact jl true h (conv_re [] (by kernel_rfl))
   ·
    obtain ⟨g23, h⟩ := ifc h
    refine AW.rd tt_ok0 mo0 [] [(21, vb (((p0.data.toList.getD 3 0).toNat : Int) != (u8.wrap (255 - ((p0.data.toList.getD 1 0).toNat : Int)))))] [] 30 [hn, ho (p := (0 ≤ (2 : Int)) ∧ ((2 : Int) < ((p0.size : Nat) : Int))) (⟨(by decide), g21⟩), hn, ho (p := (0 ≤ (0 : Int)) ∧ ((0 : Int) < ((p0.size : Nat) : Int))) (⟨(by decide), g2⟩), hn, hf c22, hn, hn, ho (p := (0 ≤ (3 : Int)) ∧ ((3 : Int) < ((p0.size : Nat) : Int))) (⟨(by decide), g23⟩), hn, ho (p := (0 ≤ (1 : Int)) ∧ ((1 : Int) < ((p0.size : Nat) : Int))) (⟨(by decide), g3⟩)] (by kernel_rfl) ?_
    exact jl (((p0.data.toList.getD 3 0).toNat : Int) != (u8.wrap (255 - ((p0.data.toList.getD 1 0).toNat : Int)))) h (conv_re [] (by kernel_rfl))
def Es (x : ByteArray) : List T := [.v (.string x)]
def Rs (xs : List ByteArray) : Nat → Nat → T := rowL ByteArray.empty Es xs
theorem Vs : ∀ x, allV (Es x) := fun _ => ⟨tv, tv⟩
/-! recordlink/journal.read -/
noncomputable def journal_read_l1 (p0 : ByteArray) (x4 : List ByteArray) (x5 : Int) (x6 : Int) : Option (((List ByteArray) × Int × Int) ⊕ (((List ByteArray) × Int × Int) ⊕ ((List ByteArray) × Int × Int × Int))) := if (decide (x5 < ((p0.size : Nat) : Int))) = true then (if ((x4.length : Int) == 512) = true then (some (.inr (.inr (x4, x5, x6, 1)))) else (if 0 ≤ x5 then (if x5.toNat ≤ p0.size then (bind3 (journal_next (p0.extract x5.toNat p0.size) x6) fun y18 y19 y20 => (if (y20 != 0) = true then (some (.inr (.inr (x4, x5, x6, y20)))) else (if x4.length + ([y18] : List ByteArray).length ≤ 1099511627776 then ((some (i64.wrap ((i64.wrap ((i64.wrap (x5 + 4)) + ((y18.size : Nat) : Int))) + 8))).bind fun z24 => (some (.inl ((x4 ++ ([y18] : List ByteArray)), z24, y19)))) else none))) else none) else none)) else (some (.inr (.inl (x4, x5, x6))))
noncomputable def journal_read_a2 (x26 : List ByteArray) (x27 : Int) (x28 : Int) : Option ((List ByteArray) × Int × Int × Int) := some (x26, x27, x28, 0)
noncomputable def journal_read_a3 (x29 : List ByteArray) (x30 : Int) (x31 : Int) (x32 : Int) : Option ((List ByteArray) × Int × Int × Int) := some (x29, x30, x31, x32)
noncomputable def journal_read (p0 : ByteArray) : Option ((List ByteArray) × Int × Int × Int) := bindE (loop (fun v : (List ByteArray) × Int × Int => journal_read_l1 p0 v.1 v.2.1 v.2.2) (([] : List ByteArray), 0, 0)) (fun t => journal_read_a2 t.1 t.2.1 t.2.2) (fun t => journal_read_a3 t.1 t.2.1 t.2.2.1 t.2.2.2)
set_option maxRecDepth 100000 in
theorem journal_read_con (p0 : ByteArray) (r : (List ByteArray) × Int × Int × Int) (h : journal_read p0 = some r) : Con Try.prog 29 [vs p0] [] (.tup [.c (.ref 0 1 0 r.1.length), vi64 r.2.1, vu64 r.2.2.1, vi64 r.2.2.2]) [(0, .row 9 false 1 r.1.length (Rs r.1))] := by
 refine con_of tt_ok0 0 Try.func29 (by kernel_rfl) rfl (by kernel_rfl) (fun base X _ => AW.post ?_)
 unfold journal_read at h
 refine AW.sg tt_ok0 [(4, vu64 0), (3, vi64 0), (2, .c (.t (.v (.slice none 0 0))))] [] [] 4 [] (by kernel_rfl) ?_
 refine AW.seq (AW.block ?_)
 refine AW.lpE h (fun v => ⟨[(0, vs p0), (2, .c (.ref 0 1 0 v.1.length)), (3, vi64 v.2.1), (4, vu64 v.2.2)], [(0, .row 9 false 1 v.1.length (Rs v.1))], 1⟩) (fun t => (.exit 0, ⟨[(2, .c (.ref 0 1 0 t.1.length)), (3, vi64 t.2.1), (4, vu64 t.2.2)], [(0, .row 9 false 1 t.1.length (Rs t.1))], 1⟩)) (fun t => (.ret, ⟨[(2, .c (.ref 0 1 0 t.1.length)), (3, vi64 t.2.1), (4, vu64 t.2.2.1), (5, vi64 t.2.2.2)], [(0, .row 9 false 1 t.1.length (Rs t.1))], 1⟩)) (Conv.trans (conv_adopt (t := 2) (ty := 9) (sz := 1) (n := ([] : List ByteArray).length) (f := Rs ([] : List ByteArray)) (by kernel_rfl) rfl) (conv_re [(0, 4)] (by kernel_rfl))) (fun _ => tv) (fun _ => tv) ?_ (fun t h => ?_) (fun t h => ?_)
 ·
  clear h
  intro v o h
  obtain ⟨x4, x5, x6⟩ := v
  replace h : journal_read_l1 p0 x4 x5 x6 = some o := h
  unfold journal_read_l1 at h
  refine AW.seq ?_
  refine AW.sg tt_ok0 [(12, vb (decide (x5 < ((p0.size : Nat) : Int))))] [] [] 5 [] (by kernel_rfl) ?_
  refine AW.co h (by kernel_rfl) (fun c14 h => ?_) (fun c14 h => ?_)
  ·
   refine AW.skip (AW.tn ?_)
   refine AW.block (AW.seq ?_)
   refine AW.sg tt_ok0 [(15, vb ((x4.length : Int) == 512))] [] [] 8 [] (by kernel_rfl) ?_
   refine AW.co h (by kernel_rfl) (fun c15 h => ?_) (fun c15 h => ?_)
   ·
    refine AW.sg tt_ok0 [(5, vi64 1), (4, vu64 x6), (3, vi64 x5), (2, .c (.ref 0 1 0 x4.length))] [] [] 15 [] (by kernel_rfl) ?_
    refine AW.ret (AW.tr (AW.inBlock_ret ?_))
    exact lpo h rfl (conv_re [(0, 0)] (by kernel_rfl))
   ·
    refine AW.skip (AW.tn ?_)
    obtain ⟨g16, g17, h⟩ := ifd h
    obtain ⟨y18, y19, y20, e21, h⟩ := bind3_some h
    refine AW.sg tt_ok0 [(8, vi64 y20), (7, vu64 y19), (6, vs y18)] [] [] 19 [hn, hn, ho (p := (0 ≤ x5) ∧ (True) ∧ (x5.toNat ≤ p0.size) ∧ (p0.size ≤ p0.size)) (⟨g16, tv, g17, (Nat.le_refl _)⟩), hn, hk (journal_next_con (p0.extract x5.toNat p0.size) x6 (y18, y19, y20) e21)] (by kernel_rfl) ?_
    refine AW.seq ?_
    refine AW.sg tt_ok0 [(29, vb (y20 != 0))] [] [] 21 [] (by kernel_rfl) ?_
    refine AW.co h (by kernel_rfl) (fun c22 h => ?_) (fun c22 h => ?_)
    ·
     refine AW.sg tt_ok0 [(5, vi64 y20), (4, vu64 x6), (3, vi64 x5), (2, .c (.ref 0 1 0 x4.length))] [] [] 29 [] (by kernel_rfl) ?_
     refine AW.ret (AW.tr (AW.inBlock_ret ?_))
     exact lpo h rfl (conv_re [(0, 0)] (by kernel_rfl))
    ·
     refine AW.skip (AW.tn ?_)
     obtain ⟨g23, h⟩ := ifc h
     obtain ⟨z24, n25, h⟩ := bnd_some h
     replace n25 := some_inj n25
     refine AW.rg tt_ok0 [(4, vu64 y19), (3, vi64 z24), (2, .c (.ref 24 1 0 ((x4 ++ ([y18] : List ByteArray)).length)))] [0, 23, 24] [(24, .row 9 false 1 (x4 ++ ([y18] : List ByteArray)).length (Rs (x4 ++ ([y18] : List ByteArray))))] 35 [hn, hn, hlit ByteArray.empty Es 1 (fun _ => rfl) ([y18] : List ByteArray), happ ByteArray.empty Es 1 16 x4 ([y18] : List ByteArray) g23 (by decide)] (by subst n25; kernel_rfl) ?_
     refine AW.inBlock_normal ?_
     exact lpn h (conv_re [(0, 24)] (by kernel_rfl))
  ·
   refine AW.exit (AW.thenQ_exit ?_)
   exact lpo h rfl (conv_re [(0, 0)] (by kernel_rfl))
 ·
  obtain ⟨x26, x27, x28⟩ := t
  replace h : journal_read_a2 x26 x27 x28 = some r := h
  unfold journal_read_a2 at h
  show (_ : Exit → St → Prop) (.exit 0) _
  refine AW.inBlock_hit (AW.tn ?_)
  refine AW.sg tt_ok0 [(5, vi64 0), (4, vu64 x28), (3, vi64 x27), (2, .c (.ref 0 1 0 x26.length))] [] [] 8 [] (by kernel_rfl) ?_
  refine AW.ret ?_
  obtain rfl := some_inj h
  exact fn0 (.inr rfl) [(0, 0)] 1 (.tup [.c (.ref 0 1 0 x26.length), vi64 x27, vu64 x28, vi64 0]) (by kernel_rfl)
 ·
  obtain ⟨x29, x30, x31, x32⟩ := t
  replace h : journal_read_a3 x29 x30 x31 x32 = some r := h
  unfold journal_read_a3 at h
  show (_ : Exit → St → Prop) (.ret) _
  refine AW.inBlock_ret (AW.tr ?_)
  obtain rfl := some_inj h
  exact fn0 (.inr rfl) [(0, 0)] 1 (.tup [.c (.ref 0 1 0 x29.length), vi64 x30, vu64 x31, vi64 x32]) (by kernel_rfl)
/-! recordlink/journal.put -/
noncomputable def journal_put_own_l1 (p1 : Int) (x3 : List Int) (x4 : Int) : Option (((List Int) × Int) ⊕ (List Int)) := if (decide (x4 ≥ 0)) = true then (if 0 ≤ (i64.wrap (8 * x4)) then (if x3.length + ([u8.wrap (ishr .u64 p1 (i64.wrap (8 * x4)))] : List Int).length ≤ 1099511627776 then (some (.inl ((x3 ++ ([u8.wrap (ishr .u64 p1 (i64.wrap (8 * x4)))] : List Int)), i64.wrap (x4 - 1)))) else none) else none) else (some (.inr x3))
noncomputable def journal_put_own (p0 : List Int) (p1 : Int) (p2 : Int) : Option (List Int) := (loop (fun v : (List Int) × Int => journal_put_own_l1 p1 v.1 v.2) (p0, i64.wrap (p2 - 1))).bind fun x9 => (some x9)
set_option maxRecDepth 100000 in
theorem journal_put_own_con (p0 : List Int) (p1 : Int) (p2 : Int) (r : List Int) (h : journal_put_own p0 p1 p2 = some r) : Con Try.prog 26 [.c (.ref 0 1 0 p0.length), vu64 p1, vi64 p2] [(0, .row 5 false 1 p0.length (Ru8 p0))] (.c (.ref 1 1 0 r.length)) [(1, .row 5 false 1 r.length (Ru8 r))] := by
 refine con_of tt_ok0 1 Try.func26 (by kernel_rfl) rfl (by kernel_rfl) (fun base X _ => AW.post ?_)
 unfold journal_put_own at h
 refine AW.sg tt_ok0 [] [] [] 2 [] (by kernel_rfl) ?_
 refine AW.seq ?_
 refine AW.sg tt_ok0 [(7, vi64 (i64.wrap (p2 - 1)))] [] [] 5 [] (by kernel_rfl) ?_
 refine AW.block ?_
 obtain ⟨x9, l10, h⟩ := bnd_some h
 refine AW.lp l10 (fun v => ⟨[(0, .c (.ref 1 1 0 v.1.length)), (1, vu64 p1), (7, vi64 v.2)], [(1, .row 5 false 1 v.1.length (Ru8 v.1))], 2⟩) (fun t : List Int => (.exit 0, ⟨[(0, .c (.ref 1 1 0 t.length))], [(1, .row 5 false 1 t.length (Ru8 t))], 2⟩)) (conv_re [(1, 0)] (by kernel_rfl)) (fun _ => tv) ?_ ?_
 ·
  clear l10 h
  intro v o h
  obtain ⟨x3, x4⟩ := v
  replace h : journal_put_own_l1 p1 x3 x4 = some o := h
  unfold journal_put_own_l1 at h
  refine AW.seq ?_
  refine AW.sg tt_ok0 [(11, vb (decide (x4 ≥ 0)))] [] [] 4 [] (by kernel_rfl) ?_
  refine AW.co h (by kernel_rfl) (fun c6 h => ?_) (fun c6 h => ?_)
  ·
   refine AW.skip (AW.tn ?_)
   refine AW.seq (AW.block ?_)
   obtain ⟨g7, g8, h⟩ := ifd h
   refine AW.rg tt_ok0 [(0, .c (.ref 11 1 0 ((x3 ++ ([u8.wrap (ishr .u64 p1 (i64.wrap (8 * x4)))] : List Int)).length)))] [1, 10, 11] [(11, .row 5 false 1 (x3 ++ ([u8.wrap (ishr .u64 p1 (i64.wrap (8 * x4)))] : List Int)).length (Ru8 (x3 ++ ([u8.wrap (ishr .u64 p1 (i64.wrap (8 * x4)))] : List Int))))] 13 [hn, hn, hn, hn, ho g7, hn, hlit 0 Eu8 1 (fun _ => rfl) ([u8.wrap (ishr .u64 p1 (i64.wrap (8 * x4)))] : List Int), happ 0 Eu8 1 1 x3 ([u8.wrap (ishr .u64 p1 (i64.wrap (8 * x4)))] : List Int) g8 (by decide)] (by kernel_rfl) ?_
   refine AW.inBlock_normal (AW.tn ?_)
   refine AW.rg tt_ok0 [(7, vi64 (i64.wrap (x4 - 1)))] [] [] 16 [] (by kernel_rfl) ?_
   exact lpn h (conv_re [(1, 11)] (by kernel_rfl))
  ·
   refine AW.exit (AW.thenQ_exit ?_)
   exact lpo h rfl (conv_re [(1, 1)] (by kernel_rfl))
 ·
  show (_ : Exit → St → Prop) (.exit 0) _
  refine AW.inBlock_hit (AW.tn ?_)
  refine AW.sg tt_ok0 [(6, .c (.ref 1 1 0 x9.length))] [] [] 4 [] (by kernel_rfl) ?_
  refine AW.ret ?_
  obtain rfl := some_inj h
  exact fn0 (.inr rfl) [(1, 1)] 2 (.c (.ref 1 1 0 x9.length)) (by kernel_rfl)
/-! recordlink/journal.write -/
noncomputable def journal_write (p0 : Int) (p1 : ByteArray) : Option ByteArray := if ([u8.wrap (ishr .i64 ((p1.size : Nat) : Int) 8), u8.wrap ((p1.size : Nat) : Int), u8.wrap (255 - (u8.wrap (ishr .i64 ((p1.size : Nat) : Int) 8))), u8.wrap (255 - (u8.wrap ((p1.size : Nat) : Int)))] : List Int).length + p1.size ≤ 1099511627776 then ((journal_Sum p0 p1).bind fun y2 => ((journal_put_own (([u8.wrap (ishr .i64 ((p1.size : Nat) : Int) 8), u8.wrap ((p1.size : Nat) : Int), u8.wrap (255 - (u8.wrap (ishr .i64 ((p1.size : Nat) : Int) 8))), u8.wrap (255 - (u8.wrap ((p1.size : Nat) : Int)))] : List Int) ++ (bytesL p1)) y2 8).bind fun y4 => (some (strOf y4)))) else none
set_option maxRecDepth 100000 in
theorem journal_write_con (p0 : Int) (p1 : ByteArray) (r : ByteArray) (h : journal_write p0 p1 = some r) : Con Try.prog 31 [vu64 p0, vs p1] [] (vs r) [] := by
 refine con_of tt_ok0 0 Try.func31 (by kernel_rfl) rfl (by kernel_rfl) (fun base X _ => AW.post ?_)
 unfold journal_write at h
 refine AW.sg tt_ok0 [] [] [] 1 [] (by kernel_rfl) ?_
 refine AW.sg tt_ok0 [(5, vi64 ((p1.size : Nat) : Int))] [] [] 4 [] (by kernel_rfl) ?_
 refine AW.sg tt_ok0 [(7, vu8 (u8.wrap ((p1.size : Nat) : Int))), (6, vu8 (u8.wrap (ishr .i64 ((p1.size : Nat) : Int) 8)))] [] [] 11 [hn, ho (p := 0 ≤ (8 : Int)) (by decide)] (by kernel_rfl) ?_
 obtain ⟨g1, h⟩ := ifc h
 refine AW.sg tt_ok0 [(8, .c (.ref 19 1 0 ((([u8.wrap (ishr .i64 ((p1.size : Nat) : Int) 8), u8.wrap ((p1.size : Nat) : Int), u8.wrap (255 - (u8.wrap (ishr .i64 ((p1.size : Nat) : Int) 8))), u8.wrap (255 - (u8.wrap ((p1.size : Nat) : Int)))] : List Int) ++ (bytesL p1)).length)))] [17, 19] [(19, .row 5 false 1 (([u8.wrap (ishr .i64 ((p1.size : Nat) : Int) 8), u8.wrap ((p1.size : Nat) : Int), u8.wrap (255 - (u8.wrap (ishr .i64 ((p1.size : Nat) : Int) 8))), u8.wrap (255 - (u8.wrap ((p1.size : Nat) : Int)))] : List Int) ++ (bytesL p1)).length (Ru8 (([u8.wrap (ishr .i64 ((p1.size : Nat) : Int) 8), u8.wrap ((p1.size : Nat) : Int), u8.wrap (255 - (u8.wrap (ishr .i64 ((p1.size : Nat) : Int) 8))), u8.wrap (255 - (u8.wrap ((p1.size : Nat) : Int)))] : List Int) ++ (bytesL p1))))] 21 [hn, hn, hn, hn, hn, hn, hlit 0 Eu8 1 (fun _ => rfl) ([u8.wrap (ishr .i64 ((p1.size : Nat) : Int) 8), u8.wrap ((p1.size : Nat) : Int), u8.wrap (255 - (u8.wrap (ishr .i64 ((p1.size : Nat) : Int) 8))), u8.wrap (255 - (u8.wrap ((p1.size : Nat) : Int)))] : List Int), hn, hr ((([u8.wrap (ishr .i64 ((p1.size : Nat) : Int) 8), u8.wrap ((p1.size : Nat) : Int), u8.wrap (255 - (u8.wrap (ishr .i64 ((p1.size : Nat) : Int) 8))), u8.wrap (255 - (u8.wrap ((p1.size : Nat) : Int)))] : List Int) ++ (bytesL p1)).length) (Ru8 (([u8.wrap (ishr .i64 ((p1.size : Nat) : Int) 8), u8.wrap ((p1.size : Nat) : Int), u8.wrap (255 - (u8.wrap (ishr .i64 ((p1.size : Nat) : Int) 8))), u8.wrap (255 - (u8.wrap ((p1.size : Nat) : Int)))] : List Int) ++ (bytesL p1))) (p := (([u8.wrap (ishr .i64 ((p1.size : Nat) : Int) 8), u8.wrap ((p1.size : Nat) : Int), u8.wrap (255 - (u8.wrap (ishr .i64 ((p1.size : Nat) : Int) 8))), u8.wrap (255 - (u8.wrap ((p1.size : Nat) : Int)))] : List Int).length = ([u8.wrap (ishr .i64 ((p1.size : Nat) : Int) 8), u8.wrap ((p1.size : Nat) : Int), u8.wrap (255 - (u8.wrap (ishr .i64 ((p1.size : Nat) : Int) 8))), u8.wrap (255 - (u8.wrap ((p1.size : Nat) : Int)))] : List Int).length) ∧ (True) ∧ ((([u8.wrap (ishr .i64 ((p1.size : Nat) : Int) 8), u8.wrap ((p1.size : Nat) : Int), u8.wrap (255 - (u8.wrap (ishr .i64 ((p1.size : Nat) : Int) 8))), u8.wrap (255 - (u8.wrap ((p1.size : Nat) : Int)))] : List Int).length + p1.size ≤ 1099511627776) ∧ ((1 : Nat) ≤ 128)) ∧ (([u8.wrap (ishr .i64 ((p1.size : Nat) : Int) 8), u8.wrap ((p1.size : Nat) : Int), u8.wrap (255 - (u8.wrap (ishr .i64 ((p1.size : Nat) : Int) 8))), u8.wrap (255 - (u8.wrap ((p1.size : Nat) : Int)))] : List Int).length + p1.size = (([u8.wrap (ishr .i64 ((p1.size : Nat) : Int) 8), u8.wrap ((p1.size : Nat) : Int), u8.wrap (255 - (u8.wrap (ishr .i64 ((p1.size : Nat) : Int) 8))), u8.wrap (255 - (u8.wrap ((p1.size : Nat) : Int)))] : List Int) ++ (bytesL p1)).length ∧ ∀ i, i < (([u8.wrap (ishr .i64 ((p1.size : Nat) : Int) 8), u8.wrap ((p1.size : Nat) : Int), u8.wrap (255 - (u8.wrap (ishr .i64 ((p1.size : Nat) : Int) 8))), u8.wrap (255 - (u8.wrap ((p1.size : Nat) : Int)))] : List Int) ++ (bytesL p1)).length → ∀ j, j < 1 → TLe ((appRow (([u8.wrap (ishr .i64 ((p1.size : Nat) : Int) 8), u8.wrap ((p1.size : Nat) : Int), u8.wrap (255 - (u8.wrap (ishr .i64 ((p1.size : Nat) : Int) 8))), u8.wrap (255 - (u8.wrap ((p1.size : Nat) : Int)))] : List Int).length) (Ru8 ([u8.wrap (ishr .i64 ((p1.size : Nat) : Int) 8), u8.wrap ((p1.size : Nat) : Int), u8.wrap (255 - (u8.wrap (ishr .i64 ((p1.size : Nat) : Int) 8))), u8.wrap (255 - (u8.wrap ((p1.size : Nat) : Int)))] : List Int)) (bytesT p1)) i j) (Ru8 (([u8.wrap (ishr .i64 ((p1.size : Nat) : Int) 8), u8.wrap ((p1.size : Nat) : Int), u8.wrap (255 - (u8.wrap (ishr .i64 ((p1.size : Nat) : Int) 8))), u8.wrap (255 - (u8.wrap ((p1.size : Nat) : Int)))] : List Int) ++ (bytesL p1)) i j))) (⟨rfl, tv, ⟨g1, (by decide)⟩, rowT (app_row rfl (bytesL_length _) row_rfl bytesL_row)⟩)] (by kernel_rfl) ?_
 obtain ⟨y2, e3, h⟩ := bnd_some h
 obtain ⟨y4, e5, h⟩ := bnd_some h
 refine AW.sg tt_ok0 [(4, vs (strOf y4))] [19, 24] [] 27 [hn, hn, hn, hk (journal_Sum_con p0 p1 y2 e3), hm [19] [] 1 (journal_put_own_con (([u8.wrap (ishr .i64 ((p1.size : Nat) : Int) 8), u8.wrap ((p1.size : Nat) : Int), u8.wrap (255 - (u8.wrap (ishr .i64 ((p1.size : Nat) : Int) 8))), u8.wrap (255 - (u8.wrap ((p1.size : Nat) : Int)))] : List Int) ++ (bytesL p1)) y2 8 y4 e5) ⟨rowL_flat Vu8 _ _ _, tv⟩, hi (fun i => y4.getD i 0) (p := (0 + y4.length ≤ y4.length) ∧ ∀ i, i < y4.length → (fun i j => Ru8 y4 (0 + i) j) i 0 = .v (.int .u8 (y4.getD i 0))) (⟨le0, fun i _ => by simp only [Nat.zero_add] <;> rfl⟩)] (by kernel_rfl) ?_
 refine AW.ret ?_
 obtain rfl := some_inj h
 exact fn0 (.inr rfl) [] 0 (vs (strOf y4)) (by kernel_rfl)
/-! recordlink/journal.Append -/
noncomputable def journal_Append_k1 (p0 : ByteArray) (p1 : ByteArray) (y3 : Int) (x7 : Bool) : Option (ByteArray × Int) := if x7 = true then (some ((ByteArray.mk #[]), 1)) else ((journal_write y3 p1).bind fun y9 => (if p0.size + y9.size ≤ maxStr then (some ((p0 ++ y9), 0)) else none))
noncomputable def journal_Append (p0 : ByteArray) (p1 : ByteArray) : Option (ByteArray × Int) := bind4 (journal_read p0) fun y1 y2 y3 y4 => (if (y4 != 0) = true then (some ((ByteArray.mk #[]), y4)) else (if ((y1.length : Int) == 512) = true then (journal_Append_k1 p0 p1 y3 true) else (journal_Append_k1 p0 p1 y3 (decide (((p1.size : Nat) : Int) > 60000)))))
set_option maxRecDepth 100000 in
theorem journal_Append_con (p0 : ByteArray) (p1 : ByteArray) (r : ByteArray × Int) (h : journal_Append p0 p1 = some r) : Con Try.prog 19 [vs p0, vs p1] [] (.tup [vs r.1, vi64 r.2]) [] := by
 refine con_of tt_ok0 0 Try.func19 (by kernel_rfl) rfl (by kernel_rfl) (fun base X _ => AW.post ?_)
 unfold journal_Append at h
 refine AW.sg tt_ok0 [] [] [] 2 [] (by kernel_rfl) ?_
 obtain ⟨y1, y2, y3, y4, e5, h⟩ := bind4_some h
 refine AW.sg tt_ok0 [(9, vi64 y4), (8, vu64 y3), (6, .c (.ref 3 1 0 y1.length))] [3] [(3, .row 9 false 1 y1.length (Rs y1))] 13 [hn, hm [] [] 1 (journal_read_con p0 (y1, y2, y3, y4) e5) ⟨rowL_flat Vs _ _ _, tv⟩] (by kernel_rfl) ?_
 refine AW.seq (AW.block ?_)
 refine AW.sg tt_ok0 [(17, vb (y4 != 0))] [] [] 16 [] (by kernel_rfl) ?_
 refine AW.co h (by kernel_rfl) (fun c6 h => ?_) (fun c6 h => ?_)
 ·
  refine AW.sg tt_ok0 [(5, vi64 y4), (4, vs (ByteArray.mk #[]))] [] [] 19 [] (by kernel_rfl) ?_
  refine AW.ret (AW.inBlock_ret (AW.tr ?_))
  obtain rfl := some_inj h
  exact fn0 (.inr rfl) [] 0 (.tup [vs (ByteArray.mk #[]), vi64 y4]) (by kernel_rfl)
 ·
  refine AW.seq ?_
  refine AW.join (ι := Bool) (fun v => ⟨[(0, vs p0), (1, vs p1), (8, vu64 y3), (21, vb v)], [], 0⟩) (fun v : Bool => journal_Append_k1 p0 p1 y3 v = some r) (fun x7 h => ?_) ?_
  ·
   unfold journal_Append_k1 at h
   refine AW.tn ?_
   refine AW.co h (by kernel_rfl) (fun c8 h => ?_) (fun c8 h => ?_)
   ·
    refine AW.sg tt_ok0 [(5, vi64 1), (4, vs (ByteArray.mk #[]))] [] [] 2 [] (by kernel_rfl) ?_
    refine AW.ret (AW.inBlock_ret (AW.tr ?_))
    obtain rfl := some_inj h
    exact fn0 (.inr rfl) [] 0 (.tup [vs (ByteArray.mk #[]), vi64 1]) (by kernel_rfl)
   ·
    refine AW.skip (AW.inBlock_normal (AW.tn ?_))
    obtain ⟨y9, e10, h⟩ := bnd_some h
    obtain ⟨g11, h⟩ := ifc h
    refine AW.sg tt_ok0 [(5, vi64 0), (4, vs (p0 ++ y9))] [] [] 6 [hn, hn, hn, hk (journal_write_con y3 p1 y9 e10), ho g11] (by kernel_rfl) ?_
    refine AW.ret ?_
    obtain rfl := some_inj h
    exact fn0 (.inr rfl) [] 0 (.tup [vs (p0 ++ y9), vi64 0]) (by kernel_rfl)
  ·
   rcases ifs h with ⟨c12, h⟩ | ⟨c12, h⟩
   ·
    refine AW.rg tt_ok0 [(21, vb true)] [] [] 25 [hn, hn, ht c12] (by kernel_rfl) ?_
    exact jl true h (conv_re [] (by kernel_rfl))
   ·
    refine AW.rg tt_ok0 [(21, vb (decide (((p1.size : Nat) : Int) > 60000)))] [] [] 25 [hn, hn, hf c12] (by kernel_rfl) ?_
    exact jl (decide (((p1.size : Nat) : Int) > 60000)) h (conv_re [] (by kernel_rfl))
/-! recordlink/journal.Read -/
noncomputable def journal_Read (p0 : ByteArray) : Option ((List ByteArray) × Int × Int) := bind4 (journal_read p0) fun y1 y2 y3 y4 => (some (y1, y2, y4))
set_option maxRecDepth 100000 in
theorem journal_Read_con (p0 : ByteArray) (r : (List ByteArray) × Int × Int) (h : journal_Read p0 = some r) : Con Try.prog 17 [vs p0] [] (.tup [.c (.ref 0 1 0 r.1.length), vi64 r.2.1, vi64 r.2.2]) [(0, .row 9 false 1 r.1.length (Rs r.1))] := by
 refine con_of tt_ok0 0 Try.func17 (by kernel_rfl) rfl (by kernel_rfl) (fun base X _ => AW.post ?_)
 unfold journal_Read at h
 refine AW.sg tt_ok0 [] [] [] 3 [] (by kernel_rfl) ?_
 obtain ⟨y1, y2, y3, y4, e5, h⟩ := bind4_some h
 refine AW.sg tt_ok0 [(8, vi64 y4), (6, vi64 y2), (5, .c (.ref 4 1 0 y1.length))] [4] [(4, .row 9 false 1 y1.length (Rs y1))] 14 [hn, hm [] [] 1 (journal_read_con p0 (y1, y2, y3, y4) e5) ⟨rowL_flat Vs _ _ _, tv⟩] (by kernel_rfl) ?_
 refine AW.sg tt_ok0 [(4, vi64 y4), (3, vi64 y2), (2, .c (.ref 4 1 0 y1.length))] [] [] 20 [] (by kernel_rfl) ?_
 refine AW.ret ?_
 obtain rfl := some_inj h
 exact fn0 (.inr rfl) [(0, 4)] 1 (.tup [.c (.ref 4 1 0 y1.length), vi64 y2, vi64 y4]) (by kernel_rfl)
/-! recordlink/journal.Whole -/
noncomputable def journal_Whole (p0 : ByteArray) : Option ByteArray := bind3 (journal_Read p0) fun y1 y2 y3 => (if 0 ≤ y2 then (if y2.toNat ≤ p0.size then (some (p0.extract 0 y2.toNat)) else none) else none)
set_option maxRecDepth 100000 in
theorem journal_Whole_con (p0 : ByteArray) (r : ByteArray) (h : journal_Whole p0 = some r) : Con Try.prog 22 [vs p0] [] (vs r) [] := by
 refine con_of tt_ok0 0 Try.func22 (by kernel_rfl) rfl (by kernel_rfl) (fun base X _ => AW.post ?_)
 unfold journal_Whole at h
 refine AW.sg tt_ok0 [] [] [] 1 [] (by kernel_rfl) ?_
 obtain ⟨y1, y2, y3, e4, h⟩ := bind3_some h
 refine AW.sg tt_ok0 [(4, vi64 y2)] [2] [] 10 [hn, hm [] [] 1 (journal_Read_con p0 (y1, y2, y3) e4) ⟨rowL_flat Vs _ _ _, tv⟩] (by kernel_rfl) ?_
 obtain ⟨g5, g6, h⟩ := ifd h
 refine AW.sg tt_ok0 [(2, vs (p0.extract 0 y2.toNat))] [] [] 14 [hn, hn, ho (p := (True) ∧ (0 ≤ y2) ∧ (0 ≤ y2.toNat) ∧ (y2.toNat ≤ p0.size)) (⟨tv, g5, (Nat.zero_le _), g6⟩)] (by kernel_rfl) ?_
 refine AW.ret ?_
 obtain rfl := some_inj h
 exact fn0 (.inr rfl) [] 0 (vs (p0.extract 0 y2.toNat)) (by kernel_rfl)
/-! recordlink/recordlinklaw38.awake -/
noncomputable def rl_law38_awake_k1 (x11 : Bool) : Option Bool := some x11
noncomputable def rl_law38_awake : Option Bool := bind2 (journal_Append (ByteArray.mk #[]) (ByteArray.mk #[])) fun y1 y2 => (bind2 (journal_Append y1 (ByteArray.mk #[97, 98])) fun y4 y5 => (bind3 (journal_Read y4) fun y7 y8 y9 => (if (y2 == 0) = true then (if (y5 == 0) = true then (if (y9 == 0) = true then (if (((y1.size : Nat) : Int) == 12) = true then (if 4 ≤ y1.size then (if ((y1.extract 0 4).toList == (ByteArray.mk #[0, 0, 255, 255]).toList) = true then (if (((y4.size : Nat) : Int) == 26) = true then (if (y8 == 26) = true then (if ((y7.length : Int) == 2) = true then (if (1 : Int) < (y7.length : Int) then (if ((y7.getD (0 + 1) ByteArray.empty).toList == (ByteArray.mk #[97, 98]).toList) = true then (if 25 ≤ y4.size then ((journal_Whole (y4.extract 0 25)).bind fun y24 => (rl_law38_awake_k1 (y24.toList == y1.toList))) else none) else (rl_law38_awake_k1 false)) else none) else (rl_law38_awake_k1 false)) else (rl_law38_awake_k1 false)) else (rl_law38_awake_k1 false)) else (rl_law38_awake_k1 false)) else none) else (rl_law38_awake_k1 false)) else (rl_law38_awake_k1 false)) else (rl_law38_awake_k1 false)) else (rl_law38_awake_k1 false))))
set_option maxRecDepth 100000 in
theorem rl_law38_awake_con (r : Bool) (h : rl_law38_awake = some r) : Con Try.prog 10 [] [] (vb r) [] := by
 refine con_of tt_ok0 0 Try.func10 (by kernel_rfl) rfl (by kernel_rfl) (fun base X _ => AW.post ?_)
 unfold rl_law38_awake at h
 refine AW.sg tt_ok0 [] [] [] 1 [] (by kernel_rfl) ?_
 obtain ⟨y1, y2, e3, h⟩ := bind2_some h
 refine AW.sg tt_ok0 [(2, vi64 y2), (1, vs y1)] [] [] 6 [hk (journal_Append_con (ByteArray.mk #[]) (ByteArray.mk #[]) (y1, y2) e3)] (by kernel_rfl) ?_
 obtain ⟨y4, y5, e6, h⟩ := bind2_some h
 refine AW.sg tt_ok0 [(4, vi64 y5), (3, vs y4)] [] [] 12 [hn, hk (journal_Append_con y1 (ByteArray.mk #[97, 98]) (y4, y5) e6)] (by kernel_rfl) ?_
 obtain ⟨y7, y8, y9, e10, h⟩ := bind3_some h
 refine AW.sg tt_ok0 [(7, vi64 y9), (6, vi64 y8), (5, .c (.ref 13 1 0 y7.length))] [13] [(13, .row 9 false 1 y7.length (Rs y7))] 21 [hn, hm [] [] 1 (journal_Read_con y4 (y7, y8, y9) e10) ⟨rowL_flat Vs _ _ _, tv⟩] (by kernel_rfl) ?_
 refine AW.seq ?_
 refine AW.join (ι := Bool) (fun v => ⟨[(0, vb v)], [], 0⟩) (fun v : Bool => rl_law38_awake_k1 v = some r) (fun x11 h => ?_) ?_
 ·
  unfold rl_law38_awake_k1 at h
  refine AW.tn (AW.ret ?_)
  obtain rfl := some_inj h
  exact fn0 (.inr rfl) [] 0 (vb x11) (by kernel_rfl)
 ·
  rcases ifs h with ⟨c12, h⟩ | ⟨c12, h⟩
  ·
   rcases ifs h with ⟨c13, h⟩ | ⟨c13, h⟩
   ·
    rcases ifs h with ⟨c14, h⟩ | ⟨c14, h⟩
    ·
     rcases ifs h with ⟨c15, h⟩ | ⟨c15, h⟩
     ·
      obtain ⟨g16, h⟩ := ifc h
      rcases ifs h with ⟨c17, h⟩ | ⟨c17, h⟩
      ·
       rcases ifs h with ⟨c18, h⟩ | ⟨c18, h⟩
       ·
        rcases ifs h with ⟨c19, h⟩ | ⟨c19, h⟩
        ·
         rcases ifs h with ⟨c20, h⟩ | ⟨c20, h⟩
         ·
          obtain ⟨g21, h⟩ := ifc h
          rcases ifs h with ⟨c22, h⟩ | ⟨c22, h⟩
          ·
           obtain ⟨g23, h⟩ := ifc h
           obtain ⟨y24, e25, h⟩ := bnd_some h
           refine AW.rg tt_ok0 [(0, vb (y24.toList == y1.toList))] [] [] 68 [hn, ht c12, hn, hn, ht c13, hn, hn, hn, ht c14, hn, hn, hn, hn, ht c15, hn, hn, hn, ho (p := (True) ∧ (0 ≤ (4 : Int)) ∧ (0 ≤ 4) ∧ (4 ≤ y1.size)) (⟨tv, (by decide), (Nat.zero_le _), g16⟩), ht c17, hn, hn, hn, hn, ht c18, hn, hn, hn, ht c19, hn, hn, hn, hn, ht c20, hn, hn, hn, ho (p := (0 ≤ (1 : Int)) ∧ ((1 : Int) < (y7.length : Int))) (⟨(by decide), g21⟩), ho (p := (0 + 1) < y7.length) (by have h1 : 0 ≤ (1 : Int) := (by decide); have h2 : (1 : Int) < (y7.length : Int) := g21; omega), ht c22, hn, hn, hn, ho (p := (True) ∧ (0 ≤ (25 : Int)) ∧ (0 ≤ 25) ∧ (25 ≤ y4.size)) (⟨tv, (by decide), (Nat.zero_le _), g23⟩), hk (journal_Whole_con (y4.extract 0 25) y24 e25)] (by kernel_rfl) ?_
           exact jl (y24.toList == y1.toList) h (conv_re [] (by kernel_rfl))
          ·
           refine AW.rg tt_ok0 [(0, vb false)] [] [] 69 [hn, ht c12, hn, hn, ht c13, hn, hn, hn, ht c14, hn, hn, hn, hn, ht c15, hn, hn, hn, ho (p := (True) ∧ (0 ≤ (4 : Int)) ∧ (0 ≤ 4) ∧ (4 ≤ y1.size)) (⟨tv, (by decide), (Nat.zero_le _), g16⟩), ht c17, hn, hn, hn, hn, ht c18, hn, hn, hn, ht c19, hn, hn, hn, hn, ht c20, hn, hn, hn, ho (p := (0 ≤ (1 : Int)) ∧ ((1 : Int) < (y7.length : Int))) (⟨(by decide), g21⟩), ho (p := (0 + 1) < y7.length) (by have h1 : 0 ≤ (1 : Int) := (by decide); have h2 : (1 : Int) < (y7.length : Int) := g21; omega), hf c22] (by kernel_rfl) ?_
           exact jl false h (conv_re [] (by kernel_rfl))
         ·
          refine AW.rg tt_ok0 [(0, vb false)] [] [] 69 [hn, ht c12, hn, hn, ht c13, hn, hn, hn, ht c14, hn, hn, hn, hn, ht c15, hn, hn, hn, ho (p := (True) ∧ (0 ≤ (4 : Int)) ∧ (0 ≤ 4) ∧ (4 ≤ y1.size)) (⟨tv, (by decide), (Nat.zero_le _), g16⟩), ht c17, hn, hn, hn, hn, ht c18, hn, hn, hn, ht c19, hn, hn, hn, hn, hf c20] (by kernel_rfl) ?_
          exact jl false h (conv_re [] (by kernel_rfl))
        ·
         refine AW.rg tt_ok0 [(0, vb false)] [] [] 69 [hn, ht c12, hn, hn, ht c13, hn, hn, hn, ht c14, hn, hn, hn, hn, ht c15, hn, hn, hn, ho (p := (True) ∧ (0 ≤ (4 : Int)) ∧ (0 ≤ 4) ∧ (4 ≤ y1.size)) (⟨tv, (by decide), (Nat.zero_le _), g16⟩), ht c17, hn, hn, hn, hn, ht c18, hn, hn, hn, hf c19] (by kernel_rfl) ?_
         exact jl false h (conv_re [] (by kernel_rfl))
       ·
        refine AW.rg tt_ok0 [(0, vb false)] [] [] 69 [hn, ht c12, hn, hn, ht c13, hn, hn, hn, ht c14, hn, hn, hn, hn, ht c15, hn, hn, hn, ho (p := (True) ∧ (0 ≤ (4 : Int)) ∧ (0 ≤ 4) ∧ (4 ≤ y1.size)) (⟨tv, (by decide), (Nat.zero_le _), g16⟩), ht c17, hn, hn, hn, hn, hf c18] (by kernel_rfl) ?_
        exact jl false h (conv_re [] (by kernel_rfl))
      ·
       refine AW.rg tt_ok0 [(0, vb false)] [] [] 69 [hn, ht c12, hn, hn, ht c13, hn, hn, hn, ht c14, hn, hn, hn, hn, ht c15, hn, hn, hn, ho (p := (True) ∧ (0 ≤ (4 : Int)) ∧ (0 ≤ 4) ∧ (4 ≤ y1.size)) (⟨tv, (by decide), (Nat.zero_le _), g16⟩), hf c17] (by kernel_rfl) ?_
       exact jl false h (conv_re [] (by kernel_rfl))
     ·
      refine AW.rg tt_ok0 [(0, vb false)] [] [] 69 [hn, ht c12, hn, hn, ht c13, hn, hn, hn, ht c14, hn, hn, hn, hn, hf c15] (by kernel_rfl) ?_
      exact jl false h (conv_re [] (by kernel_rfl))
    ·
     refine AW.rg tt_ok0 [(0, vb false)] [] [] 69 [hn, ht c12, hn, hn, ht c13, hn, hn, hn, hf c14] (by kernel_rfl) ?_
     exact jl false h (conv_re [] (by kernel_rfl))
   ·
    refine AW.rg tt_ok0 [(0, vb false)] [] [] 69 [hn, ht c12, hn, hn, hf c13] (by kernel_rfl) ?_
    exact jl false h (conv_re [] (by kernel_rfl))
  ·
   refine AW.rg tt_ok0 [(0, vb false)] [] [] 69 [hn, hf c12] (by kernel_rfl) ?_
   exact jl false h (conv_re [] (by kernel_rfl))
def Ei64 (x : Int) : List T := [.v (.int .i64 x)]
def Ri64 (xs : List Int) : Nat → Nat → T := rowL 0 Ei64 xs
theorem Vi64 : ∀ x, allV (Ei64 x) := fun _ => ⟨tv, tv⟩
/-! recordlink/recordlinkmake.Few -/
noncomputable def rl_make_Few (p0 : List Int) : Option Bool := some (decide ((p0.length : Int) ≤ 400))
set_option maxRecDepth 100000 in
theorem rl_make_Few_con (p0 : List Int) (r : Bool) (h : rl_make_Few p0 = some r) : Con Try.prog 11 [vl 1 Ri64 p0] [] (vb r) [] := by
 refine con_of tt_ok0 0 Try.func11 (by kernel_rfl) rfl (by kernel_rfl) (fun base X _ => AW.post ?_)
 unfold rl_make_Few at h
 refine AW.sg tt_ok0 [] [] [] 1 [] (by kernel_rfl) ?_
 refine AW.sg tt_ok0 [(2, vb (decide ((p0.length : Int) ≤ 400)))] [] [] 5 [] (by kernel_rfl) ?_
 refine AW.ret ?_
 obtain rfl := some_inj h
 exact fn0 (.inr rfl) [] 0 (vb (decide ((p0.length : Int) ≤ 400))) (by kernel_rfl)
structure S_recordlinkmake_Deck where
 list : List Int
 at_ : Int
 state : Int
def dS_recordlinkmake_Deck : S_recordlinkmake_Deck := ⟨([] : List Int), 0, 0⟩
instance : Inhabited S_recordlinkmake_Deck := ⟨dS_recordlinkmake_Deck⟩
/-! recordlink/recordlinkmake.New -/
noncomputable def rl_make_New (p0 : List Int) : Option S_recordlinkmake_Deck := some (⟨p0, 0, 11400714819323198485⟩ : S_recordlinkmake_Deck)
set_option maxRecDepth 100000 in
theorem rl_make_New_con (p0 : List Int) (r : S_recordlinkmake_Deck) (h : rl_make_New p0 = some r) : Con Try.prog 12 [vl 1 Ri64 p0] [] (.c (.ptr 0 3 0 0)) [(0, .box 49 [cl 1 Ri64 r.list, ci64 r.at_, cu64 r.state])] := by
 refine con_of tt_ok0 0 Try.func12 (by kernel_rfl) rfl (by kernel_rfl) (fun base X _ => AW.post ?_)
 unfold rl_make_New at h
 refine AW.sg tt_ok0 [] [] [] 1 [] (by kernel_rfl) ?_
 refine AW.sg tt_ok0 [(2, .c (.ptr 3 3 0 0))] [3] [(3, .box 49 [cl 1 Ri64 p0, ci64 0, cu64 11400714819323198485])] 5 [] (by kernel_rfl) ?_
 refine AW.ret ?_
 obtain rfl := some_inj h
 exact fn0 (.inr rfl) [(0, 3)] 1 (.c (.ptr 3 3 0 0)) (by kernel_rfl)
/-! (*recordlink/recordlinkmake.Deck).Word -/
noncomputable def rl_make_Deck_Word_k1 (p0 : S_recordlinkmake_Deck) (x1 : Int) (x2 : Int) : Option (Int × S_recordlinkmake_Deck) := (some (u64.wrap ((u64.wrap ((u64.wrap (p0.state + x1)) * 6364136223846793005)) + 1442695040888963407))).bind fun z3 => ((some (u64.wrap ((ixor .u64 z3 (ishr .u64 z3 33)) * 18397679294719823053))).bind fun z5 => (some (ixor .u64 z5 (ishr .u64 z5 29), (⟨p0.list, x2, z3⟩ : S_recordlinkmake_Deck))))
noncomputable def rl_make_Deck_Word (p0 : S_recordlinkmake_Deck) : Option (Int × S_recordlinkmake_Deck) := if (decide (p0.at_ < ((p0.list.length : Nat) : Int))) = true then (if 0 ≤ p0.at_ then (if p0.at_ < ((p0.list.length : Nat) : Int) then (rl_make_Deck_Word_k1 p0 (u64.wrap (p0.list.getD p0.at_.toNat 0)) (i64.wrap (p0.at_ + 1))) else none) else none) else (rl_make_Deck_Word_k1 p0 0 p0.at_)
set_option maxRecDepth 100000 in
theorem rl_make_Deck_Word_con (p0 : S_recordlinkmake_Deck) (r : Int × S_recordlinkmake_Deck) (h : rl_make_Deck_Word p0 = some r) : Con Try.prog 33 [.c (.ptr 0 3 0 0)] [(0, .box 49 [cl 1 Ri64 p0.list, ci64 p0.at_, cu64 p0.state])] (vu64 r.1) [(0, .box 49 [cl 1 Ri64 r.2.list, ci64 r.2.at_, cu64 r.2.state])] := by
 refine con_of tt_ok0 1 Try.func33 (by kernel_rfl) rfl (by kernel_rfl) (fun base X _ => AW.post ?_)
 unfold rl_make_Deck_Word at h
 refine AW.sg tt_ok0 [] [] [] 2 [] (by kernel_rfl) ?_
 refine AW.sg tt_ok0 [(3, vu64 0)] [] [] 3 [] (by kernel_rfl) ?_
 refine AW.seq ?_
 refine AW.join (ι := Int × Int) (fun v => ⟨[(0, .c (.ptr 0 3 0 0)), (3, vu64 v.1)], [(0, .box 49 [cl 1 Ri64 p0.list, ci64 v.2, cu64 p0.state])], 1⟩) (fun v : Int × Int => rl_make_Deck_Word_k1 p0 v.1 v.2 = some r) (fun v h => ?_) ?_
 ·
  obtain ⟨x1, x2⟩ := v
  replace h : rl_make_Deck_Word_k1 p0 x1 x2 = some r := h
  unfold rl_make_Deck_Word_k1 at h
  refine AW.tn ?_
  obtain ⟨z3, n4, h⟩ := bnd_some h
  replace n4 := some_inj n4
  refine AW.sg tt_ok0 [] [0] [(0, .box 49 [cl 1 Ri64 p0.list, ci64 x2, cu64 z3])] 13 [] (by subst n4; kernel_rfl) ?_
  refine AW.sd tt_ok0 mo0 [] [(4, vu64 (ixor .u64 z3 (ishr .u64 z3 33)))] [] 24 [hn, hn, hn, hn, hn, hn, hn, hn, ho (p := 0 ≤ (33 : Int)) (by decide)] (by kernel_rfl) ?_
  obtain ⟨z5, n6, h⟩ := bnd_some h
  replace n6 := some_inj n6
  refine AW.sg tt_ok0 [(4, vu64 z5)] [] [] 27 [] (by subst n6; kernel_rfl) ?_
  refine AW.sg tt_ok0 [(2, vu64 (ixor .u64 z5 (ishr .u64 z5 29)))] [] [] 32 [hn, hn, ho (p := 0 ≤ (29 : Int)) (by decide)] (by kernel_rfl) ?_
  refine AW.ret ?_
  obtain rfl := some_inj h
  exact fn0 (.inr rfl) [(0, 0)] 1 (vu64 (ixor .u64 z5 (ishr .u64 z5 29))) (by kernel_rfl)
 ·
  refine AW.sd tt_ok0 mo0 [] [(14, vb (decide (p0.at_ < ((p0.list.length : Nat) : Int))))] [] 13 [] (by kernel_rfl) ?_
  refine AW.co h (by kernel_rfl) (fun c7 h => ?_) (fun c7 h => ?_)
  ·
   obtain ⟨g8, g9, h⟩ := ifd h
   refine AW.sd tt_ok0 mo0 [] [(3, vu64 (u64.wrap (p0.list.getD p0.at_.toNat 0)))] [] 25 [hn, hn, hn, hn, hn, hn, hn, hn, hq g8 g9] (by kernel_rfl) ?_
   refine AW.rg tt_ok0 [] [0] [(0, .box 49 [cl 1 Ri64 p0.list, ci64 (i64.wrap (p0.at_ + 1)), cu64 p0.state])] 33 [] (by kernel_rfl) ?_
   exact jl (u64.wrap (p0.list.getD p0.at_.toNat 0), i64.wrap (p0.at_ + 1)) h (conv_re [(0, 0)] (by kernel_rfl))
  ·
   refine AW.skip ?_
   exact jl (0, p0.at_) h (conv_re [(0, 0)] (by kernel_rfl))
/-! (*recordlink/recordlinkmake.Deck).Next -/
noncomputable def rl_make_Deck_Next (p0 : S_recordlinkmake_Deck) (p1 : Int) : Option (Int × S_recordlinkmake_Deck) := if (decide (p1 < 1)) = true then (some (0, p0)) else (bind2 (rl_make_Deck_Word p0) fun y2 y3 => (if p1 ≠ 0 then (some (((i64.wrap (ishr .u64 y2 1)).tmod p1), y3)) else none))
set_option maxRecDepth 100000 in
theorem rl_make_Deck_Next_con (p0 : S_recordlinkmake_Deck) (p1 : Int) (r : Int × S_recordlinkmake_Deck) (h : rl_make_Deck_Next p0 p1 = some r) : Con Try.prog 24 [.c (.ptr 0 3 0 0), vi64 p1] [(0, .box 49 [cl 1 Ri64 p0.list, ci64 p0.at_, cu64 p0.state])] (vi64 r.1) [(0, .box 49 [cl 1 Ri64 r.2.list, ci64 r.2.at_, cu64 r.2.state])] := by
 refine con_of tt_ok0 1 Try.func24 (by kernel_rfl) rfl (by kernel_rfl) (fun base X _ => AW.post ?_)
 unfold rl_make_Deck_Next at h
 refine AW.sg tt_ok0 [] [] [] 2 [] (by kernel_rfl) ?_
 refine AW.seq ?_
 refine AW.sg tt_ok0 [(6, vb (decide (p1 < 1)))] [] [] 4 [] (by kernel_rfl) ?_
 refine AW.co h (by kernel_rfl) (fun c1 h => ?_) (fun c1 h => ?_)
 ·
  refine AW.sg tt_ok0 [(4, vi64 0)] [] [] 5 [] (by kernel_rfl) ?_
  refine AW.ret (AW.tr ?_)
  obtain rfl := some_inj h
  exact fn0 (.inr rfl) [(0, 0)] 1 (vi64 0) (by kernel_rfl)
 ·
  refine AW.skip (AW.tn ?_)
  obtain ⟨y2, y3, e4, h⟩ := bind2_some h
  obtain ⟨g5, h⟩ := ifc h
  refine AW.sg tt_ok0 [(4, vi64 ((i64.wrap (ishr .u64 y2 1)).tmod p1))] [0] [(0, .box 49 [cl 1 Ri64 y3.list, ci64 y3.at_, cu64 y3.state])] 10 [hn, hl [0] [] 0 (rl_make_Deck_Word_con p0 (y2, y3) e4), ho (p := 0 ≤ (1 : Int)) (by decide), hn, hn, ho g5] (by kernel_rfl) ?_
  refine AW.ret ?_
  obtain rfl := some_inj h
  exact fn0 (.inr rfl) [(0, 0)] 1 (vi64 ((i64.wrap (ishr .u64 y2 1)).tmod p1)) (by kernel_rfl)
/-! recordlink/recordlinkref38.number -/
noncomputable def rl_ref38_number_l1 (p0 : Int) (x3 : ByteArray) (x4 : Int) : Option ((ByteArray × Int) ⊕ ByteArray) := if (decide (x4 ≥ 0)) = true then (if 0 ≤ (u64.wrap (i64.wrap (8 * x4))) then (if x3.size + (strOf ([u8.wrap (ishr .u64 p0 (u64.wrap (i64.wrap (8 * x4))))] : List Int)).size ≤ maxStr then (some (.inl ((x3 ++ (strOf ([u8.wrap (ishr .u64 p0 (u64.wrap (i64.wrap (8 * x4))))] : List Int))), i64.wrap (x4 - 1)))) else none) else none) else (some (.inr x3))
noncomputable def rl_ref38_number (p0 : Int) (p1 : Int) : Option ByteArray := (loop (fun v : ByteArray × Int => rl_ref38_number_l1 p0 v.1 v.2) ((ByteArray.mk #[]), i64.wrap (p1 - 1))).bind fun x9 => (some x9)
set_option maxRecDepth 100000 in
theorem rl_ref38_number_con (p0 : Int) (p1 : Int) (r : ByteArray) (h : rl_ref38_number p0 p1 = some r) : Con Try.prog 28 [vu64 p0, vi64 p1] [] (vs r) [] := by
 refine con_of tt_ok0 0 Try.func28 (by kernel_rfl) rfl (by kernel_rfl) (fun base X _ => AW.post ?_)
 unfold rl_ref38_number at h
 refine AW.sg tt_ok0 [] [] [] 1 [] (by kernel_rfl) ?_
 refine AW.sg tt_ok0 [(5, vs (ByteArray.mk #[]))] [] [] 2 [] (by kernel_rfl) ?_
 refine AW.seq ?_
 refine AW.sg tt_ok0 [(6, vi64 (i64.wrap (p1 - 1)))] [] [] 5 [] (by kernel_rfl) ?_
 refine AW.block ?_
 obtain ⟨x9, l10, h⟩ := bnd_some h
 refine AW.lp l10 (fun v => ⟨[(0, vu64 p0), (5, vs v.1), (6, vi64 v.2)], [], 0⟩) (fun t : ByteArray => (.exit 0, ⟨[(5, vs t)], [], 0⟩)) (conv_re [] (by kernel_rfl)) (fun _ => tv) ?_ ?_
 ·
  clear l10 h
  intro v o h
  obtain ⟨x3, x4⟩ := v
  replace h : rl_ref38_number_l1 p0 x3 x4 = some o := h
  unfold rl_ref38_number_l1 at h
  refine AW.seq ?_
  refine AW.sg tt_ok0 [(10, vb (decide (x4 ≥ 0)))] [] [] 2 [] (by kernel_rfl) ?_
  refine AW.co h (by kernel_rfl) (fun c6 h => ?_) (fun c6 h => ?_)
  ·
   refine AW.skip (AW.tn ?_)
   refine AW.seq (AW.block ?_)
   obtain ⟨g7, g8, h⟩ := ifd h
   refine AW.rg tt_ok0 [(5, vs (x3 ++ (strOf ([u8.wrap (ishr .u64 p0 (u64.wrap (i64.wrap (8 * x4))))] : List Int))))] [9] [] 13 [hn, hn, hn, hn, hn, ho g7, hn, hlit 0 Eu8 1 (fun _ => rfl) ([u8.wrap (ishr .u64 p0 (u64.wrap (i64.wrap (8 * x4))))] : List Int), hi (fun i => ([u8.wrap (ishr .u64 p0 (u64.wrap (i64.wrap (8 * x4))))] : List Int).getD i 0) (p := (0 + ([u8.wrap (ishr .u64 p0 (u64.wrap (i64.wrap (8 * x4))))] : List Int).length ≤ ([u8.wrap (ishr .u64 p0 (u64.wrap (i64.wrap (8 * x4))))] : List Int).length) ∧ ∀ i, i < ([u8.wrap (ishr .u64 p0 (u64.wrap (i64.wrap (8 * x4))))] : List Int).length → (fun i j => Ru8 ([u8.wrap (ishr .u64 p0 (u64.wrap (i64.wrap (8 * x4))))] : List Int) (0 + i) j) i 0 = .v (.int .u8 (([u8.wrap (ishr .u64 p0 (u64.wrap (i64.wrap (8 * x4))))] : List Int).getD i 0))) (⟨le0, fun i _ => by simp only [Nat.zero_add] <;> rfl⟩), ho g8] (by kernel_rfl) ?_
   refine AW.inBlock_normal (AW.tn ?_)
   refine AW.rg tt_ok0 [(6, vi64 (i64.wrap (x4 - 1)))] [] [] 16 [] (by kernel_rfl) ?_
   exact lpn h (conv_re [] (by kernel_rfl))
  ·
   refine AW.exit (AW.thenQ_exit ?_)
   exact lpo h rfl (conv_re [] (by kernel_rfl))
 ·
  show (_ : Exit → St → Prop) (.exit 0) _
  refine AW.inBlock_hit (AW.tn ?_)
  refine AW.sg tt_ok0 [(4, vs x9)] [] [] 2 [] (by kernel_rfl) ?_
  refine AW.ret ?_
  obtain rfl := some_inj h
  exact fn0 (.inr rfl) [] 0 (vs x9) (by kernel_rfl)
def Eu64 (x : Int) : List T := [.v (.int .u64 x)]
def Ru64 (xs : List Int) : Nat → Nat → T := rowL 0 Eu64 xs
theorem Vu64 : ∀ x, allV (Eu64 x) := fun _ => ⟨tv, tv⟩
/-! recordlink/recordlinkref08.rotl -/
noncomputable def rl_ref08_rotl (p0 : Int) (p1 : Int) : Option Int := if 0 ≤ p1 then (if 0 ≤ (i64.wrap (64 - p1)) then ((some (ior .u64 (ishl .u64 p0 p1) (ishr .u64 p0 (i64.wrap (64 - p1))))).bind fun z3 => (some z3)) else none) else none
set_option maxRecDepth 100000 in
theorem rl_ref08_rotl_con (p0 : Int) (p1 : Int) (r : Int) (h : rl_ref08_rotl p0 p1 = some r) : Con Try.prog 40 [vu64 p0, vi64 p1] [] (vu64 r) [] := by
 refine con_of tt_ok0 0 Try.func40 (by kernel_rfl) rfl (by kernel_rfl) (fun base X _ => AW.post ?_)
 unfold rl_ref08_rotl at h
 refine AW.sg tt_ok0 [] [] [] 1 [] (by kernel_rfl) ?_
 obtain ⟨g1, g2, h⟩ := ifd h
 obtain ⟨z3, n4, h⟩ := bnd_some h
 replace n4 := some_inj n4
 refine AW.sd tt_ok0 mo0 [] [(4, vu64 z3)] [] 10 [hn, hn, ho g1, hn, hn, hn, ho g2] (by subst n4; kernel_rfl) ?_
 refine AW.ret ?_
 obtain rfl := some_inj h
 exact fn0 (.inr rfl) [] 0 (vu64 z3) (by kernel_rfl)
/-! recordlink/recordlinkref08.round -/
noncomputable def rl_ref08_round (p0 : List Int) : Option (List Int) := (rl_ref08_rotl (p0.getD 1 0) 13).bind fun y1 => ((some (ixor .u64 y1 (u64.wrap ((p0.getD 0 0) + (p0.getD 1 0))))).bind fun z3 => ((rl_ref08_rotl (u64.wrap ((p0.getD 0 0) + (p0.getD 1 0))) 32).bind fun y5 => ((rl_ref08_rotl (p0.getD 3 0) 16).bind fun y7 => ((some (ixor .u64 y7 (u64.wrap ((p0.getD 2 0) + (p0.getD 3 0))))).bind fun z9 => ((rl_ref08_rotl z9 21).bind fun y11 => ((some (u64.wrap ((u64.wrap ((p0.getD 2 0) + (p0.getD 3 0))) + z3))).bind fun z13 => ((rl_ref08_rotl z3 17).bind fun y15 => ((rl_ref08_rotl z13 32).bind fun y17 => (some ([u64.wrap (y5 + z9), ixor .u64 y15 z13, y17, ixor .u64 y11 (u64.wrap (y5 + z9))] : List Int))))))))))
set_option maxRecDepth 100000 in
theorem rl_ref08_round_con (p0 : List Int) (r : List Int) (h : rl_ref08_round p0 = some r) : Con Try.prog 37 [.agg [cu64 (p0.getD 0 0), cu64 (p0.getD 1 0), cu64 (p0.getD 2 0), cu64 (p0.getD 3 0)]] [] (.agg [cu64 (r.getD 0 0), cu64 (r.getD 1 0), cu64 (r.getD 2 0), cu64 (r.getD 3 0)]) [] := by
 refine con_of tt_ok0 0 Try.func37 (by kernel_rfl) rfl (by kernel_rfl) (fun base X _ => AW.post ?_)
 unfold rl_ref08_round at h
 refine AW.sg tt_ok0 [(2, .c (.ptr 1 1 0 0)), (1, .c (.ptr 0 1 0 0))] [0, 1] [(1, .row 66 false 1 4 (Ru64 ([0, 0, 0, 0] : List Int))), (0, .row 66 false 1 4 (Ru64 p0))] 2 [hr 4 (Ru64 p0) (p := 4 = 4 ∧ ∀ i, i < 4 → ∀ j, j < 1 → TLe (rowOf [.v (.int .u64 (p0.getD 0 0)), .v (.int .u64 (p0.getD 1 0)), .v (.int .u64 (p0.getD 2 0)), .v (.int .u64 (p0.getD 3 0))] 1 i j) (Ru64 p0 i j)) (⟨rfl, fun i hi j hj => match i, hi, j, hj with | 0, _, 0, _ => TLe.refl _ | 1, _, 0, _ => TLe.refl _ | 2, _, 0, _ => TLe.refl _ | 3, _, 0, _ => TLe.refl _ | _ + 4, h, _, _ => absurd h (by omega) | _, _, _ + 1, h => absurd h (by omega)⟩), hr 4 (Ru64 ([0, 0, 0, 0] : List Int)) (p := 4 = 4 ∧ ∀ i, i < 4 → ∀ j, j < 1 → TLe (rowOf [.v (.int .u64 0), .v (.int .u64 0), .v (.int .u64 0), .v (.int .u64 0)] 1 i j) (Ru64 ([0, 0, 0, 0] : List Int) i j)) (⟨rfl, fun i hi j hj => match i, hi, j, hj with | 0, _, 0, _ => TLe.refl _ | 1, _, 0, _ => TLe.refl _ | 2, _, 0, _ => TLe.refl _ | 3, _, 0, _ => TLe.refl _ | _ + 4, h, _, _ => absurd h (by omega) | _, _, _ + 1, h => absurd h (by omega)⟩)] (by kernel_rfl) ?_
 refine AW.sd tt_ok0 mo0 [] [(6, vu64 (p0.getD 3 0)), (5, vu64 (p0.getD 2 0)), (4, vu64 (p0.getD 1 0)), (3, vu64 (p0.getD 0 0))] [] 14 [ho (p := (0 ≤ (0 : Int)) ∧ ((0 : Int) < ((4 : Nat) : Int))) (⟨(by decide), (by decide)⟩), ho (p := 0 < 4) (by decide), ho (p := (0 ≤ (1 : Int)) ∧ ((1 : Int) < ((4 : Nat) : Int))) (⟨(by decide), (by decide)⟩), ho (p := 1 < 4) (by decide), ho (p := (0 ≤ (2 : Int)) ∧ ((2 : Int) < ((4 : Nat) : Int))) (⟨(by decide), (by decide)⟩), ho (p := 2 < 4) (by decide), ho (p := (0 ≤ (3 : Int)) ∧ ((3 : Int) < ((4 : Nat) : Int))) (⟨(by decide), (by decide)⟩), ho (p := 3 < 4) (by decide)] (by kernel_rfl) ?_
 refine AW.sg tt_ok0 [(3, vu64 (u64.wrap ((p0.getD 0 0) + (p0.getD 1 0))))] [] [] 18 [] (by kernel_rfl) ?_
 obtain ⟨y1, e2, h⟩ := bnd_some h
 obtain ⟨z3, n4, h⟩ := bnd_some h
 replace n4 := some_inj n4
 refine AW.sg tt_ok0 [(4, vu64 z3)] [] [] 22 [hn, hk (rl_ref08_rotl_con (p0.getD 1 0) 13 y1 e2)] (by subst n4; kernel_rfl) ?_
 obtain ⟨y5, e6, h⟩ := bnd_some h
 refine AW.sg tt_ok0 [(3, vu64 y5)] [] [] 24 [hn, hk (rl_ref08_rotl_con (u64.wrap ((p0.getD 0 0) + (p0.getD 1 0))) 32 y5 e6)] (by kernel_rfl) ?_
 refine AW.sg tt_ok0 [(5, vu64 (u64.wrap ((p0.getD 2 0) + (p0.getD 3 0))))] [] [] 28 [] (by kernel_rfl) ?_
 obtain ⟨y7, e8, h⟩ := bnd_some h
 obtain ⟨z9, n10, h⟩ := bnd_some h
 replace n10 := some_inj n10
 refine AW.sg tt_ok0 [(6, vu64 z9)] [] [] 32 [hn, hk (rl_ref08_rotl_con (p0.getD 3 0) 16 y7 e8)] (by subst n10; kernel_rfl) ?_
 refine AW.sg tt_ok0 [(3, vu64 (u64.wrap (y5 + z9)))] [] [] 36 [] (by kernel_rfl) ?_
 obtain ⟨y11, e12, h⟩ := bnd_some h
 refine AW.sg tt_ok0 [(6, vu64 (ixor .u64 y11 (u64.wrap (y5 + z9))))] [] [] 40 [hn, hk (rl_ref08_rotl_con z9 21 y11 e12)] (by kernel_rfl) ?_
 obtain ⟨z13, n14, h⟩ := bnd_some h
 replace n14 := some_inj n14
 refine AW.sg tt_ok0 [(5, vu64 z13)] [] [] 44 [] (by subst n14; kernel_rfl) ?_
 obtain ⟨y15, e16, h⟩ := bnd_some h
 refine AW.sg tt_ok0 [(4, vu64 (ixor .u64 y15 z13))] [] [] 48 [hn, hk (rl_ref08_rotl_con z3 17 y15 e16)] (by kernel_rfl) ?_
 obtain ⟨y17, e18, h⟩ := bnd_some h
 refine AW.sg tt_ok0 [(5, vu64 y17)] [] [] 50 [hn, hk (rl_ref08_rotl_con z13 32 y17 e18)] (by kernel_rfl) ?_
 refine AW.sg tt_ok0 [] [1] [(1, .row 66 false 1 4 (Ru64 ([u64.wrap (y5 + z9), ixor .u64 y15 z13, y17, ixor .u64 y11 (u64.wrap (y5 + z9))] : List Int)))] 56 [hn, hn, hn, hn, hn, hr 4 (Ru64 ([u64.wrap (y5 + z9), ixor .u64 y15 z13, y17, ixor .u64 y11 (u64.wrap (y5 + z9))] : List Int)) (p := 4 = 4 ∧ ∀ i, i < 4 → ∀ j, j < 1 → TLe (rowOf [.v (.int .u64 (u64.wrap (y5 + z9))), .v (.int .u64 (ixor .u64 y15 z13)), .v (.int .u64 y17), .v (.int .u64 (ixor .u64 y11 (u64.wrap (y5 + z9))))] 1 i j) (Ru64 ([u64.wrap (y5 + z9), ixor .u64 y15 z13, y17, ixor .u64 y11 (u64.wrap (y5 + z9))] : List Int) i j)) (⟨rfl, fun i hi j hj => match i, hi, j, hj with | 0, _, 0, _ => TLe.refl _ | 1, _, 0, _ => TLe.refl _ | 2, _, 0, _ => TLe.refl _ | 3, _, 0, _ => TLe.refl _ | _ + 4, h, _, _ => absurd h (by omega) | _, _, _ + 1, h => absurd h (by omega)⟩)] (by kernel_rfl) ?_
 refine AW.ret ?_
 obtain rfl := some_inj h
 exact ⟨_, Conv.refl _ _, .inr rfl, OutOk.mk [] 0 (out0 := .agg [cu64 (([u64.wrap (y5 + z9), ixor .u64 y15 z13, y17, ixor .u64 y11 (u64.wrap (y5 + z9))] : List Int).getD 0 0), cu64 (([u64.wrap (y5 + z9), ixor .u64 y15 z13, y17, ixor .u64 y11 (u64.wrap (y5 + z9))] : List Int).getD 1 0), cu64 (([u64.wrap (y5 + z9), ixor .u64 y15 z13, y17, ixor .u64 y11 (u64.wrap (y5 + z9))] : List Int).getD 2 0), cu64 (([u64.wrap (y5 + z9), ixor .u64 y15 z13, y17, ixor .u64 y11 (u64.wrap (y5 + z9))] : List Int).getD 3 0)]) (ps := [0 + 3 < 4]) (by kernel_rfl) ⟨(by decide), tv⟩ (by kernel_rfl) (by kernel_rfl)⟩
/-! recordlink/recordlinkref08.Sum -/
noncomputable def rl_ref08_Sum_l2 (p1 : List Int) (x3 : Int) (z6 : Int) (x10 : Int) (x11 : Int) : Option ((Int × Int) ⊕ Int) := if (decide (x11 < z6)) = true then (if 0 ≤ (i64.wrap (x3 + x11)) then (if (i64.wrap (x3 + x11)) < (p1.length : Int) then (if 0 ≤ (i64.wrap (8 * x11)) then ((some (ior .u64 x10 (ishl .u64 (u64.wrap (p1.getD ((i64.wrap (x3 + x11)).toNat) 0)) (i64.wrap (8 * x11))))).bind fun z17 => (some (.inl (z17, i64.wrap (x11 + 1))))) else none) else none) else none) else (some (.inr x10))
noncomputable def rl_ref08_Sum_k3 (x3 : Int) (x4 : List Int) (z6 : Int) (x20 : Int) : Option ((Int × (List Int)) ⊕ (List Int)) := if 4 = x4.length then ((rl_ref08_round (x4.set 3 (ixor .u64 (x4.getD 3 0) x20))).bind fun y22 => ((rl_ref08_round y22).bind fun y24 => (if 4 = y24.length then (if (decide (z6 < 8)) = true then (some (.inr (y24.set 0 (ixor .u64 (y24.getD 0 0) x20)))) else (some (.inl (i64.wrap (x3 + 8), (y24.set 0 (ixor .u64 (y24.getD 0 0) x20)))))) else none))) else none
noncomputable def rl_ref08_Sum_l1 (p1 : List Int) (x3 : Int) (x4 : List Int) : Option ((Int × (List Int)) ⊕ (List Int)) := (some ((if (i64.wrap ((p1.length : Int) - x3)) < 8 then (i64.wrap ((p1.length : Int) - x3)) else 8))).bind fun z6 => ((loop (fun v : Int × Int => rl_ref08_Sum_l2 p1 x3 z6 v.1 v.2) (0, 0)).bind fun x19 => (if (decide (z6 < 8)) = true then ((some (ior .u64 x19 (ishl .u64 (u64.wrap ((p1.length : Int).tmod 256)) 56))).bind fun z29 => (rl_ref08_Sum_k3 x3 x4 z6 z29)) else (rl_ref08_Sum_k3 x3 x4 z6 x19)))
noncomputable def rl_ref08_Sum (p0 : S_api_Key) (p1 : List Int) : Option Int := (loop (fun v : Int × (List Int) => rl_ref08_Sum_l1 p1 v.1 v.2) (0, ([ixor .u64 p0.A 8317987319222330741, ixor .u64 p0.B 7237128888997146477, ixor .u64 p0.A 7816392313619706465, ixor .u64 p0.B 8387220255154660723] : List Int))).bind fun x32 => (if 4 = x32.length then ((rl_ref08_round (x32.set 2 (ixor .u64 (x32.getD 2 0) 255))).bind fun y34 => ((rl_ref08_round y34).bind fun y36 => ((rl_ref08_round y36).bind fun y38 => ((rl_ref08_round y38).bind fun y40 => ((some (ixor .u64 (ixor .u64 (ixor .u64 (y40.getD 0 0) (y40.getD 1 0)) (y40.getD 2 0)) (y40.getD 3 0))).bind fun z42 => (some z42)))))) else none)
set_option maxRecDepth 100000 in
theorem rl_ref08_Sum_con (p0 : S_api_Key) (p1 : List Int) (r : Int) (h : rl_ref08_Sum p0 p1 = some r) : Con Try.prog 27 [.agg [cu64 p0.A, cu64 p0.B], vl 1 Ru8 p1] [] (vu64 r) [] := by
 refine con_of tt_ok0 0 Try.func27 (by kernel_rfl) rfl (by kernel_rfl) (fun base X _ => AW.post ?_)
 unfold rl_ref08_Sum at h
 refine AW.sg tt_ok0 [(2, .c (.ptr 0 2 0 0))] [0] [(0, .box 52 [cu64 p0.A, cu64 p0.B])] 2 [] (by kernel_rfl) ?_
 refine AW.sg tt_ok0 [(5, .c (.ptr 15 1 0 0))] [15] [(15, .row 66 false 1 4 (Ru64 ([ixor .u64 p0.A 8317987319222330741, ixor .u64 p0.B 7237128888997146477, ixor .u64 p0.A 7816392313619706465, ixor .u64 p0.B 8387220255154660723] : List Int)))] 17 [hn, hn, hn, hn, hn, hn, hn, hn, hn, hn, hn, hn, hn, hr 4 (Ru64 ([0, 0, 0, 0] : List Int)) (p := 4 = 4 ∧ ∀ i, i < 4 → ∀ j, j < 1 → TLe (rowOf [.v (.int .u64 0), .v (.int .u64 0), .v (.int .u64 0), .v (.int .u64 0)] 1 i j) (Ru64 ([0, 0, 0, 0] : List Int) i j)) (⟨rfl, fun i hi j hj => match i, hi, j, hj with | 0, _, 0, _ => TLe.refl _ | 1, _, 0, _ => TLe.refl _ | 2, _, 0, _ => TLe.refl _ | 3, _, 0, _ => TLe.refl _ | _ + 4, h, _, _ => absurd h (by omega) | _, _, _ + 1, h => absurd h (by omega)⟩), hr 4 (Ru64 ([ixor .u64 p0.A 8317987319222330741, ixor .u64 p0.B 7237128888997146477, ixor .u64 p0.A 7816392313619706465, ixor .u64 p0.B 8387220255154660723] : List Int)) (p := 4 = 4 ∧ ∀ i, i < 4 → ∀ j, j < 1 → TLe (rowOf [.v (.int .u64 (ixor .u64 p0.A 8317987319222330741)), .v (.int .u64 (ixor .u64 p0.B 7237128888997146477)), .v (.int .u64 (ixor .u64 p0.A 7816392313619706465)), .v (.int .u64 (ixor .u64 p0.B 8387220255154660723))] 1 i j) (Ru64 ([ixor .u64 p0.A 8317987319222330741, ixor .u64 p0.B 7237128888997146477, ixor .u64 p0.A 7816392313619706465, ixor .u64 p0.B 8387220255154660723] : List Int) i j)) (⟨rfl, fun i hi j hj => match i, hi, j, hj with | 0, _, 0, _ => TLe.refl _ | 1, _, 0, _ => TLe.refl _ | 2, _, 0, _ => TLe.refl _ | 3, _, 0, _ => TLe.refl _ | _ + 4, h, _, _ => absurd h (by omega) | _, _, _ + 1, h => absurd h (by omega)⟩)] (by kernel_rfl) ?_
 refine AW.seq ?_
 refine AW.sg tt_ok0 [(6, vi64 0)] [] [] 18 [] (by kernel_rfl) ?_
 refine AW.block ?_
 obtain ⟨x32, l44, h⟩ := bnd_some h
 refine AW.lp l44 (fun v => ⟨[(1, vl 1 Ru8 p1), (5, .c (.ptr 0 1 0 0)), (6, vi64 v.1)], [(0, .row 66 false 1 4 (Ru64 v.2))], 1⟩) (fun t : List Int => (.exit 0, ⟨[(5, .c (.ptr 0 1 0 0))], [(0, .row 66 false 1 4 (Ru64 t))], 1⟩)) (conv_re [(0, 15)] (by kernel_rfl)) (fun _ => tv) ?_ ?_
 ·
  clear l44 h
  intro v o h
  obtain ⟨x3, x4⟩ := v
  replace h : rl_ref08_Sum_l1 p1 x3 x4 = some o := h
  unfold rl_ref08_Sum_l1 at h
  refine AW.seq (AW.block ?_)
  refine AW.sg tt_ok0 [(7, vu64 0)] [] [] 2 [] (by kernel_rfl) ?_
  obtain ⟨z6, n7, h⟩ := bnd_some h
  replace n7 := some_inj n7
  refine AW.sg tt_ok0 [(8, vi64 z6)] [] [] 8 [] (by subst n7; kernel_rfl) ?_
  refine AW.seq ?_
  refine AW.sg tt_ok0 [(9, vi64 0)] [] [] 9 [] (by kernel_rfl) ?_
  refine AW.block ?_
  obtain ⟨x19, l31, h⟩ := bnd_some h
  refine AW.lp l31 (fun v => ⟨[(1, vl 1 Ru8 p1), (5, .c (.ptr 0 1 0 0)), (6, vi64 x3), (7, vu64 v.1), (8, vi64 z6), (9, vi64 v.2)], [(0, .row 66 false 1 4 (Ru64 x4))], 1⟩) (fun t : Int => (.exit 2, ⟨[(1, vl 1 Ru8 p1), (5, .c (.ptr 0 1 0 0)), (6, vi64 x3), (7, vu64 t), (8, vi64 z6)], [(0, .row 66 false 1 4 (Ru64 x4))], 1⟩)) (conv_re [(0, 0)] (by kernel_rfl)) (fun _ => tv) ?_ ?_
  ·
   clear l31 h
   intro v o h
   obtain ⟨x10, x11⟩ := v
   replace h : rl_ref08_Sum_l2 p1 x3 z6 x10 x11 = some o := h
   unfold rl_ref08_Sum_l2 at h
   refine AW.seq ?_
   refine AW.sg tt_ok0 [(32, vb (decide (x11 < z6)))] [] [] 4 [] (by kernel_rfl) ?_
   refine AW.co h (by kernel_rfl) (fun c13 h => ?_) (fun c13 h => ?_)
   ·
    refine AW.skip (AW.tn ?_)
    refine AW.seq (AW.block ?_)
    obtain ⟨g14, g15, h⟩ := ifd h
    obtain ⟨g16, h⟩ := ifc h
    obtain ⟨z17, n18, h⟩ := bnd_some h
    replace n18 := some_inj n18
    refine AW.rg tt_ok0 [(7, vu64 z17)] [] [] 17 [hn, hn, hn, hn, hn, hq g14 g15, hn, hn, hn, hn, ho g16] (by subst n18; kernel_rfl) ?_
    refine AW.inBlock_normal (AW.tn ?_)
    refine AW.rg tt_ok0 [(9, vi64 (i64.wrap (x11 + 1)))] [] [] 20 [] (by kernel_rfl) ?_
    exact lpn h (conv_re [(0, 0)] (by kernel_rfl))
   ·
    refine AW.exit (AW.thenQ_exit ?_)
    exact lpo h rfl (conv_re [(0, 0)] (by kernel_rfl))
  ·
   show (_ : Exit → St → Prop) (.exit 2) _
   refine AW.inBlock_hit (AW.tn (AW.seq ?_))
   refine AW.join (ι := Int) (fun v => ⟨[(1, vl 1 Ru8 p1), (5, .c (.ptr 0 1 0 0)), (6, vi64 x3), (7, vu64 v), (8, vi64 z6)], [(0, .row 66 false 1 4 (Ru64 x4))], 1⟩) (fun v : Int => rl_ref08_Sum_k3 x3 x4 z6 v = some o) (fun x20 h => ?_) ?_
   ·
    unfold rl_ref08_Sum_k3 at h
    refine AW.tn ?_
    obtain ⟨g21, h⟩ := ifc h
    refine AW.sg tt_ok0 [] [0] [(0, .row 66 false 1 4 (Ru64 (x4.set 3 (ixor .u64 (x4.getD 3 0) x20))))] 7 [ho (p := (0 ≤ (3 : Int)) ∧ ((3 : Int) < ((4 : Nat) : Int))) (⟨(by decide), (by decide)⟩), ho (p := 3 < 4) (by decide), hn, hn, ho (p := (0 ≤ (3 : Int)) ∧ ((3 : Int) < ((4 : Nat) : Int))) (⟨(by decide), (by decide)⟩), hset 0 Eu64 x4 3 (ixor .u64 (x4.getD 3 0) x20) (n := 4) (by decide) g21] (by kernel_rfl) ?_
    obtain ⟨y22, e23, h⟩ := bnd_some h
    obtain ⟨y24, e25, h⟩ := bnd_some h
    refine AW.sg tt_ok0 [] [0] [(0, .row 66 false 1 4 (Ru64 y24))] 9 [ho (p := 0 + 3 < 4) (by decide), hk (rl_ref08_round_con (x4.set 3 (ixor .u64 (x4.getD 3 0) x20)) y22 e23), hk (rl_ref08_round_con y22 y24 e25), hr 4 (Ru64 y24) (p := 4 = 4 ∧ ∀ i, i < 4 → ∀ j, j < 1 → TLe (rowOf [.v (.int .u64 (y24.getD 0 0)), .v (.int .u64 (y24.getD 1 0)), .v (.int .u64 (y24.getD 2 0)), .v (.int .u64 (y24.getD 3 0))] 1 i j) (Ru64 y24 i j)) (⟨rfl, fun i hi j hj => match i, hi, j, hj with | 0, _, 0, _ => TLe.refl _ | 1, _, 0, _ => TLe.refl _ | 2, _, 0, _ => TLe.refl _ | 3, _, 0, _ => TLe.refl _ | _ + 4, h, _, _ => absurd h (by omega) | _, _, _ + 1, h => absurd h (by omega)⟩)] (by kernel_rfl) ?_
    obtain ⟨g26, h⟩ := ifc h
    refine AW.sg tt_ok0 [] [0] [(0, .row 66 false 1 4 (Ru64 (y24.set 0 (ixor .u64 (y24.getD 0 0) x20))))] 15 [ho (p := (0 ≤ (0 : Int)) ∧ ((0 : Int) < ((4 : Nat) : Int))) (⟨(by decide), (by decide)⟩), ho (p := 0 < 4) (by decide), hn, hn, ho (p := (0 ≤ (0 : Int)) ∧ ((0 : Int) < ((4 : Nat) : Int))) (⟨(by decide), (by decide)⟩), hset 0 Eu64 y24 0 (ixor .u64 (y24.getD 0 0) x20) (n := 4) (by decide) g26] (by kernel_rfl) ?_
    refine AW.sg tt_ok0 [(70, vb (decide (z6 < 8)))] [] [] 17 [] (by kernel_rfl) ?_
    refine AW.co h (by kernel_rfl) (fun c27 h => ?_) (fun c27 h => ?_)
    ·
     refine AW.exit (AW.inBlock_miss (by kernel_rfl) (AW.thenQ_exit ?_))
     exact lpo h rfl (conv_re [(0, 0)] (by kernel_rfl))
    ·
     refine AW.skip (AW.inBlock_normal (AW.tn ?_))
     refine AW.rg tt_ok0 [(6, vi64 (i64.wrap (x3 + 8)))] [] [] 20 [] (by kernel_rfl) ?_
     exact lpn h (conv_re [(0, 0)] (by kernel_rfl))
   ·
    refine AW.sg tt_ok0 [(48, vb (decide (z6 < 8)))] [] [] 3 [] (by kernel_rfl) ?_
    refine AW.co h (by kernel_rfl) (fun c28 h => ?_) (fun c28 h => ?_)
    ·
     obtain ⟨z29, n30, h⟩ := bnd_some h
     replace n30 := some_inj n30
     refine AW.rg tt_ok0 [(7, vu64 z29)] [] [] 11 [hn, hn, hn, ho (p := (256 : Int) ≠ 0) (by decide), hn, ho (p := 0 ≤ (56 : Int)) (by decide)] (by subst n30; kernel_rfl) ?_
     exact jl z29 h (conv_re [(0, 0)] (by kernel_rfl))
    ·
     refine AW.skip ?_
     exact jl x19 h (conv_re [(0, 0)] (by kernel_rfl))
 ·
  show (_ : Exit → St → Prop) (.exit 0) _
  refine AW.inBlock_hit (AW.tn ?_)
  obtain ⟨g33, h⟩ := ifc h
  refine AW.sg tt_ok0 [] [0] [(0, .row 66 false 1 4 (Ru64 (x32.set 2 (ixor .u64 (x32.getD 2 0) 255))))] 6 [ho (p := (0 ≤ (2 : Int)) ∧ ((2 : Int) < ((4 : Nat) : Int))) (⟨(by decide), (by decide)⟩), ho (p := 2 < 4) (by decide), hn, ho (p := (0 ≤ (2 : Int)) ∧ ((2 : Int) < ((4 : Nat) : Int))) (⟨(by decide), (by decide)⟩), hset 0 Eu64 x32 2 (ixor .u64 (x32.getD 2 0) 255) (n := 4) (by decide) g33] (by kernel_rfl) ?_
  obtain ⟨y34, e35, h⟩ := bnd_some h
  obtain ⟨y36, e37, h⟩ := bnd_some h
  obtain ⟨y38, e39, h⟩ := bnd_some h
  obtain ⟨y40, e41, h⟩ := bnd_some h
  refine AW.sg tt_ok0 [] [0] [(0, .row 66 false 1 4 (Ru64 y40))] 8 [ho (p := 0 + 3 < 4) (by decide), hk (rl_ref08_round_con (x32.set 2 (ixor .u64 (x32.getD 2 0) 255)) y34 e35), hk (rl_ref08_round_con y34 y36 e37), hk (rl_ref08_round_con y36 y38 e39), hk (rl_ref08_round_con y38 y40 e41), hr 4 (Ru64 y40) (p := 4 = 4 ∧ ∀ i, i < 4 → ∀ j, j < 1 → TLe (rowOf [.v (.int .u64 (y40.getD 0 0)), .v (.int .u64 (y40.getD 1 0)), .v (.int .u64 (y40.getD 2 0)), .v (.int .u64 (y40.getD 3 0))] 1 i j) (Ru64 y40 i j)) (⟨rfl, fun i hi j hj => match i, hi, j, hj with | 0, _, 0, _ => TLe.refl _ | 1, _, 0, _ => TLe.refl _ | 2, _, 0, _ => TLe.refl _ | 3, _, 0, _ => TLe.refl _ | _ + 4, h, _, _ => absurd h (by omega) | _, _, _ + 1, h => absurd h (by omega)⟩)] (by kernel_rfl) ?_
  obtain ⟨z42, n43, h⟩ := bnd_some h
  replace n43 := some_inj n43
  refine AW.sg tt_ok0 [(4, vu64 z42)] [] [] 20 [ho (p := (0 ≤ (0 : Int)) ∧ ((0 : Int) < ((4 : Nat) : Int))) (⟨(by decide), (by decide)⟩), ho (p := 0 < 4) (by decide), ho (p := (0 ≤ (1 : Int)) ∧ ((1 : Int) < ((4 : Nat) : Int))) (⟨(by decide), (by decide)⟩), ho (p := 1 < 4) (by decide), hn, ho (p := (0 ≤ (2 : Int)) ∧ ((2 : Int) < ((4 : Nat) : Int))) (⟨(by decide), (by decide)⟩), ho (p := 2 < 4) (by decide), hn, ho (p := (0 ≤ (3 : Int)) ∧ ((3 : Int) < ((4 : Nat) : Int))) (⟨(by decide), (by decide)⟩), ho (p := 3 < 4) (by decide)] (by subst n43; kernel_rfl) ?_
  refine AW.ret ?_
  obtain rfl := some_inj h
  exact fn0 (.inr rfl) [] 0 (vu64 z42) (by kernel_rfl)
/-! recordlink/recordlinkref38.Sum -/
noncomputable def rl_ref38_Sum (p0 : Int) (p1 : ByteArray) : Option Int := (rl_ref38_number p0 8).bind fun y1 => (if y1.size + p1.size ≤ maxStr then (if (y1 ++ p1).size ≤ maxLen then ((rl_ref08_Sum (⟨1, 2⟩ : S_api_Key) (bytesL (y1 ++ p1))).bind fun y5 => (some y5)) else none) else none)
set_option maxRecDepth 100000 in
theorem rl_ref38_Sum_con (p0 : Int) (p1 : ByteArray) (r : Int) (h : rl_ref38_Sum p0 p1 = some r) : Con Try.prog 16 [vu64 p0, vs p1] [] (vu64 r) [] := by
 refine con_of tt_ok0 0 Try.func16 (by kernel_rfl) rfl (by kernel_rfl) (fun base X _ => AW.post ?_)
 unfold rl_ref38_Sum at h
 refine AW.sg tt_ok0 [] [] [] 1 [] (by kernel_rfl) ?_
 obtain ⟨y1, e2, h⟩ := bnd_some h
 obtain ⟨g3, g4, h⟩ := ifd h
 obtain ⟨y5, e6, h⟩ := bnd_some h
 refine AW.sg tt_ok0 [(4, vu64 y5)] [5] [] 7 [hn, hn, hk (rl_ref38_number_con p0 8 y1 e2), hn, ho g3, hr ((bytesL (y1 ++ p1)).length) (Ru8 (bytesL (y1 ++ p1))) (p := ((y1 ++ p1).size ≤ maxLen) ∧ ((y1 ++ p1).size = (bytesL (y1 ++ p1)).length ∧ ∀ i, i < (bytesL (y1 ++ p1)).length → ∀ j, j < 1 → TLe ((bytesT (y1 ++ p1)) i j) (Ru8 (bytesL (y1 ++ p1)) i j))) (⟨g4, rowT ⟨bytesL_length _, fun i hi => bytesL_row i (bytesL_length _ ▸ hi)⟩⟩), hg [] [] true 0 (q := ((True) ∧ (True) ∧ (True)) ∧ (0 + (bytesL (y1 ++ p1)).length ≤ (bytesL (y1 ++ p1)).length) ∧ (True)) ⟨⟨tv, tv, tv⟩, le0, tv⟩ (a0 := [.agg [cu64 1, cu64 2], vl 1 Ru8 (bytesL (y1 ++ p1))]) (rl_ref08_Sum_con (⟨1, 2⟩ : S_api_Key) (bytesL (y1 ++ p1)) y5 e6) ⟨ArgLe.refl _, ArgLe.refl _, tv⟩ (fun _ => tv)] (by kernel_rfl) ?_
 refine AW.ret ?_
 obtain rfl := some_inj h
 exact fn0 (.inr rfl) [] 0 (vu64 y5) (by kernel_rfl)
/-! recordlink/recordlinkref38.record -/
noncomputable def rl_ref38_record (p0 : Int) (p1 : ByteArray) : Option (ByteArray × Int) := (rl_ref38_Sum p0 p1).bind fun y1 => (if (strOf ([u8.wrap (ishr .i64 ((p1.size : Nat) : Int) 8), u8.wrap ((p1.size : Nat) : Int), u8.wrap (i64.wrap (255 - (ishr .i64 ((p1.size : Nat) : Int) 8))), u8.wrap (i64.wrap (255 - (iand .i64 ((p1.size : Nat) : Int) 255)))] : List Int)).size + p1.size ≤ maxStr then ((rl_ref38_number y1 8).bind fun y4 => (if ((strOf ([u8.wrap (ishr .i64 ((p1.size : Nat) : Int) 8), u8.wrap ((p1.size : Nat) : Int), u8.wrap (i64.wrap (255 - (ishr .i64 ((p1.size : Nat) : Int) 8))), u8.wrap (i64.wrap (255 - (iand .i64 ((p1.size : Nat) : Int) 255)))] : List Int)) ++ p1).size + y4.size ≤ maxStr then (some ((((strOf ([u8.wrap (ishr .i64 ((p1.size : Nat) : Int) 8), u8.wrap ((p1.size : Nat) : Int), u8.wrap (i64.wrap (255 - (ishr .i64 ((p1.size : Nat) : Int) 8))), u8.wrap (i64.wrap (255 - (iand .i64 ((p1.size : Nat) : Int) 255)))] : List Int)) ++ p1) ++ y4), y1)) else none)) else none)
set_option maxRecDepth 100000 in
theorem rl_ref38_record_con (p0 : Int) (p1 : ByteArray) (r : ByteArray × Int) (h : rl_ref38_record p0 p1 = some r) : Con Try.prog 32 [vu64 p0, vs p1] [] (.tup [vs r.1, vu64 r.2]) [] := by
 refine con_of tt_ok0 0 Try.func32 (by kernel_rfl) rfl (by kernel_rfl) (fun base X _ => AW.post ?_)
 unfold rl_ref38_record at h
 refine AW.sg tt_ok0 [] [] [] 2 [] (by kernel_rfl) ?_
 refine AW.sg tt_ok0 [(6, vi64 ((p1.size : Nat) : Int))] [] [] 5 [] (by kernel_rfl) ?_
 obtain ⟨y1, e2, h⟩ := bnd_some h
 refine AW.sg tt_ok0 [(7, vu64 y1)] [] [] 8 [hn, hn, hk (rl_ref38_Sum_con p0 p1 y1 e2)] (by kernel_rfl) ?_
 obtain ⟨g3, h⟩ := ifc h
 obtain ⟨y4, e5, h⟩ := bnd_some h
 obtain ⟨g6, h⟩ := ifc h
 refine AW.sd tt_ok0 mo0 [[], [], [], [], [], [], [], [], [], [], [], [], [], [21]] [(5, vu64 y1), (4, vs (((strOf ([u8.wrap (ishr .i64 ((p1.size : Nat) : Int) 8), u8.wrap ((p1.size : Nat) : Int), u8.wrap (i64.wrap (255 - (ishr .i64 ((p1.size : Nat) : Int) 8))), u8.wrap (i64.wrap (255 - (iand .i64 ((p1.size : Nat) : Int) 255)))] : List Int)) ++ p1) ++ y4))] [] 30 [hn, ho (p := 0 ≤ (8 : Int)) (by decide), hn, hn, hn, hn, ho (p := 0 ≤ (8 : Int)) (by decide), hn, hn, hn, hn, hn, hn, hlit 0 Eu8 1 (fun _ => rfl) ([u8.wrap (ishr .i64 ((p1.size : Nat) : Int) 8), u8.wrap ((p1.size : Nat) : Int), u8.wrap (i64.wrap (255 - (ishr .i64 ((p1.size : Nat) : Int) 8))), u8.wrap (i64.wrap (255 - (iand .i64 ((p1.size : Nat) : Int) 255)))] : List Int), hi (fun i => ([u8.wrap (ishr .i64 ((p1.size : Nat) : Int) 8), u8.wrap ((p1.size : Nat) : Int), u8.wrap (i64.wrap (255 - (ishr .i64 ((p1.size : Nat) : Int) 8))), u8.wrap (i64.wrap (255 - (iand .i64 ((p1.size : Nat) : Int) 255)))] : List Int).getD i 0) (p := (0 + ([u8.wrap (ishr .i64 ((p1.size : Nat) : Int) 8), u8.wrap ((p1.size : Nat) : Int), u8.wrap (i64.wrap (255 - (ishr .i64 ((p1.size : Nat) : Int) 8))), u8.wrap (i64.wrap (255 - (iand .i64 ((p1.size : Nat) : Int) 255)))] : List Int).length ≤ ([u8.wrap (ishr .i64 ((p1.size : Nat) : Int) 8), u8.wrap ((p1.size : Nat) : Int), u8.wrap (i64.wrap (255 - (ishr .i64 ((p1.size : Nat) : Int) 8))), u8.wrap (i64.wrap (255 - (iand .i64 ((p1.size : Nat) : Int) 255)))] : List Int).length) ∧ ∀ i, i < ([u8.wrap (ishr .i64 ((p1.size : Nat) : Int) 8), u8.wrap ((p1.size : Nat) : Int), u8.wrap (i64.wrap (255 - (ishr .i64 ((p1.size : Nat) : Int) 8))), u8.wrap (i64.wrap (255 - (iand .i64 ((p1.size : Nat) : Int) 255)))] : List Int).length → (fun i j => Ru8 ([u8.wrap (ishr .i64 ((p1.size : Nat) : Int) 8), u8.wrap ((p1.size : Nat) : Int), u8.wrap (i64.wrap (255 - (ishr .i64 ((p1.size : Nat) : Int) 8))), u8.wrap (i64.wrap (255 - (iand .i64 ((p1.size : Nat) : Int) 255)))] : List Int) (0 + i) j) i 0 = .v (.int .u8 (([u8.wrap (ishr .i64 ((p1.size : Nat) : Int) 8), u8.wrap ((p1.size : Nat) : Int), u8.wrap (i64.wrap (255 - (ishr .i64 ((p1.size : Nat) : Int) 8))), u8.wrap (i64.wrap (255 - (iand .i64 ((p1.size : Nat) : Int) 255)))] : List Int).getD i 0))) (⟨le0, fun i _ => by simp only [Nat.zero_add] <;> rfl⟩), hn, ho g3, hn, hk (rl_ref38_number_con y1 8 y4 e5), ho g6] (by kernel_rfl) ?_
 refine AW.ret ?_
 obtain rfl := some_inj h
 exact fn0 (.inr rfl) [] 0 (.tup [vs (((strOf ([u8.wrap (ishr .i64 ((p1.size : Nat) : Int) 8), u8.wrap ((p1.size : Nat) : Int), u8.wrap (i64.wrap (255 - (ishr .i64 ((p1.size : Nat) : Int) 8))), u8.wrap (i64.wrap (255 - (iand .i64 ((p1.size : Nat) : Int) 255)))] : List Int)) ++ p1) ++ y4), vu64 y1]) (by kernel_rfl)
/-! recordlink/recordlinkref38.read -/
noncomputable def rl_ref38_read_k2 (p0 : ByteArray) (x4 : List ByteArray) (x5 : Int) (x6 : Int) (x17 : Bool) : Option (((List ByteArray) × Int × Int) ⊕ (((List ByteArray) × Int × Int) ⊕ ((List ByteArray) × Int × Int × Int))) := if x17 = true then (some (.inr (.inr (x4, x5, x6, 14)))) else (if 0 ≤ x5 then (if x5 < ((p0.size : Nat) : Int) then (if 0 ≤ (i64.wrap (x5 + 1)) then (if (i64.wrap (x5 + 1)) < ((p0.size : Nat) : Int) then ((some (ior .i64 (ishl .i64 (i64.wrap ((p0.data.toList.getD x5.toNat 0).toNat : Int)) 8) (i64.wrap ((p0.data.toList.getD ((i64.wrap (x5 + 1)).toNat) 0).toNat : Int)))).bind fun z23 => (if (decide (z23 > 60000)) = true then (some (.inr (.inr (x4, x5, x6, 1)))) else (if (decide ((i64.wrap (((p0.size : Nat) : Int) - x5)) < (i64.wrap (12 + z23)))) = true then (some (.inr (.inr (x4, x5, x6, 15)))) else (if 0 ≤ (i64.wrap (x5 + 4)) then (if 0 ≤ (i64.wrap ((i64.wrap (x5 + 4)) + z23)) then (if ((i64.wrap (x5 + 4)).toNat) ≤ ((i64.wrap ((i64.wrap (x5 + 4)) + z23)).toNat) then (if ((i64.wrap ((i64.wrap (x5 + 4)) + z23)).toNat) ≤ p0.size then (bind2 (rl_ref38_record x6 (p0.extract ((i64.wrap (x5 + 4)).toNat) ((i64.wrap ((i64.wrap (x5 + 4)) + z23)).toNat))) fun y31 y32 => (if 0 ≤ (i64.wrap ((i64.wrap (x5 + 12)) + z23)) then (if x5.toNat ≤ ((i64.wrap ((i64.wrap (x5 + 12)) + z23)).toNat) then (if ((i64.wrap ((i64.wrap (x5 + 12)) + z23)).toNat) ≤ p0.size then (if (!(y31.toList == (p0.extract x5.toNat ((i64.wrap ((i64.wrap (x5 + 12)) + z23)).toNat)).toList)) = true then (some (.inr (.inr (x4, x5, x6, 16)))) else (if x4.length + ([(p0.extract ((i64.wrap (x5 + 4)).toNat) ((i64.wrap ((i64.wrap (x5 + 4)) + z23)).toNat))] : List ByteArray).length ≤ 1099511627776 then (some (.inl ((x4 ++ ([(p0.extract ((i64.wrap (x5 + 4)).toNat) ((i64.wrap ((i64.wrap (x5 + 4)) + z23)).toNat))] : List ByteArray)), i64.wrap (x5 + (i64.wrap (12 + z23))), y32))) else none)) else none) else none) else none)) else none) else none) else none) else none)))) else none) else none) else none) else none)
noncomputable def rl_ref38_read_l1 (p0 : ByteArray) (x4 : List ByteArray) (x5 : Int) (x6 : Int) : Option (((List ByteArray) × Int × Int) ⊕ (((List ByteArray) × Int × Int) ⊕ ((List ByteArray) × Int × Int × Int))) := if (decide (x5 < ((p0.size : Nat) : Int))) = true then (if ((x4.length : Int) == 512) = true then (some (.inr (.inr (x4, x5, x6, 1)))) else (if (decide ((i64.wrap (((p0.size : Nat) : Int) - x5)) < 4)) = true then (some (.inr (.inr (x4, x5, x6, 15)))) else (if 0 ≤ x5 then (if x5 < ((p0.size : Nat) : Int) then (if 0 ≤ (i64.wrap (x5 + 2)) then (if (i64.wrap (x5 + 2)) < ((p0.size : Nat) : Int) then (if ((i64.wrap ((i64.wrap ((p0.data.toList.getD x5.toNat 0).toNat : Int)) + (i64.wrap ((p0.data.toList.getD ((i64.wrap (x5 + 2)).toNat) 0).toNat : Int)))) != 255) = true then (rl_ref38_read_k2 p0 x4 x5 x6 true) else (if 0 ≤ (i64.wrap (x5 + 1)) then (if (i64.wrap (x5 + 1)) < ((p0.size : Nat) : Int) then (if 0 ≤ (i64.wrap (x5 + 3)) then (if (i64.wrap (x5 + 3)) < ((p0.size : Nat) : Int) then (rl_ref38_read_k2 p0 x4 x5 x6 ((i64.wrap ((i64.wrap ((p0.data.toList.getD ((i64.wrap (x5 + 1)).toNat) 0).toNat : Int)) + (i64.wrap ((p0.data.toList.getD ((i64.wrap (x5 + 3)).toNat) 0).toNat : Int)))) != 255)) else none) else none) else none) else none)) else none) else none) else none) else none))) else (some (.inr (.inl (x4, x5, x6))))
noncomputable def rl_ref38_read_a3 (x48 : List ByteArray) (x49 : Int) (x50 : Int) : Option ((List ByteArray) × Int × Int × Int) := some (x48, x49, x50, 0)
noncomputable def rl_ref38_read_a4 (x51 : List ByteArray) (x52 : Int) (x53 : Int) (x54 : Int) : Option ((List ByteArray) × Int × Int × Int) := some (x51, x52, x53, x54)
noncomputable def rl_ref38_read (p0 : ByteArray) : Option ((List ByteArray) × Int × Int × Int) := bindE (loop (fun v : (List ByteArray) × Int × Int => rl_ref38_read_l1 p0 v.1 v.2.1 v.2.2) (([] : List ByteArray), 0, 0)) (fun t => rl_ref38_read_a3 t.1 t.2.1 t.2.2) (fun t => rl_ref38_read_a4 t.1 t.2.1 t.2.2.1 t.2.2.2)
set_option maxRecDepth 100000 in
theorem rl_ref38_read_con (p0 : ByteArray) (r : (List ByteArray) × Int × Int × Int) (h : rl_ref38_read p0 = some r) : Con Try.prog 30 [vs p0] [] (.tup [.c (.ref 0 1 0 r.1.length), vi64 r.2.1, vu64 r.2.2.1, vi64 r.2.2.2]) [(0, .row 9 false 1 r.1.length (Rs r.1))] := by
 refine con_of tt_ok0 0 Try.func30 (by kernel_rfl) rfl (by kernel_rfl) (fun base X _ => AW.post ?_)
 unfold rl_ref38_read at h
 refine AW.sg tt_ok0 [] [] [] 4 [] (by kernel_rfl) ?_
 refine AW.sg tt_ok0 [(6, .c (.t (.v (.slice none 0 0))))] [] [] 5 [] (by kernel_rfl) ?_
 refine AW.sg tt_ok0 [(7, vi64 0)] [] [] 6 [] (by kernel_rfl) ?_
 refine AW.sg tt_ok0 [(8, vu64 0)] [] [] 7 [] (by kernel_rfl) ?_
 refine AW.seq (AW.block ?_)
 refine AW.lpE h (fun v => ⟨[(0, vs p0), (6, .c (.ref 0 1 0 v.1.length)), (7, vi64 v.2.1), (8, vu64 v.2.2)], [(0, .row 9 false 1 v.1.length (Rs v.1))], 1⟩) (fun t => (.exit 0, ⟨[(6, .c (.ref 0 1 0 t.1.length)), (7, vi64 t.2.1), (8, vu64 t.2.2)], [(0, .row 9 false 1 t.1.length (Rs t.1))], 1⟩)) (fun t => (.ret, ⟨[(2, .c (.ref 0 1 0 t.1.length)), (3, vi64 t.2.1), (4, vu64 t.2.2.1), (5, vi64 t.2.2.2)], [(0, .row 9 false 1 t.1.length (Rs t.1))], 1⟩)) (Conv.trans (conv_adopt (t := 6) (ty := 9) (sz := 1) (n := ([] : List ByteArray).length) (f := Rs ([] : List ByteArray)) (by kernel_rfl) rfl) (conv_re [(0, 7)] (by kernel_rfl))) (fun _ => tv) (fun _ => tv) ?_ (fun t h => ?_) (fun t h => ?_)
 ·
  clear h
  intro v o h
  obtain ⟨x4, x5, x6⟩ := v
  replace h : rl_ref38_read_l1 p0 x4 x5 x6 = some o := h
  unfold rl_ref38_read_l1 at h
  refine AW.seq ?_
  refine AW.sg tt_ok0 [(16, vb (decide (x5 < ((p0.size : Nat) : Int))))] [] [] 5 [] (by kernel_rfl) ?_
  refine AW.co h (by kernel_rfl) (fun c14 h => ?_) (fun c14 h => ?_)
  ·
   refine AW.skip (AW.tn ?_)
   refine AW.block (AW.seq ?_)
   refine AW.sg tt_ok0 [(19, vb ((x4.length : Int) == 512))] [] [] 8 [] (by kernel_rfl) ?_
   refine AW.co h (by kernel_rfl) (fun c15 h => ?_) (fun c15 h => ?_)
   ·
    refine AW.sg tt_ok0 [(5, vi64 1), (4, vu64 x6), (3, vi64 x5), (2, .c (.ref 0 1 0 x4.length))] [] [] 15 [] (by kernel_rfl) ?_
    refine AW.ret (AW.tr (AW.inBlock_ret ?_))
    exact lpo h rfl (conv_re [(0, 0)] (by kernel_rfl))
   ·
    refine AW.skip (AW.tn (AW.seq ?_))
    refine AW.sg tt_ok0 [(27, vb (decide ((i64.wrap (((p0.size : Nat) : Int) - x5)) < 4)))] [] [] 13 [] (by kernel_rfl) ?_
    refine AW.co h (by kernel_rfl) (fun c16 h => ?_) (fun c16 h => ?_)
    ·
     refine AW.sg tt_ok0 [(5, vi64 15), (4, vu64 x6), (3, vi64 x5), (2, .c (.ref 0 1 0 x4.length))] [] [] 20 [] (by kernel_rfl) ?_
     refine AW.ret (AW.tr (AW.inBlock_ret ?_))
     exact lpo h rfl (conv_re [(0, 0)] (by kernel_rfl))
    ·
     refine AW.skip (AW.tn ?_)
     refine AW.seq (AW.seq ?_)
     refine AW.join (ι := Bool) (fun v => ⟨[(0, vs p0), (6, .c (.ref 0 1 0 x4.length)), (7, vi64 x5), (8, vu64 x6), (55, vb v)], [(0, .row 9 false 1 x4.length (Rs x4))], 1⟩) (fun v : Bool => rl_ref38_read_k2 p0 x4 x5 x6 v = some o) (fun x17 h => ?_) ?_
     ·
      unfold rl_ref38_read_k2 at h
      refine AW.tn ?_
      refine AW.co h (by kernel_rfl) (fun c18 h => ?_) (fun c18 h => ?_)
      ·
       refine AW.sg tt_ok0 [(5, vi64 14), (4, vu64 x6), (3, vi64 x5), (2, .c (.ref 0 1 0 x4.length))] [] [] 8 [] (by kernel_rfl) ?_
       refine AW.ret (AW.tr (AW.inBlock_ret ?_))
       exact lpo h rfl (conv_re [(0, 0)] (by kernel_rfl))
      ·
       refine AW.skip (AW.tn ?_)
       obtain ⟨g19, g20, h⟩ := ifd h
       obtain ⟨g21, g22, h⟩ := ifd h
       obtain ⟨z23, n24, h⟩ := bnd_some h
       replace n24 := some_inj n24
       refine AW.sd tt_ok0 mo0 [] [(9, vi64 z23)] [] 13 [hn, hn, hq g19 g20, hn, ho (p := 0 ≤ (8 : Int)) (by decide), hn, hn, hn, hq g21 g22] (by subst n24; kernel_rfl) ?_
       refine AW.seq ?_
       refine AW.sg tt_ok0 [(71, vb (decide (z23 > 60000)))] [] [] 15 [] (by kernel_rfl) ?_
       refine AW.co h (by kernel_rfl) (fun c25 h => ?_) (fun c25 h => ?_)
       ·
        refine AW.sg tt_ok0 [(5, vi64 1), (4, vu64 x6), (3, vi64 x5), (2, .c (.ref 0 1 0 x4.length))] [] [] 22 [] (by kernel_rfl) ?_
        refine AW.ret (AW.tr (AW.inBlock_ret ?_))
        exact lpo h rfl (conv_re [(0, 0)] (by kernel_rfl))
       ·
        refine AW.skip (AW.tn (AW.seq ?_))
        refine AW.sg tt_ok0 [(81, vb (decide ((i64.wrap (((p0.size : Nat) : Int) - x5)) < (i64.wrap (12 + z23)))))] [] [] 22 [] (by kernel_rfl) ?_
        refine AW.co h (by kernel_rfl) (fun c26 h => ?_) (fun c26 h => ?_)
        ·
         refine AW.sg tt_ok0 [(5, vi64 15), (4, vu64 x6), (3, vi64 x5), (2, .c (.ref 0 1 0 x4.length))] [] [] 29 [] (by kernel_rfl) ?_
         refine AW.ret (AW.tr (AW.inBlock_ret ?_))
         exact lpo h rfl (conv_re [(0, 0)] (by kernel_rfl))
        ·
         refine AW.skip (AW.tn ?_)
         obtain ⟨g27, g28, h⟩ := ifd h
         obtain ⟨g29, g30, h⟩ := ifd h
         refine AW.sg tt_ok0 [(10, vs (p0.extract ((i64.wrap (x5 + 4)).toNat) ((i64.wrap ((i64.wrap (x5 + 4)) + z23)).toNat)))] [] [] 31 [hn, hn, hn, hn, hn, hn, hn, ho (p := (0 ≤ (i64.wrap (x5 + 4))) ∧ (0 ≤ (i64.wrap ((i64.wrap (x5 + 4)) + z23))) ∧ (((i64.wrap (x5 + 4)).toNat) ≤ ((i64.wrap ((i64.wrap (x5 + 4)) + z23)).toNat)) ∧ (((i64.wrap ((i64.wrap (x5 + 4)) + z23)).toNat) ≤ p0.size)) (⟨g27, g28, g29, g30⟩)] (by kernel_rfl) ?_
         obtain ⟨y31, y32, e33, h⟩ := bind2_some h
         refine AW.sg tt_ok0 [(12, vu64 y32), (11, vs y31)] [] [] 38 [hn, hn, hk (rl_ref38_record_con x6 (p0.extract ((i64.wrap (x5 + 4)).toNat) ((i64.wrap ((i64.wrap (x5 + 4)) + z23)).toNat)) (y31, y32) e33)] (by kernel_rfl) ?_
         refine AW.seq ?_
         obtain ⟨g34, g35, h⟩ := ifd h
         obtain ⟨g36, h⟩ := ifc h
         refine AW.sg tt_ok0 [(107, vb (!(y31.toList == (p0.extract x5.toNat ((i64.wrap ((i64.wrap (x5 + 12)) + z23)).toNat)).toList)))] [] [] 47 [hn, hn, hn, hn, hn, hn, hn, ho (p := (0 ≤ x5) ∧ (0 ≤ (i64.wrap ((i64.wrap (x5 + 12)) + z23))) ∧ (x5.toNat ≤ ((i64.wrap ((i64.wrap (x5 + 12)) + z23)).toNat)) ∧ (((i64.wrap ((i64.wrap (x5 + 12)) + z23)).toNat) ≤ p0.size)) (⟨g19, g34, g35, g36⟩)] (by kernel_rfl) ?_
         refine AW.co h (by kernel_rfl) (fun c37 h => ?_) (fun c37 h => ?_)
         ·
          refine AW.sg tt_ok0 [(5, vi64 16), (4, vu64 x6), (3, vi64 x5), (2, .c (.ref 0 1 0 x4.length))] [] [] 54 [] (by kernel_rfl) ?_
          refine AW.ret (AW.tr (AW.inBlock_ret ?_))
          exact lpo h rfl (conv_re [(0, 0)] (by kernel_rfl))
         ·
          refine AW.skip (AW.tn ?_)
          obtain ⟨g38, h⟩ := ifc h
          refine AW.sg tt_ok0 [(6, .c (.ref 50 1 0 ((x4 ++ ([(p0.extract ((i64.wrap (x5 + 4)).toNat) ((i64.wrap ((i64.wrap (x5 + 4)) + z23)).toNat))] : List ByteArray)).length)))] [0, 49, 50] [(50, .row 9 false 1 (x4 ++ ([(p0.extract ((i64.wrap (x5 + 4)).toNat) ((i64.wrap ((i64.wrap (x5 + 4)) + z23)).toNat))] : List ByteArray)).length (Rs (x4 ++ ([(p0.extract ((i64.wrap (x5 + 4)).toNat) ((i64.wrap ((i64.wrap (x5 + 4)) + z23)).toNat))] : List ByteArray))))] 52 [hn, hn, hlit ByteArray.empty Es 1 (fun _ => rfl) ([(p0.extract ((i64.wrap (x5 + 4)).toNat) ((i64.wrap ((i64.wrap (x5 + 4)) + z23)).toNat))] : List ByteArray), happ ByteArray.empty Es 1 16 x4 ([(p0.extract ((i64.wrap (x5 + 4)).toNat) ((i64.wrap ((i64.wrap (x5 + 4)) + z23)).toNat))] : List ByteArray) g38 (by decide)] (by kernel_rfl) ?_
          refine AW.sg tt_ok0 [(8, vu64 y32)] [] [] 54 [] (by kernel_rfl) ?_
          refine AW.rg tt_ok0 [(7, vi64 (i64.wrap (x5 + (i64.wrap (12 + z23)))))] [] [] 59 [] (by kernel_rfl) ?_
          refine AW.inBlock_normal ?_
          exact lpn h (conv_re [(0, 50)] (by kernel_rfl))
     ·
      obtain ⟨g39, g40, h⟩ := ifd h
      obtain ⟨g41, g42, h⟩ := ifd h
      rcases ifs h with ⟨c43, h⟩ | ⟨c43, h⟩
      ·
       refine AW.rd tt_ok0 mo0 [] [(55, vb true)] [] 38 [hn, hn, hq g39 g40, hn, hn, hn, hn, hq g41 g42, hn, hn, ht c43] (by kernel_rfl) ?_
       exact jl true h (conv_re [(0, 0)] (by kernel_rfl))
      ·
       obtain ⟨g44, g45, h⟩ := ifd h
       obtain ⟨g46, g47, h⟩ := ifd h
       refine AW.rd tt_ok0 mo0 [] [(55, vb ((i64.wrap ((i64.wrap ((p0.data.toList.getD ((i64.wrap (x5 + 1)).toNat) 0).toNat : Int)) + (i64.wrap ((p0.data.toList.getD ((i64.wrap (x5 + 3)).toNat) 0).toNat : Int)))) != 255))] [] 38 [hn, hn, hq g39 g40, hn, hn, hn, hn, hq g41 g42, hn, hn, hf c43, hn, hn, hn, hn, hq g44 g45, hn, hn, hn, hn, hq g46 g47] (by kernel_rfl) ?_
       exact jl ((i64.wrap ((i64.wrap ((p0.data.toList.getD ((i64.wrap (x5 + 1)).toNat) 0).toNat : Int)) + (i64.wrap ((p0.data.toList.getD ((i64.wrap (x5 + 3)).toNat) 0).toNat : Int)))) != 255) h (conv_re [(0, 0)] (by kernel_rfl))
  ·
   refine AW.exit (AW.thenQ_exit ?_)
   exact lpo h rfl (conv_re [(0, 0)] (by kernel_rfl))
 ·
  obtain ⟨x48, x49, x50⟩ := t
  replace h : rl_ref38_read_a3 x48 x49 x50 = some r := h
  unfold rl_ref38_read_a3 at h
  show (_ : Exit → St → Prop) (.exit 0) _
  refine AW.inBlock_hit (AW.tn ?_)
  refine AW.sg tt_ok0 [(5, vi64 0), (4, vu64 x50), (3, vi64 x49), (2, .c (.ref 0 1 0 x48.length))] [] [] 8 [] (by kernel_rfl) ?_
  refine AW.ret ?_
  obtain rfl := some_inj h
  exact fn0 (.inr rfl) [(0, 0)] 1 (.tup [.c (.ref 0 1 0 x48.length), vi64 x49, vu64 x50, vi64 0]) (by kernel_rfl)
 ·
  obtain ⟨x51, x52, x53, x54⟩ := t
  replace h : rl_ref38_read_a4 x51 x52 x53 x54 = some r := h
  unfold rl_ref38_read_a4 at h
  show (_ : Exit → St → Prop) (.ret) _
  refine AW.inBlock_ret (AW.tr ?_)
  obtain rfl := some_inj h
  exact fn0 (.inr rfl) [(0, 0)] 1 (.tup [.c (.ref 0 1 0 x51.length), vi64 x52, vu64 x53, vi64 x54]) (by kernel_rfl)
/-! recordlink/recordlinkref38.Append -/
noncomputable def rl_ref38_Append_k1 (p0 : ByteArray) (p1 : ByteArray) (y3 : Int) (x7 : Bool) : Option (ByteArray × Int) := if x7 = true then (some ((ByteArray.mk #[]), 1)) else (bind2 (rl_ref38_record y3 p1) fun y9 y10 => (if p0.size + y9.size ≤ maxStr then (some ((p0 ++ y9), 0)) else none))
noncomputable def rl_ref38_Append (p0 : ByteArray) (p1 : ByteArray) : Option (ByteArray × Int) := bind4 (rl_ref38_read p0) fun y1 y2 y3 y4 => (if (y4 != 0) = true then (some ((ByteArray.mk #[]), y4)) else (if (decide ((y1.length : Int) ≥ 512)) = true then (rl_ref38_Append_k1 p0 p1 y3 true) else (rl_ref38_Append_k1 p0 p1 y3 (decide (((p1.size : Nat) : Int) > 60000)))))
set_option maxRecDepth 100000 in
theorem rl_ref38_Append_con (p0 : ByteArray) (p1 : ByteArray) (r : ByteArray × Int) (h : rl_ref38_Append p0 p1 = some r) : Con Try.prog 20 [vs p0, vs p1] [] (.tup [vs r.1, vi64 r.2]) [] := by
 refine con_of tt_ok0 0 Try.func20 (by kernel_rfl) rfl (by kernel_rfl) (fun base X _ => AW.post ?_)
 unfold rl_ref38_Append at h
 refine AW.sg tt_ok0 [] [] [] 2 [] (by kernel_rfl) ?_
 obtain ⟨y1, y2, y3, y4, e5, h⟩ := bind4_some h
 refine AW.sg tt_ok0 [(9, vi64 y4), (8, vu64 y3), (6, .c (.ref 3 1 0 y1.length))] [3] [(3, .row 9 false 1 y1.length (Rs y1))] 13 [hn, hm [] [] 1 (rl_ref38_read_con p0 (y1, y2, y3, y4) e5) ⟨rowL_flat Vs _ _ _, tv⟩] (by kernel_rfl) ?_
 refine AW.seq ?_
 refine AW.sg tt_ok0 [(20, vb (y4 != 0))] [] [] 15 [] (by kernel_rfl) ?_
 refine AW.co h (by kernel_rfl) (fun c6 h => ?_) (fun c6 h => ?_)
 ·
  refine AW.sg tt_ok0 [(5, vi64 y4), (4, vs (ByteArray.mk #[]))] [] [] 18 [] (by kernel_rfl) ?_
  refine AW.ret (AW.tr ?_)
  obtain rfl := some_inj h
  exact fn0 (.inr rfl) [] 0 (.tup [vs (ByteArray.mk #[]), vi64 y4]) (by kernel_rfl)
 ·
  refine AW.skip (AW.tn ?_)
  refine AW.seq (AW.seq ?_)
  refine AW.join (ι := Bool) (fun v => ⟨[(0, vs p0), (1, vs p1), (8, vu64 y3), (29, vb v)], [], 0⟩) (fun v : Bool => rl_ref38_Append_k1 p0 p1 y3 v = some r) (fun x7 h => ?_) ?_
  ·
   unfold rl_ref38_Append_k1 at h
   refine AW.tn ?_
   refine AW.co h (by kernel_rfl) (fun c8 h => ?_) (fun c8 h => ?_)
   ·
    refine AW.sg tt_ok0 [(5, vi64 1), (4, vs (ByteArray.mk #[]))] [] [] 2 [] (by kernel_rfl) ?_
    refine AW.ret (AW.tr ?_)
    obtain rfl := some_inj h
    exact fn0 (.inr rfl) [] 0 (.tup [vs (ByteArray.mk #[]), vi64 1]) (by kernel_rfl)
   ·
    refine AW.skip (AW.tn ?_)
    obtain ⟨y9, y10, e11, h⟩ := bind2_some h
    refine AW.sg tt_ok0 [(10, vs y9)] [] [] 7 [hn, hn, hk (rl_ref38_record_con y3 p1 (y9, y10) e11)] (by kernel_rfl) ?_
    obtain ⟨g12, h⟩ := ifc h
    refine AW.sg tt_ok0 [(5, vi64 0), (4, vs (p0 ++ y9))] [] [] 12 [hn, hn, ho g12] (by kernel_rfl) ?_
    refine AW.ret ?_
    obtain rfl := some_inj h
    exact fn0 (.inr rfl) [] 0 (.tup [vs (p0 ++ y9), vi64 0]) (by kernel_rfl)
  ·
   rcases ifs h with ⟨c13, h⟩ | ⟨c13, h⟩
   ·
    refine AW.rg tt_ok0 [(29, vb true)] [] [] 23 [hn, hn, ht c13] (by kernel_rfl) ?_
    exact jl true h (conv_re [] (by kernel_rfl))
   ·
    refine AW.rg tt_ok0 [(29, vb (decide (((p1.size : Nat) : Int) > 60000)))] [] [] 23 [hn, hn, hf c13] (by kernel_rfl) ?_
    exact jl (decide (((p1.size : Nat) : Int) > 60000)) h (conv_re [] (by kernel_rfl))
/-! recordlink/recordlinklaw38.made -/
noncomputable def rl_law38_made_l2 (x30 : ByteArray) (x31 : Int) (x32 : List Int) (x33 : Int) (x34 : Int) : Option ((ByteArray × Int × (List Int) × Int × Int) ⊕ (ByteArray × (List Int) × Int × Int)) := if (decide (x31 > 0)) = true then (bind2 (rl_make_Deck_Next (⟨x32, x33, x34⟩ : S_recordlinkmake_Deck) 256) fun y40 y41 => (if x30.size + (strOf ([u8.wrap y40] : List Int)).size ≤ maxStr then (some (.inl ((x30 ++ (strOf ([u8.wrap y40] : List Int))), i64.wrap (x31 - 1), y41.list, y41.at_, y41.state))) else none)) else (some (.inr (x30, x32, x33, x34)))
noncomputable def rl_law38_made_l1 (x10 : ByteArray) (x11 : List ByteArray) (x12 : Int) (x13 : List Int) (x14 : Int) (x15 : Int) : Option ((ByteArray × (List ByteArray) × Int × (List Int) × Int × Int) ⊕ (ByteArray × (List ByteArray) × (List Int) × Int × Int)) := if (decide (x12 > 0)) = true then (bind2 (rl_make_Deck_Next (⟨x13, x14, x15⟩ : S_recordlinkmake_Deck) 30) fun y22 y23 => (bind4 (loop (fun v : ByteArray × Int × (List Int) × Int × Int => rl_law38_made_l2 v.1 v.2.1 v.2.2.1 v.2.2.2.1 v.2.2.2.2) ((ByteArray.mk #[]), y22, y23.list, y23.at_, y23.state)) fun x44 x45 x46 x47 => (bind2 (rl_ref38_Append x10 x44) fun y48 y49 => (if x11.length + ([x44] : List ByteArray).length ≤ 1099511627776 then (some (.inl (y48, (x11 ++ ([x44] : List ByteArray)), i64.wrap (x12 - 1), x45, x46, x47))) else none)))) else (some (.inr (x10, x11, x13, x14, x15)))
noncomputable def rl_law38_made (p0 : S_recordlinkmake_Deck) (p1 : Int) : Option (ByteArray × (List ByteArray) × S_recordlinkmake_Deck) := bind2 (rl_make_Deck_Next p0 (i64.wrap (p1 + 1))) fun y1 y2 => (bind5 (loop (fun v : ByteArray × (List ByteArray) × Int × (List Int) × Int × Int => rl_law38_made_l1 v.1 v.2.1 v.2.2.1 v.2.2.2.1 v.2.2.2.2.1 v.2.2.2.2.2) ((ByteArray.mk #[]), ([] : List ByteArray), y1, y2.list, y2.at_, y2.state)) fun x53 x54 x55 x56 x57 => (some (x53, x54, (⟨x55, x56, x57⟩ : S_recordlinkmake_Deck))))
set_option maxRecDepth 100000 in
theorem rl_law38_made_con (p0 : S_recordlinkmake_Deck) (p1 : Int) (r : ByteArray × (List ByteArray) × S_recordlinkmake_Deck) (h : rl_law38_made p0 p1 = some r) : Con Try.prog 13 [.c (.ptr 0 3 0 0), vi64 p1] [(0, .box 49 [cl 1 Ri64 p0.list, ci64 p0.at_, cu64 p0.state])] (.tup [vs r.1, .c (.ref 1 1 0 r.2.1.length)]) [(0, .box 49 [cl 1 Ri64 r.2.2.list, ci64 r.2.2.at_, cu64 r.2.2.state]), (1, .row 9 false 1 r.2.1.length (Rs r.2.1))] := by
 refine con_of tt_ok0 1 Try.func13 (by kernel_rfl) rfl (by kernel_rfl) (fun base X _ => AW.post ?_)
 unfold rl_law38_made at h
 refine AW.sg tt_ok0 [] [] [] 3 [] (by kernel_rfl) ?_
 refine AW.sg tt_ok0 [(6, vs (ByteArray.mk #[]))] [] [] 4 [] (by kernel_rfl) ?_
 refine AW.sg tt_ok0 [(7, .c (.t (.v (.slice none 0 0))))] [] [] 5 [] (by kernel_rfl) ?_
 refine AW.seq ?_
 obtain ⟨y1, y2, e3, h⟩ := bind2_some h
 refine AW.sg tt_ok0 [(8, vi64 y1)] [0] [(0, .box 49 [cl 1 Ri64 y2.list, ci64 y2.at_, cu64 y2.state])] 9 [hn, hn, hn, hl [0] [] 0 (rl_make_Deck_Next_con p0 (i64.wrap (p1 + 1)) (y1, y2) e3)] (by kernel_rfl) ?_
 refine AW.block ?_
 obtain ⟨x53, x54, x55, x56, x57, l58, h⟩ := bind5_some h
 refine AW.lp l58 (fun v => ⟨[(0, .c (.ptr 0 3 0 0)), (6, vs v.1), (7, .c (.ref 1 1 0 v.2.1.length)), (8, vi64 v.2.2.1)], [(0, .box 49 [cl 1 Ri64 v.2.2.2.1, ci64 v.2.2.2.2.1, cu64 v.2.2.2.2.2]), (1, .row 9 false 1 v.2.1.length (Rs v.2.1))], 2⟩) (fun t : ByteArray × (List ByteArray) × (List Int) × Int × Int => (.exit 0, ⟨[(6, vs t.1), (7, .c (.ref 1 1 0 t.2.1.length))], [(0, .box 49 [cl 1 Ri64 t.2.2.1, ci64 t.2.2.2.1, cu64 t.2.2.2.2]), (1, .row 9 false 1 t.2.1.length (Rs t.2.1))], 2⟩)) (Conv.trans (conv_adopt (t := 7) (ty := 9) (sz := 1) (n := ([] : List ByteArray).length) (f := Rs ([] : List ByteArray)) (by kernel_rfl) rfl) (conv_re [(0, 0), (1, 9)] (by kernel_rfl))) (fun _ => tv) ?_ ?_
 ·
  clear l58 h
  intro v o h
  obtain ⟨x10, x11, x12, x13, x14, x15⟩ := v
  replace h : rl_law38_made_l1 x10 x11 x12 x13 x14 x15 = some o := h
  unfold rl_law38_made_l1 at h
  refine AW.seq ?_
  refine AW.sg tt_ok0 [(16, vb (decide (x12 > 0)))] [] [] 4 [] (by kernel_rfl) ?_
  refine AW.co h (by kernel_rfl) (fun c21 h => ?_) (fun c21 h => ?_)
  ·
   refine AW.skip (AW.tn ?_)
   refine AW.seq (AW.block ?_)
   refine AW.sg tt_ok0 [(9, vs (ByteArray.mk #[]))] [] [] 5 [] (by kernel_rfl) ?_
   refine AW.seq ?_
   obtain ⟨y22, y23, e24, h⟩ := bind2_some h
   refine AW.sg tt_ok0 [(10, vi64 y22)] [0] [(0, .box 49 [cl 1 Ri64 y23.list, ci64 y23.at_, cu64 y23.state])] 7 [hn, hl [0] [] 0 (rl_make_Deck_Next_con (⟨x13, x14, x15⟩ : S_recordlinkmake_Deck) 30 (y22, y23) e24)] (by kernel_rfl) ?_
   refine AW.block ?_
   obtain ⟨x44, x45, x46, x47, l52, h⟩ := bind4_some h
   refine AW.lp l52 (fun v => ⟨[(0, .c (.ptr 0 3 0 0)), (6, vs x10), (7, .c (.ref 1 1 0 x11.length)), (8, vi64 x12), (9, vs v.1), (10, vi64 v.2.1)], [(0, .box 49 [cl 1 Ri64 v.2.2.1, ci64 v.2.2.2.1, cu64 v.2.2.2.2]), (1, .row 9 false 1 x11.length (Rs x11))], 2⟩) (fun t : ByteArray × (List Int) × Int × Int => (.exit 2, ⟨[(0, .c (.ptr 0 3 0 0)), (6, vs x10), (7, .c (.ref 1 1 0 x11.length)), (8, vi64 x12), (9, vs t.1)], [(0, .box 49 [cl 1 Ri64 t.2.1, ci64 t.2.2.1, cu64 t.2.2.2]), (1, .row 9 false 1 x11.length (Rs x11))], 2⟩)) (conv_re [(0, 0), (1, 1)] (by kernel_rfl)) (fun _ => tv) ?_ ?_
   ·
    clear l52 h
    intro v o h
    obtain ⟨x30, x31, x32, x33, x34⟩ := v
    replace h : rl_law38_made_l2 x30 x31 x32 x33 x34 = some o := h
    unfold rl_law38_made_l2 at h
    refine AW.seq ?_
    refine AW.sg tt_ok0 [(22, vb (decide (x31 > 0)))] [] [] 4 [] (by kernel_rfl) ?_
    refine AW.co h (by kernel_rfl) (fun c39 h => ?_) (fun c39 h => ?_)
    ·
     refine AW.skip (AW.tn ?_)
     refine AW.seq (AW.block ?_)
     obtain ⟨y40, y41, e42, h⟩ := bind2_some h
     obtain ⟨g43, h⟩ := ifc h
     refine AW.rg tt_ok0 [(9, vs (x30 ++ (strOf ([u8.wrap y40] : List Int))))] [0, 7] [(0, .box 49 [cl 1 Ri64 y41.list, ci64 y41.at_, cu64 y41.state])] 11 [hn, hn, hl [0] [] 0 (rl_make_Deck_Next_con (⟨x32, x33, x34⟩ : S_recordlinkmake_Deck) 256 (y40, y41) e42), hn, hlit 0 Eu8 1 (fun _ => rfl) ([u8.wrap y40] : List Int), hi (fun i => ([u8.wrap y40] : List Int).getD i 0) (p := (0 + ([u8.wrap y40] : List Int).length ≤ ([u8.wrap y40] : List Int).length) ∧ ∀ i, i < ([u8.wrap y40] : List Int).length → (fun i j => Ru8 ([u8.wrap y40] : List Int) (0 + i) j) i 0 = .v (.int .u8 (([u8.wrap y40] : List Int).getD i 0))) (⟨le0, fun i _ => by simp only [Nat.zero_add] <;> rfl⟩), ho g43] (by kernel_rfl) ?_
     refine AW.inBlock_normal (AW.tn ?_)
     refine AW.rg tt_ok0 [(10, vi64 (i64.wrap (x31 - 1)))] [] [] 14 [] (by kernel_rfl) ?_
     exact lpn h (conv_re [(0, 0), (1, 1)] (by kernel_rfl))
    ·
     refine AW.exit (AW.thenQ_exit ?_)
     exact lpo h rfl (conv_re [(0, 0), (1, 1)] (by kernel_rfl))
   ·
    show (_ : Exit → St → Prop) (.exit 2) _
    refine AW.inBlock_hit (AW.tn ?_)
    obtain ⟨y48, y49, e50, h⟩ := bind2_some h
    refine AW.sg tt_ok0 [(6, vs y48)] [] [] 8 [hn, hn, hk (rl_ref38_Append_con x10 x44 (y48, y49) e50)] (by kernel_rfl) ?_
    obtain ⟨g51, h⟩ := ifc h
    refine AW.rg tt_ok0 [(7, .c (.ref 11 1 0 ((x11 ++ ([x44] : List ByteArray)).length)))] [1, 10, 11] [(11, .row 9 false 1 (x11 ++ ([x44] : List ByteArray)).length (Rs (x11 ++ ([x44] : List ByteArray))))] 13 [hn, hn, hlit ByteArray.empty Es 1 (fun _ => rfl) ([x44] : List ByteArray), happ ByteArray.empty Es 1 16 x11 ([x44] : List ByteArray) g51 (by decide)] (by kernel_rfl) ?_
    refine AW.inBlock_normal (AW.tn ?_)
    refine AW.rg tt_ok0 [(8, vi64 (i64.wrap (x12 - 1)))] [] [] 16 [] (by kernel_rfl) ?_
    exact lpn h (conv_re [(0, 0), (1, 11)] (by kernel_rfl))
  ·
   refine AW.exit (AW.thenQ_exit ?_)
   exact lpo h rfl (conv_re [(0, 0), (1, 1)] (by kernel_rfl))
 ·
  show (_ : Exit → St → Prop) (.exit 0) _
  refine AW.inBlock_hit (AW.tn ?_)
  refine AW.sg tt_ok0 [(5, .c (.ref 1 1 0 x54.length)), (4, vs x53)] [] [] 6 [] (by kernel_rfl) ?_
  refine AW.ret ?_
  obtain rfl := some_inj h
  exact fn0 (.inr rfl) [(0, 0), (1, 1)] 2 (.tup [vs x53, .c (.ref 1 1 0 x54.length)]) (by kernel_rfl)
/-! recordlink/recordlinkmake.Mod -/
noncomputable def rl_make_Mod (p0 : Int) (p1 : Int) : Option Int := if (decide (p1 < 1)) = true then (some 0) else (if p1 ≠ 0 then (some ((i64.wrap ((p0.tmod p1) + p1)).tmod p1)) else none)
set_option maxRecDepth 100000 in
theorem rl_make_Mod_con (p0 : Int) (p1 : Int) (r : Int) (h : rl_make_Mod p0 p1 = some r) : Con Try.prog 14 [vi64 p0, vi64 p1] [] (vi64 r) [] := by
 refine con_of tt_ok0 0 Try.func14 (by kernel_rfl) rfl (by kernel_rfl) (fun base X _ => AW.post ?_)
 unfold rl_make_Mod at h
 refine AW.sg tt_ok0 [] [] [] 1 [] (by kernel_rfl) ?_
 refine AW.seq ?_
 refine AW.sg tt_ok0 [(6, vb (decide (p1 < 1)))] [] [] 3 [] (by kernel_rfl) ?_
 refine AW.co h (by kernel_rfl) (fun c1 h => ?_) (fun c1 h => ?_)
 ·
  refine AW.sg tt_ok0 [(4, vi64 0)] [] [] 4 [] (by kernel_rfl) ?_
  refine AW.ret (AW.tr ?_)
  obtain rfl := some_inj h
  exact fn0 (.inr rfl) [] 0 (vi64 0) (by kernel_rfl)
 ·
  refine AW.skip (AW.tn ?_)
  obtain ⟨g2, h⟩ := ifc h
  refine AW.sg tt_ok0 [(4, vi64 ((i64.wrap ((p0.tmod p1) + p1)).tmod p1))] [] [] 11 [hn, hn, ho g2, hn, hn, hn, ho g2] (by kernel_rfl) ?_
  refine AW.ret ?_
  obtain rfl := some_inj h
  exact fn0 (.inr rfl) [] 0 (vi64 ((i64.wrap ((p0.tmod p1) + p1)).tmod p1)) (by kernel_rfl)
/-! recordlink/recordlinkref38.Read -/
noncomputable def rl_ref38_Read (p0 : ByteArray) : Option ((List ByteArray) × Int × Int) := bind4 (rl_ref38_read p0) fun y1 y2 y3 y4 => (some (y1, y2, y4))
set_option maxRecDepth 100000 in
theorem rl_ref38_Read_con (p0 : ByteArray) (r : (List ByteArray) × Int × Int) (h : rl_ref38_Read p0 = some r) : Con Try.prog 18 [vs p0] [] (.tup [.c (.ref 0 1 0 r.1.length), vi64 r.2.1, vi64 r.2.2]) [(0, .row 9 false 1 r.1.length (Rs r.1))] := by
 refine con_of tt_ok0 0 Try.func18 (by kernel_rfl) rfl (by kernel_rfl) (fun base X _ => AW.post ?_)
 unfold rl_ref38_Read at h
 refine AW.sg tt_ok0 [] [] [] 3 [] (by kernel_rfl) ?_
 obtain ⟨y1, y2, y3, y4, e5, h⟩ := bind4_some h
 refine AW.sg tt_ok0 [(8, vi64 y4), (6, vi64 y2), (5, .c (.ref 4 1 0 y1.length))] [4] [(4, .row 9 false 1 y1.length (Rs y1))] 14 [hn, hm [] [] 1 (rl_ref38_read_con p0 (y1, y2, y3, y4) e5) ⟨rowL_flat Vs _ _ _, tv⟩] (by kernel_rfl) ?_
 refine AW.sg tt_ok0 [(4, vi64 y4), (3, vi64 y2), (2, .c (.ref 4 1 0 y1.length))] [] [] 20 [] (by kernel_rfl) ?_
 refine AW.ret ?_
 obtain rfl := some_inj h
 exact fn0 (.inr rfl) [(0, 4)] 1 (.tup [.c (.ref 4 1 0 y1.length), vi64 y2, vi64 y4]) (by kernel_rfl)
/-! recordlink/recordlinkref38.Same -/
noncomputable def rl_ref38_Same_l1 (p0 : List ByteArray) (p1 : List ByteArray) (x3 : Int) : Option (Int ⊕ (Unit ⊕ Unit)) := if (decide (x3 < (p0.length : Int))) = true then (if 0 ≤ x3 then (if x3 < (p0.length : Int) then (if x3 < (p1.length : Int) then (if (!((p0.getD x3.toNat ByteArray.empty).toList == (p1.getD x3.toNat ByteArray.empty).toList)) = true then (some (.inr (.inr ()))) else (some (.inl (i64.wrap (x3 + 1))))) else none) else none) else none) else (some (.inr (.inl ())))
noncomputable def rl_ref38_Same_a2 : Option Bool := some true
noncomputable def rl_ref38_Same_a3 : Option Bool := some false
noncomputable def rl_ref38_Same (p0 : List ByteArray) (p1 : List ByteArray) : Option Bool := if ((p0.length : Int) != (p1.length : Int)) = true then (some false) else (bindE (loop (fun v : Int => rl_ref38_Same_l1 p0 p1 v) 0) (fun t => rl_ref38_Same_a2) (fun t => rl_ref38_Same_a3))
set_option maxRecDepth 100000 in
theorem rl_ref38_Same_con (p0 : List ByteArray) (p1 : List ByteArray) (r : Bool) (h : rl_ref38_Same p0 p1 = some r) : Con Try.prog 21 [vl 1 Rs p0, vl 1 Rs p1] [] (vb r) [] := by
 refine con_of tt_ok0 0 Try.func21 (by kernel_rfl) rfl (by kernel_rfl) (fun base X _ => AW.post ?_)
 unfold rl_ref38_Same at h
 refine AW.sg tt_ok0 [] [] [] 1 [] (by kernel_rfl) ?_
 refine AW.seq ?_
 refine AW.sg tt_ok0 [(10, vb ((p0.length : Int) != (p1.length : Int)))] [] [] 6 [] (by kernel_rfl) ?_
 refine AW.co h (by kernel_rfl) (fun c1 h => ?_) (fun c1 h => ?_)
 ·
  refine AW.sg tt_ok0 [(4, vb false)] [] [] 7 [] (by kernel_rfl) ?_
  refine AW.ret (AW.tr ?_)
  obtain rfl := some_inj h
  exact fn0 (.inr rfl) [] 0 (vb false) (by kernel_rfl)
 ·
  refine AW.skip (AW.tn (AW.seq ?_))
  refine AW.sg tt_ok0 [(5, vi64 0)] [] [] 7 [] (by kernel_rfl) ?_
  refine AW.block ?_
  refine AW.lpE h (fun v => ⟨[(0, vl 1 Rs p0), (1, vl 1 Rs p1), (5, vi64 v)], [], 0⟩) (fun t => (.exit 0, ⟨[], [], 0⟩)) (fun t => (.ret, ⟨[(4, vb false)], [], 0⟩)) (conv_re [] (by kernel_rfl)) (fun _ => tv) (fun _ => tv) ?_ (fun t h => ?_) (fun t h => ?_)
  ·
   clear h
   intro x3 o h
   unfold rl_ref38_Same_l1 at h
   refine AW.seq ?_
   refine AW.sg tt_ok0 [(14, vb (decide (x3 < (p0.length : Int))))] [] [] 4 [] (by kernel_rfl) ?_
   refine AW.co h (by kernel_rfl) (fun c4 h => ?_) (fun c4 h => ?_)
   ·
    refine AW.skip (AW.tn ?_)
    refine AW.seq (AW.block ?_)
    obtain ⟨g5, g6, h⟩ := ifd h
    obtain ⟨g7, h⟩ := ifc h
    refine AW.sd tt_ok0 mo0 [] [(25, vb (!((p0.getD x3.toNat ByteArray.empty).toList == (p1.getD x3.toNat ByteArray.empty).toList)))] [] 13 [hn, hn, hq g5 g6, hn, hn, hn, hq g5 g7] (by kernel_rfl) ?_
    refine AW.co h (by kernel_rfl) (fun c8 h => ?_) (fun c8 h => ?_)
    ·
     refine AW.sg tt_ok0 [(4, vb false)] [] [] 14 [] (by kernel_rfl) ?_
     refine AW.ret (AW.inBlock_ret (AW.tr ?_))
     exact lpo h rfl (conv_re [] (by kernel_rfl))
    ·
     refine AW.skip (AW.inBlock_normal (AW.tn ?_))
     refine AW.rg tt_ok0 [(5, vi64 (i64.wrap (x3 + 1)))] [] [] 16 [] (by kernel_rfl) ?_
     exact lpn h (conv_re [] (by kernel_rfl))
   ·
    refine AW.exit (AW.thenQ_exit ?_)
    exact lpo h rfl (conv_re [] (by kernel_rfl))
  ·
   replace h : rl_ref38_Same_a2 = some r := h
   unfold rl_ref38_Same_a2 at h
   show (_ : Exit → St → Prop) (.exit 0) _
   refine AW.inBlock_hit (AW.tn ?_)
   refine AW.sg tt_ok0 [(4, vb true)] [] [] 1 [] (by kernel_rfl) ?_
   refine AW.ret ?_
   obtain rfl := some_inj h
   exact fn0 (.inr rfl) [] 0 (vb true) (by kernel_rfl)
  ·
   replace h : rl_ref38_Same_a3 = some r := h
   unfold rl_ref38_Same_a3 at h
   show (_ : Exit → St → Prop) (.ret) _
   refine AW.inBlock_ret (AW.tr ?_)
   obtain rfl := some_inj h
   exact fn0 (.inr rfl) [] 0 (vb false) (by kernel_rfl)
/-! recordlink/recordlinkref38.Whole -/
noncomputable def rl_ref38_Whole (p0 : ByteArray) : Option ByteArray := bind3 (rl_ref38_Read p0) fun y1 y2 y3 => (if 0 ≤ y2 then (if y2.toNat ≤ p0.size then (some (p0.extract 0 y2.toNat)) else none) else none)
set_option maxRecDepth 100000 in
theorem rl_ref38_Whole_con (p0 : ByteArray) (r : ByteArray) (h : rl_ref38_Whole p0 = some r) : Con Try.prog 23 [vs p0] [] (vs r) [] := by
 refine con_of tt_ok0 0 Try.func23 (by kernel_rfl) rfl (by kernel_rfl) (fun base X _ => AW.post ?_)
 unfold rl_ref38_Whole at h
 refine AW.sg tt_ok0 [] [] [] 1 [] (by kernel_rfl) ?_
 obtain ⟨y1, y2, y3, e4, h⟩ := bind3_some h
 refine AW.sg tt_ok0 [(4, vi64 y2)] [2] [] 10 [hn, hm [] [] 1 (rl_ref38_Read_con p0 (y1, y2, y3) e4) ⟨rowL_flat Vs _ _ _, tv⟩] (by kernel_rfl) ?_
 obtain ⟨g5, g6, h⟩ := ifd h
 refine AW.sg tt_ok0 [(2, vs (p0.extract 0 y2.toNat))] [] [] 14 [hn, hn, ho (p := (True) ∧ (0 ≤ y2) ∧ (0 ≤ y2.toNat) ∧ (y2.toNat ≤ p0.size)) (⟨tv, g5, (Nat.zero_le _), g6⟩)] (by kernel_rfl) ?_
 refine AW.ret ?_
 obtain rfl := some_inj h
 exact fn0 (.inr rfl) [] 0 (vs (p0.extract 0 y2.toNat)) (by kernel_rfl)
end Go.Proofs.Ytjedagkkeicpkaa
