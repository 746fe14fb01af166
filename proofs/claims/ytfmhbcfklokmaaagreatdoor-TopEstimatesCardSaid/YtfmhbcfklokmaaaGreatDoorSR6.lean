/- Lemmas for the statement TopEstimates: Go functions told as pure functions, and laws about these; texts joined and shortened by a program of mine; no condition. -/
import Derived.Test.YtfmhbcfklokmaaaGreatDoorSR1
import Derived.Test.YtfmhbcfklokmaaaGreatDoorSR5
import Derived.Test.YtfmhbcfklokmaaaGreatDoorRows
set_option linter.unusedVariables false
set_option linter.unusedSimpArgs false
set_option linter.defProp false
namespace Go.Proofs.YtfmhbcfklokmaaaGreatDoor
open Vm
def cY (l : List Int) : Prop := ∀ w ∈ l, 0 ≤ w ∧ w < 18446744073709551616
@[irreducible] def im (x : Nat) : Nat := cX 64 x
theorem F8 (x : Nat) : im x ≤ 64 := by unfold im; exact A2 64 x
def cf : List Int → Nat
 | [] => 0
 | w :: l => im w.toNat + cf l
theorem Ff {l : List Int} {i : Nat} (h : i < l.length) : cf (l.take (i + 1)) = cf (l.take i) + im (l.getD i 0).toNat := by
 induction l generalizing i with
 | nil => simp at h
 | cons w l ih =>
  cases i with
  | zero => simp [cf]
  | succ i =>
   have := ih (i := i) (by simpa using h)
   simp only [List.take_succ_cons, cf, List.getD_cons_succ]
   omega
theorem NE {w : Int} (h : 0 ≤ w ∧ w < 18446744073709551616) : nw w = some ((im w.toNat : Nat) : Int) := by
 obtain ⟨x, rfl⟩ := Int.eq_ofNat_of_zero_le h.1
 rw [OP (by omega)]
 simp only [Rj]
 unfold im
 rfl
theorem cY.get {l : List Int} (h : cY l) {i : Nat} (hi : i < l.length) : 0 ≤ l.getD i 0 ∧ l.getD i 0 < 18446744073709551616 := by
 rw [Re, Rf hi]
 exact h _ (Sb hi)
theorem wW (l : List Int) : cf l ≤ 64 * l.length := by
 induction l with
 | nil => simp [cf]
 | cons w l ih =>
  have := F8 w.toNat
  simp only [cf, Rk] at ih ⊢
  omega
theorem Ko (l : List Int) (i : Nat) : cf (l.take i) ≤ 64 * i := RX (wW _) (by simp; omega)
theorem Lx {p : aR} (hw : cY p.Words) (hl : p.Words.length < 1000000) : loop (fun v : Int × Int => nJ p v.1 v.2) (0, 0) = some ((cf p.Words : Nat) : Int) := by
 obtain ⟨t, h1, h2⟩ := tz (step := fun v : Int × Int => nJ p v.1 v.2) (fun v => ∃ i : Nat, v.2 = i ∧ i ≤ p.Words.length ∧ v.1 = ((cf (p.Words.take i) : Nat) : Int)) (fun v => p.Words.length - v.2.toNat) (fun t => t = ((cf p.Words : Nat) : Int)) (by
  rintro ⟨a, b⟩ ⟨i, rfl, hi, rfl⟩
  simp only [nJ]
  by_cases h : (i : Int) < (p.Words.length : Int)
  ·have hi' : i < p.Words.length := by omega
   have hb := Ko p.Words i
   have hp := F8 (p.Words.getD i 0).toNat
   refine .inl ⟨_, by rw [if_pos (by simpa using h), aO, if_pos h, Rj, NE (hw.get hi')]; rfl, ⟨i + 1, ?_, by omega, ?_⟩, ?_⟩
   ·show SB ((i : Int) + 1) = _
    rw [az]; rfl
   ·show SB (((cf (p.Words.take i) : Nat) : Int) + ((im (p.Words.getD i 0).toNat : Nat) : Int)) = _
    rw [az, Ff hi']; simp
   ·show p.Words.length - (SB ((i : Int) + 1)).toNat < p.Words.length - (i : Int).toNat
    rw [az]; omega
  ·have : i = p.Words.length := by omega
   subst this
   exact .inr ⟨_, by rw [b8], by rw [Sa]⟩) (0, 0) ⟨0, rfl, by omega, by simp [cf]⟩
 rw [h1, h2]
def io (L : Int) : Prop := 64 ≤ L ∧ L ≤ 512 ∧ L % 64 = 0
theorem Mw {L : Int} (h : io L) : gW L = some true := by
 obtain ⟨h1, h2, h3⟩ := h
 unfold gW jH
 rw [if_pos (by simpa using h1), if_pos (by simpa using h2), dJ (by omega), h3]
 rfl
theorem Ae {p : aR} (h : io p.Length) (hl : (p.Words.length : Int) = p.Length / 64) : gX p = some true := by
 unfold gX nI
 rw [Mw h, Option.bind_some, if_pos rfl, hl, fk (by have := h.1; omega), az (by have := h.1; omega) (by have := h.2.1; omega)]
 simp
theorem Mx {p : aR} (h : io p.Length) (hl : (p.Words.length : Int) = p.Length / 64) (hw : cY p.Words) : iS p = some ((cf p.Words : Nat) : Int) := by
 unfold iS
 rw [Ae h hl, Option.bind_some, b8, Lx hw (by have := h.2.1; omega)]
 rfl
theorem wL {α : Type} (d : α) (a : List α) (i m : Nat) (h : a.length = i) (y : α) : (a ++ List.replicate (m + 1) d).set i y = (a ++ [y]) ++ List.replicate m d := by
 subst h
 simp [List.replicate_succ]
theorem NG {f : Int → Int → Int} {a b : List Int} {i : Nat} (h : i < a.length) (h' : i < b.length) : List.zipWith f (a.take (i + 1)) (b.take (i + 1)) = List.zipWith f (a.take i) (b.take i) ++ [f (a.getD i 0) (b.getD i 0)] := by
 induction a generalizing b i with
 | nil => simp at h
 | cons x a ih =>
  cases b with
  | nil => simp at h'
  | cons z b =>
   cases i with
   | zero => simp
   | succ i => simpa using ih (i := i) (by simpa using h) (by simpa using h')
theorem NH {p q : aR} (hl : p.Words.length = q.Words.length) (hs : p.Words.length < 1000000) :
  loop (fun v : Int × (List Int) => mR p q v.1 v.2) (0, List.replicate p.Words.length 0) = some (List.zipWith (cn .u64) p.Words q.Words) := by
 obtain ⟨t, h1, h2⟩ := tz (step := fun v : Int × (List Int) => mR p q v.1 v.2) (fun v => ∃ i : Nat, v.1 = i ∧ i ≤ p.Words.length ∧ v.2 = List.zipWith (cn .u64) (p.Words.take i) (q.Words.take i) ++ List.replicate (p.Words.length - i) 0)
   (fun v => p.Words.length - v.1.toNat) (fun t => t = List.zipWith (cn .u64) p.Words q.Words) (by
  rintro ⟨a, b⟩ ⟨i, rfl, hi, rfl⟩
  simp only [mR, vt]
  by_cases h : (i : Int) < (p.Words.length : Int)
  ·have hi' : i < p.Words.length := by omega
   refine .inl ⟨_, by rw [if_pos (by simpa using h), aO, if_pos h, aO, Option.bind_some, if_pos (by simp; omega)], ⟨i + 1, ?_, by omega, ?_⟩, ?_⟩
   ·show SB ((i : Int) + 1) = _
    rw [az]; rfl
   ·show List.set _ _ _ = _
    rw [Rj, R9, show p.Words.length - i = (p.Words.length - (i + 1)) + 1 by omega, wL 0 _ i _ (by simp; omega), NG hi' (by omega)]
   ·show p.Words.length - (SB ((i : Int) + 1)).toNat < p.Words.length - (i : Int).toNat
    rw [az]; omega
  ·have : i = p.Words.length := by omega
   subst this
   refine .inr ⟨_, by rw [b8], ?_⟩
   rw [Nat.sub_self, List.replicate_zero, List.append_nil, Sa, hl, Sa]) (0, List.replicate p.Words.length 0) ⟨0, rfl, by omega, by simp⟩
 rw [h1, h2]
theorem OQ {p q : aR} (h : io p.Length) (hp : (p.Words.length : Int) = p.Length / 64) (hq : (q.Words.length : Int) = p.Length / 64) (hl : q.Length = p.Length) :
  l9 p q = some (⟨p.Length, List.zipWith (cn .u64) p.Words q.Words⟩, 0) := by
 have h2 := h.2.1
 unfold l9 qw kR
 rw [Ae h hp, Ae (p := q) (by rw [hl]; exact h) (by rw [hl]; exact hq)]
 simp only [Option.bind_some, Bool.not_true, Bool.false_eq_true, if_false, hl, bne_self_eq_false]
 rw [aO, aO, Rj, NH (by omega) (by omega)]
 rfl
theorem cY.and {a b : List Int} : cY (List.zipWith (cn .u64) a b) := by
 intro w hw
 obtain ⟨i, hi, rfl⟩ := List.mem_iff_getElem.1 hw
 rw [List.getElem_zipWith]
 unfold cn
 exact ⟨tB _, tC _⟩
instance (L : Int) : Decidable (io L) := by unfold io; infer_instance
def VB (p : aR) : Prop := io p.Length ∧ (p.Words.length : Int) = p.Length / 64
instance (p : aR) : Decidable (VB p) := by unfold VB; infer_instance
theorem NI (L : Int) : gW L = some (decide (io L)) := by
 grind [gW, jH, io, dJ]
theorem Az (p : aR) : gX p = some (decide (VB p)) := by
 grind [gX, nI, NI, VB, io, fk, az]
theorem VB.len {p : aR} (h : VB p) : p.Words.length ≤ 8 ∧ 1 ≤ p.Words.length := by
 obtain ⟨⟨h1, h2, h3⟩, h4⟩ := h; omega
theorem count_eq {p : aR} (hw : cY p.Words) : iS p = some (if VB p then ((cf p.Words : Nat) : Int) else 0) := by
 by_cases h : VB p
 ·rw [Mx h.1 h.2 hw, if_pos h]
 ·grind [iS, Az]
def EB : aR := ⟨0, []⟩
theorem Hb (p q : aR) : l9 p q = some (if VB p ∧ VB q ∧ p.Length = q.Length then (⟨p.Length, List.zipWith (cn .u64) p.Words q.Words⟩, 0) else (EB, 8)) := by
 by_cases h : VB p ∧ VB q ∧ p.Length = q.Length
 ·rw [if_pos h]
  obtain ⟨h1, h2, h3⟩ := h
  exact OQ h1.1 h1.2 (by rw [h3]; exact h2.2) h3.symm
 ·grind [l9, qw, kR, Az, aF, EB]
theorem Q9 {p q : aR} {f : Int → Int → Int} (hp : VB p) (hq : VB q) (h : p.Length = q.Length) : VB ⟨p.Length, List.zipWith f p.Words q.Words⟩ := by
 refine ⟨hp.1, ?_⟩
 have := hp.2; have := hq.2
 simp only [List.length_zipWith]
 omega
def dw (p q : aR) : Int := if VB p ∧ VB q ∧ p.Length = q.Length then (if cf p.Words + cf q.Words = 0 then 0 else (((4000 * cf (List.zipWith (cn .u64) p.Words q.Words) + (cf p.Words + cf q.Words)) / (2 * (cf p.Words + cf q.Words)) : Nat) : Int)) else -1
theorem A3 {p q : aR} (hp : cY p.Words) (hq : cY q.Words) : iN p q = some (dw p q) := by
 by_cases h : VB p ∧ VB q ∧ p.Length = q.Length
 ·obtain ⟨h1, h2, h3⟩ := h
  have l1 := h1.len
  have l2 := h2.len
  have b1 := wW p.Words
  have b2 := wW q.Words
  have b3 := wW (List.zipWith (cn .u64) p.Words q.Words)
  have hc := count_eq (p := ⟨p.Length, List.zipWith (cn .u64) p.Words q.Words⟩) cY.and
  rw [if_pos (Q9 h1 h2 h3)] at hc
  simp only [List.length_zipWith] at b3
  unfold iN dw
  rw [Hb, if_pos ⟨h1, h2, h3⟩, if_pos ⟨h1, h2, h3⟩]
  simp only [aF, Option.bind_some]
  rw [b8, count_eq hp, count_eq hq, if_pos h1, if_pos h2, hc]
  simp only [Option.bind_some]
  generalize cf p.Words = a at *
  generalize cf q.Words = b at *
  generalize cf (List.zipWith (cn .u64) p.Words q.Words) = c at *
  have b4 : c ≤ 512 := by omega
  have d0 : 0 ≤ (4000 * (c : Int) + ((a : Int) + b)) / (2 * ((a : Int) + b)) := Int.ediv_nonneg (by omega) (by omega)
  have d1 := Int.ediv_le_self (b := 2 * ((a : Int) + b)) (show 0 ≤ 4000 * (c : Int) + ((a : Int) + b) by omega)
  simp (disch := omega) only [az, fk]
  by_cases h0 : a + b = 0
  ·rw [if_pos (by simp; omega), if_pos h0]
  ·rw [if_neg (by simp; omega), if_neg h0, aO]
   simp
 ·unfold iN dw
  rw [Hb, if_neg h, if_neg h]
  simp [aF]
open _root_.ByteArray (mk)
open IntKind (i64 u64 u32 u8)
theorem pk (x : Int) : (∃ v, fg x 13 = some v) ∧ (∃ v, fg x 16 = some v) ∧ (∃ v, fg x 17 = some v) ∧ (∃ v, fg x 21 = some v) ∧ ∃ v, fg x 32 = some v := by
 unfold fg
 refine ⟨?_, ?_, ?_, ?_, ?_⟩ <;> (rw [bX, bX]; exact ⟨_, rfl⟩)
theorem D8 (s : dl) {n : Nat} (hn : n ≤ 10) : ∃ t, nb s (n : Int) = some t := by
 unfold nb
 obtain ⟨⟨a, b, c, d⟩, e, _⟩ := cC (step := fun v : Int × Int × Int × Int × Int => mV (n : Int) v.1 v.2.1 v.2.2.1 v.2.2.2.1 v.2.2.2.2) n (fun i s => s.1 = i) (fun _ => True) (fun i hi s hs => by
   obtain ⟨j, a, b, c, d⟩ := s
   obtain rfl : j = i := hs
   left
   simp only [mV]
   rw [bG]
   obtain ⟨v1, e1⟩ := (pk b).1
   obtain ⟨v2, e2⟩ := (pk (u64.wrap (a + b))).2.2.2.2
   obtain ⟨v3, e3⟩ := (pk d).2.1
   rw [e1, an, e2, an, e3, an, an]
   obtain ⟨v4, e4⟩ := (pk (bq .u64 v3 (u64.wrap (c + d)))).2.2.2.1
   rw [e4, an, an]
   obtain ⟨v5, e5⟩ := (pk (bq .u64 v1 (u64.wrap (a + b)))).2.2.1
   rw [e5, an]
   obtain ⟨v6, e6⟩ := (pk (u64.wrap ((u64.wrap (c + d)) + (bq .u64 v1 (u64.wrap (a + b)))))).2.2.2.2
   rw [e6, an, az (n := (i : Int) + 1)]
   exact ⟨_, rfl, rfl⟩) (fun s hs => by
   obtain ⟨j, a, b, c, d⟩ := s
   obtain rfl : j = n := hs
   simp only [mV]
   rw [b8]
   exact ⟨_, rfl, trivial⟩) (s := (0, s.a, s.b, s.c, s.d)) rfl
 rw [e, cx]
 exact ⟨_, rfl⟩
theorem EL (s : dl) (m : Int) : ∃ t, nk s m = some t := by
 unfold nk
 obtain ⟨t, e⟩ := D8 (⟨s.a, s.b, s.c, bq .u64 s.d m⟩ : dl) (n := 2) (by decide)
 rw [show (2 : Int) = ((2 : Nat) : Int) from rfl, e, an]
 exact ⟨_, rfl⟩
theorem Fg (l : List Int) (hl : l.length ≤ 1000) : ∃ v, nX l = some v := by
 unfold nX
 obtain ⟨t, e, _⟩ := cC (step := fun v : Int × Int => np l v.1 v.2) l.length (fun i s => s.2 = i) (fun _ => True) (fun i hi s hs => by
   obtain ⟨x, j⟩ := s
   obtain rfl : j = i := hs
   left
   simp only [np]
   rw [bG, aO, aO, az (n := 8 * (i : Int)), aO, an, az (n := (i : Int) + 1)]
   exact ⟨_, rfl, rfl⟩) (fun s hs => by
   obtain ⟨x, j⟩ := s
   obtain rfl : j = l.length := hs
   simp only [np]
   rw [b8]
   exact ⟨_, rfl, trivial⟩) (s := (0, 0)) rfl
 rw [e, an]
 exact ⟨_, rfl⟩
theorem My (k : bd) (l : List Int) : ∃ v, sH k l = some v ∧ 0 ≤ v ∧ v < 18446744073709551616 := by
 unfold sH
 obtain ⟨⟨x, a, b, c, d⟩, e, hx⟩ := cC (step := fun v : (List Int) × Int × Int × Int × Int => nZ v.1 v.2.1 v.2.2.1 v.2.2.2.1 v.2.2.2.2) (l.length / 8) (fun i s => s.1.length = l.length - 8 * i) (fun t => t.1.length ≤ 8) (fun i hi s hs => by
   obtain ⟨x, a, b, c, d⟩ := s
   have hs : x.length = l.length - 8 * i := hs
   left
   simp only [nZ]
   rw [bG, aO]
   obtain ⟨v, ev⟩ := Fg (x.take 8) (by rw [Ro]; omega)
   obtain ⟨t, et⟩ := EL (⟨a, b, c, d⟩ : dl) v
   rw [ev, an, et, an]
   refine ⟨_, rfl, ?_⟩
   show ((x.drop 8).take (x.length - 8)).length = _
   rw [Ro, Rp]
   omega) (fun s hs => by
   obtain ⟨x, a, b, c, d⟩ := s
   have hs : x.length = l.length - 8 * (l.length / 8) := hs
   simp only [nZ]
   rw [ct]
   exact ⟨_, rfl, by simp only; omega⟩) (s := (l, bq .u64 k.A 8317987319222330741, bq .u64 k.B 7237128888997146477, bq .u64 k.A 7816392313619706465, bq .u64 k.B 8387220255154660723)) rfl
 rw [e, o8]
 obtain ⟨v, ev⟩ := Fg x (by simp only at hx; omega)
 rw [ev, an]
 obtain ⟨t, et⟩ := EL (⟨a, b, c, d⟩ : dl) (cw .u64 v (ck .u64 (u64.wrap (l.length : Int)) 56))
 rw [et, an]
 obtain ⟨u, eu⟩ := D8 (⟨t.a, t.b, bq .u64 t.c 255, t.d⟩ : dl) (n := 4) (by decide)
 rw [show (4 : Int) = ((4 : Nat) : Int) from rfl, eu, an]
 exact ⟨_, rfl, by unfold bq; exact tB _, by unfold bq; exact tC _⟩
theorem Ly (k : bd) {L : List ByteArray} (hn : L.length ≤ 100) (hall : ∀ i, i < L.length → (L.getD i mt).size ≤ 1000) : ∃ v, iQ k L = some v ∧ 0 ≤ v ∧ v < 18446744073709551616 := by
 unfold iQ
 obtain ⟨t, e1, _⟩ := cC (step := fun v : (List Int) × Int => nv L v.1 v.2) L.length (fun i s => s.2 = (i : Int) ∧ s.1.length ≤ 2000 * i) (fun _ => True) (by
   rintro i hi ⟨l, j⟩ ⟨s1, s2⟩
   left
   simp only at s1 s2
   subst s1
   simp only [nv, Rj]
   have h1 := hall i hi
   rw [bG, aO, aO]
   have hm : (bz (L.getD i mt)) = ((L.getD i mt).size : Int) := if_neg (by omega)
   simp only [hm, Rj]
   have hx : ((L.getD i mt).extract 0 (L.getD i mt).size).size = (L.getD i mt).size := by rw [ByteArray.size_extract]; omega
   rw [aO, aO, if_pos (by simp only [Rk, Rm]; omega), if_pos (by rw [Rl, hx]; simp only [Rk, Rm]; omega)]
   refine ⟨_, rfl, ?_, ?_⟩
   ·simp only; rw [az]; omega
   ·simp only [Rl, Rk, Rm]
    rw [← DG, hx]; omega) (by
   rintro ⟨l, j⟩ ⟨s1, s2⟩
   simp only at s1 s2
   subst s1
   refine ⟨l, ?_, trivial⟩
   simp only [nv]
   rw [b8]) (s := (([] : List Int), 0)) ⟨rfl, by simp⟩
 obtain ⟨v, ev, hv⟩ := My k t
 rw [e1, an, ev, an]
 exact ⟨v, rfl, hv⟩
theorem xb (k : bd) {s g : ByteArray} (hs : s.size ≤ 1000) (hg : g.size ≤ 1000) : ∃ v, iQ k ([s, g] : am) = some v ∧ 0 ≤ v ∧ v < 18446744073709551616 := Ly k (show 2 ≤ 100 by decide) fun i hi => by
 match i, hi with
 | 0, _ => exact hs
 | 1, _ => exact hg
theorem D9 (k : bd) {s : ByteArray} (hs : s.size ≤ 1000) : ∃ k', oa k s = some k' := by
 unfold oa
 obtain ⟨a, ea, _⟩ := xb k (s := s) (g := mk #[97]) hs (by decide)
 obtain ⟨b, eb, _⟩ := xb k (s := s) (g := mk #[98]) hs (by decide)
 rw [ea, an, eb, an]
 exact ⟨_, rfl⟩
theorem Lz {n i : Nat} {p : aD} (h : jw n i p) (k : bd) {g : ByteArray} (hg : g.size ≤ 1000) : ∃ x y, sI p k g = some (x, y, p, x) ∧ (0 ≤ x ∧ x < p.Length) ∧ 0 ≤ y ∧ y < p.Length := by
 obtain ⟨h1, h2, h3⟩ := h.l
 obtain ⟨u, e1, u0, u1⟩ := xb k (s := mk #[49]) (g := g) (by decide) hg
 obtain ⟨v, e2, v0, v1⟩ := xb k (s := mk #[50]) (g := g) (by decide) hg
 have a0 := Int.emod_nonneg u (show p.Length ≠ 0 by omega)
 have a1 := Int.emod_lt_of_pos u (show 0 < p.Length by omega)
 have b0 := Int.emod_nonneg v (show p.Length - 1 ≠ 0 by omega)
 have b1 := Int.emod_lt_of_pos v (show 0 < p.Length - 1 by omega)
 refine ⟨u % p.Length, 1 + v % (p.Length - 1), ?_, ⟨a0, a1⟩, by omega, by omega⟩
 unfold sI
 rw [e1, an, cJ (n := p.Length) (by omega) (by omega), aO, e2, an, az (n := p.Length - 1), cJ (n := p.Length - 1) (by omega) (by omega), aO, dJ u0, dJ v0, az (n := u % p.Length), az (n := v % (p.Length - 1)), az (n := 1 + v % (p.Length - 1)), an]
def xG (L : Int) (l : List Int) : Prop := ∀ v ∈ l, 0 ≤ v ∧ v < L
theorem JU {n i : Nat} (hn : n ≤ 4) {p : aD} (h : jw n i p) (k : bd) {g : ByteArray} (hg : g.size ≤ 1000) : ∃ l, rq p k g = some (l, 0) ∧ (1 ≤ l.length ∧ l.length ≤ 6) ∧ xG p.Length l := by
 obtain ⟨h1, h2, h3⟩ := h.l
 obtain ⟨hh1, hh2⟩ := h.h
 obtain ⟨x, y, ed, hx, hy⟩ := Lz h k hg
 have hlen : (List.replicate p.Hashes.toNat (0 : Int)).length = p.Hashes.toNat := RG
 unfold rq
 rw [zA hn h, an, aV, aO, aO, ed, an]
 obtain ⟨t, e, ht⟩ := cC (step := fun v : (List Int) × Int × Int × Int × Int × Int × Int × Int => nl p v.1 v.2.1 v.2.2.1 v.2.2.2.1 v.2.2.2.2.1 v.2.2.2.2.2.1 v.2.2.2.2.2.2.1 v.2.2.2.2.2.2.2) p.Hashes.toNat (fun i s => ∃ l x z, s = (l, (i : Int), x, y, p.Length, p.Hashes, p.Salt, z) ∧ (l.length = p.Hashes.toNat ∧ xG p.Length l) ∧ 0 ≤ x ∧ x < p.Length) (fun t => t.length = p.Hashes.toNat ∧ xG p.Length t) (fun i hi s hs => by
   obtain ⟨l, x, z, rfl, ⟨hl, hv⟩, x0, x1⟩ := hs
   left
   have m0 := Int.emod_nonneg (x + y) (show p.Length ≠ 0 by omega)
   have m1 := Int.emod_lt_of_pos (x + y) (show 0 < p.Length by omega)
   simp only [nl]
   rw [hlen, bG, show rK x y (⟨p.Length, p.Hashes, p.Salt⟩ : aD) z = some (x, (x + y) % p.Length, y, p, x) by
    unfold rK
    simp only
    rw [aO, az, dJ (by omega)], o8, aO, aO, Rj, R9, az (n := (i : Int) + 1)]
   refine ⟨_, rfl, _, _, _, rfl, ⟨by rw [R7]; exact hl, fun v hm => ?_⟩, m0, m1⟩
   rcases List.mem_or_eq_of_mem_set hm with hm | rfl
   ·exact hv v hm
   ·exact ⟨x0, x1⟩) (fun s hs => by
   obtain ⟨l, x, z, rfl, hl, hx⟩ := hs
   simp only [nl]
   rw [hlen, b8]
   exact ⟨_, rfl, hl⟩) (s := (List.replicate p.Hashes.toNat (0 : Int), 0, x, y, p.Length, p.Hashes, p.Salt, x)) ⟨_, x, x, rfl, ⟨hlen, fun v hv => by rw [List.eq_of_mem_replicate hv]; omega⟩, hx⟩
 refine ⟨t, ?_, by have := ht.1; omega, ht.2⟩
 simp only
 rw [e, an]
theorem NJ {j : Int} (h0 : 0 ≤ j) (h1 : j < 64) : ck .u64 1 j = ((2 ^ j.toNat : Nat) : Int) := by
 obtain ⟨k, rfl⟩ := Int.eq_ofNat_of_zero_le h0
 have h2 : 2 ^ k < 18446744073709551616 := show 2 ^ k < 2 ^ 64 from Nat.pow_lt_pow_right (by omega) (by omega)
 have := Ps 1 (s := k) (by omega)
 rw [Nat.one_mul, Nat.mod_eq_of_lt h2] at this
 exact this
def NZ (W : List Int) : Prop := ∃ j, j < W.length ∧ W.getD j 0 ≠ 0
theorem Pt {W : List Int} (hw : cY W) {q : Nat} (hq : q < W.length) {m : Int} (m0 : 0 ≤ m) (m1 : m < 64) : cY (W.set q (cw .u64 (W.getD q 0) (ck .u64 1 m))) ∧ NZ (W.set q (cw .u64 (W.getD q 0) (ck .u64 1 m))) := by
 refine ⟨fun w hm => ?_, q, by rw [R7]; exact hq, ?_⟩
 ·rcases List.mem_or_eq_of_mem_set hm with hm | rfl
  ·exact hw w hm
  ·unfold cw; exact ⟨tB _, tC _⟩
 ·have g := hw.get hq
  have e : (W.set q (cw .u64 (W.getD q 0) (ck .u64 1 m))).getD q 0 = cw .u64 (W.getD q 0) (ck .u64 1 m) := by
   rw [Re, Se]
   simp [hq]
  rw [e, NJ m0 m1]
  obtain ⟨x, hx⟩ := Int.eq_ofNat_of_zero_le g.1
  rw [hx]
  have h2 : 2 ^ m.toNat < 18446744073709551616 := show 2 ^ m.toNat < 2 ^ 64 from Nat.pow_lt_pow_right (by omega) (by omega)
  rw [P4 (by omega) h2]
  have : 2 ^ m.toNat ≤ x ||| 2 ^ m.toNat := Nat.right_le_or
  have : 0 < 2 ^ m.toNat := Nat.pow_pos (by decide)
  omega
theorem NK {W l : List Int} {L : Int} (hL : L = 64 * (W.length : Int)) (hn : W.length ≤ 8) (hw : cY W) (hl : xG L l) (h1 : 1 ≤ l.length ∧ l.length ≤ 6) : ∃ V, loop (fun v : Int × (List Int) => lF l v.1 v.2) (0, W) = some V ∧ V.length = W.length ∧ cY V ∧ NZ V := by
 obtain ⟨t, e, h2, h3, h4⟩ := cC (step := fun v : Int × (List Int) => lF l v.1 v.2) l.length (fun i s => ∃ V, s = ((i : Int), V) ∧ V.length = W.length ∧ cY V ∧ (1 ≤ i → NZ V)) (fun V => V.length = W.length ∧ cY V ∧ NZ V) (fun i hi s hs => by
   obtain ⟨V, rfl, hv, hw, hz⟩ := hs
   left
   obtain ⟨c0, c1⟩ := hl _ (eR 0 hi)
   simp only [lF]
   rw [Rj, R9, bG, aO, aO, fk c0, dJ c0, az (n := l.getD i 0 / 64), aO, aO, aO, R9, az (n := (i : Int) + 1)]
   obtain ⟨g1, g2⟩ := Pt hw (q := (l.getD i 0 / 64).toNat) (by omega) (m := l.getD i 0 % 64) (by omega) (by omega)
   exact ⟨_, rfl, _, rfl, by rw [R7]; exact hv, g1, fun _ => g2⟩) (fun s hs => by
   obtain ⟨V, rfl, hv, hw, hz⟩ := hs
   simp only [lF]
   rw [b8]
   exact ⟨_, rfl, hv, hw, hz h1.1⟩) (s := (0, W)) ⟨W, rfl, rfl, hw, fun h => absurd h (by decide)⟩
 exact ⟨t, e, h2, h3, h4⟩
structure BK (L : Int) (x : aR) : Prop where
 l : x.Length = L
 n : (x.Words.length : Int) = L / 64
 w : cY x.Words
 z : NZ x.Words
theorem LA {n i : Nat} (hn : n ≤ 4) {p : aD} (h : jw n i p) (k : bd) {gs : List ByteArray} (hg : ∀ g ∈ gs, g.size ≤ 1000) (h1 : 1 ≤ gs.length) (h80 : gs.length ≤ 80) : ∃ x, sr p k gs = some (x, 0) ∧ BK p.Length x := by
 obtain ⟨l1, l2, l3⟩ := h.l
 have hz : cY (List.replicate ((p.Length / 64).toNat) (0 : Int)) := fun w hw => by rw [List.eq_of_mem_replicate hw]; decide
 unfold sr
 rw [zA hn h, an, aV, ct, F7 h.l, aU]
 obtain ⟨t, e, h2, h3, h4⟩ := cC (step := fun v : Int × (List Int) => nH p k gs v.1 v.2) gs.length (fun i s => ∃ V, s = ((i : Int), V) ∧ V.length = (p.Length / 64).toNat ∧ cY V ∧ (1 ≤ i → NZ V)) (fun V => V.length = (p.Length / 64).toNat ∧ cY V ∧ NZ V) (fun i hi s hs => by
   obtain ⟨V, rfl, hv, hw, hz⟩ := hs
   left
   simp only [nH]
   rw [Rj, bG, aO, aO]
   obtain ⟨l, e1, e2, e3⟩ := JU hn h k (hg _ (eR mt hi))
   obtain ⟨U, f1, f2, f3, f4⟩ := NK (L := p.Length) (by omega) (by omega) hw e3 e2
   rw [e1, aU, f1, an, az (n := (i : Int) + 1)]
   exact ⟨_, rfl, _, rfl, by omega, f3, fun _ => f4⟩) (fun s hs => by
   obtain ⟨V, rfl, hv, hw, hz⟩ := hs
   simp only [nH]
   rw [b8]
   exact ⟨_, rfl, hv, hw, hz h1⟩) (s := (0, List.replicate ((p.Length / 64).toNat) (0 : Int))) ⟨_, rfl, RG, hz, fun h => absurd h (by decide)⟩
 refine ⟨⟨p.Length, t⟩, ?_, rfl, by simp only; omega, h3, h4⟩
 simp only
 rw [e, an]
theorem Mz {x : Nat} (h0 : x ≠ 0) (h1 : x < 18446744073709551616) : 0 < im x := by
 have key : ∀ f x : Nat, x ≠ 0 → x < 2 ^ f → 0 < cX f x := by
  intro f
  induction f with
  | zero => intro x h0 h1; simp at h1; omega
  | succ f ih =>
   intro x h0 h1
   unfold cX
   by_cases hx : x % 2 = 0
   ·have := ih (x / 2) (by omega) (by rw [Nat.pow_succ] at h1; omega)
    omega
   ·omega
 unfold im
 exact key 64 x h0 h1
theorem NL {W : List Int} (hw : cY W) (h : NZ W) : 0 < cf W := by
 obtain ⟨j, hj, h0⟩ := h
 have h1 := hw.get hj
 have h2 := Ff hj
 have h3 := Mz (x := (W.getD j 0).toNat) (by omega) (by omega)
 have h4 : ∀ (l : List Int) (i : Nat), cf (l.take i) ≤ cf l := by
  intro l
  induction l with
  | nil => intro i; simp
  | cons w l ih =>
   intro i
   cases i with
   | zero => simp [cf]
   | succ i => have := ih i; simp only [List.take_succ_cons, cf]; omega
 have := h4 W (j + 1)
 omega
theorem LB {W : List Int} (hw : cY W) : List.zipWith (cn .u64) W W = W := by
 induction W with
 | nil => rfl
 | cons w W ih =>
  have g := hw w Rw
  obtain ⟨x, rfl⟩ := Int.eq_ofNat_of_zero_le g.1
  rw [List.zipWith_cons_cons, ih fun y hy => hw y (Rx _ hy), mm (by omega) (by omega), Nat.and_self]
theorem MA {L : Int} (hL : 64 ≤ L ∧ L ≤ 192 ∧ L % 64 = 0) {x : aR} (h : BK L x) : iN x x = some 1000 := by
 have hv : VB x := ⟨⟨by have := h.l; omega, by have := h.l; omega, by have := h.l; omega⟩, by rw [h.n, h.l]⟩
 have hp := NL h.w h.z
 rw [A3 h.w h.w]
 unfold dw
 rw [if_pos ⟨hv, hv, rfl⟩, t8, LB h.w]
 generalize cf x.Words = c at hp
 rw [show (4000 * c + (c + c)) / (2 * (c + c)) = 1000 from Nat.div_eq_of_lt_le (by omega) (by omega)]
 rfl
theorem MB : iN ⟨0, []⟩ ⟨0, []⟩ = some (-1) := by
 have hw : cY [] := fun w hw => absurd hw RE
 rw [A3 (p := ⟨0, []⟩) (q := ⟨0, []⟩) hw hw]
 unfold dw
 rw [if_neg (fun h => absurd h.1.1.1 (by decide))]
structure ua (g : List ByteArray) : Prop where
 l : 1 ≤ g.length ∧ g.length ≤ 80
 s : ∀ s ∈ g, s.size ≤ 1000
theorem Fh : ∀ (l : List ByteArray) (es : List (Lit × DataW Unit)), ∃ es', l.foldl (fun D s => D.put (.string s.data.toList) (.agg [])) (DataW.map es) = DataW.map es' ∧ es'.length ≤ es.length + l.length ∧ (1 ≤ es.length + l.length → 1 ≤ es'.length) ∧ ∀ p ∈ es', p ∈ es ∨ ∃ s ∈ l, p.1 = .string s.data.toList
 | [], es => ⟨es, rfl, by simp, by simp, fun p hp => .inl hp⟩
 | x :: l, es => by
  obtain ⟨es', e, h1, h2, h3⟩ := Fh l (DataW.insert (.string x.data.toList, .agg []) (es.filter fun p => !p.1.sameKey (.string x.data.toList)))
  have hl : (DataW.insert (.string x.data.toList, .agg []) (es.filter fun p => !p.1.sameKey (.string x.data.toList))).length = (es.filter fun p => !p.1.sameKey (.string x.data.toList)).length + 1 := (Go.WideShapes.insert_perm _ _).length_eq
  have hf := List.length_filter_le (fun p : Lit × DataW Unit => !p.1.sameKey (.string x.data.toList)) es
  refine ⟨es', e, by rw [Rk]; omega, fun _ => h2 (by omega), fun p hp => ?_⟩
  rcases h3 p hp with h | ⟨s, hs, e⟩
  ·rcases ChangeMaps.mem_insert_iff.1 h with rfl | h
   ·exact .inr ⟨x, Rw, rfl⟩
   ·exact .inl ((List.mem_filter.1 h).1)
  ·exact .inr ⟨s, Rx _ hs, e⟩
theorem OR {l : List ByteArray} (h : ua l) : ∃ g, td l = some g ∧ ua g := by
 obtain ⟨h0, h1⟩ := h.l
 obtain ⟨es, e, l1, l2, l3⟩ := Fh l []
 have eg : kr l = DataW.map es := e
 have en : (gx l).length = es.length := by
  unfold gx
  rw [RF, List.length_mergeSort, eg]
  exact RF ..
 unfold td
 rw [if_pos ⟨by omega, h.s⟩]
 refine ⟨_, rfl, ⟨by rw [en]; exact l2 (by simp only [Rm]; omega), by rw [en]; simp only [Rm] at l1; omega⟩, fun s hs => ?_⟩
 unfold gx at hs
 obtain ⟨x, hx, rfl⟩ := R6.1 hs
 rw [List.mem_mergeSort, eg] at hx
 obtain ⟨p, hp, rfl⟩ := R6.1 (show x ∈ es.map fun p => strOf p.1 from hx)
 rcases l3 p hp with h' | ⟨t, ht, e⟩
 ·cases h'
 ·rw [e]
  exact h.s t ht
theorem NM (s : ByteArray) (i j : Nat) : (s.extract i j).size ≤ s.size := by
 rw [ByteArray.size_extract]
 omega
theorem F9 {ws : List (List UInt8)} (h : okW ws) (hl : ∀ w ∈ ws, w.length ≤ 8) (ha : ∀ w ∈ ws, ∀ c ∈ w, c.toNat < 128) (h1 : 1 ≤ ws.length) (h2 : ws.length ≤ 2) : ∃ g, oV (ak (bM ws)) = some g ∧ ua g := by
 have hM : 1000 ≤ ce := by decide
 have hsum : (ws.map fun x => x.length + 1).sum ≤ 9 * ws.length := by
  have : ∀ l : List (List UInt8), (∀ w ∈ l, w.length ≤ 8) → (l.map fun x => x.length + 1).sum ≤ 9 * l.length := by
   intro l
   induction l with
   | nil => simp
   | cons x l ih =>
    intro hl
    have := ih fun w hw => hl w (Rx _ hw)
    have := hl x Rw
    simp only [Sq, Sr, Rk]
    omega
  exact this ws hl
 have hj := j8 ws
 have hasc : ascii (bM ws) := iY (p := fun c => c.toNat < 128) (by decide) ha
 unfold oV
 rw [bO, ct, wh hasc (by omega), jY h, an]
 obtain ⟨t, e, ht, ht2⟩ := cC (step := fun v : (List ByteArray) × Int => ou (ws.map ak) v.1 v.2) ws.length (fun i s => ∃ l, s = (l, (i : Int)) ∧ (l.length ≤ 9 * i ∧ (1 ≤ i → 1 ≤ l.length)) ∧ ∀ s ∈ l, s.size ≤ 1000) (fun l => (1 ≤ l.length ∧ l.length ≤ 18) ∧ ∀ s ∈ l, s.size ≤ 1000) (fun i hi s hs => by
   obtain ⟨l, rfl, ⟨l1, l2⟩, l3⟩ := hs
   left
   have hg : (ws.map ak).getD (0 + (i : Int).toNat) mt = ak (ws.getD i []) := by
    rw [R9, Rj, Re, RO, Re]
    cases ws[i]? <;> rfl
   have hm := hl _ (eR [] hi)
   simp only [ou]
   rw [hg, RF, show mk #[95] = ak [95] from rfl, fm, fm, bO, bO, bO, bG, aO, aO, dK, if_pos (by simp only [Rl, Rq]; omega), an]
   have ez : SB ((([95] ++ ws.getD i [] ++ [95]).length : Nat) - 1 : Int) = (((ws.getD i []).length + 1 : Nat) : Int) := by
    rw [az (by simp only [Rl, Rq]; omega) (by simp only [Rl, Rq]; omega)]
    simp only [Rl, Rq]
    omega
   rw [bO, ez]
   obtain ⟨t, e, t1, t2⟩ := cC (step := fun v : (List ByteArray) × Int => ot (ws.map ak) (i : Int) (((ws.getD i []).length + 1 : Nat) : Int) v.1 v.2) ((ws.getD i []).length + 1) (fun j s => ∃ k, s = (k, (j : Int)) ∧ k.length = l.length + j ∧ ∀ s ∈ k, s.size ≤ 1000) (fun k => k.length = l.length + ((ws.getD i []).length + 1) ∧ ∀ s ∈ k, s.size ≤ 1000) (fun j hj s hs => by
     obtain ⟨k, rfl, k1, k2⟩ := hs
     left
     simp only [ot]
     rw [hg, show mk #[95] = ak [95] from rfl, fm, fm, bO, az (n := (j : Int) + 2), bG, aO, aO, aO, if_pos (by simp only [Rl, Rq]; omega), dK, az (n := (j : Int) + 1)]
     refine ⟨_, rfl, _, rfl, by simp only [Rl, Rq]; omega, fun s hs => ?_⟩
     rcases Rz.1 hs with hs | hs
     ·exact k2 s hs
     ·rw [Rn.1 hs]
      refine RX (NM _ _ _) ?_
      rw [bO]
      simp only [Rl, Rq]
      omega) (fun s hs => by
     obtain ⟨k, rfl, k1, k2⟩ := hs
     simp only [ot]
     rw [b8]
     exact ⟨_, rfl, k1, k2⟩) (s := (l, 0)) ⟨l, rfl, rfl, l3⟩
   rw [e, an, az (n := (i : Int) + 1)]
   exact ⟨_, rfl, t, rfl, ⟨by omega, fun _ => by omega⟩, t2⟩) (fun s hs => by
   obtain ⟨l, rfl, ⟨l1, l2⟩, l3⟩ := hs
   simp only [ou]
   rw [RF, b8]
   exact ⟨_, rfl, ⟨l2 h1, by omega⟩, l3⟩) (s := ([], 0)) ⟨[], rfl, ⟨by simp, fun h => absurd h (by decide)⟩, fun s hs => absurd hs RE⟩
 rw [e, an]
 obtain ⟨g, eg, hg⟩ := OR ⟨⟨ht.1, by omega⟩, ht2⟩
 rw [eg, an]
 exact ⟨g, rfl, hg⟩
theorem J8 {l : List UInt8} (h1 : 1 ≤ l.length) (h2 : l.length ≤ 26) : ∃ g, rm (ak l) = some g ∧ ua g := by
 unfold rm
 rw [bO, ct]
 obtain ⟨t, e, t1, t2⟩ := cC (step := fun v : (List ByteArray) × Int => nj (ak l) v.1 v.2) l.length (fun j s => ∃ k, s = (k, (j : Int)) ∧ k.length = j ∧ ∀ s ∈ k, s.size ≤ 1000) (fun k => k.length = l.length ∧ ∀ s ∈ k, s.size ≤ 1000) (fun j hj s hs => by
   obtain ⟨k, rfl, k1, k2⟩ := hs
   left
   simp only [nj]
   rw [bO, bG, aO, aO, dK, az (n := (j : Int) + 1)]
   refine ⟨_, rfl, _, rfl, by simp only [Rl, Rq]; omega, fun s hs => ?_⟩
   rcases Rz.1 hs with hs | hs
   ·exact k2 s hs
   ·rw [Rn.1 hs, Li]
    show 2 ≤ 1000
    decide) (fun s hs => by
   obtain ⟨k, rfl, k1, k2⟩ := hs
   simp only [nj]
   rw [bO, b8]
   exact ⟨_, rfl, k1, k2⟩) (s := ([], 0)) ⟨[], rfl, rfl, fun s hs => absurd hs RE⟩
 rw [e, an]
 exact ⟨t, rfl, by omega, t2⟩
theorem MC {s : aS} (hs : dW s) {i : Nat} (hi : i < s.Fields.length) {v : ByteArray} (hv : NF s.Rules (fld s i).Kind v) (h0 : v ≠ ak []) : ∃ g, so s (i : Int) v = some (g, 0) ∧ ua g := by
 have hM : 1000 ≤ ce := by decide
 have e0 : (v.toList == (mk #[]).toList) = false := by
  rw [show (mk #[]) = ak [] from rfl, ki, RJ h0]
 have hn := EK hs hi hv
 unfold so
 rw [j5 hs, an, if_pos ⟨rfl, by omega, by omega, hn⟩, Rj, e0]
 rcases hv with ⟨k, ws, rfl, hw, hl⟩ | ⟨k, c, y, m, d, rfl, hc, hy, hm, hd⟩ | ⟨k, rfl⟩ | ⟨k, w, rfl, hw⟩ <;> simp only [fld] at k <;> rw [k]
 ·rw [if_pos rfl, aV]
  have ht : ∀ w ∈ ws, tw w := fun w h => (hw w h).1
  have h1 : 1 ≤ ws.length := by
   refine Nat.pos_of_ne_zero fun h => h0 ?_
   rw [List.eq_nil_of_length_eq_zero h]
   rfl
  obtain ⟨g, e, hg⟩ := F9 (Q8 ht) (fun w h => (ht w h).2.2) (fun w h c hc => by have := pc ((ht w h).2.1 c hc); omega) h1 hl
  rw [e, an]
  exact ⟨g, rfl, hg⟩
 ·rw [aV, if_pos rfl, aV]
  obtain ⟨g, e, hg⟩ := J8 (l := fC c y m d) (by simp [fC, d2]) (by simp [fC, d2])
  rw [e, an]
  exact ⟨g, rfl, hg⟩
 ·rw [aV, aV, if_pos rfl, aV]
  unfold u6
  rw [if_pos (RX (show (mk #[61]).size + (ak [97, 98, 49, 50]).size ≤ 1000 by decide) hM), an]
  refine ⟨_, rfl, by simp, fun s hs => ?_⟩
  rw [Rn.1 hs, show mk #[61] = ak [61] from rfl, fm, bO]
  decide
 ·rw [aV, aV, aV, if_pos rfl, aV]
  obtain ⟨ht, _⟩ := w8 hs.r hw
  have q1 : okW [dR s.Rules w, [49, 50]] := fun x hx => by
   rcases Ry.1 hx with rfl | hx
   ·exact ⟨ht.1, ht.space⟩
   ·rw [Rn.1 hx]; decide
  have q2 : ∀ x ∈ [dR s.Rules w, [49, 50]], x.length ≤ 8 := fun x hx => by
   rcases Ry.1 hx with rfl | hx
   ·exact ht.2.2
   ·rw [Rn.1 hx]; decide
  have q3 : ∀ x ∈ [dR s.Rules w, [49, 50]], ∀ c ∈ x, c.toNat < 128 := fun x hx c hc => by
   rcases Ry.1 hx with rfl | hx
   ·have := pc (ht.2.1 c hc); omega
   ·rw [Rn.1 hx] at hc
    have : c = 49 ∨ c = 50 := by simpa using hc
    rcases this with rfl | rfl <;> decide
  obtain ⟨g, e, hg⟩ := F9 q1 q2 q3 (by simp) (by simp)
  rw [e, an]
  exact ⟨g, rfl, hg⟩
theorem MD {i : Nat} (h : i < 10) : ∃ s, vC (i : Int) = some s ∧ s.size ≤ 10 := by
 have : i = 0 ∨ i = 1 ∨ i = 2 ∨ i = 3 ∨ i = 4 ∨ i = 5 ∨ i = 6 ∨ i = 7 ∨ i = 8 ∨ i = 9 := by omega
 rcases this with rfl | rfl | rfl | rfl | rfl | rfl | rfl | rfl | rfl | rfl <;> exact ⟨_, rfl, by decide⟩
theorem NN {i : Nat} (hi : i < 10) (b : Bool) {s : ByteArray} (hs : s.size ≤ 900) (k : bd) : ∃ k', qB ⟨(i : Int), b, s⟩ k = some k' := by
 have hM : 1000 ≤ ce := by decide
 obtain ⟨t, et, ht⟩ := MD hi
 unfold qB mU
 simp only
 have h5 : (mk #[102, 105, 101, 108, 100]).size = 5 := rfl
 have h6 : (mk #[115, 97, 108, 116, 61]).size = 5 := rfl
 obtain ⟨k1, e1⟩ := D9 k (s := mk #[102, 105, 101, 108, 100] ++ t) (by rw [ByteArray.size_append]; omega)
 rw [et, an, aO, e1, an]
 cases b with
 | false => exact ⟨_, rfl⟩
 | true =>
  obtain ⟨k2, e2⟩ := D9 k1 (s := mk #[115, 97, 108, 116, 61] ++ s) (by rw [ByteArray.size_append]; omega)
  rw [if_pos rfl, aO, e2, an]
  exact ⟨_, rfl⟩
theorem NF.size {r : aW} (hr : cN r) {k : Int} {v : ByteArray} (h : NF r k v) : v.size ≤ 64 := by
 rcases h with ⟨k, ws, rfl, hw, hl⟩ | ⟨k, c, y, m, d, rfl, hc, hy, hm, hd⟩ | ⟨k, rfl⟩ | ⟨k, w, rfl, hw⟩
 ·have h1 := Bm fun w h => (hw w h).1
  have h2 := j8 ws
  rw [bO]
  omega
 ·show 8 ≤ 64
  decide
 ·decide
 ·have := Bo (w8 hr hw).1
  rw [bO]
  omega
theorem KO {s : aS} {p : aD} {k : bd} {a b : aL} (h : a.Values = b.Values) (i : Int) : gr s p k a i = gr s p k b i := by
 unfold gr lG
 rw [h]
def B4 (L : Int) (v : ByteArray) (x : aR) : Prop := (v = ak [] ∧ x = ⟨0, []⟩) ∨ (v ≠ ak [] ∧ BK L x)
theorem zC {s : aS} (hs : dW s) {i : Nat} (hi : i < s.Fields.length) {p : aD} (hp : jw s.Fields.length i p) (k : bd) {r : aL} (hr : gG s r) : ∃ x, gr s p k r (i : Int) = some (x, 0) ∧ B4 p.Length (bsD r.Values i) x := by
 have h4 := hs.n1
 have hl := hr.l
 unfold gr
 rw [aO, aO, Rj]
 by_cases h0 : bsD r.Values i = ak []
 ·rw [show r.Values.getD i mt = ak [] from h0, show mk #[] = ak [] from rfl, ki, RL rfl, if_pos rfl]
  exact ⟨_, rfl, .inl ⟨h0, rfl⟩⟩
 ·rw [show mk #[] = ak [] from rfl, ki, RJ h0, aV]
  obtain ⟨g, eg, hg⟩ := MC hs hi (hr.f i hi) h0
  have key : ∀ v : ByteArray, v.size ≤ 900 → ∃ x, lG s p k r (i : Int) v = some (x, 0) ∧ B4 p.Length (bsD r.Values i) x := by
   intro v hv
   unfold lG
   rw [Rj, eg, aU, aV]
   obtain ⟨k', ek⟩ := NN (i := i) (by omega) (decide (p.Salt ≥ 0)) hv k
   obtain ⟨x, ex, hx⟩ := LA h4 hp k' hg.s hg.l.1 hg.l.2
   rw [ek, an, ex, aU]
   exact ⟨x, rfl, .inr ⟨h0, hx⟩⟩
  by_cases hS : p.Salt ≥ 0
  ·have hq := hp.s
   obtain ⟨q, hq2⟩ : ∃ q : Nat, p.Salt = q := ⟨p.Salt.toNat, by omega⟩
   rw [RL hS, if_pos rfl, if_pos hS, aO]
   refine key _ ?_
   have := NF.size hs.r (hr.f q (by omega))
   rw [hq2, Rj]
   omega
  ·rw [RJ hS, aV]
   exact key _ (by decide)
theorem AA {s : aS} (hs : dW s) {p : List aD} (hp : kG s.Fields.length p) (k : bd) {r : aL} (hr : gG s r) : ∃ out, gq s p k r = some (⟨r.ID, r.Version, out⟩, 0) ∧ out.length = s.Fields.length ∧ ∀ j, j < s.Fields.length → gr s (xE p j) k r (j : Int) = some (out.getD j dA, 0) := by
 have h4 := hs.n1
 have hl := hp.l
 unfold gq oc uq
 rw [zB hs hp, an, aV, Fc hs hr, an, aV]
 obtain ⟨t, e, out, rfl, h1, h2⟩ := cC (step := fun v : (List aR) × Int × (List aC) × (List ByteArray) × (List aE) × (List aE) × Int × Int × Int × Int × (List ByteArray) => mN p v.1 v.2.1 v.2.2.1 v.2.2.2.1 v.2.2.2.2.1 v.2.2.2.2.2.1 v.2.2.2.2.2.2.1 v.2.2.2.2.2.2.2.1 v.2.2.2.2.2.2.2.2.1 v.2.2.2.2.2.2.2.2.2.1 v.2.2.2.2.2.2.2.2.2.2) s.Fields.length (fun i t => ∃ out : List aR, t = (out, (i : Int), s.Fields, s.Rules.Titles, s.Rules.Nicknames, s.Rules.Streets, k.A, k.B, r.ID, r.Version, r.Values) ∧ out.length = i ∧ ∀ j, j < i → gr s (xE p j) k r (j : Int) = some (out.getD j dA, 0)) (fun t => ∃ out : List aR, t = .inl (out, s.Fields, s.Rules.Titles, s.Rules.Nicknames, s.Rules.Streets, k.A, k.B, r.ID, r.Version, r.Values) ∧ out.length = s.Fields.length ∧ ∀ j, j < s.Fields.length → gr s (xE p j) k r (j : Int) = some (out.getD j dA, 0)) (fun i hi t ht => by
   obtain ⟨out, rfl, o1, o2⟩ := ht
   left
   obtain ⟨x, ex, _⟩ := zC hs hi (hp.f i hi) k hr
   simp only [mN]
   rw [Rj, bG, aO, aO, show qT (i : Int) (p.getD i dk) s k r = some (x, 0, s, k, r) by
    unfold qT
    rw [ex]
    rfl, o8, aV, dK, az (n := (i : Int) + 1)]
   refine ⟨_, rfl, _, rfl, by simp [o1], fun j hj => ?_⟩
   rw [hZ _ _ (by omega), o1]
   split
   ·exact o2 j (by assumption)
   ·rw [show j = i by omega]
    exact ex) (fun t ht => by
   obtain ⟨out, rfl, o1, o2⟩ := ht
   simp only [mN]
   rw [ct]
   exact ⟨_, rfl, out, rfl, o1, o2⟩) (s := ([], 0, s.Fields, s.Rules.Titles, s.Rules.Nicknames, s.Rules.Streets, k.A, k.B, r.ID, r.Version, r.Values)) ⟨[], rfl, rfl, fun j hj => absurd hj (RU _)⟩
 rw [e, kb]
 exact ⟨out, rfl, h1, h2⟩
theorem zD {n : Int} (h : 1 ≤ n ∧ n ≤ 5) : fO n = some true := by
 unfold fO lj
 rw [bG, RL (by omega)]
structure tU (v : List ByteArray) (n : Nat) (c : List Int) : Prop where
 l : c.length = n
 f : ∀ j, j < n → bsD v j = ak [] ∧ c.getD j 0 = -1 ∨ bsD v j ≠ ak [] ∧ c.getD j 0 = 1000
theorem ME {s : aS} (hs : dW s) {p : List aD} (hp : kG s.Fields.length p) (k : bd) {a b : aL} (ha : gG s a) (hb : gG s b) (he : a.Values = b.Values) : ∃ u v c, gq s p k a = some (u, 0) ∧ gq s p k b = some (v, 0) ∧ gm u v = some (c, 0) ∧ tU a.Values s.Fields.length c := by
 have h0 := hs.n0
 have h4 := hs.n1
 obtain ⟨u, eu, u1, u2⟩ := AA hs hp k ha
 obtain ⟨v, ev, v1, v2⟩ := AA hs hp k hb
 have hx : ∀ j, j < s.Fields.length → v.getD j dA = u.getD j dA ∧ B4 (xE p j).Length (bsD a.Values j) (u.getD j dA) := by
  intro j hj
  obtain ⟨x, ex, hx⟩ := zC hs hj (hp.f j hj) k ha
  have e1 := u2 j hj
  have e2 := v2 j hj
  rw [← KO he, e1] at e2
  rw [ex] at e1
  have f1 := (Prod.mk.inj (ay e1)).1
  have f2 := (Prod.mk.inj (ay e2)).1
  exact ⟨f2.symm, f1 ▸ hx⟩
 obtain ⟨c, e, hc⟩ : ∃ c, gm ⟨a.ID, a.Version, u⟩ ⟨b.ID, b.Version, v⟩ = some (c, 0) ∧ tU a.Values s.Fields.length c := by
  unfold gm kY
  simp only
  rw [u1, v1, b8, zD (by omega), an, aV]
  obtain ⟨t, e, h1, h2⟩ := cC (step := fun w : (List Int) × Int => iD ⟨a.ID, a.Version, u⟩ ⟨b.ID, b.Version, v⟩ w.1 w.2) s.Fields.length (fun i t => ∃ c, t = (c, (i : Int)) ∧ tU a.Values i c) (fun c => tU a.Values s.Fields.length c) (fun i hi t ht => by
    obtain ⟨c, rfl, hc⟩ := ht
    left
    have hl := hc.l
    obtain ⟨e1, hb⟩ := hx i hi
    simp only [iD]
    rw [Rj, u1, v1, bG, aO, aO, aO, e1]
    obtain ⟨d, ed, hd⟩ : ∃ d, iN (u.getD i dA) (u.getD i dA) = some d ∧ (bsD a.Values i = ak [] ∧ d = -1 ∨ bsD a.Values i ≠ ak [] ∧ d = 1000) := by
     rcases hb with ⟨h, e⟩ | ⟨h, hf⟩
     ·rw [e]
      exact ⟨_, MB, .inl ⟨h, rfl⟩⟩
     ·exact ⟨_, MA (hp.f i hi).l hf, .inr ⟨h, rfl⟩⟩
    rw [ed, an, dK, az (n := (i : Int) + 1)]
    refine ⟨_, rfl, _, rfl, by simp [hl], fun j hj => ?_⟩
    rw [hZ _ _ (by omega), hl]
    split
    ·exact hc.f j (by assumption)
    ·rw [show j = i by omega]
     exact hd) (fun t ht => by
    obtain ⟨c, rfl, hc⟩ := ht
    simp only [iD]
    rw [u1, b8]
    exact ⟨_, rfl, hc⟩) (s := ([], 0)) ⟨[], rfl, rfl, fun j hj => absurd hj (RU _)⟩
  rw [e, an]
  exact ⟨t, rfl, h1, h2⟩
 exact ⟨_, _, c, eu, ev, e, hc⟩
def gS : List Int := [1, 3, 9, 27, 81, 243]
def gT (d : Nat → Int) : Nat → Int
 | 0 => 0
 | i + 1 => gT d i + d i * gS.getD i 0
theorem Hc {d : Nat → Int} (hd : ∀ j, 0 ≤ d j ∧ d j ≤ 2) {n : Nat} (hn : n ≤ 4) : 0 ≤ gT d n ∧ gT d n < gS.getD n 0 := by
 have h0 := hd 0
 have h1 := hd 1
 have h2 := hd 2
 have h3 := hd 3
 have : n = 0 ∨ n = 1 ∨ n = 2 ∨ n = 3 ∨ n = 4 := by omega
 rcases this with rfl | rfl | rfl | rfl | rfl <;> (simp only [gT, gS, List.getD_cons_zero, List.getD_cons_succ]; omega)
def fe (d : Nat → Int) (n : Nat) : List Int := (List.range n).map d
theorem py (d : Nat → Int) (n : Nat) : (fe d n).length = n := by simp [fe]
theorem NO (d : Nat → Int) (n : Nat) : fe d (n + 1) = fe d n ++ [d n] := by simp [fe, List.range_succ]
theorem OS {d : Nat → Int} {n i : Nat} (h : i < n) : (fe d n).getD i 0 = d i := by
 simp [fe, Re, h]
theorem Hd {i : Nat} (h : i < 5) : 1 ≤ gS.getD i 0 ∧ gS.getD i 0 ≤ 81 := by
 have key : ∀ i : Fin 5, 1 ≤ gS.getD i.val 0 ∧ gS.getD i.val 0 ≤ 81 := by decide
 exact key ⟨i, h⟩
theorem LC {d : Nat → Int} (hd : ∀ j, 0 ≤ d j ∧ d j ≤ 2) {n : Nat} (h1 : 1 ≤ n) (hn : n ≤ 4) : lu (fe d n) = some (gT d n, 0) := by
 unfold lu
 rw [py, zD (by omega), an, aV, dI (fun i => (gT d i, (i : Int))) n (.inl (gT d n)) (fun i hi => by
   have g := hd i
   have a := Hc hd (n := i) (by omega)
   have b := Hd (i := i) (by omega)
   have c := Hc hd (n := i + 1) (by omega)
   have e := Hd (i := i + 1 - 1) (by omega)
   simp only [jD, nc]
   rw [Rj, py, OS hi, bG, aO, aO, ct, ct]
   unfold iI
   rw [an, aO, an, az (n := (i : Int) + 1)]
   show some (Sum.inl (SB (gT d i + SB (d i * gS.getD i 0)), (i : Int) + 1)) = _
   have m : d i * gS.getD i 0 ≤ 2 * 81 := Int.mul_le_mul g.2 b.2 (by omega) (by omega)
   have m0 : 0 ≤ d i * gS.getD i 0 := Int.mul_nonneg g.1 (by omega)
   rw [az (n := d i * gS.getD i 0), az]
   rfl) (by
   simp only [jD]
   rw [py, b8]) (s := (0, 0)) rfl]
 rfl
noncomputable def ff (v : List ByteArray) (j : Nat) : Int := if bsD v j = ak [] then 0 else 2
theorem Pu (v : List ByteArray) (j : Nat) : 0 ≤ ff v j ∧ ff v j ≤ 2 := by
 unfold ff
 split <;> decide
theorem KP {ts c : List Int} {v : List ByteArray} {n : Nat} (h1 : 1 ≤ n) (hn : n ≤ 4) (hl : ts.length = n) (ht : ∀ j, j < n → 0 ≤ ts.getD j 0 ∧ ts.getD j 0 ≤ 1000) (hc : tU v n c) : iF ts c = some (gT (ff v) n, 0) := by
 have hcl := hc.l
 unfold iF mZ
 rw [hl, hcl, b8, zD (by omega), an, aV, aO, aO, dI (fun i => (fe (ff v) i ++ List.replicate (n - i) 0, (i : Int))) n (.inl (fe (ff v) n)) (fun i hi => by
   have g := ht i hi
   have hlen : (fe (ff v) i ++ List.replicate (n - i) (0 : Int)).length = n := by
    rw [Rl, py, RG]; omega
   have hset : ∀ x, x = ff v i → (fe (ff v) i ++ List.replicate (n - i) (0 : Int)).set i x = fe (ff v) (i + 1) ++ List.replicate (n - (i + 1)) 0 := by
    rintro x rfl
    rw [List.set_append_right _ _ (by rw [py]; omega), py, Nat.sub_self, show n - i = (n - (i + 1)) + 1 by omega, List.replicate_succ, List.set_cons_zero, NO, RP]
    rfl
   simp only [jA, jz, kZ]
   rw [Rj, hl, hcl, hlen, R9, bG, aO, aO, aO, ct, ct]
   rcases hc.f i hi with ⟨hb, hv⟩ | ⟨hb, hv⟩
   ·rw [hv, aV, aV, bX, aO, hset 0 (by unfold ff; rw [if_pos hb]), az (n := (i : Int) + 1)]
    rfl
   ·rw [hv, aV, aV, aV, ct, aO, hset 2 (by unfold ff; rw [if_neg hb]), az (n := (i : Int) + 1)]
    rfl) (by
   simp only [jA]
   rw [hl, b8, Nat.sub_self, List.replicate_zero, List.append_nil]) (by rw [Rj]; simp [fe])]
 show qC (fe (ff v) n) = _
 unfold qC
 rw [LC (Pu v) h1 hn]
 rfl
def fM : aW := ⟨[ak [100, 114]], [], []⟩
def Qw : List aC := [⟨ak [103, 105, 118, 101, 110], 1⟩, ⟨ak [98, 105, 114, 116, 104], 2⟩]
def gU : aS := ⟨Qw, fM⟩
def Ch : List aD := [⟨64, 2, -1⟩, ⟨128, 3, 0⟩]
theorem Bq : cN fM := ⟨.inr (.inr rfl), .inl rfl, .inl rfl⟩
theorem kd {p : Nat → Prop} (h0 : p 0) (h1 : p 1) : ∀ i, i < 2 → p i := fun i hi => by
 rcases (show i = 0 ∨ i = 1 by omega) with rfl | rfl
 ·exact h0
 ·exact h1
theorem xc : dW gU := by
 refine ⟨Bq, by decide, by decide, kd ?_ ?_, fun i j hij hj => ?_, kd ⟨by decide, by decide⟩ ⟨by decide, by decide⟩⟩
 ·exact pd (l := [103, 105, 118, 101, 110]) (by decide) (by unfold kB; decide) (by decide)
 ·exact pd (l := [98, 105, 114, 116, 104]) (by decide) (by unfold kB; decide) (by decide)
 ·have hj : j < 2 := hj
  rw [show i = 0 by omega, show j = 1 by omega]
  intro h
  have := (eT (a := [103, 105, 118, 101, 110]) (b := [98, 105, 114, 116, 104])).1 h
  exact absurd this (by decide)
theorem Pv : kG 2 Ch := ⟨rfl, kd ⟨by decide, by decide, by decide⟩ ⟨by decide, by decide, by decide⟩⟩
theorem Hu : tw [100, 114] := gA _ (by decide)
theorem Br : tw [97, 110, 110] := gA _ (by decide)
theorem OT : dy fM [[100, 114], [97, 110, 110]] = dy fM [[97, 110, 110]] := by
 have : gk fM [100, 114] = none := by
  unfold gk
  rw [Hu.filter, aV, if_pos (AS.2 (show ak [100, 114] ∈ fM.Titles from Rn.2 rfl))]
 unfold dy
 rw [List.filterMap_cons, this]
noncomputable def kO : List ByteArray := [ak (bM (dy fM [[97, 110, 110]])), ak (fC 20 0 2 3)]
theorem Hv {ws : List (List UInt8)} (h : ws = [[100, 114], [97, 110, 110]] ∨ ws = [[97, 110, 110]]) : (∀ w ∈ ws, tw w) ∧ ws.length ≤ 6 := by
 rcases h with rfl | rfl
 ·refine ⟨fun w hw => ?_, by decide⟩
  rcases Ry.1 hw with rfl | hw
  ·exact Hu
  ·rw [Rn.1 hw]; exact Br
 ·exact ⟨fun w hw => by rw [Rn.1 hw]; exact Br, by decide⟩
theorem GN {l : List UInt8} (hp : dq l) (hn : l.length ≤ 64) (h0 : l ≠ []) (h : cg (bP l) = [[100, 114], [97, 110, 110]] ∨ cg (bP l) = [[97, 110, 110]]) : il fM 1 (ak l) (ak (bM (dy fM [[97, 110, 110]]))) := by
 obtain ⟨t1, t2⟩ := Hv h
 have e := GI Bq hp hn rfl t1 t2
 refine ⟨fun e => h0 (eT.1 e), .inl ⟨rfl, ?_⟩⟩
 rw [e]
 rcases h with h | h <;> rw [h]
 rw [OT]
theorem GO (f : Nat) : il fM 2 (ak (wr 20 0 2 3 f)) (ak (fC 20 0 2 3)) := ⟨Ht _ _ _ _ f, .inr (.inl ⟨rfl, Ha _ (by omega) (by omega) (by omega) (by omega) f⟩)⟩
theorem Hw : ∀ i, i < 2 → NF fM (fld gU i).Kind (kO.getD i mt) := by
 refine kd (.inl ⟨rfl, _, rfl, Bl Bq (Hv (.inr rfl)).1, RX (List.length_filterMap_le _ _) (by decide)⟩) (.inr (.inl ⟨rfl, 20, 0, 2, 3, rfl, by decide, by decide, by decide, by decide, by decide⟩))
theorem Qj : fU gU 1 1 [(mk #[68, 114, 46, 32, 65, 110, 110]), (mk #[50, 48, 48, 48, 45, 48, 50, 45, 48, 51])] = some (⟨1, 1, kO⟩, 0) :=
 wK xc (by decide) (by decide) rfl rfl (kd (GN (l := [68, 114, 46, 32, 65, 110, 110]) (by unfold dq; decide) (by decide) (by decide) (.inl (by decide))) (GO 0))
theorem Qk : fU gU 8 2 [(mk #[65, 78, 78]), (mk #[48, 51, 46, 48, 50, 46, 50, 48, 48, 48])] = some (⟨8, 2, kO⟩, 0) :=
 wK xc (by decide) (by decide) rfl rfl (kd (GN (l := [65, 78, 78]) (by unfold dq; decide) (by decide) (by decide) (.inr (by decide))) (GO 1))
theorem Fi : oE = some true := by
 have ra : gG gU ⟨1, 1, kO⟩ := ⟨by decide, by decide, rfl, Hw⟩
 have rb : gG gU ⟨8, 2, kO⟩ := ⟨by decide, by decide, rfl, Hw⟩
 obtain ⟨u, v, c, e1, e2, e3, hc⟩ := ME xc Pv ⟨5, 0⟩ ra rb rfl
 have hl : c.length = 2 := hc.l
 have hv : ∀ j, j < 2 → bsD kO j ≠ ak [] := by
  refine kd (fun h => ?_) (fun h => ?_)
  ·have h1 := eT.1 h
   have h2 : dy fM [[97, 110, 110]] = [[97, 110, 110]] := by
    have : gk fM [97, 110, 110] = some [97, 110, 110] := by
     unfold gk
     rw [Br.filter, aV, w6 (fun h => by
      have := eT.1 (Rn.1 h)
      exact absurd this (by decide)), aV]
     rfl
    unfold dy
    rw [List.filterMap_cons, this]
    rfl
   rw [h2] at h1
   exact absurd h1 (by decide)
  ·exact absurd (eT.1 h) (by decide)
 have hp := KP (ts := [800, 800]) (n := 2) (by decide) (by decide) rfl (kd (by decide) (by decide)) hc
 have hd : gT (ff kO) 2 = 8 := by
  have g : ∀ j, j < 2 → ff kO j = 2 := fun j hj => if_neg (hv j hj)
  simp only [gT, g 0 (by decide), g 1 (by decide)]
  decide
 have h0 : c.getD 0 0 = 1000 := by
  rcases hc.f 0 (by decide) with h | h
  ·exact absurd h.1 (hv 0 (by decide))
  ·exact h.2
 have es := j5 xc
 unfold oE
 change aF (fU gU 1 1 _) _ = _
 rw [Qj, aU]
 change aF (fU gU 8 2 _) _ = _
 rw [Qk, aU]
 change aF (gq gU Ch _ _) _ = _
 rw [e1, aU]
 change aF (gq gU Ch _ _) _ = _
 rw [e2, aU, e3, aU, hp, aU, bX, bX, bX, bX, bX, bX, hl, bX, bX, R9, h0, bX, hd, bX]
 change (eB gU).bind _ = _
 rw [es, an]
 rfl
end Go.Proofs.YtfmhbcfklokmaaaGreatDoor
namespace Go.Proofs.YtfmhbcfklokmaaaGreatDoor
namespace Vm
def val : List Int → Int
 | [] => 0
 | d :: l => d + 4294967296 * val l
def bp : Nat → Int
 | 0 => 1
 | n + 1 => 4294967296 * bp n
def aM (l : List Int) : Prop := ∀ x ∈ l, 0 ≤ x ∧ x < 4294967296
theorem dU (n : Nat) : 0 < bp n := by
 induction n with
 | zero => decide
 | succ n ih => simp only [bp]; omega
theorem gB (m n : Nat) : bp (m + n) = bp m * bp n := by
 induction m with
 | zero => simp [bp]
 | succ m ih => rw [show m + 1 + n = (m + n) + 1 by omega]; simp only [bp, ih]; grind
theorem gI {m n : Nat} (h : m ≤ n) : bp m ≤ bp n := by
 obtain ⟨k, rfl⟩ : ∃ k, n = m + k := ⟨n - m, by omega⟩
 rw [gB]
 have h1 := dU m
 have h2 := dU k
 have : bp m * 1 ≤ bp m * bp k := Int.mul_le_mul_of_nonneg_left (by omega) (by omega)
 omega
theorem aM.nil : aM [] := fun _ hx => absurd hx (RE)
theorem aM.cons {x : Int} {l : List Int} (h : 0 ≤ x ∧ x < 4294967296) (hl : aM l) : aM (x :: l) := by
 intro y hy
 rcases Ry.1 hy with rfl | hy
 ·exact h
 ·exact hl y hy
theorem aM.tail {x : Int} {l : List Int} (h : aM (x :: l)) : aM l := fun y hy => h y (Rx _ hy)
theorem aM.head {x : Int} {l : List Int} (h : aM (x :: l)) : 0 ≤ x ∧ x < 4294967296 := h x (Rw ..)
theorem aM.take {l : List Int} (h : aM l) (n : Nat) : aM (l.take n) := fun x hx => h x (List.mem_of_mem_take hx)
theorem aM.drop {l : List Int} (h : aM l) (n : Nat) : aM (l.drop n) := fun x hx => h x (List.mem_of_mem_drop hx)
theorem aM.set {l : List Int} (h : aM l) (i : Nat) {x : Int} (hx : 0 ≤ x ∧ x < 4294967296) : aM (l.set i x) := by
 intro y hy
 rcases List.mem_or_eq_of_mem_set hy with hy | rfl
 ·exact h y hy
 ·exact hx
theorem aM.get {l : List Int} (h : aM l) (i : Nat) : 0 ≤ l.getD i 0 ∧ l.getD i 0 < 4294967296 := by
 rw [Re]
 by_cases hi : i < l.length
 ·rw [Rf hi]; exact h _ (Sb hi)
 ·rw [Rh (by omega)]; decide
theorem aM.rep (n : Nat) : aM (List.replicate n 0) := by
 intro x hx
 rw [List.eq_of_mem_replicate hx]; decide
theorem A6 (n : Nat) : val (List.replicate n 0) = 0 := by
 induction n with
 | zero => rfl
 | succ n ih => rw [List.replicate_succ, val, ih]; rfl
theorem zF (l k : List Int) : val (l ++ k) = val l + bp l.length * val k := by
 induction l with
 | nil => simp [val, bp]
 | cons d l ih => simp only [List.cons_append, val, ih, Rk, bp]; grind
theorem cB {l : List Int} (h : aM l) : 0 ≤ val l := by
 induction l with
 | nil => decide
 | cons d l ih =>
  have h1 := h.head
  have h2 := ih h.tail
  simp only [val]; omega
theorem dY {l : List Int} (h : aM l) : val l < bp l.length := by
 induction l with
 | nil => decide
 | cons d l ih =>
  have h1 := h.head
  have h2 := ih h.tail
  simp only [val, Rk, bp]; omega
theorem mi {l : List Int} {i : Nat} (hi : i < l.length) (x : Int) : val (l.set i x) = val l + (x - l.getD i 0) * bp i := by
 induction l generalizing i with
 | nil => simp at hi
 | cons d l ih =>
  cases i with
  | zero => simp only [List.set_cons_zero, val, List.getD_cons_zero, bp]; omega
  | succ i => simp only [List.set_cons_succ, val, List.getD_cons_succ, bp, ih (by simpa using hi)]; grind
theorem SD {α : Type} (d : α) {l : List α} {i : Nat} (h : i < l.length) : l.take (i + 1) = l.take i ++ [l.getD i d] := by
 rw [List.take_add_one, Re, Rf h]
 rfl
theorem AB {l : List Int} {i : Nat} (h : i < l.length) : val (l.take (i + 1)) = val (l.take i) + l.getD i 0 * bp i := by
 rw [SD 0 h, zF, Ro, Nat.min_eq_left (by omega)]
 simp only [val]; grind
theorem gv (l : List Int) {i : Nat} (h : i ≤ l.length) : val l = val (l.take i) + bp i * val (l.drop i) := by
 have := zF (l.take i) (l.drop i)
 rw [List.take_append_drop, Ro, Nat.min_eq_left h] at this
 exact this
theorem fW {l : List Int} {i : Nat} (h : i < l.length) : val (l.drop i) = l.getD i 0 + 4294967296 * val (l.drop (i + 1)) := by
 rw [List.drop_eq_getElem_cons h, val, Re, Rf h]
 rfl
theorem jO {l : List Int} {i : Nat} (h : l.length ≤ i) : val (l.drop i) = 0 := by
 rw [List.drop_of_length_le h]; rfl
def dt : List Int → List Int
 | [] => []
 | d :: l => if dt l = [] ∧ d = 0 then [] else d :: dt l
def eP (l : List Int) : Prop := l = [] ∨ l.getD (l.length - 1) 0 ≠ 0
instance (l : List Int) : Decidable (eP l) := by unfold eP; infer_instance
def Canon (l : List Int) : Prop := aM l ∧ eP l
theorem eP.cons {d : Int} {l : List Int} (h : eP (d :: l)) : eP l ∧ (l = [] → d ≠ 0) := by
 unfold eP at h ⊢
 cases l with
 | nil => simp at h; exact ⟨.inl rfl, fun _ => h⟩
 | cons e l => simp at h ⊢; exact h
theorem eP.mk {d : Int} {l : List Int} (h : eP l) (hd : l = [] → d ≠ 0) : eP (d :: l) := by
 unfold eP at h ⊢
 cases l with
 | nil => simp; exact hd rfl
 | cons e l => simp at h ⊢; exact h
theorem MK (l : List Int) : eP (dt l) := by
 induction l with
 | nil => exact .inl rfl
 | cons d l ih =>
  simp only [dt]
  split
  ·exact .inl rfl
  ·rename_i h; exact ih.mk fun e => fun hd => h ⟨e, hd⟩
theorem Af (l : List Int) : val (dt l) = val l := by
 induction l with
 | nil => rfl
 | cons d l ih =>
  simp only [dt]
  split
  ·rename_i h; rw [h.1] at ih; simp only [val] at ih ⊢; rw [← ih, h.2]; rfl
  ·simp only [val, ih]
theorem ML {l : List Int} (h : aM l) : aM (dt l) := by
 induction l with
 | nil => exact h
 | cons d l ih =>
  simp only [dt]
  split
  ·exact aM.nil
  ·exact aM.cons h.head (ih h.tail)
theorem yW (l : List Int) : (dt l).length ≤ l.length := by
 induction l with
 | nil => exact RR _
 | cons d l ih => simp only [dt]; split <;> simp <;> omega
theorem LK {l : List Int} (h : eP l) : dt l = l := by
 induction l with
 | nil => rfl
 | cons d l ih =>
  have := h.cons
  simp only [dt, ih this.1]
  rw [if_neg fun e => this.2 e.1 e.2]
theorem JG (l : List Int) : dt (l ++ [0]) = dt l := by
 induction l with
 | nil => simp [dt]
 | cons d l ih => simp only [List.cons_append, dt, ih]
theorem Canon.zero {l : List Int} (h : Canon l) (hv : val l = 0) : l = [] := by
 obtain ⟨h1, h2⟩ := h
 induction l with
 | nil => rfl
 | cons d l ih =>
  have a := h1.head
  have b := cB h1.tail
  have c := h2.cons
  simp only [val] at hv
  have := ih (by omega) h1.tail c.1
  exact absurd (by omega) (c.2 this)
theorem Canon.inj : ∀ {l k : List Int}, Canon l → Canon k → val l = val k → l = k := by
 intro l
 induction l with
 | nil => intro k _ hk h; exact (hk.zero h.symm).symm
 | cons d l ih =>
  intro k hl hk h
  cases k with
  | nil => exact hl.zero h
  | cons e k =>
   have a := hl.1.head
   have b := hk.1.head
   simp only [val] at h
   have h1 : d = e := by omega
   subst h1
   rw [ih ⟨hl.1.tail, hl.2.cons.1⟩ ⟨hk.1.tail, hk.2.cons.1⟩ (by omega)]
theorem zg {l : List Int} (h : aM l) : Canon (dt l) := ⟨ML h, MK l⟩
theorem Canon.ge {l : List Int} (h : Canon l) : l.length = 0 ∨ bp (l.length - 1) ≤ val l := by
 obtain ⟨h1, h2⟩ := h
 induction l with
 | nil => exact .inl rfl
 | cons d l ih =>
  right
  have a := h1.head
  have b := cB h1.tail
  have c := h2.cons
  cases l with
  | nil =>
   have := c.2 rfl
   simp only [Rk, Rm, val]
   show bp 0 ≤ _
   simp only [bp]; omega
  | cons e l =>
   rcases ih h1.tail c.1 with h | h
   ·simp at h
   ·simp only [Rk, Nat.add_sub_cancel] at h ⊢
    rw [val, bp]; omega
theorem Canon.len_le {l : List Int} (h : Canon l) {n : Nat} : l.length ≤ n ↔ val l < bp n := by
 constructor
 ·intro h1
  have := dY h.1
  have := gI h1
  omega
 ·intro h1
  rcases h.ge with h2 | h2
  ·omega
  ·rcases Sd n l.length with h3 | h3
   ·have := gI (show n ≤ l.length - 1 by omega); omega
   ·exact h3
def ub : Nat → Int → List Int
 | 0, _ => []
 | f + 1, v => if v ≤ 0 then [] else v % 4294967296 :: ub f (v / 4294967296)
def bl (v : Int) : List Int := ub v.toNat v
theorem Fs : ∀ (f : Nat) (v : Int), 0 ≤ v → v ≤ f → Canon (ub f v) ∧ val (ub f v) = v := by
  intro f
  induction f with
  | zero => intro v h0 h1; have : v = 0 := by omega
            subst this; exact ⟨⟨aM.nil, .inl rfl⟩, rfl⟩
  | succ f ih =>
    intro v h0 h1
    simp only [ub]
    split
    · have : v = 0 := by omega
      subst this; exact ⟨⟨aM.nil, .inl rfl⟩, rfl⟩
    · obtain ⟨h2, h3⟩ := ih (v / 4294967296) (by omega) (by omega)
      refine ⟨⟨aM.cons (by omega) h2.1, h2.2.mk fun e => ?_⟩, ?_⟩
      · rw [e] at h3; simp only [val] at h3; omega
      · simp only [val, h3]; omega
theorem jX {v : Int} (h : 0 ≤ v) : Canon (bl v) := (Fs v.toNat v h (by omega)).1
theorem cM {v : Int} (h : 0 ≤ v) : val (bl v) = v := (Fs v.toNat v h (by omega)).2
theorem tk {l : List Int} (h : Canon l) : bl (val l) = l := (jX (cB h.1)).inj h (cM (cB h.1))
theorem md {l : List Int} (h : aM l) : dt l = bl (val l) := (zg h).inj (jX (cB h)) (by rw [Af, cM (cB h)])
theorem s7 {v : Int} (h : 0 ≤ v) {n : Nat} : (bl v).length ≤ n ↔ v < bp n := by
 rw [(jX h).len_le, cM h]
theorem wl {v : Int} (h : 0 ≤ v) : bl v = [] ↔ v = 0 := by
 constructor
 ·intro e
  have := cM h
  rw [e] at this
  exact this.symm
 ·rintro rfl; rfl
theorem gy (n : Int) : IntKind.u32.wrap n = n % 4294967296 := by
 simp [IntKind.wrap, IntKind.bits, IntKind.signed]
theorem xA {n : Int} (h0 : 0 ≤ n) (h1 : n < 4294967296) : IntKind.u32.wrap n = n := by rw [gy]; omega
theorem wX (k : IntKind) {x : Int} {s : Nat} (hs : s ≤ k.bits) : a7 k x s = x / 2 ^ s := by
 show x.fdiv (2 ^ min (s : Int).toNat k.bits) = _
 rw [Rj, Nat.min_eq_left hs]
 exact Int.fdiv_eq_ediv_of_nonneg _ (Int.le_of_lt (Int.pow_pos (by decide)))
theorem tV (x : Int) : a7 .u64 x 32 = x / 4294967296 := wX .u64 (s := 32) (by decide)
theorem P5 (x : Int) : a7 .u64 x 63 = x / 9223372036854775808 := wX .u64 (s := 63) (by decide)
end Vm
end Go.Proofs.YtfmhbcfklokmaaaGreatDoor
namespace Go.Proofs.YtfmhbcfklokmaaaGreatDoor
open Vm
def VN (l : List Int) : Prop := l.length ≤ 64 ∧ eP l
instance (l : List Int) : Decidable (VN l) := by unfold VN; infer_instance
theorem VN.canon {l : List Int} (h : VN l) (hu : aM l) : Canon l := ⟨hu, h.2⟩
theorem VN.nil : VN [] := ⟨by decide, .inl rfl⟩
def dM (a b : Int) : Int := if a < b then -1 else if a > b then 1 else 0
theorem MM {a b : Int} : dM a b = 0 ↔ a = b := by unfold dM; split <;> (try split) <;> omega
theorem re {l : List Int} (h : l.length < 1000000) : fT l = some (decide (VN l)) := by
 unfold fT ny
 by_cases h1 : l.length ≤ 64
 ·rw [if_pos (by simp; omega)]
  by_cases h2 : l.length = 0
  ·rw [if_pos (by simp [RH.1 h2]), RH.1 h2, RL VN.nil]
  ·rw [if_neg (by simp only [Sn]; omega), az, aO, aO, show ((l.length : Int) - 1).toNat = l.length - 1 by omega]
   have : VN l ↔ l.getD (l.length - 1) 0 ≠ 0 := by
    unfold VN eP
    constructor
    ·rintro ⟨_, h | h⟩
     ·rw [h] at h2; exact absurd rfl h2
     ·exact h
    ·intro h; exact ⟨h1, .inr h⟩
   rw [show decide (VN l) = decide (l.getD (l.length - 1) 0 ≠ 0) from decide_eq_decide.2 this]
   congr 1
   rw [Bool.eq_iff_iff]
   simp only [bne_iff_ne, RI]
 ·rw [if_neg (by simp; omega), RJ (fun h => h1 h.1)]
theorem OW {step : List Int → Option (List Int ⊕ List Int)} (hs : ∀ x : List Int, x.length < 1000000 → step x = if 0 < x.length ∧ x.getD (x.length - 1) 0 = 0 then some (.inl (x.take (x.length - 1))) else some (.inr x)) {l : List Int} (h : l.length < 1000000) : loop step l = some (dt l) := by
 obtain ⟨t, h1, h2⟩ := tz (step := step) (fun x => x.length ≤ l.length ∧ dt x = dt l) (fun x => x.length) (fun t => t = dt l) (by
  rintro x ⟨hl, hx⟩
  have e := hs x (by omega)
  by_cases c : 0 < x.length ∧ x.getD (x.length - 1) 0 = 0
  ·left
   rw [if_pos c] at e
   refine ⟨_, e, ⟨by simp; omega, ?_⟩, by simp; omega⟩
   rw [← hx]
   have := SD 0 (l := x) (i := x.length - 1) (by omega)
   rw [c.2, show x.length - 1 + 1 = x.length by omega, Sa] at this
   conv => rhs; rw [this]
   rw [JG]
  ·right
   rw [if_neg c] at e
   refine ⟨_, e, ?_⟩
   rw [← hx, LK]
   unfold eP
   by_cases h0 : x.length = 0
   ·exact .inl (RH.1 h0)
   ·exact .inr fun h => c ⟨by omega, h⟩) l ⟨RR _, rfl⟩
 rw [h1, h2]
theorem iO {l : List Int} (h : l.length < 1000000) : fD l = some (dt l) := by
 unfold fD
 rw [OW (step := fun v => vi v) (fun x hx => ?_) h]
 ·rfl
 ·unfold vi rz
  by_cases h0 : 0 < x.length
  ·rw [if_pos (by simp; omega), az, aO, aO, show ((x.length : Int) - 1).toNat = x.length - 1 by omega]
   by_cases c : x.getD (x.length - 1) 0 = 0
   ·rw [if_pos (by rw [c]; rfl), aO, aO, if_pos ⟨h0, c⟩]
   ·rw [if_neg (by simp only [Sn]; exact c), if_neg (fun h => c h.2)]
  ·rw [ct, b8, if_neg (fun h => h0 h.1)]
theorem uN {x : Int} (h : x < 9223372036854775808) : jJ x = some (if x < 0 then ([], 2) else (bl x, 0)) := by
 unfold jJ
 by_cases h0 : x < 0
 ·rw [if_pos (by simpa using h0), if_pos h0]
 ·rw [if_neg (by simpa using h0), if_neg h0, iO (by simp), an, gy, gy, show a7 .i64 x 32 = x / 2 ^ 32 from wX .i64 (s := 32) (by decide)]
  have hu : aM [x % 4294967296, x / 2 ^ 32 % 4294967296] := aM.cons (by omega) (aM.cons (by omega) aM.nil)
  rw [md hu]
  simp only [val]
  congr 3
  omega
theorem OX {a b : List Int} (ha : aM a) (hb : aM b) {i : Nat} (hi : i < a.length) (hj : i < b.length) (hd : val (a.drop (i + 1)) = val (b.drop (i + 1))) : (a.getD i 0 < b.getD i 0 → val (a.drop i) < val (b.drop i)) ∧ (a.getD i 0 > b.getD i 0 → val (a.drop i) > val (b.drop i)) ∧ (a.getD i 0 = b.getD i 0 → val (a.drop i) = val (b.drop i)) := by
 rw [fW hi, fW hj, hd]
 refine ⟨fun h => ?_, fun h => ?_, fun h => ?_⟩ <;> omega
theorem Eb {a b : List Int} (ha : aM a) (hb : aM b) {i : Nat} (hi : i ≤ a.length) (hj : i ≤ b.length) : (val (a.drop i) < val (b.drop i) → val a < val b) := by
 intro h
 rw [gv a hi, gv b hj]
 have h1 := dY (ha.take i)
 have h2 := cB (hb.take i)
 rw [Ro, Nat.min_eq_left hi] at h1
 have h3 : bp i * (val (a.drop i) + 1) ≤ bp i * val (b.drop i) := Int.mul_le_mul_of_nonneg_left (by omega) (Int.le_of_lt (dU i))
 rw [Int.mul_add] at h3
 omega
theorem LL {step : Int → Option (Int ⊕ (Unit ⊕ Int))} {a b : List Int} (ha : aM a) (hb : aM b) (hl : a.length = b.length) (hn : a.length < 1000000)
  (hs : ∀ i : Nat, i < a.length → step i = if a.getD i 0 = b.getD i 0 then some (.inl ((i : Int) - 1)) else some (.inr (.inr (dM (a.getD i 0) (b.getD i 0))))) (he : step (-1) = some (.inr (.inl ()))) :
  ∃ t, loop step ((a.length : Int) - 1) = some t ∧ ((t = .inl () ∧ val a = val b) ∨ t = .inr (dM (val a) (val b)) ∧ val a ≠ val b) := by
 refine cC (step := step) a.length (fun k s => s = (a.length : Int) - 1 - k ∧ val (a.drop (a.length - k)) = val (b.drop (a.length - k))) _ ?_ ?_ (s := (a.length : Int) - 1) ⟨by omega, by rw [Nat.sub_zero, jO (RR _), hl, jO (RR _)]⟩
 ·rintro k hk s ⟨rfl, hv⟩
  have e : (a.length : Int) - 1 - k = ((a.length - 1 - k : Nat) : Int) := by omega
  have e2 : a.length - k = (a.length - 1 - k) + 1 := by omega
  rw [e2] at hv
  have ht := OX ha hb (i := a.length - 1 - k) (by omega) (by omega) hv
  rw [e, hs _ (by omega)]
  by_cases c : a.getD (a.length - 1 - k) 0 = b.getD (a.length - 1 - k) 0
  ·left
   rw [if_pos c]
   exact ⟨_, rfl, by omega, by rw [show a.length - (k + 1) = a.length - 1 - k by omega]; exact ht.2.2 c⟩
  ·right
   rw [if_neg c]
   refine ⟨_, rfl, .inr ?_⟩
   rcases Int.lt_trichotomy (a.getD (a.length - 1 - k) 0) (b.getD (a.length - 1 - k) 0) with h | h | h
   ·have h1 := Eb ha hb (by omega) (by omega) (ht.1 h)
    refine ⟨?_, by omega⟩
    rw [show dM (a.getD (a.length - 1 - k) 0) (b.getD (a.length - 1 - k) 0) = -1 by unfold dM; rw [if_pos h], show dM (val a) (val b) = -1 by unfold dM; rw [if_pos h1]]
   ·exact absurd h c
   ·have h1 := Eb hb ha (by omega) (by omega) (ht.2.1 h)
    refine ⟨?_, by omega⟩
    rw [show dM (a.getD (a.length - 1 - k) 0) (b.getD (a.length - 1 - k) 0) = 1 by unfold dM; rw [t8, if_pos h], show dM (val a) (val b) = 1 by unfold dM; rw [t8, if_pos h1]]
 ·rintro s ⟨rfl, hv⟩
  refine ⟨.inl (), ?_, .inl ⟨rfl, ?_⟩⟩
  ·rw [← he]; congr 1; omega
  ·rw [Nat.sub_self] at hv; simpa using hv
theorem EM {a b : List Int} (ha : Canon a) (hb : Canon b) (h : a.length < b.length) : val a < val b := by
 have h1 := dY ha.1
 rcases hb.ge with h2 | h2
 ·omega
 ·have := gI (show a.length ≤ b.length - 1 by omega); omega
theorem Fu (a : Int) : ow a = some false := by unfold ow; simp
theorem MN (a b : Int) : rB a b = some (dM a b) := by
 unfold rB dM
 rw [Fu, Fu, an, an]
 grind
theorem Fv (a : Int) : nB a = some false := by unfold nB; simp
theorem MO (a b : Int) : qM a b = some (dM a b) := by
 unfold qM dM
 rw [Fv, Fv, an, an]
 grind
theorem CR {a b : List Int} (ha : aM a) (hb : aM b) (la : a.length < 1000000) (lb : b.length < 1000000) : nN a b = some (dM (val a) (val b)) := by
 have ca := zg ha
 have cb := zg hb
 have ta := yW a
 have tb := yW b
 unfold nN
 rw [iO la, iO lb, an, an, ← Af a, ← Af b]
 generalize dt a = a' at *
 generalize dt b = b' at *
 by_cases hl : a'.length = b'.length
 ·rw [if_neg (by simp; omega), az]
  obtain ⟨t, h1, h2⟩ := LL (step := fun v => qN a' b' v) ca.1 cb.1 hl (by omega) (fun i hi => by
   simp only [qN, Rj]
   rw [if_pos (by simp), aO, aO, aO, MO, az]
   by_cases c : a'.getD i 0 = b'.getD i 0
   ·rw [if_neg (by simp only [bne_iff_ne, ne_eq]; exact fun h => h c), if_pos c]
   ·rw [if_pos (by simp only [bne_iff_ne, ne_eq]; exact c), if_neg c]; rfl) (by simp [qN])
  rw [h1]
  rcases h2 with ⟨rfl, h3⟩ | ⟨rfl, h3⟩
  ·rw [kb, h3]; unfold uM dM; simp
  ·rw [kc]; rfl
 ·rw [if_pos (by simp; omega), MN, an]
  unfold dM
  rcases Nat.lt_trichotomy a'.length b'.length with h | h | h
  ·have := EM ca cb h
   rw [aO, if_pos this]
  ·exact absurd h hl
  ·have := EM cb ca h
   rw [t8, aO, t8, aO]
theorem pm {l : List Int} {i : Nat} (h : l.length ≤ i) : l.getD i 0 = 0 := by
 rw [Re, Rh h]; rfl
theorem s8 (l : List Int) (i : Nat) : val (l.take (i + 1)) = val (l.take i) + l.getD i 0 * bp i := by
 by_cases h : i < l.length
 ·exact AB h
 ·rw [Sf (by omega), Sf (by omega), pm (by omega)]; omega
theorem NR {l : List Int} {i : Nat} (h : i < l.length) (d : Int) : (l.set i d).take (i + 1) = l.take i ++ [d] := by
 rw [SD 0 (by rw [R7]; exact h), List.take_set_of_le (RR i), Re, List.getElem?_set_self h]
 rfl
theorem yX {l : List Int} {i : Nat} (h : i < l.length) (d : Int) : val ((l.set i d).take (i + 1)) = val (l.take i) + d * bp i := by
 rw [NR h, zF, Ro, Nat.min_eq_left (by omega)]
 simp only [val]; grind
theorem ja {l : List Int} {i j : Nat} {v : Int} (h : i < l.length) : (l.set i v).getD j 0 = if i = j then v else l.getD j 0 := by
 simp only [Re, Se]
 split
 ·simp_all
 ·rfl
def fu (v : Int) : List Int × Int := if v < bp 64 then (bl v, 0) else ([], 1)
theorem Dn {l : List Int} (h : aM l) (hl : l.length < 1000000) : oG l = some (fu (val l)) := by
 have h0 := cB h
 have ht := yW l
 unfold oG
 rw [iO hl, an, re (by omega), an, md h]
 have hv : VN (bl (val l)) ↔ val l < bp 64 := by
  unfold VN
  rw [s7 h0]
  exact ⟨fun h => h.1, fun h => ⟨h, (jX h0).2⟩⟩
 unfold fu
 by_cases c : val l < bp 64
 ·rw [RL (hv.2 c), b8, if_pos c]
 ·rw [RJ (fun h => c (hv.1 h)), if_pos (by simp), if_neg c]
theorem vj {a b : List Int} (la : a.length < 1000000) (lb : b.length < 1000000) : iU a b = some (if VN a ∧ VN b then 0 else 20) := by
 unfold iU nM
 rw [re la, re lb, an]
 grind
theorem NS {a b : List Int} (ha : aM a) (hb : aM b) (hl : b.length ≤ a.length) (hn : a.length < 1000000) :
  ∃ out c, loop (fun v : List Int × Int × Int => lI a b v.1 v.2.1 v.2.2) (List.replicate (a.length + 1) 0, 0, 0) = some (out, c) ∧ aM out ∧ out.length = a.length + 1 ∧ 0 ≤ c ∧ c < 4294967296 ∧ val (out.take a.length) + c * bp a.length = val a + val b := by
 obtain ⟨⟨out, c⟩, h1, h2⟩ := cC (step := fun v : List Int × Int × Int => lI a b v.1 v.2.1 v.2.2) a.length
  (fun i v => v.2.2 = (i : Int) ∧ aM v.1 ∧ v.1.length = a.length + 1 ∧ 0 ≤ v.2.1 ∧ v.2.1 ≤ 1 ∧ val (v.1.take i) + v.2.1 * bp i = val (a.take i) + val (b.take i))
  (fun t => aM t.1 ∧ t.1.length = a.length + 1 ∧ 0 ≤ t.2 ∧ t.2 < 4294967296 ∧ val (t.1.take a.length) + t.2 * bp a.length = val a + val b) (by
  rintro i hi ⟨out, c, k⟩ ⟨h0, h1, h2, h3, h4, h5⟩
  simp only at h0 h1 h2 h3 h4 h5
  subst h0
  left
  have ga := ha.get i
  have gb := hb.get i
  have va := s8 a i
  have vb := s8 b i
  simp only [lI, rP, Rj, R9]
  rw [if_pos (by simpa using hi), aO, aO, cJ (n := a.getD i 0) (by omega) (by omega), cJ (n := c + a.getD i 0) (by omega) (by omega), an]
  have fin : ∀ z : Int, z = c + a.getD i 0 + b.getD i 0 → 0 ≤ z → z < 18446744073709551616 → ∃ s', (if (i : Int) < (out.length : Int) then some (.inl (out.set i (IntKind.u32.wrap z), a7 .u64 z 32, SB ((i : Int) + 1))) else none : Option ((List Int × Int × Int) ⊕ (List Int × Int))) = some (.inl s') ∧ s'.2.2 = ((i + 1 : Nat) : Int) ∧ aM s'.1 ∧ s'.1.length = a.length + 1 ∧ 0 ≤ s'.2.1 ∧ s'.2.1 ≤ 1 ∧ val (s'.1.take (i + 1)) + s'.2.1 * bp (i + 1) = val (a.take (i + 1)) + val (b.take (i + 1)) := by
   intro z hz z0 z1
   rw [aO, gy, tV, az]
   refine ⟨_, rfl, rfl, h1.set i (by omega), by simp only [R7]; exact h2, by simp only; omega, by simp only; omega, ?_⟩
   simp only [bp]
   rw [yX (by omega), va, vb]
   have : z % 4294967296 = z - 4294967296 * (z / 4294967296) := by omega
   rw [this]
   subst hz
   generalize (c + a.getD i 0 + b.getD i 0) / 4294967296 = q
   grind
  by_cases hi2 : i < b.length
  ·rw [if_pos (by simpa using hi2), aO, cJ (n := b.getD i 0) (by omega) (by omega), cJ (n := c + a.getD i 0 + b.getD i 0) (by omega) (by omega), an]
   exact fin _ rfl (by omega) (by omega)
  ·rw [if_neg (by simp; omega)]
   exact fin _ (by rw [pm (l := b) (by omega)]; omega) (by omega) (by omega)) (by
  rintro ⟨out, c, k⟩ ⟨h0, h1, h2, h3, h4, h5⟩
  simp only at h0 h1 h2 h3 h4 h5
  subst h0
  refine ⟨(out, c), ?_, h1, h2, h3, by simp only; omega, ?_⟩
  ·simp only [lI]
   rw [b8]
  ·rw [Sa, Sf hl] at h5; exact h5) (s := (List.replicate (a.length + 1) 0, 0, 0)) ⟨rfl, aM.rep _, by simp, Int.le_refl 0, by simp, by simp [val]⟩
 exact ⟨out, c, h1, h2⟩
theorem He {a b : List Int} (ha : aM a) (hb : aM b) (hl : b.length ≤ a.length) (hn : a.length < 100000) : lJ a b = some (fu (val a + val b)) := by
 obtain ⟨out, c, h1, h2, h3, h4, h5, h6⟩ := NS ha hb hl (by omega)
 unfold lJ
 rw [az, aO, aO, show ((a.length : Int) + 1).toNat = a.length + 1 by omega, h1, aU, aO, aO, Rj, R9]
 have hv : val (out.set a.length (IntKind.u32.wrap c)) = val a + val b := by
  rw [xA h4 h5, ← h6, ← yX (by omega), Sf (by rw [R7]; omega)]
 rw [Dn (h2.set _ (by rw [gy]; omega)) (by rw [R7]; omega), hv]
 rfl
def uc (a b : List Int) : List Int × Int := if VN a ∧ VN b then fu (val a + val b) else ([], 20)
theorem DC {a b : List Int} (ha : aM a) (hb : aM b) (la : a.length < 100000) (lb : b.length < 100000) : jU a b = some (uc a b) := by
 unfold jU uc
 rw [vj (by omega) (by omega), an]
 by_cases h : VN a ∧ VN b
 ·rw [if_pos h, b8, if_pos h]
  by_cases hl : a.length < b.length
  ·rw [if_pos (by simpa using hl), He hb ha (by omega) lb, Int.add_comm]
  ·rw [if_neg (by simpa using hl), He ha hb (by omega) la]
 ·rw [if_neg h, if_pos (by simp), if_neg h]
theorem A7 {x y u c : Int} (hx : 0 ≤ x ∧ x < 4294967296) (hy : 0 ≤ y ∧ y < 4294967296) (hu : 0 ≤ u ∧ u < 4294967296) (hc : 0 ≤ c ∧ c < 4294967296) : 0 ≤ x * y ∧ x * y ≤ 18446744065119617025 ∧ x * y + u + c < 18446744073709551616 := by
 have h1 : 0 ≤ x * y := Int.mul_nonneg hx.1 hy.1
 have h2 : x * y ≤ 4294967295 * 4294967295 := Int.mul_le_mul (by omega) (by omega) hy.1 (by omega)
 exact ⟨h1, by omega, by omega⟩
theorem MP {step : List Int × Int × Int → Option ((List Int × Int × Int) ⊕ (List Int × Int))} {x : Int} {b : List Int} {i n : Nat} (hx : 0 ≤ x ∧ x < 4294967296) (hb : aM b) (hin : i + b.length < n) (hn : n < 1000000)
  (hs : ∀ (j : Nat) (out : List Int) (c : Int), j < b.length → out.length = n → (0 ≤ out.getD (i + j) 0 ∧ out.getD (i + j) 0 < 4294967296) → 0 ≤ c → c < 4294967296 → step (out, c, (j : Int)) = some (.inl (out.set (i + j) ((x * b.getD j 0 + out.getD (i + j) 0 + c) % 4294967296), (x * b.getD j 0 + out.getD (i + j) 0 + c) / 4294967296, ((j + 1 : Nat) : Int))))
  (he : ∀ (out : List Int) (c : Int), step (out, c, (b.length : Int)) = some (.inr (out, c))) {out0 : List Int} (h0 : aM out0) (hl : out0.length = n) :
  ∃ out c, loop step (out0, 0, 0) = some (out, c) ∧ aM out ∧ out.length = n ∧ 0 ≤ c ∧ c < 4294967296 ∧ val out + c * bp (i + b.length) = val out0 + x * val b * bp i ∧ ∀ k, i + b.length ≤ k → out.getD k 0 = out0.getD k 0 := by
 obtain ⟨⟨out, c⟩, h1, h2⟩ := cC (step := step) b.length
  (fun j v => v.2.2 = (j : Int) ∧ aM v.1 ∧ v.1.length = n ∧ 0 ≤ v.2.1 ∧ v.2.1 < 4294967296 ∧ val v.1 + v.2.1 * bp (i + j) = val out0 + x * val (b.take j) * bp i ∧ ∀ k, i + b.length ≤ k → v.1.getD k 0 = out0.getD k 0)
  (fun t => aM t.1 ∧ t.1.length = n ∧ 0 ≤ t.2 ∧ t.2 < 4294967296 ∧ val t.1 + t.2 * bp (i + b.length) = val out0 + x * val b * bp i ∧ ∀ k, i + b.length ≤ k → t.1.getD k 0 = out0.getD k 0) (by
  rintro j hj ⟨out, c, k⟩ ⟨g0, g1, g2, g3, g4, g5, g6⟩
  simp only at g0 g1 g2 g3 g4 g5 g6
  subst g0
  left
  have gb := hb.get j
  have go := g1.get (i + j)
  have vb := s8 b j
  have hp := A7 hx gb go ⟨g3, g4⟩
  refine ⟨_, hs j out c hj g2 go g3 g4, rfl, g1.set _ (by omega), by simp only [R7]; exact g2, by simp only; omega, by simp only; omega, ?_, ?_⟩
  ·simp only
   rw [mi (by omega), vb, show i + (j + 1) = (i + j) + 1 by omega, bp, gB i j]
   rw [gB i j] at g5
   have : (x * b.getD j 0 + out.getD (i + j) 0 + c) % 4294967296 = (x * b.getD j 0 + out.getD (i + j) 0 + c) - 4294967296 * ((x * b.getD j 0 + out.getD (i + j) 0 + c) / 4294967296) := by omega
   rw [this]
   generalize (x * b.getD j 0 + out.getD (i + j) 0 + c) / 4294967296 = q
   grind
  ·intro k hk
   simp only
   rw [ja (by omega), t8]
   exact g6 k hk) (by
  rintro ⟨out, c, k⟩ ⟨g0, g1, g2, g3, g4, g5, g6⟩
  simp only at g0 g1 g2 g3 g4 g5 g6
  subst g0
  rw [Sa] at g5
  exact ⟨_, he out c, g1, g2, g3, g4, g5, g6⟩) (s := (out0, 0, 0)) ⟨rfl, h0, hl, Int.le_refl 0, by simp, by simp [val], fun k _ => rfl⟩
 exact ⟨out, c, h1, h2⟩
theorem MQ {step : List Int × Int → Option ((List Int × Int) ⊕ List Int)} {a b : List Int} (ha : aM a) (hb : aM b)
  (hs : ∀ (i : Nat) (out : List Int), i < a.length → aM out → out.length = a.length + b.length → ∃ out' c, aM out' ∧ out'.length = a.length + b.length ∧ 0 ≤ c ∧ c < 4294967296 ∧ val out' + c * bp (i + b.length) = val out + a.getD i 0 * val b * bp i ∧ (∀ k, i + b.length ≤ k → out'.getD k 0 = out.getD k 0) ∧ step (out, (i : Int)) = some (.inl (out'.set (i + b.length) c, ((i + 1 : Nat) : Int))))
  (he : ∀ out : List Int, step (out, (a.length : Int)) = some (.inr out)) : ∃ out, loop step (List.replicate (a.length + b.length) 0, 0) = some out ∧ aM out ∧ out.length = a.length + b.length ∧ val out = val a * val b := by
 refine cC (step := step) a.length (fun i v => v.2 = (i : Int) ∧ aM v.1 ∧ v.1.length = a.length + b.length ∧ val v.1 = val (a.take i) * val b ∧ ∀ k, i + b.length ≤ k → v.1.getD k 0 = 0) _ ?_ ?_ (s := (List.replicate (a.length + b.length) 0, 0)) ⟨rfl, aM.rep _, by simp, by simp [A6, val], fun k _ => ?_⟩
 ·rintro i hi ⟨out, k⟩ ⟨g0, g1, g2, g3, g4⟩
  simp only at g0 g1 g2 g3 g4
  subst g0
  left
  obtain ⟨out', c, k1, k2, k3, k4, k5, k6, k7⟩ := hs i out hi g1 g2
  refine ⟨_, k7, rfl, k1.set _ ⟨k3, k4⟩, by simp only [R7]; exact k2, ?_, ?_⟩
  ·simp only
   rw [mi (by omega), k6 _ (RR _), g4 _ (RR _), AB hi]
   grind
  ·intro k hk
   simp only
   rw [ja (by omega), t8, k6 k (by omega)]
   exact g4 k (by omega)
 ·rintro ⟨out, k⟩ ⟨g0, g1, g2, g3, g4⟩
  simp only at g0 g1 g2 g3 g4
  subst g0
  rw [Sa] at g3
  exact ⟨_, he out, g1, g2, g3⟩
 ·simp only [Re, List.getElem?_replicate]
  split <;> rfl
theorem Ju {a b : List Int} (ha : aM a) (hb : aM b) (la : a.length < 100000) (lb : b.length < 100000) : sj a b = some (bl (val a * val b)) := by
 obtain ⟨out, h1, h2, h3, h4⟩ := MQ (step := fun v : List Int × Int => nA a b v.1 v.2) ha hb (fun i out hi hu hl => by
  obtain ⟨out', c, k1, k2, k3, k4, k5, k6, k7⟩ := MP (step := fun v : List Int × Int × Int => nz a b i v.1 v.2.1 v.2.2) (x := a.getD i 0) (b := b) (i := i) (n := a.length + b.length) (ha.get i) hb (by omega) (by omega) (fun j out c hj hl hu h0 h1 => by
   have hp := A7 (ha.get i) (hb.get j) hu ⟨h0, h1⟩
   have ga := ha.get i
   have gb := hb.get j
   simp only [nz, Rj]
   rw [if_pos (by simpa using hj), aO, aO, az (n := (i : Int) + j), aO, aO, show ((i : Int) + (j : Int)).toNat = i + j by omega, R9, cJ (n := a.getD i 0) (by omega) (by omega), cJ (n := b.getD j 0) (by omega) (by omega), cJ (n := out.getD (i + j) 0) (by omega) (by omega), cJ (n := a.getD i 0 * b.getD j 0) (by omega) (by omega)]
   rw [cJ (n := a.getD i 0 * b.getD j 0 + out.getD (i + j) 0) (by omega) (by omega), cJ (by omega) (by omega), an, gy, tV, az, Int.add_comm c]
   rfl) (fun out c => by simp [nz]) hu hl
  refine ⟨out', c, k2, k3, k4, k5, k6, k7, ?_⟩
  simp only [nA]
  rw [if_pos (by simpa using hi), aO, aO, k1, aU, az (n := (i : Int) + _), aO, aO, xA k4 k5, az, show ((i : Int) + (b.length : Int)).toNat = i + b.length by omega, R9]
  rfl) (fun out => by simp [nA])
 unfold sj
 rw [az, aO, aO, show ((a.length : Int) + (b.length : Int)).toNat = a.length + b.length by omega, h1, an, iO (by omega), an, md h2, h4]
def qc (a b : List Int) : List Int × Int := if VN a ∧ VN b then fu (val a * val b) else ([], 20)
theorem d9 {v : Int} (h : 0 ≤ v) : aM (bl v) := (jX h).1
theorem vE {v : Int} {n : Nat} (h : 0 ≤ v) (hv : v < bp n) : (bl v).length ≤ n := (s7 h).2 hv
theorem DD {a b : List Int} (ha : aM a) (hb : aM b) (la : a.length < 100000) (lb : b.length < 100000) : lW a b = some (qc a b) := by
 unfold lW qc
 rw [vj (by omega) (by omega), an]
 by_cases h : VN a ∧ VN b
 ·have hv := Int.mul_nonneg (cB ha) (cB hb)
  have hlen : val a * val b < bp (a.length + b.length) := by
   rw [gB]
   have h1 := dY ha
   have h2 := dY hb
   have h3 := cB ha
   have h4 := cB hb
   have := dU a.length
   calc val a * val b ≤ val a * bp b.length := Int.mul_le_mul_of_nonneg_left (by omega) h3
    _ < bp a.length * bp b.length := Int.mul_lt_mul_of_pos_right h1 (dU _)
  rw [if_pos h, b8, if_pos h, Ju ha hb la lb, an, Dn (d9 hv) (by have := vE hv hlen; omega), cM hv]
  rfl
 ·rw [if_neg h, if_pos (by simp), if_neg h]
end Go.Proofs.YtfmhbcfklokmaaaGreatDoor
namespace Go.Proofs.YtfmhbcfklokmaaaGreatDoor
namespace Vm
theorem NT {x y : Nat} (hx : x < 18446744073709551616) (hy : y < 18446744073709551616) : cn .u64 x y = ((x &&& y : Nat) : Int) := by
 have h : x &&& y < 18446744073709551616 := Nat.lt_of_le_of_lt Nat.and_le_left hx
 show IntKind.u64.wrap ((BitVec.ofInt 64 (x : Int) &&& BitVec.ofInt 64 (y : Int)).toNat : Int) = _
 simp only [BitVec.ofInt_natCast, BitVec.toNat_and, BitVec.toNat_ofNat]
 rw [show (2 : Nat) ^ 64 = 18446744073709551616 from rfl, Nat.mod_eq_of_lt hx, Nat.mod_eq_of_lt hy]
 exact cJ (by omega) (by omega)
theorem GT {x y : Nat} (hx : x < 18446744073709551616) (hy : y < 18446744073709551616) : cw .u64 x y = ((x ||| y : Nat) : Int) := by
 have h : x ||| y < 2 ^ 64 := Nat.or_lt_two_pow hx hy
 show IntKind.u64.wrap ((BitVec.ofInt 64 (x : Int) ||| BitVec.ofInt 64 (y : Int)).toNat : Int) = _
 simp only [BitVec.ofInt_natCast, BitVec.toNat_or, BitVec.toNat_ofNat]
 rw [show (2 : Nat) ^ 64 = 18446744073709551616 from rfl, Nat.mod_eq_of_lt hx, Nat.mod_eq_of_lt hy]
 exact cJ (by omega) (by omega)
theorem GU {x y : Nat} (hx : x < 4294967296) (hy : y < 4294967296) : cw .u32 x y = ((x ||| y : Nat) : Int) := by
 have h : x ||| y < 2 ^ 32 := Nat.or_lt_two_pow hx hy
 show IntKind.u32.wrap ((BitVec.ofInt 32 (x : Int) ||| BitVec.ofInt 32 (y : Int)).toNat : Int) = _
 simp only [BitVec.ofInt_natCast, BitVec.toNat_or, BitVec.toNat_ofNat]
 rw [show (2 : Nat) ^ 32 = 4294967296 from rfl, Nat.mod_eq_of_lt hx, Nat.mod_eq_of_lt hy]
 exact xA (by omega) (by omega)
theorem GV {x y : Nat} (hx : x < 9223372036854775808) (hy : y < 9223372036854775808) : cw .i64 x y = ((x ||| y : Nat) : Int) := by
 have h : x ||| y < 2 ^ 63 := Nat.or_lt_two_pow hx hy
 show SB ((BitVec.ofInt 64 (x : Int) ||| BitVec.ofInt 64 (y : Int)).toNat : Int) = _
 simp only [BitVec.ofInt_natCast, BitVec.toNat_or, BitVec.toNat_ofNat]
 rw [show (2 : Nat) ^ 64 = 18446744073709551616 from rfl, Nat.mod_eq_of_lt (by omega), Nat.mod_eq_of_lt (by omega)]
 exact az
theorem pn (a b i : Nat) (h : b < 2 ^ i) : b ||| a * 2 ^ i = a * 2 ^ i + b := by
 rw [Nat.or_comm, Nat.mul_comm a, Nat.two_pow_add_eq_or_of_lt h]
theorem jh {x : Int} (h : 0 ≤ x) : ∃ n : Nat, x = (n : Int) := Int.eq_ofNat_of_zero_le h
theorem Hf {a b : Int} {i : Nat} (ha : 0 ≤ a) (hb : 0 ≤ b) (h : b < ((2 ^ i : Nat) : Int)) (hl : a * ((2 ^ i : Nat) : Int) + b < 18446744073709551616) : cw .u64 b (a * ((2 ^ i : Nat) : Int)) = a * ((2 ^ i : Nat) : Int) + b ∧ cw .u64 (a * ((2 ^ i : Nat) : Int)) b = a * ((2 ^ i : Nat) : Int) + b := by
 obtain ⟨a, rfl⟩ := jh ha
 obtain ⟨b, rfl⟩ := jh hb
 have hb2 : b < 2 ^ i := Int.ofNat_lt.1 h
 have hl2 : a * 2 ^ i + b < 18446744073709551616 := by
  have h9 : ((a * 2 ^ i + b : Nat) : Int) < 18446744073709551616 := by rw [Sl, Int.natCast_mul]; exact hl
  generalize a * 2 ^ i + b = n at h9 ⊢
  omega
 rw [show (a : Int) * ((2 ^ i : Nat) : Int) = ((a * 2 ^ i : Nat) : Int) from (Int.natCast_mul a (2 ^ i)).symm]
 rw [GT (by omega) (by omega), GT (by omega) (by omega), pn a b i hb2, Nat.or_comm, pn a b i hb2]
 exact ⟨Sl _ _, Sl _ _⟩
theorem Py {a b : Int} {i : Nat} (ha : 0 ≤ a) (hb : 0 ≤ b) (h : b < ((2 ^ i : Nat) : Int)) (hl : a * ((2 ^ i : Nat) : Int) + b < 4294967296) : cw .u32 b (a * ((2 ^ i : Nat) : Int)) = a * ((2 ^ i : Nat) : Int) + b ∧ cw .u32 (a * ((2 ^ i : Nat) : Int)) b = a * ((2 ^ i : Nat) : Int) + b := by
 obtain ⟨a, rfl⟩ := jh ha
 obtain ⟨b, rfl⟩ := jh hb
 have hb2 : b < 2 ^ i := Int.ofNat_lt.1 h
 have hl2 : a * 2 ^ i + b < 4294967296 := by
  have h9 : ((a * 2 ^ i + b : Nat) : Int) < 4294967296 := by rw [Sl, Int.natCast_mul]; exact hl
  generalize a * 2 ^ i + b = n at h9 ⊢
  omega
 rw [show (a : Int) * ((2 ^ i : Nat) : Int) = ((a * 2 ^ i : Nat) : Int) from (Int.natCast_mul a (2 ^ i)).symm]
 rw [GU (by omega) (by omega), GU (by omega) (by omega), pn a b i hb2, Nat.or_comm, pn a b i hb2]
 exact ⟨Sl _ _, Sl _ _⟩
theorem Bt {a b : Int} {i : Nat} (ha : 0 ≤ a) (hb : 0 ≤ b) (h : b < ((2 ^ i : Nat) : Int)) (hl : a * ((2 ^ i : Nat) : Int) + b < 9223372036854775808) : cw .i64 b (a * ((2 ^ i : Nat) : Int)) = a * ((2 ^ i : Nat) : Int) + b ∧ cw .i64 (a * ((2 ^ i : Nat) : Int)) b = a * ((2 ^ i : Nat) : Int) + b := by
 obtain ⟨a, rfl⟩ := jh ha
 obtain ⟨b, rfl⟩ := jh hb
 have hb2 : b < 2 ^ i := Int.ofNat_lt.1 h
 have hl2 : a * 2 ^ i + b < 9223372036854775808 := by
  have h9 : ((a * 2 ^ i + b : Nat) : Int) < 9223372036854775808 := by rw [Sl, Int.natCast_mul]; exact hl
  generalize a * 2 ^ i + b = n at h9 ⊢
  omega
 rw [show (a : Int) * ((2 ^ i : Nat) : Int) = ((a * 2 ^ i : Nat) : Int) from (Int.natCast_mul a (2 ^ i)).symm]
 rw [GV (by omega) (by omega), GV (by omega) (by omega), pn a b i hb2, Nat.or_comm, pn a b i hb2]
 exact ⟨Sl _ _, Sl _ _⟩
theorem A8 (x : Int) {s : Nat} (hs : s ≤ 64) : ck .u64 x s = x * ((2 ^ s : Nat) : Int) % 18446744073709551616 := by
 show IntKind.u64.wrap (x * 2 ^ min (s : Int).toNat 64) = _
 rw [Rj, Nat.min_eq_left hs, gw]
 simp
theorem A9 (x : Int) {s : Nat} (hs : s ≤ 64) : ck .i64 x s = SB (x * ((2 ^ s : Nat) : Int)) := by
 show SB (x * 2 ^ min (s : Int).toNat 64) = _
 rw [Rj, Nat.min_eq_left hs]
 simp
theorem wY (k : IntKind) (x : Int) {s : Nat} (hs : s ≤ k.bits) : a7 k x s = x / ((2 ^ s : Nat) : Int) := by
 rw [wX k hs]; simp
theorem OY {x : Int} (h0 : 0 ≤ x) (h1 : x < 18446744073709551616) : cn .u64 x 4294967295 = x % 4294967296 := by
 obtain ⟨x, rfl⟩ := jh h0
 have := NT (x := x) (y := 4294967295) (by omega) (by decide)
 rw [show ((4294967295 : Nat) : Int) = 4294967295 from rfl] at this
 rw [this, Nat.and_two_pow_sub_one_eq_mod (n := 32)]
 rfl
end Vm
end Go.Proofs.YtfmhbcfklokmaaaGreatDoor
namespace Go.Proofs.YtfmhbcfklokmaaaGreatDoor
open Vm
noncomputable section
def A0 : List Int → Int
 | [] => 0
 | d :: l => d + 3 * A0 l
def dN : Nat → Int → List Int
 | 0, _ => []
 | n + 1, p => p % 3 :: dN n (p / 3)
theorem zh (n : Nat) : ∀ p, (dN n p).length = n := by
 induction n with
 | zero => intro p; rfl
 | succ n ih => intro p; simp [dN, ih]
theorem NU (n : Nat) : ∀ p : Int, ∀ x ∈ dN n p, 0 ≤ x ∧ x ≤ 2 := by
 induction n with
 | zero => intro p x hx; cases hx
 | succ n ih =>
  intro p x hx
  simp only [dN, Ry] at hx
  rcases hx with rfl | hx
  ·omega
  ·exact ih _ x hx
theorem SE : ∀ l : List Int, (∀ x ∈ l, 0 ≤ x ∧ x ≤ 2) → 0 ≤ A0 l ∧ A0 l < ((3 ^ l.length : Nat) : Int) := by
 intro l
 induction l with
 | nil => intro _; simp [A0]
 | cons d l ih =>
  intro h
  have h1 := h d (by simp)
  have h2 := ih fun x hx => h x (by simp [hx])
  simp only [Rk, A0, Nat.pow_succ]
  omega
theorem SG (l : List Int) (d : Int) : A0 (l ++ [d]) = A0 l + d * ((3 ^ l.length : Nat) : Int) := by
 induction l with
 | nil => simp [A0]
 | cons x l ih =>
  simp only [List.cons_append, A0, ih, Rk, Nat.pow_succ]
  grind
theorem SF {i : Nat} (h : i < 6) : ([1, 3, 9, 27, 81, 243] : List Int).getD i 0 = ((3 ^ i : Nat) : Int) := by
 have : i = 0 ∨ i = 1 ∨ i = 2 ∨ i = 3 ∨ i = 4 ∨ i = 5 := by omega
 rcases this with rfl | rfl | rfl | rfl | rfl | rfl <;> rfl
theorem SC {i : Nat} (h : i ≤ 5) : 1 ≤ 3 ^ i ∧ 3 ^ i ≤ 243 := ⟨Nat.pow_pos (by decide), RX (Nat.pow_le_pow_right (by decide) h) (by decide)⟩
theorem MR (n : Nat) : ∀ p : Int, 0 ≤ p → dN (n + 1) p = dN n p ++ [p / ((3 ^ n : Nat) : Int) % 3] := by
 induction n with
 | zero => intro p _; simp [dN]
 | succ n ih =>
  intro p hp
  rw [dN, ih (p / 3) (by omega), dN, List.cons_append]
  congr 4
  rw [Nat.pow_succ, Nat.mul_comm, Int.natCast_mul, Int.ediv_ediv_of_nonneg (by omega)]
  rfl
theorem J9 (n : Int) : fO n = some (decide (1 ≤ n ∧ n ≤ 5)) := by
 unfold fO lj
 by_cases h : n ≥ 1
 ·rw [if_pos (by simpa using h)]
  by_cases h2 : n ≤ 5
  ·rw [RL h2, RL ⟨h, h2⟩]
  ·rw [RJ h2, RJ (fun k => h2 k.2)]
 ·rw [if_neg (by simpa using h), RJ (fun k => h k.1)]
theorem Fw {p n : Int} : ns p n = some (if 1 ≤ n ∧ n ≤ 5 then (if 0 ≤ p ∧ p < ((3 ^ n.toNat : Nat) : Int) then (dN n.toNat p, 0) else ([], 2)) else ([], 8)) := by
 unfold ns
 rw [J9, Option.bind_some]
 by_cases h : 1 ≤ n ∧ n ≤ 5
 ·obtain ⟨m, rfl⟩ := Int.eq_ofNat_of_zero_le (show 0 ≤ n by omega)
  have hm : m < 6 := by omega
  have hqm := SC (i := m) (by omega)
  rw [if_neg (by simp; omega), if_pos h]
  simp only [Rj, iI, Option.bind_some, SF hm]
  by_cases hr : 0 ≤ p ∧ p < ((3 ^ m : Nat) : Int)
  ·rw [if_neg (by simp; omega), aO, aO, if_pos hr]
   unfold nf
   rw [ct]
   have hL : loop (fun v : List Int × Int => nd p m v.1 v.2) ([], 0) = some (dN m p) := by
    refine dI (fun i => (dN i p, (i : Int))) m _ (fun i hi => ?_) ?_ rfl
    ·have hq := SC (i := i) (by omega)
     have d0 : 0 ≤ p / ((3 ^ i : Nat) : Int) := Int.ediv_nonneg hr.1 (by omega)
     have d1 := Int.ediv_le_self (b := ((3 ^ i : Nat) : Int)) hr.1
     simp only [nd, Rj, iI, Option.bind_some, SF (show i < 6 by omega)]
     rw [if_pos (by simpa using hi), aO, aO, aO, if_pos (by simp [zh]; omega), fk hr.1, az (n := p / _), dJ d0, az, MR _ _ hr.1]
     rfl
    ·simp only [nd]
     rw [b8]
   rw [hL]; rfl
  ·rw [if_neg hr]
   by_cases h0 : p < 0
   ·rw [if_pos (by simpa using h0)]; rfl
   ·rw [if_neg (by simpa using h0), aO, aO]
    unfold nf
    rw [bG]
 ·rw [if_pos (by simp; omega), if_neg h]
abbrev cS := bW
theorem Ql {τ : Type} {step : Int → Option (Int ⊕ (Unit ⊕ τ))} (n : Nat) (bad : Nat → Prop) (t : Nat → τ)
  (h : ∀ i, i < n → (bad i ∧ step (i : Int) = some (.inr (.inr (t i)))) ∨ (¬ bad i ∧ step (i : Int) = some (.inl ((i + 1 : Nat) : Int)))) (he : step (n : Int) = some (.inr (.inl ()))) :
  (loop step 0 = some (.inl ()) ∧ ∀ i, i < n → ¬ bad i) ∨ ∃ i, i < n ∧ bad i ∧ loop step 0 = some (.inr (t i)) := by
 have key : ∀ k j, j + k = n → (loop step (j : Int) = some (.inl ()) ∧ ∀ i, j ≤ i → i < n → ¬ bad i) ∨ ∃ i, i < n ∧ bad i ∧ loop step (j : Int) = some (.inr (t i)) := by
  intro k
  induction k with
  | zero =>
   intro j hj
   have : j = n := by omega
   subst this
   exact .inl ⟨dm he, fun i h1 h2 => by omega⟩
  | succ k ih =>
   intro j hj
   rcases h j (by omega) with ⟨hb, hs⟩ | ⟨hb, hs⟩
   ·exact .inr ⟨j, by omega, hb, dm hs⟩
   ·rw [dH hs]
    rcases ih (j + 1) (by omega) with ⟨h1, h2⟩ | h1
    ·refine .inl ⟨h1, fun i h3 h4 => ?_⟩
     rcases Nat.lt_or_eq_of_le h3 with h5 | rfl
     ·exact h2 i h5 h4
     ·exact hb
    ·exact .inr h1
 rcases key n 0 (by omega) with ⟨h1, h2⟩ | h1
 ·exact .inl ⟨h1, fun i hi => h2 i (Nat.zero_le _) hi⟩
 ·exact .inr h1
theorem Pz {p : Prop} [Decidable p] {α : Type} {x : α} {a b : α} (h1 : p → x = a) (h2 : ¬ p → x = b) : (p ∧ x = a) ∨ (¬ p ∧ x = b) := by
 by_cases h : p
 ·exact .inl ⟨h, h1 h⟩
 ·exact .inr ⟨h, h2 h⟩
def cE (x : Int) : Prop := 1 ≤ x ∧ x < 65536
instance (x : Int) : Decidable (cE x) := by unfold cE; infer_instance
def MV (m : cS) : Prop := m.Match.length = m.Random.length ∧ 1 ≤ m.Match.length ∧ m.Match.length ≤ 5 ∧ cE m.Prior ∧ (∀ i, i < m.Match.length → cE (m.Match.getD i 0)) ∧ ∀ i, i < m.Match.length → cE (m.Random.getD i 0)
noncomputable instance (m : cS) : Decidable (MV m) := Classical.propDecidable _
theorem C2 (x : Int) : rO x = some (decide (cE x)) := by
 unfold rO qV
 by_cases h : x ≥ 1
 ·rw [if_pos (by simpa using h)]
  by_cases h2 : x < 65536
  ·rw [RL h2, RL (show cE x from ⟨h, h2⟩)]
  ·rw [RJ h2, RJ (fun k : cE x => h2 k.2)]
 ·rw [if_neg (by simpa using h), RJ (fun k : cE x => h k.1)]
theorem Ec {l : List Int} (hl : l.length ≤ 5) : mQ l = some (!decide (∀ i, i < l.length → cE (l.getD i 0))) := by
 unfold mQ uv
 rcases Ql (step := fun v : Int => qp l v) l.length (fun i => ¬ cE (l.getD i 0)) (fun i => (i : Int)) (fun i hi => by
   refine Pz (fun h => ?_) (fun h => ?_) <;> simp only [qp, oN, Rj, C2, an]
   ·rw [if_pos (by simpa using hi), aO, aO, RJ h]
    rfl
   ·rw [if_pos (by simpa using hi), aO, aO, RL (Decidable.not_not.1 h), az]
    rfl) (by simp only [qp]; rw [b8]) with ⟨h1, h2⟩ | ⟨i, hi, hb, h1⟩
 ·rw [h1, kb]
  rw [RL (fun i hi => Decidable.not_not.1 (h2 i hi))]
  rfl
 ·rw [h1, kc, RJ (fun k => hb (k i hi))]
  unfold xX
  rw [an, RL (by omega)]
  rfl
theorem zi (m : cS) : me m = some (if MV m then 0 else 18) := by
 unfold me iV
 by_cases h1 : m.Match.length = m.Random.length
 ·rw [if_neg (by simp [h1])]
  by_cases h2 : m.Match.length < 1
  ·rw [if_pos (by simp; omega), if_pos rfl, if_neg (fun k => by have := k.2.1; omega)]
  rw [if_neg (by simp; omega)]
  by_cases h3 : m.Match.length > 5
  ·rw [if_pos (by simp; omega), if_pos rfl, if_neg (fun k => by have := k.2.2.1; omega)]
  rw [if_neg (by simp; omega)]
  unfold oN
  rw [C2]
  simp only [an]
  by_cases h4 : cE m.Prior
  ·rw [RL h4, aV, Ec (by omega), an]
   by_cases h5 : ∀ i, i < m.Match.length → cE (m.Match.getD i 0)
   ·rw [RL h5, aV, Ec (by omega), an]
    by_cases h6 : ∀ i, i < m.Random.length → cE (m.Random.getD i 0)
    ·rw [RL h6, aV, if_pos ⟨h1, by omega, by omega, h4, h5, fun i hi => h6 i (by omega)⟩]
    ·rw [RJ h6, if_pos (show (!false) = true from rfl), if_neg (fun k => h6 fun i hi => k.2.2.2.2.2 i (by omega))]
   ·rw [RJ h5, if_pos (show (!false) = true from rfl), if_pos trivial, if_neg (fun k => h5 k.2.2.2.2.1)]
  ·rw [RJ h4, if_pos (show (!false) = true from rfl), if_pos trivial, if_neg (fun k => h4 k.2.2.2.1)]
 ·rw [if_pos (by simp; omega), if_pos rfl, if_neg (fun k => h1 k.1)]
theorem wM {P : Int → Prop} {l : List Int} (h : ∀ x ∈ l, P x) {y : Int} (hy : P y) : ∀ x ∈ l ++ [y], P x := by
 intro x hx
 rcases Rz.1 hx with k | k
 ·exact h x k
 ·rw [Rn.1 k]; exact hy
theorem po {P : Int → Prop} {l : List Int} (h : ∀ x ∈ l, P x) {i : Nat} (hi : i < l.length) : P (l.getD i 0) := by
 refine h _ ?_
 rw [Re, Rf hi]
 exact Sb hi
theorem OZ {P : Int → Prop} {l : List Int} (h : ∀ x ∈ l, P x) {y : Int} (hy : P y) (i : Nat) : ∀ x ∈ l.set i y, P x := by
 intro x hx
 rcases List.mem_or_eq_of_mem_set hx with k | k
 ·exact h x k
 ·rw [k]; exact hy
theorem O0 {d : aP} (h : bE d) : ∃ v d', eQ d 6 = some (v, d') ∧ bE d' := ii h (by decide) (by decide)
theorem MS {d : aP} (h : bE d) {n : Nat} (h1 : 1 ≤ n) (h2 : n ≤ 5) : ∃ m d', qJ d (n : Int) = some (m, d') ∧ m.Match.length = n ∧ MV m ∧ bE d' := by
 unfold qJ
 obtain ⟨p, d1, he, p0, p1, hd1⟩ := dT h (n := 65535) (by decide) (by decide)
 rw [he]; clear he; first | rw [aU] | rw [cz] | rw [cx] | rw [an]
 obtain ⟨t, e1, t1, t2, t3, t4, t5⟩ := cC (step := fun v : Int × (List Int) × Int × Int × (List Int) × (List Int) => m7 (n : Int) v.1 v.2.1 v.2.2.1 v.2.2.2.1 v.2.2.2.2.1 v.2.2.2.2.2) n
  (fun i s => s.1 = (i : Int) ∧ s.2.2.2.2.1.length = i ∧ s.2.2.2.2.2.length = i ∧ (∀ x ∈ s.2.2.2.2.1, cE x) ∧ (∀ x ∈ s.2.2.2.2.2, cE x) ∧ bE ⟨s.2.1, s.2.2.1, s.2.2.2.1⟩)
  (fun t => t.2.2.2.1.length = n ∧ t.2.2.2.2.length = n ∧ (∀ x ∈ t.2.2.2.1, cE x) ∧ (∀ x ∈ t.2.2.2.2, cE x) ∧ bE ⟨t.1, t.2.1, t.2.2.1⟩) (by
  rintro i hi ⟨j, a, b, c, u, v⟩ ⟨rfl, s1, s2, s3, s4, s5⟩
  left
  simp only [m7] at s1 s2 s3 s4 s5 ⊢
  rw [if_pos (by simpa using hi)]
  obtain ⟨x, d2, he, x0, x1, hd2⟩ := dT s5 (n := 32768) (by decide) (by decide)
  rw [he]; clear he; first | rw [aU] | rw [cz] | rw [cx] | rw [an]
  rw [if_pos (by simp; omega)]
  obtain ⟨y, d3, he, y0, y1, hd3⟩ := dT hd2 (n := 32768) (by decide) (by decide)
  rw [he]; clear he; first | rw [aU] | rw [cz] | rw [cx] | rw [an]
  rw [if_pos (by simp; omega)]
  obtain ⟨o, d4, he, hd4⟩ := O0 hd3
  rw [he]; clear he; first | rw [aU] | rw [cz] | rw [cx] | rw [an]
  have hx : cE (SB (32768 + x)) := by rw [az]; exact ⟨by omega, by omega⟩
  have hy : cE (SB (1 + y)) := by rw [az]; exact ⟨by omega, by omega⟩
  by_cases ho : o = true
  ·rw [if_pos ho]
   obtain ⟨z, d5, he, z0, z1, hd5⟩ := dT hd4 (n := 2) (by decide) (by decide)
   rw [he]; clear he; first | rw [aU] | rw [cz] | rw [cx] | rw [an]
   rw [if_pos z0, if_pos (by simp; omega), aO, if_pos (by simp; omega)]
   unfold lc
   have hz : cE (([1, 65535] : List Int).getD (0 + z.toNat) 0) := by
    obtain ⟨k, rfl⟩ := Int.eq_ofNat_of_zero_le z0
    have : k = 0 ∨ k = 1 := by omega
    rcases this with rfl | rfl <;> exact ⟨by decide, by decide⟩
   rw [az (n := (i : Int) + 1)]
   exact ⟨_, rfl, by omega, by simp [s1], by simp [s2], OZ (wM s3 hx) hz _, wM s4 hy, hd5⟩
  ·rw [if_neg ho]
   unfold lc
   rw [az (n := (i : Int) + 1)]
   exact ⟨_, rfl, by omega, by simp [s1], by simp [s2], wM s3 hx, wM s4 hy, hd4⟩) (by
  rintro ⟨j, a, b, c, u, v⟩ ⟨rfl, s1, s2, s3, s4, s5⟩
  exact ⟨_, by simp only [m7]; rw [b8], s1, s2, s3, s4, s5⟩) (s := (0, d1.list, d1.at_, d1.state, ([] : List Int), ([] : List Int))) ⟨rfl, rfl, rfl, by simp, by simp, hd1⟩
 rw [e1]
 refine ⟨_, _, rfl, t1, ⟨by simp only; omega, by simp only; omega, by simp only; omega, ?_, fun i hi => po t3 hi, fun i hi => po t4 (by simp only at hi; omega)⟩, t5⟩
 simp only
 rw [az]
 exact ⟨by omega, by omega⟩
theorem eE {v : Int} (h0 : 0 ≤ v) : VN (bl v) ↔ v < bp 64 := by
 unfold VN
 rw [s7 h0]
 exact ⟨fun h => h.1, fun h => ⟨h, (jX h0).2⟩⟩
theorem Gf {v w : Int} (hv : 0 ≤ v) (hw : 0 ≤ w) (h : v < bp 64) (h' : w < bp 64) : uc (bl v) (bl w) = fu (v + w) := by
 unfold uc
 rw [if_pos ⟨(eE hv).2 h, (eE hw).2 h'⟩, cM hv, cM hw]
theorem NV {v w : Int} (hv : 0 ≤ v) (hw : 0 ≤ w) (h : v < bp 64) (h' : w < bp 64) : qc (bl v) (bl w) = fu (v * w) := by
 unfold qc
 rw [if_pos ⟨(eE hv).2 h, (eE hw).2 h'⟩, cM hv, cM hw]
theorem gL {v : Int} (hv : 0 ≤ v) (h : v < bp 64) : (bl v).length < 100000 := by have := vE hv h; omega
theorem pZ {v : Int} {n : Nat} (hv : v < bp n) (hn : n ≤ 64) : v < bp 64 := by have := gI hn; omega
theorem Hg {v w : Int} {m n : Nat} (h0 : 0 ≤ v) (hv : v < bp m) (h1 : 0 ≤ w) (hw : w < bp n) : v * w < bp (m + n) := by
 rw [gB]
 have := dU m
 calc v * w ≤ v * bp n := Int.mul_le_mul_of_nonneg_left (by omega) h0
  _ < bp m * bp n := Int.mul_lt_mul_of_pos_right hv (dU _)
theorem PC {v w : Int} {n : Nat} (hv : v < bp n) (hw : w < bp n) : v + w < bp (n + 1) := by
 simp only [bp]; have := dU n; omega
theorem Qm {v w : Int} {m : Nat} (hv : 0 ≤ v) (hw : 0 ≤ w) (h : v < bp m) (h' : w < bp m) (hm : m + 1 ≤ 64) : jU (bl v) (bl w) = some (bl (v + w), 0) := by
 have h1 := pZ h (show m ≤ 64 by omega)
 have h2 := pZ h' (show m ≤ 64 by omega)
 have h3 := pZ (PC h h') hm
 rw [DC (d9 hv) (d9 hw) (gL hv h1) (gL hw h2), Gf hv hw h1 h2, fu, if_pos h3]
theorem Qn {v w : Int} {m n : Nat} (hv : 0 ≤ v) (hw : 0 ≤ w) (h : v < bp m) (h' : w < bp n) (hm : m + n ≤ 64) : lW (bl v) (bl w) = some (bl (v * w), 0) := by
 have h1 := pZ h (show m ≤ 64 by omega)
 have h2 := pZ h' (show n ≤ 64 by omega)
 have h3 := pZ (Hg hv h hw h') hm
 rw [DD (d9 hv) (d9 hw) (gL hv h1) (gL hw h2), NV hv hw h1 h2, fu, if_pos h3]
def B6 (l : List Int) : Int × Bool := if VN l ∧ val l < 9223372036854775808 then (val l, true) else (0, false)
theorem NW {l : List Int} (h : VN l) (hu : aM l) : val l < 9223372036854775808 ↔ l.length ≤ 2 ∧ (l.length = 2 → l.getD 1 0 < 2147483648) := by
 have hc := h.canon hu
 match l, hu, hc with
 | [], _, _ => simp [val]
 | [a], hu, _ => have := hu.head; simp [val]; omega
 | [a, b], hu, _ => have h1 := hu.head; have h2 := hu.tail.head; simp [val]; omega
 | a :: b :: c :: l, hu, hc =>
  have h1 := hc.ge
  simp only [Rk] at h1
  have h2 := gI (show 2 ≤ l.length + 1 + 1 + 1 - 1 by omega)
  rw [show bp 2 = 18446744073709551616 by decide] at h2
  constructor
  ·intro h; omega
  ·intro h; simp at h
theorem JV {l : List Int} (hu : aM l) (hl : l.length < 100000) : sK l = some (B6 l) := by
 unfold sK lL B6
 rw [re (by omega), an]
 by_cases h : VN l
 ·have hs := NW h hu
  rw [RL h, b8]
  by_cases h2 : 2 < l.length
  ·rw [if_pos (by simp; omega), if_pos rfl, if_neg (fun e => by have := hs.1 e.2; omega)]
  ·rw [if_neg (by simp; omega)]
   match l, hu, h2 with
   | [], _, _ =>
    rw [b8, b8, dm (t := (0 : Int)) (by simp [fR]), if_pos ⟨h, by simp [val]⟩]
    rfl
   | [a], hu, _ =>
    have ha := hu.head
    rw [b8, b8]
    have e1 : fR [a] 0 0 = some (.inl (a, 1)) := by
     have o := (Bt (a := a) (b := 0) (i := 0) ha.1 (Int.le_refl 0) (by decide) (by simp; omega)).1
     simp only [fR, Rk, Rm]
     rw [if_pos (by simp), if_pos (by simp), if_pos (by simp), bX]
     have s0 := A9 (SB a) (s := 0) (by decide)
     rw [show ((0 : Nat) : Int) = 0 from rfl] at s0
     rw [show (SB (32 * 0)) = 0 by decide, show ([a] : List Int).getD (0 : Int).toNat 0 = a from rfl, s0, az (n := a), az (n := a * ((2 ^ 0 : Nat) : Int)) (by simp; omega) (by simp; omega), o]
     simp
     decide
    rw [dH e1, dm (t := a) (by simp [fR]), if_pos ⟨h, by simp [val]; omega⟩]
    simp [val]
   | [a, b], hu, _ =>
    have ha := hu.head
    have hb := hu.tail.head
    rw [if_pos (by simp), if_pos (by simp)]
    by_cases hb2 : b < 2147483648
    ·rw [if_neg (by simp; omega)]
     have e1 : fR [a, b] 0 0 = some (.inl (a, 1)) := by
      have o := (Bt (a := a) (b := 0) (i := 0) ha.1 (Int.le_refl 0) (by decide) (by simp; omega)).1
      simp only [fR, Rk, Rm]
      rw [if_pos (by simp), if_pos (by simp), if_pos (by simp), bX]
      have s0 := A9 (SB a) (s := 0) (by decide)
      rw [show ((0 : Nat) : Int) = 0 from rfl] at s0
      rw [show (SB (32 * 0)) = 0 by decide, show ([a, b] : List Int).getD (0 : Int).toNat 0 = a from rfl, s0, az (n := a), az (n := a * ((2 ^ 0 : Nat) : Int)) (by simp; omega) (by simp; omega), o]
      simp
      decide
     have e2 : fR [a, b] a 1 = some (.inl (a + 4294967296 * b, 2)) := by
      have o := (Bt (a := b) (b := a) (i := 32) hb.1 ha.1 (by simp; omega) (by simp; omega)).1
      simp only [fR, Rk, Rm]
      rw [if_pos (by simp), if_pos (by simp), if_pos (by simp), bX]
      have s0 := A9 (SB b) (s := 32) (by decide)
      rw [show ((32 : Nat) : Int) = 32 from rfl] at s0
      rw [show (SB (32 * 1)) = 32 by decide, show ([a, b] : List Int).getD (1 : Int).toNat 0 = b from rfl, s0, az (n := b), az (n := b * ((2 ^ 32 : Nat) : Int)) (by simp; omega) (by simp; omega), o, an, show SB (1 + 1) = 2 by decide]
      simp only [Ri, Sum.inl.injEq, Rr, and_true]
      rw [show ((2 ^ 32 : Nat) : Int) = 4294967296 by decide]; omega
     rw [dH e1, dH e2, dm (t := a + 4294967296 * b) (by simp [fR]), if_pos ⟨h, by simp [val]; omega⟩]
     simp [val]
    ·rw [if_pos (by simp; omega), if_neg (fun e => by have := (hs.1 e.2).2 rfl; simp at this; omega)]
   | a :: b :: c :: l, _, h2 => simp at h2
 ·rw [RJ h, if_pos (by simp), if_pos rfl, if_neg (fun e => h e.1)]
theorem NY {t : Int} (h0 : -9223372036854775808 ≤ t) (h1 : t < 4294967296) : ∃ d c, IntKind.u32.wrap (IntKind.u64.wrap t) = d ∧ a7 .u64 (IntKind.u64.wrap t) 63 = c ∧ 0 ≤ d ∧ d < 4294967296 ∧ 0 ≤ c ∧ c ≤ 1 ∧ (-4294967296 ≤ t → d - 4294967296 * c = t) := by
 refine ⟨t % 4294967296, if t < 0 then 1 else 0, ?_, ?_, by omega, by omega, by split <;> omega, by split <;> omega, fun h => by split <;> omega⟩
 ·rw [gy, gw]; omega
 ·rw [P5, gw]; split <;> omega
theorem Gg {a b : Int} : dM a b < 0 ↔ a < b := by unfold dM; split <;> (try split) <;> omega
theorem AC {k : Nat} (h : k ≤ 31) : 1 ≤ ((2 ^ k : Nat) : Int) ∧ ((2 ^ k : Nat) : Int) ≤ 2147483648 := by
 have h1 : 1 ≤ 2 ^ k := Nat.pow_pos (by decide)
 have h2 : 2 ^ k ≤ 2 ^ 31 := Nat.pow_le_pow_right (by decide) h
 have h3 : (2 : Nat) ^ 31 = 2147483648 := by decide
 generalize 2 ^ k = p at *
 omega
theorem AD {k : Nat} (h : k ≤ 31) : ((2 ^ (32 - k) : Nat) : Int) * ((2 ^ k : Nat) : Int) = 4294967296 := by
 rw [← Int.natCast_mul, ← Nat.pow_add, show 32 - k + k = 32 by omega]
 decide
theorem N1 : ∀ i : Fin 256, i.val = 0 ∨ (1 ≤ (f5.data.toList.getD i.val 0).toNat ∧ (f5.data.toList.getD i.val 0).toNat ≤ 8 ∧ 2 ^ ((f5.data.toList.getD i.val 0).toNat - 1) ≤ i.val ∧ i.val < 2 ^ (f5.data.toList.getD i.val 0).toNat) := by decide +kernel
theorem Qo {n : Int} (h0 : 0 ≤ n) (h1 : n < 256) : IntKind.u8.wrap n = n := by
 simp only [IntKind.wrap, IntKind.bits, IntKind.signed]
 simp
 omega
theorem P6 {x : Int} (h0 : 1 ≤ x) (h1 : x < 4294967296) : ∃ s : Nat, qH x = some (s : Int) ∧ s ≤ 31 ∧ 2147483648 ≤ x * ((2 ^ s : Nat) : Int) ∧ x * ((2 ^ s : Nat) : Int) < 4294967296 := by
 have key : ∀ (off : Nat) (y : Int), off ≤ 24 → 1 ≤ y → y < 256 → (∃ r : Int, 0 ≤ r ∧ r < ((2 ^ off : Nat) : Int) ∧ x = y * ((2 ^ off : Nat) : Int) + r) → ∃ s : Nat, ((lP y (off : Int)).bind fun y1 => some (SB (32 - y1))) = some (s : Int) ∧ s ≤ 31 ∧ 2147483648 ≤ x * ((2 ^ s : Nat) : Int) ∧ x * ((2 ^ s : Nat) : Int) < 4294967296 := by
  intro off y ho y0 y1 ⟨r, r0, r1, hx⟩
  obtain ⟨m, rfl⟩ := jh (show 0 ≤ y by omega)
  have ht : m = 0 ∨ (1 ≤ (f5.data.toList.getD m 0).toNat ∧ (f5.data.toList.getD m 0).toNat ≤ 8 ∧ 2 ^ ((f5.data.toList.getD m 0).toNat - 1) ≤ m ∧ m < 2 ^ (f5.data.toList.getD m 0).toNat) := N1 ⟨m, by omega⟩
  have hsz : f5.size = 256 := by decide +kernel
  unfold lP
  rw [Qo (by omega) (by omega), aO, if_pos (by rw [hsz]; omega), an, an, Rj]
  generalize (f5.data.toList.getD m 0).toNat = L at *
  obtain ⟨l1, l2, l3, l4⟩ : 1 ≤ L ∧ L ≤ 8 ∧ 2 ^ (L - 1) ≤ m ∧ m < 2 ^ L := by
   rcases ht with h | h
   ·omega
   ·exact h
  rw [az (n := (L : Int)), az (n := (off : Int) + L), az]
  refine ⟨32 - (off + L), by congr 1; omega, by omega, ?_⟩
  have e1 : (2 : Nat) ^ (32 - (off + L)) * 2 ^ off * 2 ^ (L - 1) = 2147483648 := by
   rw [← Nat.pow_add, ← Nat.pow_add, show 32 - (off + L) + off + (L - 1) = 31 by omega]
  have e2 : (2 : Nat) ^ L = 2 * 2 ^ (L - 1) := by rw [show L = (L - 1) + 1 by omega, Nat.pow_succ, Nat.add_sub_cancel, Nat.mul_comm]
  rw [e2] at l4
  have p1 : 1 ≤ (2 : Nat) ^ (32 - (off + L)) := Nat.pow_pos (by decide)
  generalize (2 : Nat) ^ (32 - (off + L)) = S at *
  generalize (2 : Nat) ^ off = O at *
  generalize (2 : Nat) ^ (L - 1) = M at *
  obtain ⟨r, rfl⟩ := jh r0
  have hx2 : x * (S : Int) = ((S * O * m + S * r : Nat) : Int) := by rw [hx]; simp only [Sl, Int.natCast_mul]; grind
  have hr : S * r < S * O := Nat.mul_lt_mul_of_pos_left (by omega) (by omega)
  have h5 : S * O * M ≤ S * O * m := Nat.mul_le_mul_left _ l3
  have h6 : S * O * (m + 1) ≤ S * O * (2 * M) := Nat.mul_le_mul_left _ l4
  rw [Nat.mul_add] at h6
  have h7 : S * O * (2 * M) = 2 * (S * O * M) := by grind
  rw [hx2]
  generalize S * O * m = u at *
  generalize S * r = v at *
  generalize S * O = w at *
  omega
 unfold qH vQ
 by_cases a : 65536 ≤ x
 ·rw [if_pos (by simpa using a), show a7 .u32 x 16 = x / 65536 from wY .u32 x (s := 16) (by decide)]
  unfold lQ
  by_cases b : 256 ≤ x / 65536
  ·rw [if_pos (by simpa using b), show a7 .u32 (x / 65536) 8 = x / 65536 / 256 from wY .u32 _ (s := 8) (by decide), show SB (16 + 8) = ((24 : Nat) : Int) by decide]
   exact key 24 _ (by decide) (by omega) (by omega) ⟨x % 16777216, by omega, by simp; omega, by simp; omega⟩
  ·rw [if_neg (by simpa using b)]
   exact key 16 _ (by decide) (by omega) (by omega) ⟨x % 65536, by omega, by simp; omega, by simp; omega⟩
 ·rw [if_neg (by simpa using a)]
  unfold lQ
  by_cases b : 256 ≤ x
  ·rw [if_pos (by simpa using b), show a7 .u32 x 8 = x / 256 from wY .u32 _ (s := 8) (by decide), show SB (0 + 8) = ((8 : Nat) : Int) by decide]
   exact key 8 _ (by decide) (by omega) (by omega) ⟨x % 256, by omega, by simp; omega, by simp; omega⟩
  ·rw [if_neg (by simpa using b)]
   exact key 0 _ (by decide) (by omega) (by omega) ⟨0, by omega, by simp, by simp⟩
theorem Gh {n : List Int} (hu : aM n) (hl : n.length < 100000) {k : Nat} (hk : k ≤ 31) : ∃ out, ox n (k : Int) = some out ∧ aM out ∧ out.length = n.length + 1 ∧ val out = val n * ((2 ^ k : Nat) : Int) ∧ out.getD n.length 0 < ((2 ^ k : Nat) : Int) := by
 have hp := AC hk
 have hpp := AD hk
 obtain ⟨out, h1, h2, h3, h4, h5⟩ := cC (step := fun v : List Int × Int => nC n k v.1 v.2) n.length
  (fun i v => v.2 = (i : Int) ∧ aM v.1 ∧ v.1.length = n.length + 1 ∧ val v.1 = val (n.take i) * ((2 ^ k : Nat) : Int) ∧ v.1.getD i 0 < ((2 ^ k : Nat) : Int) ∧ ∀ j, i < j → v.1.getD j 0 = 0)
  (fun t => aM t ∧ t.length = n.length + 1 ∧ val t = val n * ((2 ^ k : Nat) : Int) ∧ t.getD n.length 0 < ((2 ^ k : Nat) : Int)) (by
  rintro i hi ⟨out, j⟩ ⟨g0, g1, g2, g3, g4, g5⟩
  simp only at g0 g1 g2 g3 g4 g5
  subst g0
  left
  have gn := hu.get i
  have go := g1.get i
  have vn := AB (l := n) hi
  have z1 := g5 (i + 1) (by omega)
  generalize hd : n.getD i 0 = d at *
  have hx0 : 0 ≤ d * ((2 ^ k : Nat) : Int) := Int.mul_nonneg gn.1 (by omega)
  have hx1 : d * ((2 ^ k : Nat) : Int) ≤ 4294967295 * 2147483648 := Int.mul_le_mul (by omega) hp.2 (by omega) (by omega)
  have hlow : d * ((2 ^ k : Nat) : Int) % 4294967296 = (d % ((2 ^ (32 - k) : Nat) : Int)) * ((2 ^ k : Nat) : Int) := by
   rw [← hpp, Int.mul_comm d, Int.mul_comm ((2 ^ (32 - k) : Nat) : Int), Int.mul_emod_mul_of_pos _ _ (by omega), Int.mul_comm]
  have hhi : d * ((2 ^ k : Nat) : Int) / 4294967296 < ((2 ^ k : Nat) : Int) := by
   apply Int.ediv_lt_of_lt_mul (by decide)
   have := Int.mul_lt_mul_of_pos_right gn.2 (show (0 : Int) < ((2 ^ k : Nat) : Int) by omega)
   omega
  have ha0 : 0 ≤ d % ((2 ^ (32 - k) : Nat) : Int) := Int.emod_nonneg _ (by have : 1 ≤ 2 ^ (32 - k) := Nat.pow_pos (by decide); omega)
  have hor := (Py (a := d % ((2 ^ (32 - k) : Nat) : Int)) (b := out.getD i 0) (i := k) ha0 go.1 g4 (by
   have hm : d % ((2 ^ (32 - k) : Nat) : Int) + 1 ≤ ((2 ^ (32 - k) : Nat) : Int) := by
    have := Int.emod_lt_of_pos d (show (0 : Int) < ((2 ^ (32 - k) : Nat) : Int) by have : 1 ≤ 2 ^ (32 - k) := Nat.pow_pos (by decide); omega)
    omega
   have := Int.mul_le_mul_of_nonneg_right hm (show (0 : Int) ≤ ((2 ^ k : Nat) : Int) by omega)
   rw [hpp, Int.add_mul] at this
   omega)).1
  simp only [nC, Rj, R9, hd]
  rw [if_pos (by simpa using hi), aO, aO, aO, aO, az (n := (i : Int) + 1), aO, aO, show ((i : Int) + 1).toNat = i + 1 by omega]
  rw [cJ (n := d) (by omega) (by omega), A8 d (by omega), Int.emod_eq_of_lt hx0 (by omega), gy, tV, gy, hlow, hor]
  refine ⟨_, rfl, by simp only; omega, ?_, by simp only [R7]; exact g2, ?_, ?_, ?_⟩
  ·have hs : 0 ≤ d % ((2 ^ (32 - k) : Nat) : Int) * ((2 ^ k : Nat) : Int) + out.getD i 0 ∧ d % ((2 ^ (32 - k) : Nat) : Int) * ((2 ^ k : Nat) : Int) + out.getD i 0 < 4294967296 := by
    have hm : d % ((2 ^ (32 - k) : Nat) : Int) + 1 ≤ ((2 ^ (32 - k) : Nat) : Int) := by
     have := Int.emod_lt_of_pos d (show (0 : Int) < ((2 ^ (32 - k) : Nat) : Int) by have : 1 ≤ 2 ^ (32 - k) := Nat.pow_pos (by decide); omega)
     omega
    have h8 := Int.mul_le_mul_of_nonneg_right hm (show (0 : Int) ≤ ((2 ^ k : Nat) : Int) by omega)
    rw [hpp, Int.add_mul] at h8
    have h9 := Int.mul_nonneg ha0 (show (0 : Int) ≤ ((2 ^ k : Nat) : Int) by omega)
    omega
   exact (g1.set i hs).set (i + 1) (by omega)
  ·simp only
   rw [mi (by rw [R7]; omega), mi (by omega), ja (by omega), t8, z1, g3, vn, ← hlow, bp]
   have e : d * ((2 ^ k : Nat) : Int) / 4294967296 % 4294967296 = d * ((2 ^ k : Nat) : Int) / 4294967296 := by omega
   rw [e]
   have e2 : d * ((2 ^ k : Nat) : Int) % 4294967296 = d * ((2 ^ k : Nat) : Int) - 4294967296 * (d * ((2 ^ k : Nat) : Int) / 4294967296) := by omega
   rw [e2]
   generalize d * ((2 ^ k : Nat) : Int) / 4294967296 = q
   grind
  ·simp only
   rw [ja (by rw [R7]; omega), if_pos rfl]
   omega
  ·intro j hj
   simp only
   rw [ja (by rw [R7]; omega), t8, ja (by omega), t8]
   exact g5 j (by omega)) (by
  rintro ⟨out, j⟩ ⟨g0, g1, g2, g3, g4, g5⟩
  simp only at g0 g1 g2 g3 g4 g5
  subst g0
  rw [Sa] at g3
  refine ⟨out, ?_, g1, g2, g3, g4⟩
  simp only [nC]
  rw [b8]) (s := (List.replicate (n.length + 1) 0, 0)) ⟨rfl, aM.rep _, by simp, by simp [A6, val], by
   simp only [Re, List.getElem?_replicate]; split <;> simp only [Option.getD_some, Option.getD_none] <;> omega, fun j _ => by
   simp only [Re, List.getElem?_replicate]; split <;> rfl⟩
 refine ⟨out, ?_, h2, h3, h4, h5⟩
 unfold ox
 rw [az, aO, aO, show ((n.length : Int) + 1).toNat = n.length + 1 by omega, h1, an]
theorem Ed {l : List Int} {i o : Nat} (h : o ≤ i) (x : Int) : (l.set i x).take o = l.take o := List.take_set_of_le h
theorem O1 {N d : List Int} {o len : Nat} {q : Int} (hN : aM N) (hd : aM d) (hol : o + len ≤ N.length) (hdl : d.length + 1 ≤ len) (hn : N.length < 1000000) (q0 : 0 ≤ q) (q1 : q < 4294967296) :
  ∃ out bw, oJ N o len d q = some (decide (bw > 0), out) ∧ aM out ∧ out.length = N.length ∧ 0 ≤ bw ∧ bw ≤ 1 ∧ val out - bw * bp (o + len) = val N - q * val d * bp o ∧ (∀ k, o + len ≤ k → out.getD k 0 = N.getD k 0) ∧ out.take o = N.take o := by
 obtain ⟨⟨bw, out⟩, h1, h2⟩ := cC (step := fun v : List Int × Int × Int × Int => nP o len d q v.1 v.2.1 v.2.2.1 v.2.2.2) len
  (fun i v => v.2.2.2 = (i : Int) ∧ aM v.1 ∧ v.1.length = N.length ∧ 0 ≤ v.2.1 ∧ v.2.1 < 4294967296 ∧ 0 ≤ v.2.2.1 ∧ v.2.2.1 ≤ 1 ∧ val v.1 - v.2.2.1 * bp (o + i) = val N - q * val (d.take i) * bp o + v.2.1 * bp (o + i) ∧ v.2.1 * bp i ≤ q * val (d.take i) ∧ (∀ k, o + i ≤ k → v.1.getD k 0 = N.getD k 0) ∧ v.1.take o = N.take o)
  (fun t => aM t.2 ∧ t.2.length = N.length ∧ 0 ≤ t.1 ∧ t.1 ≤ 1 ∧ val t.2 - t.1 * bp (o + len) = val N - q * val d * bp o ∧ (∀ k, o + len ≤ k → t.2.getD k 0 = N.getD k 0) ∧ t.2.take o = N.take o) (by
  rintro i hi ⟨out, c, bw, j⟩ ⟨g0, g1, g2, g3, g4, g5, g6, g7, g8, g9, g10⟩
  simp only at g0 g1 g2 g3 g4 g5 g6 g7 g8 g9 g10
  subst g0
  left
  have gd := hd.get i
  have gn := hN.get (o + i)
  have vd := s8 d i
  have hp := A7 ⟨q0, q1⟩ gd ⟨g3, g4⟩ ⟨Int.le_refl 0, by decide⟩
  have fin : ∀ z : Int, z = c + q * d.getD i 0 → ∃ s', nO o len out bw (i : Int) z = some (.inl s') ∧ s'.2.2.2 = ((i + 1 : Nat) : Int) ∧ aM s'.1 ∧ s'.1.length = N.length ∧ 0 ≤ s'.2.1 ∧ s'.2.1 < 4294967296 ∧ 0 ≤ s'.2.2.1 ∧ s'.2.2.1 ≤ 1 ∧ val s'.1 - s'.2.2.1 * bp (o + (i + 1)) = val N - q * val (d.take (i + 1)) * bp o + s'.2.1 * bp (o + (i + 1)) ∧ s'.2.1 * bp (i + 1) ≤ q * val (d.take (i + 1)) ∧ (∀ k, o + (i + 1) ≤ k → s'.1.getD k 0 = N.getD k 0) ∧ s'.1.take o = N.take o := by
   intro z hz
   have e0 := g9 (o + i) (RR _)
   have hzm : z % 4294967296 = z - 4294967296 * (z / 4294967296) := by omega
   obtain ⟨dg, c', e1, e2, d0, d1, c0, c1, e3⟩ := NY (t := N.getD (o + i) 0 - z % 4294967296 - bw) (by omega) (by omega)
   simp only [nO, Rj]
   rw [aO, aO, aO, e0, cJ (n := N.getD (o + i) 0) (by omega) (by omega), OY (x := z) (by omega) (by omega)]
   have ew : IntKind.u64.wrap (IntKind.u64.wrap (N.getD (o + i) 0 - z % 4294967296) - bw) = IntKind.u64.wrap (N.getD (o + i) 0 - z % 4294967296 - bw) := by rw [gw, gw, gw]; omega
   rw [ew, an, e1, e2, tV, az]
   refine ⟨_, rfl, rfl, g1.set _ ⟨d0, d1⟩, by simp only [R7]; exact g2, by simp only; omega, by simp only; omega, c0, c1, ?_, ?_, ?_, ?_⟩
   ·simp only
    rw [mi (by omega), e0, vd, show o + (i + 1) = (o + i) + 1 by omega, bp, gB o i]
    rw [gB o i] at g7
    have h3 := e3 (by omega)
    rw [hzm] at h3
    subst hz
    generalize (c + q * d.getD i 0) / 4294967296 = y at *
    grind
   ·simp only
    rw [vd, bp]
    have hb := dU i
    have h4 : z / 4294967296 * 4294967296 ≤ z := by omega
    have h5 : z / 4294967296 * 4294967296 * bp i ≤ z * bp i := Int.mul_le_mul_of_nonneg_right h4 (Int.le_of_lt hb)
    rw [hz] at h5 ⊢
    generalize (c + q * d.getD i 0) / 4294967296 = y at *
    have e6 : y * (4294967296 * bp i) = y * 4294967296 * bp i := by grind
    have e7 : (c + q * d.getD i 0) * bp i = c * bp i + q * (d.getD i 0 * bp i) := by grind
    rw [e6, Int.mul_add]
    omega
   ·intro k hk
    simp only
    rw [ja (by omega), t8]
    exact g9 k (by omega)
   ·simp only
    rw [Ed (by omega)]
    exact g10
  simp only [nP, Rj]
  rw [if_pos (by simpa using hi)]
  by_cases hi2 : i < d.length
  ·rw [if_pos (by simpa using hi2), aO, aO, cJ (n := d.getD i 0) (by omega) (by omega), cJ (n := q * d.getD i 0) (by omega) (by omega), cJ (n := c + q * d.getD i 0) (by omega) (by omega), an]
   exact fin _ rfl
  ·rw [if_neg (by simp; omega)]
   exact fin _ (by rw [pm (l := d) (by omega)]; omega)) (by
  rintro ⟨out, c, bw, j⟩ ⟨g0, g1, g2, g3, g4, g5, g6, g7, g8, g9, g10⟩
  simp only at g0 g1 g2 g3 g4 g5 g6 g7 g8 g9 g10
  subst g0
  rw [Sf (by omega)] at g7 g8
  have hc0 : c = 0 := by
   have h1 := dY hd
   have h2 := cB hd
   have h3 : q * val d ≤ 4294967296 * val d := Int.mul_le_mul_of_nonneg_right (by omega) h2
   have h4 : bp (d.length + 1) ≤ bp len := gI hdl
   simp only [bp] at h4
   rcases (show c = 0 ∨ 1 ≤ c by omega) with h | h
   ·exact h
   ·have : 1 * bp len ≤ c * bp len := Int.mul_le_mul_of_nonneg_right h (Int.le_of_lt (dU _))
    omega
  subst hc0
  refine ⟨(bw, out), ?_, g1, g2, g5, g6, by simp only; omega, g9, g10⟩
  simp only [nP]
  rw [b8]) (s := (N, 0, 0, 0)) ⟨rfl, hN, rfl, Int.le_refl 0, by simp, Int.le_refl 0, by simp, by simp [val], by simp [val], fun k _ => rfl, rfl⟩
 refine ⟨out, bw, ?_, h2⟩
 unfold oJ
 rw [h1, aU]
theorem O2 {N d : List Int} {o len : Nat} (hN : aM N) (hd : aM d) (hol : o + len ≤ N.length) (hdl : d.length + 1 ≤ len) (hn : N.length < 1000000) :
  ∃ out c, sx N o len d = some out ∧ aM out ∧ out.length = N.length ∧ 0 ≤ c ∧ c ≤ 1 ∧ val out + c * bp (o + len) = val N + val d * bp o ∧ (∀ k, o + len ≤ k → out.getD k 0 = N.getD k 0) ∧ out.take o = N.take o := by
 obtain ⟨out, h1, c, h2⟩ := cC (step := fun v : List Int × Int × Int => nR o len d v.1 v.2.1 v.2.2) len
  (fun i v => v.2.2 = (i : Int) ∧ aM v.1 ∧ v.1.length = N.length ∧ 0 ≤ v.2.1 ∧ v.2.1 ≤ 1 ∧ val v.1 + v.2.1 * bp (o + i) = val N + val (d.take i) * bp o ∧ (∀ k, o + i ≤ k → v.1.getD k 0 = N.getD k 0) ∧ v.1.take o = N.take o)
  (fun t => ∃ c : Int, aM t ∧ t.length = N.length ∧ 0 ≤ c ∧ c ≤ 1 ∧ val t + c * bp (o + len) = val N + val d * bp o ∧ (∀ k, o + len ≤ k → t.getD k 0 = N.getD k 0) ∧ t.take o = N.take o) (by
  rintro i hi ⟨out, c, j⟩ ⟨g0, g1, g2, g3, g4, g5, g6, g7⟩
  simp only at g0 g1 g2 g3 g4 g5 g6 g7
  subst g0
  left
  have gd := hd.get i
  have gn := hN.get (o + i)
  have vd := s8 d i
  have e0 := g6 (o + i) (RR _)
  have fin : ∀ z : Int, z = c + N.getD (o + i) 0 + d.getD i 0 → ∃ s', nQ o out (i : Int) z = some (.inl s') ∧ s'.2.2 = ((i + 1 : Nat) : Int) ∧ aM s'.1 ∧ s'.1.length = N.length ∧ 0 ≤ s'.2.1 ∧ s'.2.1 ≤ 1 ∧ val s'.1 + s'.2.1 * bp (o + (i + 1)) = val N + val (d.take (i + 1)) * bp o ∧ (∀ k, o + (i + 1) ≤ k → s'.1.getD k 0 = N.getD k 0) ∧ s'.1.take o = N.take o := by
   intro z hz
   have hzm : z % 4294967296 = z - 4294967296 * (z / 4294967296) := by omega
   simp only [nQ, Rj]
   rw [gy, tV, az]
   refine ⟨_, rfl, rfl, g1.set _ (by omega), by simp only [R7]; exact g2, by simp only; omega, by simp only; omega, ?_, ?_, ?_⟩
   ·simp only
    rw [mi (by omega), e0, vd, show o + (i + 1) = (o + i) + 1 by omega, bp, gB o i, hzm]
    rw [gB o i] at g5
    subst hz
    generalize (c + N.getD (o + i) 0 + d.getD i 0) / 4294967296 = y at *
    grind
   ·intro k hk
    simp only
    rw [ja (by omega), t8]
    exact g6 k (by omega)
   ·simp only
    rw [Ed (by omega)]
    exact g7
  simp only [nR, Rj]
  rw [if_pos (by simpa using hi), aO, aO, aO, e0, cJ (n := N.getD (o + i) 0) (by omega) (by omega), cJ (n := c + N.getD (o + i) 0) (by omega) (by omega), an]
  by_cases hi2 : i < d.length
  ·rw [if_pos (by simpa using hi2), aO, cJ (n := d.getD i 0) (by omega) (by omega), cJ (n := c + N.getD (o + i) 0 + d.getD i 0) (by omega) (by omega), an]
   exact fin _ rfl
  ·rw [if_neg (by simp; omega)]
   exact fin _ (by rw [pm (l := d) (by omega)]; omega)) (by
  rintro ⟨out, c, j⟩ ⟨g0, g1, g2, g3, g4, g5, g6, g7⟩
  simp only at g0 g1 g2 g3 g4 g5 g6 g7
  subst g0
  rw [Sf (by omega)] at g5
  refine ⟨out, ?_, c, g1, g2, g3, g4, g5, g6, g7⟩
  simp only [nR]
  rw [b8]) (s := (N, 0, 0)) ⟨rfl, hN, rfl, Int.le_refl 0, by simp, by simp [val], fun k _ => rfl, rfl⟩
 refine ⟨out, c, ?_, h2⟩
 unfold sx
 rw [h1, an]
theorem vU {l : List Int} (h : l.length < 1000000) : jE l = some l := by
 grind [jE, pK]
theorem PD (W : Int) (i : Nat) : W % bp (i + 1) = W % bp i + (W / bp i % 4294967296) * bp i := by
 have h0 := dU i
 have e1 := Int.mul_ediv_add_emod W (bp i)
 have e2 := Int.mul_ediv_add_emod (W / bp i) 4294967296
 have h1 := Int.emod_nonneg W (show bp i ≠ 0 by omega)
 have h2 := Int.emod_lt_of_pos W h0
 have h3 := Int.emod_nonneg (W / bp i) (show (4294967296 : Int) ≠ 0 by decide)
 have h4 := Int.emod_lt_of_pos (W / bp i) (show (0 : Int) < 4294967296 by decide)
 have hr : W = (W % bp i + (W / bp i % 4294967296) * bp i) + bp (i + 1) * (W / bp i / 4294967296) := by
  simp only [bp]
  grind
 have r0 : 0 ≤ W % bp i + (W / bp i % 4294967296) * bp i := by
  have := Int.mul_nonneg h3 (Int.le_of_lt h0); omega
 have r1 : W % bp i + (W / bp i % 4294967296) * bp i < bp (i + 1) := by
  have : (W / bp i % 4294967296 + 1) * bp i ≤ 4294967296 * bp i := Int.mul_le_mul_of_nonneg_right (by omega) (Int.le_of_lt h0)
  rw [Int.add_mul] at this
  simp only [bp]; omega
 conv => lhs; rw [hr]
 rw [Int.add_mul_emod_self_left, Int.emod_eq_of_lt r0 r1]
theorem O3 {n : List Int} (hu : aM n) (hl : n.length < 100000) {k : Nat} (hk : k ≤ 31) : sy n (k : Int) = some (bl (val n / ((2 ^ k : Nat) : Int))) := by
 have hp := AC hk
 have hpp := AD hk
 have v0 := cB hu
 have v1 := dY hu
 have hW0 : 0 ≤ val n / ((2 ^ k : Nat) : Int) := Int.ediv_nonneg v0 (by omega)
 have hW1 : val n / ((2 ^ k : Nat) : Int) ≤ val n := Int.ediv_le_self _ v0
 obtain ⟨out, h1, h2, h3, h4⟩ := cC (step := fun v : List Int × Int => nT n k n v.1 v.2) n.length
  (fun i v => v.2 = (i : Int) ∧ aM v.1 ∧ v.1.length = n.length ∧ val (v.1.take i) = val n / ((2 ^ k : Nat) : Int) % bp i)
  (fun t => aM t ∧ t.length = n.length ∧ val t = val n / ((2 ^ k : Nat) : Int)) (by
  rintro i hi ⟨out, j⟩ ⟨g0, g1, g2, g3⟩
  simp only at g0 g1 g2 g3
  subst g0
  left
  have gn := hu.get i
  have gn1 := hu.get (i + 1)
  have hdig : val n / ((2 ^ k : Nat) : Int) / bp i % 4294967296 = (n.getD i 0 + 4294967296 * n.getD (i + 1) 0) / ((2 ^ k : Nat) : Int) % 4294967296 := by
   have e1 : val n / ((2 ^ k : Nat) : Int) / bp i = val (n.drop i) / ((2 ^ k : Nat) : Int) := by
    rw [Int.ediv_ediv_of_nonneg (by omega), Int.mul_comm, ← Int.ediv_ediv_of_nonneg (Int.le_of_lt (dU i))]
    congr 1
    rw [gv n (i := i) (by omega), Int.add_mul_ediv_left _ _ (by have := dU i; omega)]
    have a := cB (hu.take i)
    have b := dY (hu.take i)
    rw [Ro, Nat.min_eq_left (by omega)] at b
    rw [Int.ediv_eq_zero_of_lt a b]; omega
   have e2 : val (n.drop i) = (n.getD i 0 + 4294967296 * n.getD (i + 1) 0) + ((2 ^ k : Nat) : Int) * (4294967296 * (((2 ^ (32 - k) : Nat) : Int) * val (n.drop (i + 2)))) := by
    rw [fW hi]
    by_cases hi2 : i + 1 < n.length
    ·rw [fW hi2]
     generalize ((2 ^ k : Nat) : Int) = p at *
     generalize ((2 ^ (32 - k) : Nat) : Int) = r at *
     have : p * (4294967296 * (r * val (n.drop (i + 2)))) = 4294967296 * ((r * p) * val (n.drop (i + 2))) := by grind
     rw [this, hpp]
     show _ = _
     rw [show i + 1 + 1 = i + 2 from rfl]
     omega
    ·rw [jO (by omega), pm (l := n) (i := i + 1) (by omega), jO (by omega)]; simp
   rw [e1, e2, Int.add_mul_ediv_left _ _ (by omega), Int.add_mul_emod_self_left]
  have fin : ∀ z : Int, z = n.getD i 0 + 4294967296 * n.getD (i + 1) 0 → ∃ s', nS (k : Int) out (i : Int) z = some (.inl s') ∧ s'.2 = ((i + 1 : Nat) : Int) ∧ aM s'.1 ∧ s'.1.length = n.length ∧ val (s'.1.take (i + 1)) = val n / ((2 ^ k : Nat) : Int) % bp (i + 1) := by
   intro z hz
   simp only [nS, Rj, R9]
   rw [aO, aO, gy, wY .u64 z (s := k) (show k ≤ 64 by omega), az]
   refine ⟨_, rfl, rfl, g1.set _ (by omega), by simp only [R7]; exact g2, ?_⟩
   simp only
   rw [yX (by omega), g3, PD, hdig, hz]
  simp only [nT, Rj]
  rw [if_pos (by simpa using hi), aO, aO, az (n := (i : Int) + 1)]
  by_cases hi2 : i + 1 < n.length
  ·rw [if_pos (by simp; omega), aO, aO, show ((i : Int) + 1).toNat = i + 1 by omega, cJ (n := n.getD i 0) (by omega) (by omega), cJ (n := n.getD (i + 1) 0) (by omega) (by omega)]
   have s1 := A8 (n.getD (i + 1) 0) (s := 32) (by decide)
   rw [show ((32 : Nat) : Int) = 32 from rfl, show ((2 ^ 32 : Nat) : Int) = 4294967296 by decide, Int.emod_eq_of_lt (by omega) (by omega)] at s1
   have s2 := (Hf (a := n.getD (i + 1) 0) (b := n.getD i 0) (i := 32) gn1.1 gn.1 (by rw [show ((2 ^ 32 : Nat) : Int) = 4294967296 by decide]; omega) (by rw [show ((2 ^ 32 : Nat) : Int) = 4294967296 by decide]; omega)).1
   rw [show ((2 ^ 32 : Nat) : Int) = 4294967296 by decide] at s2
   rw [s1, s2, an]
   exact fin _ (by omega)
  ·rw [if_neg (by simp; omega), cJ (n := n.getD i 0) (by omega) (by omega)]
   exact fin _ (by rw [pm (l := n) (i := i + 1) (by omega)]; omega)) (by
  rintro ⟨out, j⟩ ⟨g0, g1, g2, g3⟩
  simp only at g0 g1 g2 g3
  subst g0
  rw [Sf (by omega), Int.emod_eq_of_lt hW0 (by omega)] at g3
  refine ⟨out, ?_, g1, g2, g3⟩
  simp only [nT]
  rw [b8]) (s := (n, 0)) ⟨rfl, hu, rfl, by simp [val, bp, Int.emod_one]⟩
 unfold sy
 rw [vU (by omega), an, h1, an, iO (by omega), an, md h2, h4]
theorem N3 {P D T t W P0 D0 g : Int} (hW : 0 < W) (hD : D = t * W + D0) (d0 : 0 ≤ D0) (d1 : D0 < W) (hP : P = T * W + P0) (p0 : 0 ≤ P0) (p1 : P0 < W) (ht : 2147483648 ≤ t) (hT : 0 ≤ T) (hlt : P < 4294967296 * D) (hg : g = if 4294967295 < T / t then 4294967295 else T / t) :
  P / D ≤ g ∧ g ≤ P / D + 2 ∧ 0 ≤ g ∧ g < 4294967296 := by
 have htW : 2147483648 * W ≤ t * W := Int.mul_le_mul_of_nonneg_right ht (Int.le_of_lt hW)
 have hDp : 0 < D := by omega
 have hT0 : 0 ≤ T / t := Int.ediv_nonneg hT (by omega)
 have g0 : 0 ≤ g ∧ g < 4294967296 ∧ g ≤ T / t := by rw [hg]; split <;> omega
 refine ⟨?_, ?_, g0.1, g0.2.1⟩
 ·by_cases c : 4294967295 < T / t
  ·rw [if_pos c] at hg
   have : P / D < 4294967296 := Int.ediv_lt_of_lt_mul hDp hlt
   omega
  ·rw [if_neg c] at hg
   have h1 : T < (T / t + 1) * t := Int.lt_ediv_add_one_mul_self T (by omega)
   have h2 : (T + 1) * W ≤ ((T / t + 1) * t) * W := Int.mul_le_mul_of_nonneg_right (by omega) (Int.le_of_lt hW)
   have h3 : (T / t + 1) * (t * W) ≤ (T / t + 1) * D := Int.mul_le_mul_of_nonneg_left (by omega) (by omega)
   rw [Int.add_mul, Int.mul_assoc] at h2
   have : P < (T / t + 1) * D := by omega
   have : P / D < T / t + 1 := Int.ediv_lt_of_lt_mul hDp this
   omega
 ·have h1 : g * t ≤ T := by
   have := Int.mul_le_mul_of_nonneg_right g0.2.2 (show 0 ≤ t by omega)
   have h2 := Int.ediv_mul_le T (show t ≠ 0 by omega)
   omega
  have h2 : (g * t) * W ≤ T * W := Int.mul_le_mul_of_nonneg_right h1 (Int.le_of_lt hW)
  have h3 : g * D0 ≤ g * W := Int.mul_le_mul_of_nonneg_left (by omega) g0.1
  have h4 : g * W ≤ 4294967295 * W := Int.mul_le_mul_of_nonneg_right (by omega) (Int.le_of_lt hW)
  have h5 : g * D = (g * t) * W + g * D0 := by rw [hD]; grind
  have h6 : (g - 2) * D = g * D - 2 * D := by grind
  have : (g - 2) * D ≤ P := by rw [h6]; omega
  have := Int.le_ediv_of_mul_le hDp this
  omega
theorem MU {a b : List Int} {j : Nat} (hl : a.length = b.length) (h : ∀ k, j ≤ k → a.getD k 0 = b.getD k 0) : a.drop j = b.drop j := by
 apply List.ext_getElem?
 intro k
 rw [List.getElem?_drop, List.getElem?_drop]
 have := h (j + k) (by omega)
 simp only [Re] at this
 by_cases hk : j + k < a.length
 ·rw [Rf hk, Rf (by omega)] at this ⊢
  simpa using this
 ·rw [Rh (by omega), Rh (by omega)]
def iz (N : List Int) (i s : Nat) (out : List Int) : Prop := aM out ∧ out.length = N.length ∧ (∀ k, i + (s + 1) ≤ k → out.getD k 0 = N.getD k 0) ∧ out.take i = N.take i
theorem iz.vals {N out : List Int} {i s : Nat} (h : iz N i s out) (hN : aM N) (hl : i + s + 1 ≤ N.length) (hz : val (N.drop (i + s + 1)) = 0) :
  val out = val (N.take i) + bp i * val (out.drop i) ∧ 0 ≤ val (out.drop i) ∧ val (out.drop i) < bp (s + 1) ∧ (out.getD (i + s) 0 = 0 ↔ val (out.drop i) < bp s) := by
 obtain ⟨h1, h2, h3, h4⟩ := h
 have e1 := gv out (i := i) (by omega)
 rw [h4] at e1
 have e2 := gv (out.drop i) (i := s) (by rw [Rp]; omega)
 rw [List.drop_drop] at e2
 have e3 := fW (l := out) (i := i + s) (by omega)
 rw [MU h2 (j := i + s + 1) (fun k hk => h3 k (by omega)), hz] at e3
 have a := cB ((h1.drop i).take s)
 have b := dY ((h1.drop i).take s)
 rw [Ro, Rp, Nat.min_eq_left (by omega)] at b
 have c := h1.get (i + s)
 have hb := dU s
 refine ⟨e1, cB (h1.drop i), ?_, ?_⟩
 ·rw [e2, e3, bp]
  have : bp s * (out.getD (i + s) 0 + 1) ≤ bp s * 4294967296 := Int.mul_le_mul_of_nonneg_left (by omega) (Int.le_of_lt hb)
  rw [Int.mul_add] at this
  rw [show out.getD (i + s) 0 + 4294967296 * 0 = out.getD (i + s) 0 by omega]
  omega
 ·rw [e2, e3, show out.getD (i + s) 0 + 4294967296 * 0 = out.getD (i + s) 0 by omega]
  constructor
  ·intro h; rw [h]; omega
  ·intro h
   rcases (show out.getD (i + s) 0 = 0 ∨ 1 ≤ out.getD (i + s) 0 by omega) with h' | h'
   ·exact h'
   ·have : bp s * 1 ≤ bp s * out.getD (i + s) 0 := Int.mul_le_mul_of_nonneg_left h' (Int.le_of_lt hb)
    omega
theorem Fy {i : Nat} {x y : Int} (h : bp i * x = bp i * y) : x = y := Int.eq_of_mul_eq_mul_left (by have := dU i; omega) h
theorem O4 {N d : List Int} {i : Nat} {g qt : Int} (hN : aM N) (hd : aM d) (hl : i + d.length + 1 ≤ N.length) (hn : N.length < 100000) (hz : val (N.drop (i + d.length + 1)) = 0)
  (hq0 : 0 ≤ qt) (hr0 : 0 ≤ val (N.drop i) - qt * val d) (hr1 : val (N.drop i) - qt * val d < val d) (hqg : qt ≤ g) (hqg2 : g ≤ qt + 2) (g1 : g < 4294967296) (hg0 : 1 ≤ g) :
  ∃ y47 y48 out, oJ N i (d.length + 1) d g = some (y47, y48) ∧ loop (fun v : List Int × Int => lA d i y47 v.1 v.2) (y48, g) = some (out, qt) ∧ iz N i d.length out ∧ val (out.drop i) = val (N.drop i) - qt * val d := by
 have hD := cB hd
 have hD1 := dY hd
 have hbs := dU d.length
 have hP : iz N i d.length N := ⟨hN, rfl, fun k _ => rfl, rfl⟩
 obtain ⟨v1, v2, v3, v4⟩ := hP.vals hN hl hz
 obtain ⟨out, bw, h1, h2, h3, h4, h5, h6, h7, h8⟩ := O1 (N := N) (d := d) (o := i) (len := d.length + 1) (q := g) hN hd (by omega) (RR _) (by omega) (by omega) g1
 have hP1 : iz N i d.length out := ⟨h2, h3, h7, h8⟩
 obtain ⟨w1, w2, w3, w4⟩ := hP1.vals hN hl hz
 have e1 : val (out.drop i) - bw * bp (d.length + 1) = val (N.drop i) - g * val d := by
  apply Fy (i := i)
  rw [gB] at h6
  rw [w1, v1] at h6
  grind
 refine ⟨decide (bw > 0), out, ?_⟩
 rcases (show bw = 0 ∨ bw = 1 by omega) with hb | hb
 ·subst hb
  have hgq : g = qt := by
   rcases (show g = qt ∨ qt + 1 ≤ g by omega) with h | h
   ·exact h
   ·have : (qt + 1) * val d ≤ g * val d := Int.mul_le_mul_of_nonneg_right h hD
    rw [Int.add_mul] at this
    omega
  subst hgq
  refine ⟨out, h1, dm (by simp [lA]), hP1, by omega⟩
 ·subst hb
  have hgq : qt < g := by
   rcases (show qt < g ∨ g = qt by omega) with h | h
   ·exact h
   ·subst h; omega
  obtain ⟨⟨out2, g2⟩, k1, k2, k3, k4⟩ := tz (step := fun v : List Int × Int => lA d i (decide ((1 : Int) > 0)) v.1 v.2)
   (fun v => iz N i d.length v.1 ∧ val (v.1.drop i) = val (N.drop i) - v.2 * val d + bp (d.length + 1) ∧ qt < v.2 ∧ v.2 < 4294967296 ∧ v.2 ≤ qt + 2) (fun v => (v.2 - qt).toNat)
   (fun t => iz N i d.length t.1 ∧ t.2 = qt ∧ val (t.1.drop i) = val (N.drop i) - qt * val d) (by
   rintro ⟨M, g'⟩ ⟨m1, m2, m3, m4, m5⟩
   simp only at m1 m2 m3 m4 m5
   obtain ⟨x1, x2, x3, x4⟩ := m1.vals hN hl hz
   obtain ⟨M2, c, r1, r2, r3, r4, r5, r6, r7, r8⟩ := O2 (N := M) (d := d) (o := i) (len := d.length + 1) m1.1 hd (by rw [m1.2.1]; omega) (RR _) (by rw [m1.2.1]; omega)
   have hP2 : iz N i d.length M2 := ⟨r2, r3.trans m1.2.1, fun k hk => (r7 k hk).trans (m1.2.2.1 k hk), r8.trans m1.2.2.2⟩
   obtain ⟨y1, y2, y3, y4⟩ := hP2.vals hN hl hz
   have e2 : val (M2.drop i) + c * bp (d.length + 1) = val (M.drop i) + val d := by
    apply Fy (i := i)
    rw [gB] at r6
    rw [y1, x1] at r6
    grind
   have hgD : (g' - 1) * val d = g' * val d - val d := by grind
   have hw : IntKind.u64.wrap (g' - 1) = g' - 1 := cJ (by omega) (by omega)
   have hbs1 : bp (d.length + 1) = 4294967296 * bp d.length := rfl
   have hi1 : (SB ((SB ((i : Int) + (d.length : Int))) + 1)).toNat - (i : Int).toNat = d.length + 1 := by rw [az (n := (i : Int) + (d.length : Int)), az]; omega
   simp only [lA]
   rw [bX, hi1, R9, Rj, r1, an, Rj, if_pos (by rw [r3, m1.2.1]; omega), hw]
   by_cases hc : g' - 1 = qt
   ·right
    have hge : qt * val d = g' * val d - val d := by rw [← hc]; exact hgD
    have hc1 : c = 1 := by
     rcases (show c = 0 ∨ c = 1 by omega) with h | h
     ·subst h; omega
     ·exact h
    subst hc1
    have hv : val (M2.drop i) = val (N.drop i) - qt * val d := by omega
    refine ⟨(M2, g' - 1), ?_, hP2, hc, hv⟩
    rw [if_pos (by simp only [Sn]; exact y4.2 (by omega))]
   ·left
    have hle : (qt + 1) * val d ≤ (g' - 1) * val d := Int.mul_le_mul_of_nonneg_right (by omega) hD
    rw [Int.add_mul] at hle
    have hc0 : c = 0 := by
     rcases (show c = 0 ∨ c = 1 by omega) with h | h
     ·exact h
     ·subst h; omega
    subst hc0
    have hv : val (M2.drop i) = val (N.drop i) - (g' - 1) * val d + bp (d.length + 1) := by omega
    refine ⟨(M2, g' - 1), ?_, ⟨hP2, hv, by simp only; omega, by simp only; omega, by simp only; omega⟩, by simp only; omega⟩
    have hle2 : (g' - 1) * val d ≤ (qt + 1) * val d := Int.mul_le_mul_of_nonneg_right (by omega) hD
    rw [Int.add_mul] at hle2
    rw [if_neg (by simp only [Sn]; intro h; have := y4.1 h; omega)]) (out, g) ⟨hP1, by simp only; omega, hgq, g1, hqg2⟩
  exact ⟨out2, h1, by rw [k1, show g2 = qt from k3], k2, k4⟩
theorem PE {N : List Int} {i s : Nat} (hN : aM N) (hs : 1 ≤ s) (hl : i + s + 1 ≤ N.length) (hz : val (N.drop (i + s + 1)) = 0) : ∃ P0, 0 ≤ P0 ∧ P0 < bp (s - 1) ∧ val (N.drop i) = (N.getD (i + s) 0 * 4294967296 + N.getD (i + (s - 1)) 0) * bp (s - 1) + P0 := by
 have e2 := gv (N.drop i) (i := s - 1) (by rw [Rp]; omega)
 rw [List.drop_drop] at e2
 have e3 := fW (l := N) (i := i + (s - 1)) (by omega)
 rw [show i + (s - 1) + 1 = i + s by omega] at e3
 have e4 := fW (l := N) (i := i + s) (by omega)
 rw [hz] at e4
 have a := cB ((hN.drop i).take (s - 1))
 have b := dY ((hN.drop i).take (s - 1))
 rw [Ro, Rp, Nat.min_eq_left (by omega)] at b
 refine ⟨_, a, b, ?_⟩
 rw [e2, e3, e4]
 grind
theorem N4 {d N0 : List Int} (hd : aM d) (hs : 1 ≤ d.length) (ht : 2147483648 ≤ d.getD (d.length - 1) 0) {m : Nat} (hm : 1 ≤ m) (hN0 : aM N0) (hl : N0.length = m + d.length) (hn : N0.length < 100000) (hlow : val (N0.drop m) < val d) (Y : List Int) (hY : Y.length = N0.length) :
  ∃ N q, loop (fun v : List Int × List Int × Int => lB Y d (d.getD (d.length - 1) 0) v.1 v.2.1 v.2.2) (N0, List.replicate m 0, (m : Int) - 1) = some (N, q) ∧ aM N ∧ N.length = N0.length ∧ aM q ∧ q.length = m ∧ val N + val d * val q = val N0 ∧ val N < val d := by
 have hD := cB hd
 have hD1 := dY hd
 have hDp : 0 < val d := by have := cB (hN0.drop m); omega
 have hts := hd.get (d.length - 1)
 have hdt := gv d (i := d.length - 1) (by omega)
 have hdd := fW (l := d) (i := d.length - 1) (by omega)
 rw [jO (l := d) (i := d.length - 1 + 1) (by omega)] at hdd
 have hda := cB (hd.take (d.length - 1))
 have hdb := dY (hd.take (d.length - 1))
 rw [Ro, Nat.min_eq_left (by omega)] at hdb
 rw [hdd] at hdt
 generalize htt : d.getD (d.length - 1) 0 = t at *
 obtain ⟨⟨N, q⟩, h1, h2⟩ := cC (step := fun v : List Int × List Int × Int => lB Y d t v.1 v.2.1 v.2.2) m
  (fun j v => v.2.2 = (m : Int) - 1 - j ∧ aM v.1 ∧ v.1.length = N0.length ∧ aM v.2.1 ∧ v.2.1.length = m ∧ val v.1 + val d * val v.2.1 = val N0 ∧ val (v.1.drop (m - j)) < val d ∧ ∀ k, k < m - j → v.2.1.getD k 0 = 0)
  (fun t => aM t.1 ∧ t.1.length = N0.length ∧ aM t.2 ∧ t.2.length = m ∧ val t.1 + val d * val t.2 = val N0 ∧ val t.1 < val d) (by
  rintro j hj ⟨N, q, x⟩ ⟨g0, g1, g2, g3, g4, g5, g6, g7⟩
  simp only at g0 g1 g2 g3 g4 g5 g6 g7
  left
  obtain ⟨i, hi⟩ : ∃ i, i + 1 = m - j := ⟨m - j - 1, by omega⟩
  rw [← hi] at g6 g7
  have hx : x = (i : Int) := by omega
  subst hx
  have hNi := fW (l := N) (i := i) (by omega)
  have gi := g1.get i
  have gtop := g1.get (i + d.length)
  have gtop1 := g1.get (i + (d.length - 1))
  have hPlt : val (N.drop i) < 4294967296 * val d := by omega
  have hP0 := cB (g1.drop i)
  have hz : val (N.drop (i + d.length + 1)) = 0 := by
   have e2 := gv (N.drop i) (i := d.length + 1) (by rw [Rp]; omega)
   rw [List.drop_drop] at e2
   have a := cB ((g1.drop i).take (d.length + 1))
   have b := cB (g1.drop (i + (d.length + 1)))
   have hbs := dU (d.length + 1)
   have hb1 : bp (d.length + 1) = 4294967296 * bp d.length := rfl
   rcases (show val (N.drop (i + (d.length + 1))) = 0 ∨ 1 ≤ val (N.drop (i + (d.length + 1))) by omega) with h | h
   ·exact h
   ·have : bp (d.length + 1) * 1 ≤ bp (d.length + 1) * val (N.drop (i + (d.length + 1))) := Int.mul_le_mul_of_nonneg_left h (Int.le_of_lt hbs)
    omega
  obtain ⟨P0, p0, p1, hP⟩ := PE g1 hs (by omega) hz
  have hT0 : 0 ≤ N.getD (i + d.length) 0 * 4294967296 + N.getD (i + (d.length - 1)) 0 := by omega
  have hX0 : 0 ≤ (N.getD (i + d.length) 0 * 4294967296 + N.getD (i + (d.length - 1)) 0) / t := Int.ediv_nonneg hT0 (by omega)
  have hX1 := Int.ediv_le_self (b := t) hT0
  obtain ⟨gg, hg⟩ : ∃ gg, gg = if 4294967295 < (N.getD (i + d.length) 0 * 4294967296 + N.getD (i + (d.length - 1)) 0) / t then 4294967295 else (N.getD (i + d.length) 0 * 4294967296 + N.getD (i + (d.length - 1)) 0) / t := ⟨_, rfl⟩
  obtain ⟨q1, q2, q3, q4⟩ := N3 (W := bp (d.length - 1)) (D := val d) (D0 := val (d.take (d.length - 1))) (t := t) (dU _) (by rw [hdt]; grind) hda hdb hP p0 p1 ht hT0 hPlt hg
  have hqt0 : 0 ≤ val (N.drop i) / val d := Int.ediv_nonneg hP0 hD
  have hmod := Int.mul_ediv_add_emod (val (N.drop i)) (val d)
  have hm0 := Int.emod_nonneg (val (N.drop i)) (show val d ≠ 0 by omega)
  have hm1 := Int.emod_lt_of_pos (val (N.drop i)) hDp
  have hcm : val (N.drop i) / val d * val d = val d * (val (N.drop i) / val d) := Int.mul_comm _ _
  have hw1 : SB ((i : Int) + (d.length : Int)) = (i : Int) + (d.length : Int) := az
  have hw2 : SB ((i : Int) + (d.length : Int) + 1) = (i : Int) + (d.length : Int) + 1 := az
  have hw3 : SB ((d.length : Int) - 1) = (d.length : Int) - 1 := az
  have hlen : ((i : Int) + (d.length : Int) + 1).toNat - i = d.length + 1 := by omega
  have hk40 : ∀ (M q' : List Int), lz (i : Int) M q' = some (.inl (M, q', (i : Int) - 1)) := by
   intro M q'
   unfold lz
   rw [az]
  have s1 : ck .u64 (IntKind.u64.wrap (N.getD (i + d.length) 0)) 32 = N.getD (i + d.length) 0 * 4294967296 := by
   have := A8 (N.getD (i + d.length) 0) (s := 32) (by decide)
   rw [show ((32 : Nat) : Int) = 32 from rfl, show ((2 ^ 32 : Nat) : Int) = 4294967296 by decide, Int.emod_eq_of_lt (by omega) (by omega)] at this
   rw [cJ (by omega) (by omega)]; exact this
  have s2 := (Hf (a := N.getD (i + d.length) 0) (b := N.getD (i + (d.length - 1)) 0) (i := 32) gtop.1 gtop1.1 (by rw [show ((2 ^ 32 : Nat) : Int) = 4294967296 by decide]; omega) (by rw [show ((2 ^ 32 : Nat) : Int) = 4294967296 by decide]; omega)).2
  rw [show ((2 ^ 32 : Nat) : Int) = 4294967296 by decide] at s2
  simp only [lB, Rj, R9, hw1, hw2, hw3, hlen, show ((d.length : Int) - 1).toNat = d.length - 1 by omega]
  rw [if_pos (by simp), aO, aO, aO, aO, aO, aO, aO, aO, aO]
  rw [s1, cJ (n := N.getD (i + (d.length - 1)) 0) (by omega) (by omega), s2, fk hT0, cJ (n := _ / t) hX0 (by omega), ← hg, an]
  by_cases c0 : gg = 0
  ·rw [if_pos (by rw [c0]; rfl), hk40]
   have hq0 : val (N.drop i) / val d = 0 := by omega
   rw [hq0] at hmod hcm
   refine ⟨_, rfl, by simp only; omega, g1, g2, g3, g4, g5, ?_, ?_⟩
   ·simp only
    rw [show m - (j + 1) = i by omega]; omega
   ·intro k hk
    exact g7 k (by omega)
  ·rw [if_neg (by simp only [Sn]; exact c0)]
   obtain ⟨y47, y48, out, f1, f2, f3, f4⟩ := O4 (N := N) (d := d) (i := i) (g := gg) (qt := val (N.drop i) / val d) g1 hd (by omega) (by omega) hz hqt0 (by omega) (by omega) q1 q2 q4 (by omega)
   rw [f1, aU, f2, aU, aO, hk40, xA hqt0 (by omega)]
   obtain ⟨o1, o2, o3, o4⟩ := f3
   have hvN := (show iz N i d.length N from ⟨g1, rfl, fun k _ => rfl, rfl⟩).vals g1 (by omega) hz
   have hvo := (show iz N i d.length out from ⟨o1, o2, o3, o4⟩).vals g1 (by omega) hz
   refine ⟨_, rfl, by simp only; omega, o1, o2.trans g2, g3.set _ ⟨hqt0, by omega⟩, by simp only [R7]; exact g4, ?_, ?_, ?_⟩
   ·simp only
    rw [mi (by omega), g7 i (by omega), hvo.1, f4]
    have e := hvN.1
    generalize val (N.drop i) / val d = qt at *
    rw [← g5, e]
    grind
   ·simp only
    rw [show m - (j + 1) = i by omega, f4]; omega
   ·intro k hk
    simp only
    rw [ja (by omega), t8]
    exact g7 k (by omega)) (by
  rintro ⟨N, q, x⟩ ⟨g0, g1, g2, g3, g4, g5, g6, g7⟩
  simp only at g0 g1 g2 g3 g4 g5 g6 g7
  rw [Nat.sub_self, List.drop_zero] at g6
  refine ⟨(N, q), ?_, g1, g2, g3, g4, g5, g6⟩
  simp only [lB]
  rw [if_neg (by simp; omega)]) (s := (N0, List.replicate m 0, (m : Int) - 1)) ⟨by simp, hN0, rfl, aM.rep _, by simp, by simp [A6], by rw [Nat.sub_zero]; exact hlow, fun k _ => by
   simp only [Re, List.getElem?_replicate]; split <;> rfl⟩
 exact ⟨N, q, h1, h2⟩
theorem Vm.Canon.pos {l : List Int} (h : Canon l) (hl : l ≠ []) : 0 < val l := by
 have := cB h.1
 rcases (show val l = 0 ∨ 0 < val l by omega) with e | e
 ·exact absurd (h.zero e) hl
 ·exact e
theorem FA {a b : List Int} (ha : Canon a) (hb : Canon b) (hb0 : b ≠ []) (la : a.length < 50000) (lb : b.length < 40000) : og a b = some (bl (val a / val b), bl (val a % val b)) := by
 have va := cB ha.1
 have vb := hb.pos hb0
 unfold og
 rw [CR ha.1 hb.1 (by omega) (by omega), an]
 by_cases hc : val a < val b
 ·rw [if_pos (by simp only [RI]; exact Gg.2 hc), vU (by omega), an, Int.ediv_eq_zero_of_lt va hc, Int.emod_eq_of_lt va hc, tk ha]
  rfl
 ·rw [if_neg (by simp only [RI]; exact fun e => hc (Gg.1 e))]
  have hlb : 1 ≤ b.length := by
   cases b with
   | nil => exact absurd rfl hb0
   | cons _ _ => simp
  have hlab : b.length ≤ a.length := by
   have := hb.len_le (n := a.length)
   have := dY ha.1
   omega
  have htop : b.getD (b.length - 1) 0 ≠ 0 := by
   rcases hb.2 with h | h
   ·exact absurd h hb0
   ·exact h
  have hg := hb.1.get (b.length - 1)
  obtain ⟨k, k1, k2, k3, k4⟩ := P6 (x := b.getD (b.length - 1) 0) (by omega) hg.2
  obtain ⟨A, a1, a2, a3, a4, a5⟩ := Gh ha.1 (by omega) k2
  obtain ⟨B, b1, b2, b3, b4, b5⟩ := Gh hb.1 (by omega) k2
  have hp := AC k2
  have hbs := gv b (i := b.length - 1) (by omega)
  have hbd := fW (l := b) (i := b.length - 1) (by omega)
  rw [jO (l := b) (i := b.length - 1 + 1) (by omega)] at hbd
  have hba := cB (hb.1.take (b.length - 1))
  have hbb := dY (hb.1.take (b.length - 1))
  rw [Ro, Nat.min_eq_left (by omega)] at hbb
  rw [hbd] at hbs
  have hbp : bp b.length = 4294967296 * bp (b.length - 1) := by rw [show b.length = (b.length - 1) + 1 by omega]; rfl
  have hb1p := dU (b.length - 1)
  generalize hpk : ((2 ^ k : Nat) : Int) = p at *
  generalize htt : b.getD (b.length - 1) 0 = t at *
  have hDlo : 2147483648 * bp (b.length - 1) ≤ val B := by
   have h1 : (t * p) * bp (b.length - 1) ≤ val B := by
    rw [b4, hbs]
    have := Int.mul_nonneg hba (show 0 ≤ p by omega)
    have e : (val (b.take (b.length - 1)) + bp (b.length - 1) * (t + 4294967296 * 0)) * p = val (b.take (b.length - 1)) * p + t * p * bp (b.length - 1) := by grind
    rw [e]; omega
   have h2 : 2147483648 * bp (b.length - 1) ≤ (t * p) * bp (b.length - 1) := Int.mul_le_mul_of_nonneg_right k3 (Int.le_of_lt hb1p)
   omega
  have hDhi : val B < bp b.length := by
   have h1 : (val (b.take (b.length - 1)) + 1) * p ≤ bp (b.length - 1) * p := Int.mul_le_mul_of_nonneg_right (by omega) (by omega)
   have h2 : (t * p + p) * bp (b.length - 1) ≤ 4294967296 * bp (b.length - 1) := by
    apply Int.mul_le_mul_of_nonneg_right _ (Int.le_of_lt hb1p)
    have h3 : (t + 1) * p ≤ 4294967296 := by
     have hpp := AD k2
     rw [hpk] at hpp
     have h4 : t < ((2 ^ (32 - k) : Nat) : Int) := by
      rcases Int.lt_or_le t ((2 ^ (32 - k) : Nat) : Int) with h | h
      ·exact h
      ·have := Int.mul_le_mul_of_nonneg_right h (show 0 ≤ p by omega); omega
     have := Int.mul_le_mul_of_nonneg_right (show t + 1 ≤ ((2 ^ (32 - k) : Nat) : Int) by omega) (show 0 ≤ p by omega)
     omega
    rw [Int.add_mul] at h3; omega
   have e : val B = val (b.take (b.length - 1)) * p + t * p * bp (b.length - 1) := by rw [b4, hbs]; grind
   have e1 : (val (b.take (b.length - 1)) + 1) * p = val (b.take (b.length - 1)) * p + p := by grind
   have e2 : bp (b.length - 1) * p = p * bp (b.length - 1) := Int.mul_comm _ _
   have e3 : (t * p + p) * bp (b.length - 1) = t * p * bp (b.length - 1) + p * bp (b.length - 1) := by grind
   rw [hbp]
   omega
  have hB0 := cB b2
  have hcan := jX hB0
  have hvd := cM hB0
  have hdl : (bl (val B)).length = b.length := by
   have h1 := (s7 hB0 (n := b.length)).2 hDhi
   have h2 : ¬ (bl (val B)).length ≤ b.length - 1 := by
    rw [s7 hB0]; omega
   omega
  have hdt : 2147483648 ≤ (bl (val B)).getD ((bl (val B)).length - 1) 0 := by
   have hs := gv (bl (val B)) (i := (bl (val B)).length - 1) (by omega)
   have hd := fW (l := bl (val B)) (i := (bl (val B)).length - 1) (by omega)
   rw [jO (l := bl (val B)) (i := (bl (val B)).length - 1 + 1) (by omega)] at hd
   have hlt := dY (hcan.1.take ((bl (val B)).length - 1))
   rw [Ro, Nat.min_eq_left (by omega)] at hlt
   rw [hd, hvd] at hs
   rw [hdl] at hs hlt ⊢
   generalize (bl (val B)).getD (b.length - 1) 0 = y at *
   rcases Int.lt_or_le y 2147483648 with h | h
   ·have : bp (b.length - 1) * (y + 1) ≤ bp (b.length - 1) * 2147483648 := Int.mul_le_mul_of_nonneg_left (by omega) (Int.le_of_lt hb1p)
    rw [Int.mul_add] at this
    rw [show y + 4294967296 * 0 = y by omega] at hs
    omega
   ·exact h
  have hlow : val (A.drop (a.length + 1 - b.length)) < val B := by
   have e2 := gv (A.drop (a.length + 1 - b.length)) (i := b.length - 1) (by rw [Rp]; omega)
   rw [List.drop_drop, show a.length + 1 - b.length + (b.length - 1) = a.length by omega, fW (l := A) (i := a.length) (by omega), jO (l := A) (i := a.length + 1) (by omega)] at e2
   have hlt := dY ((a2.drop (a.length + 1 - b.length)).take (b.length - 1))
   rw [Ro, Rp, Nat.min_eq_left (by omega)] at hlt
   generalize A.getD a.length 0 = y at *
   have : bp (b.length - 1) * (y + 1) ≤ bp (b.length - 1) * 2147483648 := Int.mul_le_mul_of_nonneg_left (by omega) (Int.le_of_lt hb1p)
   rw [Int.mul_add] at this
   rw [show y + 4294967296 * 0 = y by omega] at e2
   omega
  have hw : SB ((b.length : Int) - 1) = (b.length : Int) - 1 := az
  have hw2 : SB ((A.length : Int) - (b.length : Int)) = ((a.length + 1 - b.length : Nat) : Int) := by rw [az]; omega
  obtain ⟨N, q, n1, n2, n3, n4, n5, n6, n7⟩ := N4 (d := bl (val B)) (N0 := A) (m := a.length + 1 - b.length) hcan.1 (by omega) hdt (by omega) a2 (by omega) (by omega) (by rw [hvd]; exact hlow) A rfl
  rw [hdl] at n1
  rw [hw, aO, aO, show ((b.length : Int) - 1).toNat = b.length - 1 by omega, htt, k1, an, a1, an, b1, an, iO (by omega), an, md b2, hdl, hw, aO, aO, show ((b.length : Int) - 1).toNat = b.length - 1 by omega]
  have hgt := hcan.1.get (b.length - 1)
  rw [cJ (n := (bl (val B)).getD (b.length - 1) 0) (by omega) (by omega), an, hw2, aO, aO, Rj, RG, az (n := ((a.length + 1 - b.length : Nat) : Int) - 1), an, n1, aU]
  rw [iO (by omega), an, Sf (by omega), iO (by omega), an, aO, md n4, md n2]
  have hv0 := cB n2
  have hq0 := cB n4
  rw [O3 (d9 hv0) (by have := vE hv0 (dY n2); omega) k2, hpk, an, cM hv0]
  rw [hvd] at n6 n7
  rw [a4, b4] at n6
  rw [b4] at n7
  have hdm : val a = val q * val b + val N / p ∧ 0 ≤ val N / p ∧ val N / p < val b := by
   have e1 : val N = (val a - val b * val q) * p := by grind
   have e2 : val N / p = val a - val b * val q := by rw [e1]; exact Int.mul_ediv_cancel _ (by omega)
   refine ⟨by rw [e2]; grind, Int.ediv_nonneg hv0 (by omega), ?_⟩
   exact Int.ediv_lt_of_lt_mul (by omega) n7
  have hq : val a / val b = val q := by
   rw [hdm.1, Int.add_comm, Int.add_mul_ediv_right _ _ (by omega), Int.ediv_eq_zero_of_lt hdm.2.1 hdm.2.2]; omega
  have hr : val a % val b = val N / p := by
   rw [hdm.1, Int.add_comm, Int.add_mul_emod_self_right, Int.emod_eq_of_lt hdm.2.1 hdm.2.2]
  rw [hq, hr]
def qd (a b : List Int) : List Int × List Int × Int := if VN a ∧ VN b then (if b = [] then ([], [], 9) else (bl (val a / val b), bl (val a % val b), 0)) else ([], [], 20)
theorem C3 {a b : List Int} (ha : aM a) (hb : aM b) (la : a.length < 100000) (lb : b.length < 100000) : lK a b = some (qd a b) := by
 unfold lK qd
 rw [vj (by omega) (by omega), an]
 by_cases h : VN a ∧ VN b
 ·rw [if_pos h, b8, if_pos h]
  by_cases hb0 : b = []
  ·subst hb0; rw [if_pos (by simp), if_pos rfl]
  ·have : b.length ≠ 0 := fun e => hb0 (RH.1 e)
   have h1 := h.1.1
   have h2 := h.2.1
   rw [if_neg (by simp only [Sn]; omega), if_neg hb0, FA (h.1.canon ha) (h.2.canon hb) hb0 (by omega) (by omega), aU]
 ·rw [if_neg h, if_pos (by simp), if_neg h]
def cQ (a b : Int) : Int := ((Nat.gcd a.toNat b.toNat : Nat) : Int)
theorem KS (a b : Int) : 0 ≤ cQ a b := Int.natCast_nonneg _
theorem MW {a : Int} (h : 0 ≤ a) : cQ a 0 = a := by unfold cQ; simp; omega
theorem MX {a b : Int} (ha : 0 ≤ a) (hb : 0 < b) : cQ b (a % b) = cQ a b := by
 unfold cQ
 congr 1
 rw [Int.toNat_emod ha (Int.le_of_lt hb), Nat.gcd_comm, ← Nat.gcd_rec, Nat.gcd_comm]
theorem O5 {a b : Int} (ha : 0 ≤ a) (hb : 0 ≤ b) : cQ a b ≤ max a b := by
 unfold cQ
 by_cases h : b = 0
 ·subst h; simp
 ·have := Nat.gcd_le_right a.toNat (n := b.toNat) (by omega)
  omega
theorem N5 {a b : List Int} (ha : Canon a) (hb : Canon b) (la : a.length ≤ 1000) (lb : b.length ≤ 1000) : loop (fun v : List Int × List Int => oh v.1 v.2) (a, b) = some (bl (cQ (val a) (val b))) := by
 obtain ⟨t, h1, h2⟩ := tz (step := fun v : List Int × List Int => oh v.1 v.2) (fun v => Canon v.1 ∧ Canon v.2 ∧ v.1.length ≤ 1000 ∧ v.2.length ≤ 1000 ∧ cQ (val v.1) (val v.2) = cQ (val a) (val b)) (fun v => (val v.2).toNat) (fun t => t = bl (cQ (val a) (val b))) (by
  rintro ⟨x, y⟩ ⟨g1, g2, g3, g4, g5⟩
  simp only at g1 g2 g3 g4 g5
  have v1 := cB g1.1
  simp only [oh]
  by_cases c : y = []
  ·right
   subst c
   refine ⟨x, by rw [b8], ?_⟩
   rw [← g5]
   simp only [val]
   rw [MW v1, tk g1]
  ·left
   have hp := g2.pos c
   have hlen : 0 < y.length := by
    cases y with
    | nil => exact absurd rfl c
    | cons _ _ => simp
   have r0 := Int.emod_nonneg (val x) (show val y ≠ 0 by omega)
   have r1 := Int.emod_lt_of_pos (val x) hp
   have hy := dY g2.1
   rw [if_pos (by simp; omega), FA g1 g2 c (by omega) (by omega), aU, vU (by omega), an]
   refine ⟨_, rfl, ⟨g2, jX r0, g4, ?_, ?_⟩, ?_⟩
   ·have := vE r0 (show val x % val y < bp y.length by omega)
    simp only; omega
   ·simp only
    rw [cM r0, MX v1 hp, g5]
   ·simp only
    rw [cM r0]; omega) (a, b) ⟨ha, hb, la, lb, rfl⟩
 rw [h1, h2]
def iA (a b : List Int) : List Int × Int := if VN a ∧ VN b then (bl (cQ (val a) (val b)), 0) else ([], 20)
theorem DF {a b : List Int} (ha : aM a) (hb : aM b) (la : a.length < 100000) (lb : b.length < 100000) : jV a b = some (iA a b) := by
 unfold jV iA
 rw [vj (by omega) (by omega), an, vU (by omega), an]
 by_cases h : VN a ∧ VN b
 ·have h1 := h.1.1
  have h2 := h.2.1
  rw [if_pos h, b8, if_pos h, N5 (h.1.canon ha) (h.2.canon hb) (by omega) (by omega), an]
 ·rw [if_neg h, if_pos (by simp), if_neg h]
theorem O6 {v w : Int} (hv : 0 ≤ v) (hw : 0 < w) (h : v < bp 64) (h' : w < bp 64) : lK (bl v) (bl w) = some (bl (v / w), bl (v % w), 0) := by
 rw [C3 (d9 hv) (d9 (by omega)) (gL hv h) (gL (by omega) h'), qd, if_pos ⟨(eE hv).2 h, (eE (by omega)).2 h'⟩, if_neg (fun e => by have := (wl (by omega)).1 e; omega), cM hv, cM (by omega)]
instance : DecidableEq cF := fun a b => decidable_of_iff (a.Num = b.Num ∧ a.Den = b.Den) ⟨fun h => by cases a; cases b; cases h.1; cases h.2; rfl, fun h => h ▸ ⟨rfl, rfl⟩⟩
def fr (n d : Int) : cF := ⟨bl (n / cQ n d), bl (d / cQ n d)⟩
theorem N6 {n d : Int} (h1 : 0 < d) : 0 < cQ n d := by
 unfold cQ
 have : 0 < Nat.gcd n.toNat d.toNat := Nat.gcd_pos_of_pos_right _ (by omega)
 omega
theorem Gi {n d : Int} (hn : 0 ≤ n) (hd : 0 < d) : ∃ g a b, 0 < g ∧ 0 ≤ a ∧ 0 < b ∧ n = g * a ∧ d = g * b ∧ fr n d = ⟨bl a, bl b⟩ ∧ cQ a b = 1 ∧ a ≤ n ∧ b ≤ d := by
 obtain ⟨x, rfl⟩ := Int.eq_ofNat_of_zero_le hn
 obtain ⟨y, rfl⟩ := Int.eq_ofNat_of_zero_le (Int.le_of_lt hd)
 have hy : 0 < y := by omega
 have g0 : 0 < Nat.gcd x y := Nat.gcd_pos_of_pos_right _ hy
 have e1 := Nat.mul_div_cancel' (Nat.gcd_dvd_left x y)
 have e2 := Nat.mul_div_cancel' (Nat.gcd_dvd_right x y)
 have hb : 0 < y / Nat.gcd x y := Nat.div_pos (Nat.gcd_le_right _ hy) g0
 have c1 := Nat.coprime_div_gcd_div_gcd g0
 refine ⟨(Nat.gcd x y : Nat), (x / Nat.gcd x y : Nat), (y / Nat.gcd x y : Nat), Int.natCast_pos.2 g0, Int.natCast_nonneg _, Int.natCast_pos.2 hb, by rw [← Int.natCast_mul, e1], by rw [← Int.natCast_mul, e2], ?_, ?_, ?_, ?_⟩
 ·unfold fr cQ
  simp only [Rj, Int.natCast_ediv]
 ·unfold cQ
  simp only [Rj]
  have : Nat.gcd (x / Nat.gcd x y) (y / Nat.gcd x y) = 1 := c1
  rw [this]; rfl
 ·exact_mod_cast Nat.div_le_self x (Nat.gcd x y)
 ·exact_mod_cast Nat.div_le_self y (Nat.gcd x y)
def FX (x : cF) : Prop := aM x.Num ∧ aM x.Den ∧ True ∧ True
theorem uR (l : List Int) : fT l = some (decide (VN l)) := by
 by_cases h : l.length < 1000000
 ·exact re h
 ·unfold fT
  rw [if_neg (by simp; omega), RJ (fun k : VN l => by have := k.1; omega)]
  rfl
theorem O7 {a b : List Int} (ha : aM a) (hb : aM b) : jV a b = some (iA a b) := by
 by_cases h : VN a ∧ VN b
 ·exact DF ha hb (by have := h.1.1; omega) (by have := h.2.1; omega)
 ·unfold jV iA iU nM
  rw [uR, uR, an, an, if_neg h]
  by_cases k : VN a <;> by_cases m : VN b <;> simp_all
def FV (x : cF) : Prop := VN x.Num ∧ VN x.Den ∧ x.Den ≠ [] ∧ cQ (val x.Num) (val x.Den) = 1
instance (x : cF) : Decidable (FV x) := by unfold FV; infer_instance
theorem FV.pos {x : cF} (h : FV x) (hx : FX x) : 0 ≤ val x.Num ∧ 0 < val x.Den ∧ val x.Num < bp 64 ∧ val x.Den < bp 64 := by
 have c := h.2.1.canon hx.2.1
 exact ⟨cB hx.1, Vm.Canon.pos c h.2.2.1, ((h.1.canon hx.1).len_le).1 h.1.1, (c.len_le).1 h.2.1.1⟩
theorem P7 {n d : Int} (hn : 0 ≤ n) (hd : 0 < d) (h1 : n < bp 64) (h2 : d < bp 64) : FX (fr n d) ∧ FV (fr n d) := by
 obtain ⟨g, a, b, g0, a0, b0, e1, e2, e3, e4, e5, e6⟩ := Gi hn hd
 rw [e3]
 have la := gL a0 (by omega)
 have lb := gL (Int.le_of_lt b0) (by omega)
 refine ⟨⟨d9 a0, d9 (by omega), trivial, trivial⟩, (eE a0).2 (by omega), (eE (by omega)).2 (by omega), fun h => ?_, ?_⟩
 ·have := (wl (by omega)).1 h; omega
 ·show cQ (val (bl a)) (val (bl b)) = 1
  rw [cM a0, cM (by omega), e4]
theorem Kp {x : cF} (hx : FX x) : rQ x = some (decide (FV x)) := by
 obtain ⟨u1, u2, l1, l2⟩ := hx
 unfold rQ
 rw [O7 u1 u2, uN (by decide), aV]
 unfold iA
 by_cases h : VN x.Num ∧ VN x.Den
 ·rw [if_pos h, aU, aU, if_pos (by simp)]
  by_cases hd : x.Den = []
  ·rw [if_neg (by simp [hd])]
   unfold jG
   rw [RJ (fun k : FV x => k.2.2.1 hd)]
  ·have hl : 0 < x.Den.length := by cases hq : x.Den with | nil => exact absurd hq hd | cons => simp
   have g0 := KS (val x.Num) (val x.Den)
   have hle := O5 (cB u1) (cB u2)
   have b1 := ((h.1.canon u1).len_le).1 h.1.1
   have b2 := ((h.2.canon u2).len_le).1 h.2.1
   rw [if_pos (by simp; omega), CR (d9 g0) (d9 (by decide)) (by have := gL g0 (by omega); omega) (by decide), an, cM g0, cM (by decide)]
   unfold jG
   congr 1
   by_cases c : cQ (val x.Num) (val x.Den) = 1
   ·rw [RL (show FV x from ⟨h.1, h.2, hd, c⟩), c]; rfl
   ·rw [RJ (fun k : FV x => c k.2.2.2)]
    have hh : ¬ dM (cQ (val x.Num) (val x.Den)) 1 = 0 := fun k => c (MM.1 k)
    simp
    exact hh
 ·rw [if_neg h, aU, aU, b8]
  unfold jG
  rw [RJ (fun k : FV x => h ⟨k.1, k.2.1⟩)]
def NX (a : bb) : Prop := aM a.n ∧ a.n.length < 100000
def wS (f : List Int → List Int → List Int × Int) (a b : bb) : bb := if a.e ≠ 0 then a else if b.e ≠ 0 then b else ⟨(f a.n b.n).1, (f a.n b.n).2⟩
section
variable {a b : bb}
theorem N7 (ha : NX a) (hb : NX b) : iE a b = some (wS qc a b) := by
 unfold iE uw wS
 rw [DD ha.1 hb.1 ha.2 hb.2]
 by_cases h : a.e = 0 <;> by_cases k : b.e = 0 <;> simp [h, k, aF]
theorem O8 (ha : NX a) (hb : NX b) : ng a b = some (wS uc a b) := by
 unfold ng ux wS
 rw [DC ha.1 hb.1 ha.2 hb.2]
 by_cases h : a.e = 0 <;> by_cases k : b.e = 0 <;> simp [h, k, aF]
theorem Bb (ha : NX a) (hb : NX b) : qq a b = some (wS iA a b) := by
 unfold qq wS
 rw [DF ha.1 hb.1 ha.2 hb.2]
 by_cases h : a.e = 0 <;> by_cases k : b.e = 0 <;> simp [h, k, aF]
def p5 (x y : List Int) : List Int × Int := ((qd x y).1, (qd x y).2.2)
theorem pA (ha : NX a) (hb : NX b) : mP a b = some (wS p5 a b) := by
 unfold mP uI wS p5
 rw [C3 ha.1 hb.1 ha.2 hb.2]
 by_cases h : a.e = 0 <;> by_cases k : b.e = 0 <;> simp [h, k, aF, ko]
theorem AE (x y : bb) : loop (fun v : Int => jF x y v) 0 = some (if x.e ≠ 0 then .inr x.e else if y.e ≠ 0 then .inr y.e else .inl ()) := by
 by_cases h : x.e = 0
 rotate_left
 ·rw [if_pos h, dm (t := .inr x.e)]
  unfold jF
  simp [h]
 rw [if_neg (by simpa using h), dH (s' := 1) (by unfold jF; simp [h]; rfl)]
 by_cases k : y.e = 0
 rotate_left
 ·rw [if_pos k, dm (t := .inr y.e)]
  unfold jF
  simp [k]
 rw [if_neg (by simpa using k), dH (s' := 2) (by unfold jF; simp [k]; rfl), dm (t := .inl ())]
 unfold jF
 simp
end
def zr : cF := ⟨[], []⟩
def nm (v : Int) : bb := ⟨(fu v).1, (fu v).2⟩
theorem p6 {v : Int} (h0 : 0 ≤ v) : NX (nm v) := by
 unfold nm fu NX
 split
 ·rename_i h; exact ⟨d9 h0, gL h0 h⟩
 ·exact ⟨aM.nil, by decide⟩
theorem eC {v : Int} (h : v < bp 64) : nm v = ⟨bl v, 0⟩ := by unfold nm fu; rw [if_pos h]
theorem ib {v : Int} (h : ¬ v < bp 64) : nm v = ⟨[], 1⟩ := by unfold nm fu; rw [if_neg h]
theorem LM {n d : Int} (hn : 0 ≤ n) (hd : 0 < d) : q9 (nm n) (nm d) = some (if n < bp 64 ∧ d < bp 64 then (fr n d, 0) else (zr, 1)) := by
 unfold q9
 have on := p6 hn
 have od := p6 (Int.le_of_lt hd)
 by_cases h : n < bp 64
 rotate_left
 ·rw [if_neg (fun k => h k.1), Bb on od, an]
  have e1 : wS iA (nm n) (nm d) = nm n := by rw [ib h]; unfold wS; rw [bX]
  rw [e1, pA on on, an, pA od on, an, AE]
  have e2 : (wS p5 (nm n) (nm n)).e = 1 := by rw [ib h]; unfold wS; rw [bX]
  rw [e2]; rfl
 by_cases k : d < bp 64
 rotate_left
 ·rw [if_neg (fun h => k h.2), Bb on od, an]
  have e1 : wS iA (nm n) (nm d) = nm d := by rw [ib k, eC h]; unfold wS; rw [b8, bX]
  rw [e1, pA on od, an, pA od od, an, AE]
  have e2 : (wS p5 (nm n) (nm d)).e = 1 := by rw [ib k, eC h]; unfold wS; rw [b8, bX]
  rw [e2]; rfl
 rw [if_pos ⟨h, k⟩, Bb on od, an]
 have vn := (eE hn).2 h
 have vd := (eE (Int.le_of_lt hd)).2 k
 have g0 : 0 < cQ n d := N6 hd
 have gle : cQ n d ≤ d := by
  obtain ⟨y, rfl⟩ := Int.eq_ofNat_of_zero_le (Int.le_of_lt hd)
  unfold cQ
  have : Nat.gcd n.toNat y ≤ y := Nat.gcd_le_right _ (by omega)
  simp only [Rj]; omega
 have e1 : wS iA (nm n) (nm d) = nm (cQ n d) := by
  rw [eC h, eC k, eC (by omega)]
  unfold wS iA
  simp only [ne_eq, not_true_eq_false, if_false]
  rw [if_pos ⟨vn, vd⟩, cM hn, cM (by omega)]
 have vg := (eE (Int.le_of_lt g0)).2 (by omega : cQ n d < bp 64)
 have hne : bl (cQ n d) ≠ [] := fun h => by have := (wl (by omega)).1 h; omega
 rw [e1, pA on (p6 (by omega)), an, pA od (p6 (by omega)), an]
 have e2 : ∀ {v : Int}, 0 ≤ v → v < bp 64 → wS p5 (nm v) (nm (cQ n d)) = ⟨bl (v / cQ n d), 0⟩ := fun {v} v0 v1 => by
  rw [eC v1, eC (by omega)]
  unfold wS p5 qd
  simp only [ne_eq, not_true_eq_false, if_false]
  rw [if_pos ⟨(eE v0).2 v1, vg⟩, if_neg hne, cM v0, cM (by omega)]
 rw [e2 hn h, e2 (by omega) k, AE]
 rfl
def BL (p q : List Int) : cF × Int := if VN p ∧ VN q then (if q = [] then (zr, 9) else (fr (val p) (val q), 0)) else (zr, 20)
theorem PF {q : List Int} (h : VN q) (hu : aM q) (hq : q ≠ []) : 0 < val q := Vm.Canon.pos (h.canon hu) hq
theorem Ci {q : List Int} (h : VN q) (hu : aM q) : val q < bp 64 := ((h.canon hu).len_le).1 h.1
theorem xd {q : List Int} (h : VN q) (hu : aM q) : (⟨q, 0⟩ : bb) = nm (val q) := by
 rw [eC (Ci h hu), tk (h.canon hu)]
theorem N8 {p q : List Int} (hp : aM p) (hq : aM q) : oy p q = some (BL p q) := by
 unfold oy BL
 rw [uR, uR, an, an]
 unfold rc iW
 by_cases h1 : VN p
 rotate_left
 ·rw [if_pos (by simp [h1]), if_pos rfl, if_neg (fun k => h1 k.1)]; rfl
 rw [if_neg (by simp [h1])]
 by_cases h2 : VN q
 rotate_left
 ·rw [if_pos (by simp [h2]), if_neg (fun k => h2 k.2)]; rfl
 rw [if_neg (by simp [h2]), if_pos (show VN p ∧ VN q from ⟨h1, h2⟩)]
 by_cases h3 : q = []
 ·rw [if_pos (show ((q.length : Int) == 0) = true by simp [h3]), if_pos h3]; rfl
 rw [if_neg (show ¬ ((q.length : Int) == 0) = true by simp [h3]), if_neg h3, an, an, xd h1 hp, xd h2 hq, LM (cB hp) (PF h2 hq h3), if_pos ⟨Ci h1 hp, Ci h2 hq⟩]
 rfl
theorem tp {v : Int} (h : v < 9223372036854775808) : v < bp 64 := Int.lt_trans h (by decide)
theorem Gj {v : Int} (h0 : 0 ≤ v) (h : v < 9223372036854775808) : oi v = some (nm v) := by
 unfold oi
 rw [uN h, t8, aU, eC (tp h)]
theorem Gk {p q : List Int} (v1 : VN p) (u1 : aM p) (v2 : VN q) (u2 : aM q) : iE ⟨p, 0⟩ ⟨q, 0⟩ = some (nm (val p * val q)) := by
 rw [N7 ⟨u1, by have := v1.1; show p.length < 100000; omega⟩ ⟨u2, by have := v2.1; show q.length < 100000; omega⟩]
 unfold wS qc
 simp only [ne_eq, not_true_eq_false, if_false]
 rw [if_pos ⟨v1, v2⟩]; rfl
theorem O9 {a b : Int} (ha : 0 ≤ a) (hb : 0 ≤ b) : ng (nm a) (nm b) = some (nm (a + b)) := by
 rw [O8 (p6 ha) (p6 hb)]
 congr 1
 by_cases h : a < bp 64
 ·by_cases k : b < bp 64
  ·rw [eC h, eC k]
   unfold wS nm
   simp only [ne_eq, not_true_eq_false, if_false]
   rw [Gf ha hb h k]
  ·rw [eC h, ib k, ib (show ¬ a + b < bp 64 by omega)]
   unfold wS
   simp
 ·rw [ib h, ib (show ¬ a + b < bp 64 by omega)]
  unfold wS
  simp
def xp (x : cF) (u : Int) : Int × Int := if FV x then (if u < 1 ∨ u > 4294967296 then (0, 2) else if val x.Num * (2 * u) + val x.Den < bp 64 ∧ 2 * val x.Den < bp 64 then (if (val x.Num * (2 * u) + val x.Den) / (2 * val x.Den) < 9223372036854775808 then ((val x.Num * (2 * u) + val x.Den) / (2 * val x.Den), 0) else (0, 1)) else (0, 1)) else (0, 20)
theorem Pb {x : cF} (hx : FX x) (u : Int) : rR x u = some (xp x u) := by
 unfold rR xp
 rw [Kp hx, an]
 by_cases vx : FV x
 rotate_left
 ·rw [if_pos (by simp [vx]), if_neg vx]
 obtain ⟨a1, a2, a3, a4⟩ := vx.pos hx
 rw [if_neg (by simp [vx]), if_pos vx]
 unfold qX
 by_cases h1 : u < 1
 ·rw [if_pos (show decide (u < 1) = true by simpa using h1), if_pos rfl, if_pos (show u < 1 ∨ u > 4294967296 from .inl h1)]
 rw [if_neg (show ¬ decide (u < 1) = true by simpa using h1)]
 by_cases h2 : u > 4294967296
 ·rw [if_pos (show decide (u > 4294967296) = true by simpa using h2), if_pos (show u < 1 ∨ u > 4294967296 from .inr h2)]
 rw [if_neg (show ¬ decide (u > 4294967296) = true by simpa using h2), if_neg (show ¬ (u < 1 ∨ u > 4294967296) by omega), az]
 unfold iW
 simp only [an]
 have two : ∀ {p : List Int} {v : Int}, VN p → aM p → 0 ≤ v → v < 9223372036854775808 → iE ⟨p, 0⟩ (nm v) = some (nm (val p * v)) := fun {p v} v1 u1 v0 v2 => by
  rw [eC (tp v2), Gk v1 u1 ((eE v0).2 (tp v2)) (d9 v0), cM v0]
 have two' : iE (nm 2) ⟨x.Den, 0⟩ = some (nm (2 * val x.Den)) := by
  rw [eC (tp (by decide)), Gk ((eE (by decide)).2 (tp (by decide))) (d9 (by decide)) vx.2.1 hx.2.1, cM (by decide)]
 have p1 : 0 ≤ val x.Num * (2 * u) := Int.mul_nonneg a1 (by omega)
 rw [Gj (by omega) (by omega), an, two vx.1 hx.1 (by omega) (by omega), an, xd vx.2.1 hx.2.1, O9 p1 (Int.le_of_lt a2), an, Gj (by decide) (by decide), an, ← xd vx.2.1 hx.2.1, two', an]
 unfold qW
 have p2 : 0 ≤ val x.Num * (2 * u) + val x.Den := by omega
 have p3 : 0 < 2 * val x.Den := by omega
 generalize val x.Num * (2 * u) + val x.Den = a at *
 generalize 2 * val x.Den = b at *
 by_cases h : a < bp 64
 rotate_left
 ·rw [ib h, bX, if_pos rfl, if_neg (fun k => h k.1)]
 by_cases k : b < bp 64
 rotate_left
 ·rw [eC h, ib k, b8, bX, if_neg (fun h => k h.2)]
 have q0 : 0 ≤ a / b := Int.ediv_nonneg p2 (Int.le_of_lt p3)
 have q1 : a / b ≤ a := Int.ediv_le_self _ p2
 rw [eC h, eC k, b8, b8, O6 p2 p3 h k, cz, JV (d9 q0) (gL q0 (by omega)), if_pos ⟨h, k⟩]
 unfold B6
 have vq := (eE q0).2 (by omega)
 by_cases c : a / b < 9223372036854775808
 ·rw [if_pos (show VN (bl (a / b)) ∧ val (bl (a / b)) < 9223372036854775808 from ⟨vq, by rw [cM q0]; exact c⟩), aU, b8, if_pos c, cM q0]
 ·rw [if_neg (show ¬ (VN (bl (a / b)) ∧ val (bl (a / b)) < 9223372036854775808) from fun k => by rw [cM q0] at k; exact c k.2), aU, if_pos (by simp), if_neg c]
def uh (d x : Int) : Int := if d = 0 then 1 else if d = 1 then 65536 - x else x
def eW (s : Int) (l ds : List Int) : Nat → Int
 | 0 => s
 | n + 1 => eW s l ds n * uh (ds.getD n 0) (l.getD n 0)
theorem PG {d x : Int} (h : cE x) : 1 ≤ uh d x ∧ uh d x ≤ 65536 := by
 unfold cE at h
 unfold uh
 split
 ·omega
 ·split <;> omega
theorem Cj : bp 1 = 4294967296 := by decide
theorem AF {s : Int} (s0 : 1 ≤ s) (s1 : s ≤ 65536) {l ds : List Int} {n : Nat} (h : ∀ i, i < n → cE (l.getD i 0)) : 1 ≤ eW s l ds n ∧ eW s l ds n < bp (n + 1) := by
 induction n with
 | zero => exact ⟨s0, by rw [Cj]; simp only [eW]; omega⟩
 | succ n ih =>
  have h1 := PG (d := ds.getD n 0) (h n (by omega))
  have h2 := ih fun i hi => h i (by omega)
  simp only [eW]
  refine ⟨?_, Hg (by omega) h2.2 (by omega) (by rw [Cj]; omega)⟩
  have := Int.mul_le_mul h2.1 h1.1 (by omega) (by omega)
  omega
theorem KT {s : Int} (s0 : 1 ≤ s) (s1 : s ≤ 65536) {l ds : List Int} (hl : ds.length ≤ l.length) (hn : ds.length ≤ 5) (h : ∀ i, i < ds.length → cE (l.getD i 0)) (hd : ∀ x ∈ ds, 0 ≤ x ∧ x ≤ 2) {i : Nat} (hi : i < ds.length) :
  lS l ds (bl (eW s l ds i)) i = some (.inl (bl (eW s l ds (i + 1)), ((i + 1 : Nat) : Int))) := by
 obtain ⟨w0, w1⟩ := AF s0 s1 (ds := ds) (n := i) fun j hj => h j (by omega)
 have hp := h i hi
 have hdi := po hd hi
 simp only [lS, Rj]
 rw [if_pos (by simpa using hi), aO, aO, aO]
 have k3 : ∀ x : Int, cE x → oI (bl (eW s l ds i)) i x = some (.inl (bl (eW s l ds i * x), ((i + 1 : Nat) : Int))) := fun x hx => by
  unfold cE at hx
  unfold oI
  rw [uN (by omega), t8, aU, Qn (m := i + 1) (n := 1) (by omega) (by omega) w1 (by rw [Cj]; omega) (by omega), aU]
  unfold oH
  rw [az]
  rfl
 simp only [eW, uh]
 by_cases c0 : ds.getD i 0 = 0
 ·rw [if_pos (by rw [c0]; rfl), if_pos c0, Int.mul_one]
  unfold oH
  rw [az]
  rfl
 rw [if_neg (by simpa using c0), if_neg c0]
 by_cases c1 : ds.getD i 0 = 1
 ·unfold cE at hp
  rw [if_pos (by rw [c1]; rfl), if_pos c1, az (n := 65536 - l.getD i 0), k3 _ (by unfold cE; omega)]
 ·rw [if_neg (by simpa using c1), if_neg c1, k3 _ hp]
theorem FB {s : Int} (s0 : 1 ≤ s) (s1 : s ≤ 65536) {l ds : List Int} (hl : ds.length ≤ l.length) (hn : ds.length ≤ 5) (h : ∀ i, i < ds.length → cE (l.getD i 0)) (hd : ∀ x ∈ ds, 0 ≤ x ∧ x ≤ 2) : pb s l ds = some (bl (eW s l ds ds.length)) := by
 unfold pb
 rw [uN (by omega), t8, aU]
 have hloop := dI (step := fun v : (List Int) × Int => lS l ds v.1 v.2) (fun i => (bl (eW s l ds i), (i : Int))) ds.length (bl (eW s l ds ds.length)) (fun i hi => KT s0 s1 hl hn h hd hi) (by
  simp only [lS]
  rw [b8]) (s := (bl s, 0)) rfl
 rw [hloop]
 rfl
def PN (m : cS) (p : Int) : Prop := 0 ≤ p ∧ p < ((3 ^ m.Match.length : Nat) : Int)
def wA (m : cS) (p : Int) : Int := eW m.Prior m.Match (dN m.Match.length p) m.Match.length
def wB (m : cS) (p : Int) : Int := eW (65536 - m.Prior) m.Random (dN m.Match.length p) m.Match.length
theorem Bu {m : cS} (h : MV m) (p : Int) : 1 ≤ wA m p ∧ wA m p < bp 6 ∧ 1 ≤ wB m p ∧ wB m p < bp 6 ∧ wA m p + wB m p < bp 7 := by
 obtain ⟨h1, h2, h3, h4, h5, h6⟩ := h
 unfold cE at h4
 have a := AF (s := m.Prior) (by omega) (by omega) (l := m.Match) (ds := dN m.Match.length p) (n := m.Match.length) h5
 have b := AF (s := 65536 - m.Prior) (by omega) (by omega) (l := m.Random) (ds := dN m.Match.length p) (n := m.Match.length) h6
 have hle := gI (show m.Match.length + 1 ≤ 6 by omega)
 have h7 : bp 7 = 4294967296 * bp 6 := rfl
 unfold wA wB
 omega
theorem Kq {m : cS} (h : MV m) {p : Int} (hp : PN m p) : sD m p = some (fr (wA m p) (wA m p + wB m p), 0) := by
 obtain ⟨h1, h2, h3, h4, h5, h6⟩ := id h
 obtain ⟨a0, a1, b0, b1, ab⟩ := Bu h p
 have hlen := zh m.Match.length p
 have hd := NU m.Match.length p
 have hpr := h4
 unfold cE at hpr
 have L6 := gI (show 6 ≤ 64 by decide)
 have L7 := gI (show 7 ≤ 64 by decide)
 unfold sD
 rw [zi, if_pos h, an, aV, Fw, aO, Rj, if_pos (show 0 ≤ p ∧ p < ((3 ^ m.Match.length : Nat) : Int) from hp), aU, aV,
  FB (s := m.Prior) (by omega) (by omega) (by omega) (by omega) (by rw [hlen]; exact h5) hd, an, az (n := 65536 - m.Prior),
  FB (s := 65536 - m.Prior) (by omega) (by omega) (by omega) (by omega) (by rw [hlen]; exact h6) hd, an, hlen]
 show aF (jU (bl (wA m p)) (bl (wB m p))) _ = _
 rw [Qm (m := 6) (by omega) (by omega) a1 b1 (by decide), aU, aV]
 show aF (oy (bl (wA m p)) (bl (wA m p + wB m p))) _ = _
 rw [N8 (d9 (by omega)) (d9 (by omega)), BL, if_pos ⟨(eE (by omega)).2 (by omega), (eE (by omega)).2 (by omega)⟩, if_neg (fun e => by have := (wl (by omega)).1 e; omega), cM (by omega), cM (by omega), aU]
def ud (a b : Int) : Int := (a * 2147483648 + (a + b)) / (2 * (a + b))
theorem PH {a b : Int} (ha : 1 ≤ a) (hb : 1 ≤ b) : 0 ≤ ud a b ∧ ud a b ≤ 1073741824 := by
 unfold ud
 refine ⟨Int.ediv_nonneg (by omega) (by omega), ?_⟩
 have h : a * 2147483648 + (a + b) < (1073741824 + 1) * (2 * (a + b)) := by omega
 have := Int.ediv_lt_of_lt_mul (show 0 < 2 * (a + b) by omega) h
 omega
def sh (m : cS) (p : Int) : Int := ud (wA m p) (wB m p)
theorem tW {m : cS} (h : MV m) (p : Int) : 0 ≤ sh m p ∧ sh m p ≤ 1073741824 := by
 obtain ⟨a0, a1, b0, b1, ab⟩ := Bu h p
 exact PH a0 b0
theorem N9 {m : cS} (h : MV m) {p : Int} (hp : PN m p) : tf m p = some (sh m p, 0) := by
 obtain ⟨a0, a1, b0, b1, ab⟩ := Bu h p
 have L7 := gI (show 7 ≤ 64 by decide)
 have hs := tW h p
 unfold tf
 rw [Kq h hp, aU, aV]
 obtain ⟨fx, fv⟩ := P7 (n := wA m p) (d := wA m p + wB m p) (by omega) (by omega) (by omega) (by omega)
 rw [Pb fx]
 obtain ⟨g, a, b, g0, x0, y0, e1, e2, e3, _, le1, le2⟩ := Gi (n := wA m p) (d := wA m p + wB m p) (by omega) (by omega)
 have h8 : bp 8 = 4294967296 * bp 7 := rfl
 have h64 : bp 8 ≤ bp 64 := gI (by decide)
 have b7 := dU 7
 have hval : (a * (2 * 1073741824) + b) / (2 * b) = sh m p := by
  have e4 : wA m p * 2147483648 + (wA m p + wB m p) = g * (a * (2 * 1073741824) + b) := by rw [e2, Int.mul_add, ← Int.mul_assoc, ← e1]; omega
  have e5 : 2 * (wA m p + wB m p) = g * (2 * b) := by rw [e2, ← Int.mul_assoc, ← Int.mul_assoc, Int.mul_comm 2 g]
  unfold sh ud
  rw [e4, e5, Int.mul_ediv_mul_of_pos _ _ g0]
 have hR : xp (fr (wA m p) (wA m p + wB m p)) 1073741824 = (sh m p, 0) := by
  unfold xp
  rw [if_pos fv, t8, e3]
  simp only
  rw [cM x0, cM (by omega), if_pos ⟨by omega, by omega⟩, hval, aO]
 rw [hR, aU]
theorem Oa {step : Int × Int → Option ((Int × Int) ⊕ Int)} {n : Nat} (hn : n ≤ 5) (hs : ∀ v : Int × Int, step v = if (decide (v.2 < (n : Int))) = true then (some (.inl (SB (v.1 * 3), SB (v.2 + 1)))) else (some (.inr v.1))) : loop step (1, 0) = some ((3 ^ n : Nat) : Int) := by
 refine dI (fun i => (((3 ^ i : Nat) : Int), (i : Int))) n _ (fun i hi => ?_) ?_ rfl
 ·rw [hs]
  have h3 := (SC (i := i) (by omega)).2
  simp only
  rw [Nat.pow_succ]
  generalize 3 ^ i = q at h3 ⊢
  rw [if_pos (by simpa using hi), az (n := (q : Int) * 3), az (n := (i : Int) + 1)]
  rfl
 ·rw [hs]
  simp only
  rw [b8]
theorem Ob (l : List Int) (x : Int) : (l ++ [x]).sum = l.sum + x := by simp
theorem wN {l : List Int} {i : Nat} (h : i < l.length) : (l.take (i + 1)).sum = (l.take i).sum + l.getD i 0 := by
 rw [List.take_add_one, Re, Rf h]
 simp only [Option.toList_some, Option.getD_some, Ob]
theorem zG : ∀ {l : List Int}, (∀ x ∈ l, 0 ≤ x) → 0 ≤ l.sum
 | [], _ => by simp
 | x :: l, h => by
  have h1 := h x Rw
  have h2 := zG (l := l) fun y hy => h y (Rx _ hy)
  rw [Sr]; omega
theorem tE {l : List Int} (h : ∀ x ∈ l, 0 ≤ x) (i : Nat) : 0 ≤ (l.take i).sum ∧ (l.take i).sum ≤ l.sum := by
 have h1 := zG (l := l.take i) fun y hy => h y (List.mem_of_mem_take hy)
 have h2 := zG (l := l.drop i) fun y hy => h y (List.mem_of_mem_drop hy)
 have h3 : l.sum = (l.take i).sum + (l.drop i).sum := by rw [← List.sum_append, List.take_append_drop]
 omega
theorem GX {y : Int} : ∀ {l : List Int} {i : Nat}, i < l.length → (l.set i (l.getD i 0 + y)).sum = l.sum + y
 | [], _, h => absurd h (by simp)
 | x :: l, 0, _ => by simp; omega
 | x :: l, i + 1, h => by
  have := GX (y := y) (l := l) (i := i) (by simpa using h)
  simp only [List.set_cons_succ, List.getD_cons_succ, Sr, this]
  omega
def CV (n : Nat) (c : List Int) : Prop := c.length = 3 ^ n ∧ (∀ x ∈ c, 0 ≤ x) ∧ c.sum ≤ 4096
theorem CV.get {n : Nat} {c : List Int} (h : CV n c) {i : Nat} (hi : i < c.length) : 0 ≤ c.getD i 0 ∧ c.getD i 0 ≤ 4096 := by
 have h1 := wN hi
 have h2 := tE h.2.1 i
 have h3 := tE h.2.1 (i + 1)
 have h4 := po h.2.1 hi
 have h5 := h.2.2
 omega
theorem Oc {n : Nat} (h1 : 1 ≤ n) (h5 : n ≤ 5) : iT (n : Int) = some (((3 ^ n : Nat) : Int), 0) := by
 unfold iT
 rw [ct, RJ (by omega)]
 unfold nL
 rw [aV, Oa (step := fun v : Int × Int => rt (n : Int) v.1 v.2) h5 (fun v => rfl), an]
theorem EN {x : Int} (h : 0 ≤ x ∧ x ≤ 4096) : ov x = some true := by
 unfold ov
 rw [bG, RL h.2]
 rfl
theorem GY {n : Nat} {c : List Int} (h : CV n c) (hl : c.length ≤ 243) : oO c = some (c.sum, true) := by
 unfold oO
 have hloop := dI (step := fun v : Int × Int => oe c v.1 v.2) (fun i => ((c.take i).sum, (i : Int))) c.length (.inl c.sum) (fun i hi => by
   have h1 := tE h.2.1 i
   have h2 := h.get hi
   have h3 := h.2.2
   simp only [oe, Rj]
   rw [bG, aO, aO, EN h2, an, aV, az, az, wN hi]
   rfl) (by
   simp only [oe]
   rw [b8, Sf (RR _)]) (s := (0, 0)) rfl
 rw [hloop, kb]
 rfl
theorem LN {n : Nat} {c : List Int} (h1 : 1 ≤ n) (h5 : n ≤ 5) (h : CV n c) : si c (n : Int) = some 0 := by
 have h3 := SC h5
 have h4 := h.1
 have h6 := tE h.2.1 c.length
 rw [Sf (RR _)] at h6
 unfold si
 rw [Oc h1 h5, aU, aV, if_neg (by rw [h4]; simp), GY h (by omega), aU, aV, EN ⟨h6.1, h.2.2⟩, an]
 rfl
theorem Kr {m : cS} {c : List Int} (hm : MV m) (h : CV m.Match.length c) : te m c = some 0 := by
 unfold te
 rw [zi, if_pos hm, an, aV, LN hm.2.1 hm.2.2.1 h, an]
theorem Gl {p q : List Int} (h : p.length < 1000000) : nD p q = some (decide (p = q)) := by
 unfold nD
 by_cases hl : p.length = q.length
 ·rw [if_neg (by simp; omega)]
  obtain ⟨t, h1, h2⟩ := cC (step := fun v : Int => nh p q v) p.length (fun i s => s = (i : Int) ∧ ∀ j, j < i → p[j]? = q[j]?) (fun t => (t = .inl () ∧ p = q) ∨ (t = .inr () ∧ p ≠ q)) (by
   rintro i hi s ⟨rfl, hs⟩
   by_cases he : p[i]? = q[i]?
   ·exact .inl ⟨((i + 1 : Nat) : Int), by grind [nh, az], rfl, fun j hj => by grind⟩
   ·exact .inr ⟨.inr (), by grind [nh], .inr ⟨rfl, fun e => he (by rw [e])⟩⟩) (by
   rintro s ⟨rfl, hs⟩
   exact ⟨.inl (), by grind [nh], .inl ⟨rfl, List.ext_getElem? fun j => by
    by_cases hj : j < p.length
    ·exact hs j hj
    ·rw [Rh (by omega), Rh (by omega)]⟩⟩) (s := 0) ⟨rfl, fun j hj => absurd hj (by omega)⟩
  rw [h1]
  rcases h2 with ⟨rfl, rfl⟩ | ⟨rfl, hn⟩
  ·simp [cD, uJ]
  ·simp [cD, uK, hn]
 ·rw [if_pos (by simp; omega)]
  rw [RJ (fun e => hl (by rw [e]))]
instance (x y : cS) : Decidable (x = y) := decidable_of_iff (x.Prior = y.Prior ∧ x.Match = y.Match ∧ x.Random = y.Random) ⟨fun h => by cases x; cases y; simp_all, fun h => by subst h; exact ⟨rfl, rfl, rfl⟩⟩
theorem MY {x y : cS} (h1 : x.Prior = y.Prior) (h2 : x.Match = y.Match) (h3 : x.Random = y.Random) : x = y := by cases x; cases y; simp_all
theorem Gm {x y : cS} (h1 : x.Match.length < 1000000) (h2 : x.Random.length < 1000000) : pu x y = some (decide (x = y)) := by
 unfold pu vv nE
 by_cases c1 : x.Prior = y.Prior
 ·rw [if_pos (by simp [c1]), Gl h1, an]
  by_cases c2 : x.Match = y.Match
  ·rw [RL c2, if_pos rfl, Gl h2, an]
   by_cases c3 : x.Random = y.Random
   ·rw [RL c3, RL (MY c1 c2 c3), an]
   ·rw [RJ c3, RJ (fun h => c3 (by rw [h])), an]
  ·rw [RJ c2, aV, RJ (fun h => c2 (by rw [h])), an]
 ·rw [if_neg (by simp [c1]), RJ (fun h => c1 (by rw [h])), an]
theorem FC {l : List Int} (h : l.length < 1000000) : nx l = some l := by
 grind [nx, pK]
def sw (t : bI) (c s : Int) (a : Bool) : bI := ⟨t.match_ + c * s, if a = true then t.matchAgree + c * s else t.matchAgree, t.random + c * (1073741824 - s), if a = true then t.randomAgree + c * (1073741824 - s) else t.randomAgree⟩
def BS (t : bI) (K : Int) : Prop := (0 ≤ t.match_ ∧ t.match_ ≤ K) ∧ (0 ≤ t.matchAgree ∧ t.matchAgree ≤ K) ∧ (0 ≤ t.random ∧ t.random ≤ K) ∧ (0 ≤ t.randomAgree ∧ t.randomAgree ≤ K)
theorem Hy {c s : Int} (hc : 0 ≤ c) (hs : 0 ≤ s ∧ s ≤ 1073741824) : 0 ≤ c * s ∧ c * s ≤ c * 1073741824 ∧ 0 ≤ c * (1073741824 - s) ∧ c * (1073741824 - s) ≤ c * 1073741824 := by
 refine ⟨Int.mul_nonneg hc hs.1, Int.mul_le_mul_of_nonneg_left hs.2 hc, Int.mul_nonneg hc (by omega), Int.mul_le_mul_of_nonneg_left (by omega) hc⟩
theorem Hz {t : bI} {K c s : Int} {a : Bool} (h : BS t K) (hc : 0 ≤ c) (hs : 0 ≤ s ∧ s ≤ 1073741824) : BS (sw t c s a) (K + c * 1073741824) := by
 obtain ⟨h1, h2, h3, h4⟩ := h
 obtain ⟨k1, k2, k3, k4⟩ := Hy hc hs
 unfold sw BS
 simp only
 refine ⟨by omega, by split <;> omega, by omega, by split <;> omega⟩
theorem GZ {t : bI} {K c s : Int} {a : Bool} (h : BS t K) (hK : K ≤ 4398046511104) (hc : 0 ≤ c ∧ c ≤ 4096) (hs : 0 ≤ s ∧ s ≤ 1073741824) : oK t c s a = some (sw t c s a) := by
 obtain ⟨h1, h2, h3, h4⟩ := h
 obtain ⟨k1, k2, k3, k4⟩ := Hy hc.1 hs
 unfold oK nU sw
 rw [az (n := 1073741824 - s), az (n := c * s), az (n := c * (1073741824 - s)), az (n := t.match_ + c * s), az (n := t.matchAgree + c * s), az (n := t.random + c * (1073741824 - s)), az (n := t.randomAgree + c * (1073741824 - s)), an, an, an]
 cases a <;> rfl
def fS (m : cS) (c : List Int) (n f : Nat) : Nat → bI
 | 0 => cL
 | p + 1 => if (dN n (p : Int)).getD f 0 > 0 then sw (fS m c n f p) (c.getD p 0) (sh m (p : Int)) ((dN n (p : Int)).getD f 0 == 2) else fS m c n f p
def tS (m : cS) (c : List Int) : Nat → bI
 | 0 => cL
 | p + 1 => sw (tS m c p) (c.getD p 0) (sh m (p : Int)) true
theorem BS.mono {t : bI} {K L : Int} (h : BS t K) (hl : K ≤ L) : BS t L := by
 obtain ⟨h1, h2, h3, h4⟩ := h
 exact ⟨by omega, by omega, by omega, by omega⟩
theorem BM {m : cS} {c : List Int} {n f : Nat} (hm : MV m) (hc : ∀ x ∈ c, 0 ≤ x) : ∀ {p : Nat}, p ≤ c.length → BS (fS m c n f p) ((c.take p).sum * 1073741824)
 | 0, _ => by
  rw [fS, List.take_zero]
  exact ⟨⟨by decide, by decide⟩, ⟨by decide, by decide⟩, ⟨by decide, by decide⟩, ⟨by decide, by decide⟩⟩
 | p + 1, h => by
  have ih := BM (n := n) (f := f) hm hc (p := p) (by omega)
  have h1 := po hc (i := p) (by omega)
  rw [fS, wN (by omega), Int.add_mul]
  split
  ·exact Hz ih h1 (tW hm _)
  ·exact ih.mono (by have := Int.mul_nonneg h1 (show (0 : Int) ≤ 1073741824 by decide); omega)
theorem BN {m : cS} {c : List Int} (hm : MV m) (hc : ∀ x ∈ c, 0 ≤ x) : ∀ {p : Nat}, p ≤ c.length → BS (tS m c p) ((c.take p).sum * 1073741824)
 | 0, _ => by
  rw [tS, List.take_zero]
  exact ⟨⟨by decide, by decide⟩, ⟨by decide, by decide⟩, ⟨by decide, by decide⟩, ⟨by decide, by decide⟩⟩
 | p + 1, h => by
  have ih := BN hm hc (p := p) (by omega)
  have h1 := po hc (i := p) (by omega)
  rw [tS, wN (by omega), Int.add_mul]
  exact Hz ih h1 (tW hm _)
theorem G0 (t : bI) (s : Int) (a : Bool) : sw t 0 s a = t := by
 unfold sw
 cases a <;> simp
theorem xe {c : List Int} {n : Nat} (h : CV n c) (p : Nat) : (c.take p).sum * 1073741824 ≤ 4398046511104 := by
 have h1 := tE h.2.1 p
 have h2 := h.2.2
 omega
theorem MZ {l : List bI} {i j : Nat} {x : bI} (h : i < l.length) : (l.set i x).getD j cL = if i = j then x else l.getD j cL := by
 simp only [Re, Se]
 split
 ·rename_i e
  subst e
  rfl
 ·rfl
theorem KU {m : cS} {c : List Int} {n p : Nat} (hm : MV m) (hn : n ≤ 5) (hc : CV n c) (hp : p < c.length) {row : List bI} (h1 : row.length = n) (h2 : ∀ f, f < n → row.getD f cL = fS m c n f p) :
  ∃ t, loop (fun v : (List bI) × Int => oZ c (p : Int) (sh m (p : Int)) (dN n (p : Int)) v.1 v.2) (row, 0) = some t ∧ t.length = n ∧ ∀ f, f < n → t.getD f cL = fS m c n f (p + 1) := by
 have hlen := zh n (p : Int)
 refine cC n (fun i (v : (List bI) × Int) => v.2 = (i : Int) ∧ v.1.length = n ∧ ∀ f, f < n → v.1.getD f cL = fS m c n f (if f < i then p + 1 else p)) _ ?_ ?_ ⟨rfl, h1, fun f hf => by rw [t8]; exact h2 f hf⟩
 ·rintro i hi ⟨r, j⟩ ⟨s1, s2, s3⟩
  left
  simp only [oZ, sP] at s1 s2 s3 ⊢
  subst s1
  simp only [Rj, R9]
  rw [bG, aO, aO]
  have e := s3 i hi
  rw [t8] at e
  by_cases hd : (dN n (p : Int)).getD i 0 > 0
  ·rw [if_pos (by simpa using hd), aO, e, GZ (BM hm hc.2.1 (by omega)) (xe hc p) (hc.get hp) (tW hm _), an, az (n := (i : Int) + 1)]
   refine ⟨_, rfl, by simp only; omega, by simp only [R7]; exact s2, fun f hf => ?_⟩
   simp only
   rw [MZ (by omega)]
   by_cases hf2 : i = f
   ·subst hf2
    rw [if_pos rfl, aO, fS, if_pos hd]
   ·rw [if_neg hf2, s3 f hf]
    by_cases hf3 : f < i
    ·rw [if_pos hf3, aO]
    ·rw [if_neg hf3, t8]
  ·rw [if_neg (by simpa using hd), az (n := (i : Int) + 1)]
   refine ⟨_, rfl, by simp only; omega, s2, fun f hf => ?_⟩
   simp only
   by_cases hf2 : i = f
   ·subst hf2
    rw [e, aO, fS, if_neg hd]
   ·rw [s3 f hf]
    by_cases hf3 : f < i
    ·rw [if_pos hf3, aO]
    ·rw [if_neg hf3, t8]
 ·rintro ⟨r, j⟩ ⟨s1, s2, s3⟩
  simp only [oZ] at s1 s2 s3 ⊢
  subst s1
  rw [ct]
  refine ⟨_, rfl, s2, fun f hf => ?_⟩
  rw [s3 f hf, if_pos hf]
theorem Ka {m : cS} {c : List Int} {n : Nat} (hm : MV m) (hn : n = m.Match.length) (hc : CV n c) :
  ∃ t, loop (fun v : (List bI) × Int × Int × Int × Int × Int => o5 m c v.1 v.2.1 v.2.2.1 v.2.2.2.1 v.2.2.2.2.1 v.2.2.2.2.2) (List.replicate n cL, 0, 0, 0, 0, 0) = some t ∧ t.1.length = n ∧ (∀ f, f < n → t.1.getD f cL = fS m c n f c.length) ∧ (⟨t.2.1, t.2.2.1, t.2.2.2.1, t.2.2.2.2⟩ : bI) = tS m c c.length := by
 have hn5 : n ≤ 5 := by have := hm.2.2.1; omega
 have hn1 : 1 ≤ n := by have := hm.2.1; omega
 have h3 := SC hn5
 refine cC c.length (fun p (v : (List bI) × Int × Int × Int × Int × Int) => v.2.1 = (p : Int) ∧ v.1.length = n ∧ (∀ f, f < n → v.1.getD f cL = fS m c n f p) ∧ (⟨v.2.2.1, v.2.2.2.1, v.2.2.2.2.1, v.2.2.2.2.2⟩ : bI) = tS m c p) _ ?_ ?_ ⟨rfl, RG, fun f hf => by
  rw [fS, Re, List.getElem?_replicate, if_pos hf]; rfl, rfl⟩
 ·rintro p hp ⟨r, j, a, b, e, g⟩ ⟨s1, s2, s3, s4⟩
  left
  simp only [o5, oY] at s1 s2 s3 s4 ⊢
  subst s1
  have hl := hc.1
  simp only [Rj]
  rw [bG, aO, aO, az (n := (p : Int) + 1)]
  by_cases h0 : c.getD p 0 = 0
  ·rw [if_pos (by rw [Sn]; exact h0)]
   refine ⟨_, rfl, by simp only; omega, s2, fun f hf => ?_, ?_⟩
   ·simp only
    rw [s3 f hf, fS, h0, G0, ite_self]
   ·simp only
    rw [s4, tS, h0, G0]
  ·have hpn : PN m (p : Int) := by
    unfold PN; rw [← hn]; omega
   rw [if_neg (by rw [Sn]; exact h0), N9 hm hpn, aU, s2, Fw, aO, Rj, aO, aU, s4, GZ (BN hm hc.2.1 (by omega)) (xe hc p) (hc.get hp) (tW hm _), an]
   obtain ⟨t, e1, t1, t2⟩ := KU hm hn5 hc hp s2 s3
   rw [e1, an]
   exact ⟨_, rfl, by simp only; omega, t1, t2, rfl⟩
 ·rintro ⟨r, j, a, b, e, g⟩ ⟨s1, s2, s3, s4⟩
  simp only [o5] at s1 s2 s3 s4 ⊢
  subst s1
  rw [ct]
  exact ⟨_, rfl, s2, s3, s4⟩
theorem PI {α β γ δ ε ζ : Type} (a : α) (b : β) (c : γ) (d : δ) (e : ε) (f : α → β → γ → δ → ε → Option ζ) : fJ (some (a, b, c, d, e)) f = f a b c d e := rfl
def Bv (x : Int) : Int := if (65535 : Int) < (if (1 : Int) > x then 1 else x) then 65535 else (if (1 : Int) > x then 1 else x)
def quo (a b o : Int) : Int := if b = 0 then o else Bv ((131072 * a + b) / (2 * b))
theorem M0 (x : Int) : cE (Bv x) := by
 unfold Bv cE
 split <;> split <;> omega
theorem Bw {a b o : Int} (h : cE o) : cE (quo a b o) := by
 unfold quo
 split
 ·exact h
 ·exact M0 _
theorem zj {a b o : Int} (ha : 0 ≤ a ∧ a ≤ 8796093022208) (hb : 0 ≤ b ∧ b ≤ 8796093022208) : lZ a b o = some (quo a b o) := by
 unfold lZ quo
 by_cases h : b = 0
 ·rw [if_pos (by simp [h]), if_pos h]
 ·have h1 : 0 ≤ (131072 * a + b) / (2 * b) := Int.ediv_nonneg (by omega) (by omega)
  have h2 : (131072 * a + b) / (2 * b) ≤ 131072 * a + b := Int.ediv_le_self _ (by omega)
  rw [if_neg (by simp [h]), if_neg h, az (n := 2 * b), aO, az (n := 131072 * a), az (n := 131072 * a + b), fk (by omega), az (n := (131072 * a + b) / (2 * b)), an]
  rfl
def dF (m : cS) (c : List Int) : cS :=
  ⟨quo (tS m c c.length).match_ ((tS m c c.length).match_ + (tS m c c.length).random) m.Prior,
   (List.range m.Match.length).map fun f => quo (fS m c m.Match.length f c.length).matchAgree (fS m c m.Match.length f c.length).match_ (m.Match.getD f 0),
   (List.range m.Match.length).map fun f => quo (fS m c m.Match.length f c.length).randomAgree (fS m c m.Match.length f c.length).random (m.Random.getD f 0)⟩
theorem Pd {m : cS} {c : List Int} (hm : MV m) (hc : CV m.Match.length c) : tD m c = some (dF m c) := by
 obtain ⟨h1, h2, h3, h4, h5, h6⟩ := id hm
 unfold tD
 rw [aO, aO, Rj]
 obtain ⟨⟨row, a, b, e, g⟩, e1, t1, t2, t3⟩ := Ka hm rfl hc
 rw [e1]
 simp only at t1 t2 t3
 have hT := BN hm hc.2.1 (p := c.length) (RR _)
 have hF : ∀ f, BS (fS m c m.Match.length f c.length) 4398046511104 := fun f => (BM hm hc.2.1 (RR _)).mono (xe hc _)
 have hT2 := hT.mono (xe hc _)
 rw [← t3] at hT2
 obtain ⟨k1, k2, k3, k4⟩ := hT2
 simp only at k1 k2 k3 k4
 rw [PI, az (n := a + e), zj (by omega) (by omega), an]
 have hloop := dI (step := fun v : Int × (List Int) × (List Int) => o6 m row v.1 v.2.1 v.2.2) (fun i => ((i : Int), (List.range i).map (fun f => quo (fS m c m.Match.length f c.length).matchAgree (fS m c m.Match.length f c.length).match_ (m.Match.getD f 0)), (List.range i).map fun f => quo (fS m c m.Match.length f c.length).randomAgree (fS m c m.Match.length f c.length).random (m.Random.getD f 0))) m.Match.length ((dF m c).Match, (dF m c).Random) (fun i hi => by
   simp only [o6, Rj, R9]
   obtain ⟨g1, g2, g3, g4⟩ := hF i
   rw [bG, aO, aO, aO, t2 i hi, zj (by omega) (by omega), an, if_pos (by simp only [RF, Sc, Rk, Rm]; omega), aO, zj (by omega) (by omega), an, if_pos (by simp only [RF, Sc, Rk, Rm]; omega), az (n := (i : Int) + 1), List.range_succ, Sm, Sm]
   rfl) (by
   simp only [o6]
   rw [ct]
   rfl) (s := (0, [], [])) rfl
 rw [hloop, aU]
 unfold dF
 rw [← t3]
theorem yY (m : cS) (c : List Int) : (dF m c).Match.length = m.Match.length ∧ (dF m c).Random.length = m.Match.length := by
 unfold dF
 simp
theorem EO {f : Nat → Int} {n i : Nat} (h : i < n) : ((List.range n).map f).getD i 0 = f i := by
 simp [Re, RO, List.getElem?_range h]
theorem Gn {m : cS} {c : List Int} (hm : MV m) : MV (dF m c) := by
 obtain ⟨h1, h2, h3, h4, h5, h6⟩ := id hm
 obtain ⟨l1, l2⟩ := yY m c
 refine ⟨by rw [l1, l2], by omega, by omega, Bw h4, fun i hi => ?_, fun i hi => ?_⟩
 ·rw [l1] at hi
  unfold dF
  simp only
  rw [EO hi]
  exact Bw (h5 i hi)
 ·rw [l1] at hi
  unfold dF
  simp only
  rw [EO hi]
  exact Bw (h6 i hi)
def ep (c : List Int) : Nat → cS → cS × Nat
 | 0, m => (m, 0)
 | k + 1, m => if dF m c = m then (m, 0) else ((ep c k (dF m c)).1, (ep c k (dF m c)).2 + 1)
theorem G1 {c : List Int} : ∀ (k : Nat) (m : cS), MV m → MV (ep c k m).1 ∧ (ep c k m).1.Match.length = m.Match.length
 | 0, m, h => ⟨h, rfl⟩
 | k + 1, m, h => by
  rw [ep]
  split
  ·exact ⟨h, rfl⟩
  ·have := G1 (c := c) k (dF m c) (Gn h)
   exact ⟨this.1, by rw [this.2, (yY m c).1]⟩
theorem Gp {c : List Int} {K : Nat} (hK : K ≤ 16) : ∀ (k j : Nat) (m : cS), j + k = K → MV m → CV m.Match.length c →
  ∃ t, loop (fun v : Int × Int × (List Int) × (List Int) => j0 c (K : Int) v.1 v.2.1 v.2.2.1 v.2.2.2) ((j : Int), m.Prior, m.Match, m.Random) = some t ∧
  cD (some t) (fun t => sU (K : Int) t.1 t.2.1 t.2.2) (fun t => wg t.1 t.2.1 t.2.2.1 t.2.2.2) = some ((ep c k m).1, ((j + (ep c k m).2 : Nat) : Int), 0)
 | 0, j, m, hj, hm, hc => by
  refine ⟨.inl (m.Prior, m.Match, m.Random), dm ?_, ?_⟩
  ·simp only [j0]
   rw [ct]
  ·rw [kb]
   simp only [sU, ep]
   rw [show (K : Int) = ((j + 0 : Nat) : Int) by omega]
 | k + 1, j, m, hj, hm, hc => by
  have l1 := hm.1
  have l2 := hm.2.2.1
  have l3 := yY m c
  have hstep : j0 c (K : Int) (j : Int) m.Prior m.Match m.Random = if m = dF m c then some (.inr (.inr ((j : Int), m.Prior, m.Match, m.Random))) else some (.inl (((j + 1 : Nat) : Int), (dF m c).Prior, (dF m c).Match, (dF m c).Random)) := by
   unfold j0
   rw [bG, Pd hm hc, an, Gm (by simp only; omega) (by simp only; omega), an, az (n := (j : Int) + 1)]
   by_cases h : m = dF m c
   ·rw [if_pos (by rw [RI]; exact h), if_pos h]
   ·rw [if_neg (by rw [RI]; exact h), if_neg h]
    rfl
  by_cases h : m = dF m c
  ·rw [if_pos h] at hstep
   refine ⟨_, dm hstep, ?_⟩
   rw [kc, ep, if_pos h.symm]
   rfl
  ·rw [if_neg h] at hstep
   obtain ⟨t, e1, e2⟩ := Gp hK k (j + 1) (dF m c) (by omega) (Gn hm) (by rw [l3.1]; exact hc)
   refine ⟨t, (dH (step := fun v : Int × Int × (List Int) × (List Int) => j0 c (K : Int) v.1 v.2.1 v.2.2.1 v.2.2.2) hstep).trans e1, ?_⟩
   rw [e2, ep, if_neg (fun e => h e.symm), show j + 1 + (ep c k (dF m c)).2 = j + ((ep c k (dF m c)).2 + 1) by omega]
theorem PK {c : List Int} {K : Nat} (hK : K ≤ 16) {m : cS} (hm : MV m) (hc : CV m.Match.length c) : ml m c (K : Int) = some ((ep c K m).1, ((ep c K m).2 : Int), 0) := by
 have l1 := hm.1
 have l2 := hm.2.2.1
 unfold ml
 rw [Kr hm hc, an, aV, ct, RJ (by omega)]
 unfold sV
 rw [aV, FC (by omega), an, FC (by omega), an]
 obtain ⟨t, e1, e2⟩ := Gp hK K 0 m (by omega) hm hc
 rw [show (0 : Int) = ((0 : Nat) : Int) from rfl] at *
 rw [e1, e2, R9]
theorem wj (n : Int) : fO n = some (decide (1 ≤ n ∧ n ≤ 5)) := by
 grind [fO, lj]
theorem LD {l : List Int} (hl : l.length < 1000000) : lu l = some (if 1 ≤ l.length ∧ l.length ≤ 5 then (if ∀ x ∈ l, 0 ≤ x ∧ x ≤ 2 then (A0 l, 0) else (0, 2)) else (0, 8)) := by
 unfold lu
 rw [wj, Option.bind_some]
 by_cases h : 1 ≤ l.length ∧ l.length ≤ 5
 ·rw [if_neg (by simp; omega), if_pos h]
  obtain ⟨t, h1, h2⟩ := cC (step := fun v : Int × Int => jD l v.1 v.2) l.length (fun i s => s = (A0 (l.take i), (i : Int)) ∧ ∀ x ∈ l.take i, 0 ≤ x ∧ x ≤ 2) (fun t => (t = .inl (A0 l) ∧ ∀ x ∈ l, 0 ≤ x ∧ x ≤ 2) ∨ (t = .inr () ∧ ¬ ∀ x ∈ l, 0 ≤ x ∧ x ≤ 2)) (by
   rintro i hi s ⟨rfl, hs⟩
   have hr := SE _ hs
   have hp := SC (i := i) (by omega)
   rw [Ro, Nat.min_eq_left (by omega)] at hr
   simp only [jD, Rj, iI, Option.bind_some, nc, SF (show i < 6 by omega)]
   rw [if_pos (by simpa using hi), aO, aO]
   have hm : l.getD i 0 ∈ l := by rw [Re, Rf hi]; exact Sb hi
   by_cases hd : 0 ≤ l.getD i 0 ∧ l.getD i 0 ≤ 2
   ·left
    have hb : l.getD i 0 * ((3 ^ i : Nat) : Int) ≤ 2 * 243 := Int.mul_le_mul hd.2 (by omega) (by omega) (by omega)
    have hb0 : 0 ≤ l.getD i 0 * ((3 ^ i : Nat) : Int) := Int.mul_nonneg hd.1 (by omega)
    have ht := SD 0 hi
    refine ⟨_, by rw [ct, ct, aO], ?_, ?_⟩
    ·rw [ht, SG, Ro, Nat.min_eq_left (by omega), az (n := l.getD i 0 * _), az, az]; rfl
    ·intro x hx
     rw [ht] at hx
     rcases Rz.1 hx with hx | hx
     ·exact hs x hx
     ·simp only [Rn] at hx; subst hx; exact hd
   ·right
    refine ⟨.inr (), ?_, .inr ⟨rfl, fun h => hd (h _ hm)⟩⟩
    by_cases h0 : l.getD i 0 < 0
    ·rw [if_pos (by simp only [RI]; exact h0), if_pos trivial]
    ·rw [if_neg (by simp only [RI]; exact h0), bG]) (by
   rintro s ⟨rfl, hs⟩
   rw [Sa] at hs
   refine ⟨.inl (A0 l), ?_, .inl ⟨rfl, hs⟩⟩
   simp only [jD, Sa]
   rw [b8]) (s := (0, 0)) ⟨rfl, fun x hx => by simp at hx⟩
  rw [h1]
  rcases h2 with ⟨rfl, h3⟩ | ⟨rfl, h3⟩
  ·rw [kb, if_pos h3]; rfl
  ·rw [kc, if_neg h3]; rfl
 ·rw [if_pos (by simp; omega), if_neg h]
def dO (t s : Int) : Int := if s < 0 then 0 else if s < t then 1 else 2
theorem zE (t s : Int) : 0 ≤ dO t s ∧ dO t s ≤ 2 := by unfold dO; split <;> (try split) <;> omega
theorem A4 {α β γ : Type} {f : α → β → γ} {P : γ → Prop} (h : ∀ a b, P (f a b)) : ∀ {l : List α} {k : List β}, ∀ x ∈ List.zipWith f l k, P x := by
 intro l
 induction l with
 | nil => intro k x hx; simp at hx
 | cons a l ih =>
  intro k x hx
  cases k with
  | nil => simp at hx
  | cons b k =>
   simp only [List.zipWith_cons_cons, Ry] at hx
   rcases hx with rfl | hx
   ·exact h a b
   ·exact ih x hx
def pz (ts ss : List Int) : Prop := (∀ t ∈ ts, 0 ≤ t ∧ t ≤ 1000) ∧ ∀ s ∈ ss, -1 ≤ s ∧ s ≤ 1000
instance (ts ss : List Int) : Decidable (pz ts ss) := by unfold pz; infer_instance
theorem Fj {α β γ : Type} (d : α) (e : β) {f : α → β → γ} {a : List α} {b : List β} {i : Nat} (h : i < a.length) (h' : i < b.length) : List.zipWith f (a.take (i + 1)) (b.take (i + 1)) = List.zipWith f (a.take i) (b.take i) ++ [f (a.getD i d) (b.getD i e)] := by
 induction a generalizing b i with
 | nil => simp at h
 | cons x a ih =>
  cases b with
  | nil => simp at h'
  | cons z b =>
   cases i with
   | zero => simp
   | succ i => simpa using ih (i := i) (by simpa using h) (by simpa using h')
theorem LF {ts ss : List Int} (hl : ts.length < 1000000) : iF ts ss = some (if ts.length = ss.length ∧ 1 ≤ ts.length ∧ ts.length ≤ 5 then (if pz ts ss then (A0 (List.zipWith dO ts ss), 0) else (0, 2)) else (0, 8)) := by
 unfold iF
 rw [wj, Option.bind_some]
 unfold mZ
 by_cases h : ts.length = ss.length ∧ 1 ≤ ts.length ∧ ts.length ≤ 5
 ·rw [if_neg (by simp; omega), if_neg (by simp; omega), aO, aO, if_pos h]
  obtain ⟨t, h1, h2⟩ := cC (step := fun v : List Int × Int => jA ts ss v.1 v.2) ts.length (fun i s => s = (List.zipWith dO (ts.take i) (ss.take i) ++ List.replicate (ts.length - i) 0, (i : Int)) ∧ pz (ts.take i) (ss.take i)) (fun t => (t = .inl (List.zipWith dO ts ss) ∧ pz ts ss) ∨ (t = .inr () ∧ ¬ pz ts ss)) (by
   rintro i hi s ⟨rfl, hs⟩
   have hi2 : i < ss.length := by omega
   have m1 : ts.getD i 0 ∈ ts := by rw [Re, Rf hi]; exact Sb hi
   have m2 : ss.getD i 0 ∈ ss := by rw [Re, Rf hi2]; exact Sb hi2
   simp only [jA, Rj, kZ, jz, R9]
   rw [if_pos (by simpa using hi), aO, aO, aO]
   by_cases hd : (0 ≤ ts.getD i 0 ∧ ts.getD i 0 ≤ 1000) ∧ -1 ≤ ss.getD i 0 ∧ ss.getD i 0 ≤ 1000
   ·left
    refine ⟨(List.zipWith dO (ts.take (i + 1)) (ss.take (i + 1)) ++ List.replicate (ts.length - (i + 1)) 0, ((i + 1 : Nat) : Int)), ?_, rfl, ?_⟩
    ·rw [ct, ct, ct, ct]
     rw [az, Fj 0 0 hi hi2, show ts.length - i = (ts.length - (i + 1)) + 1 by omega]
     rw [wL 0 _ i _ (by simp; omega), wL 0 _ i _ (by simp; omega), wL 0 _ i _ (by simp; omega)]
     have hlen : (i : Int) < (((List.zipWith dO (ts.take i) (ss.take i) ++ List.replicate (ts.length - (i + 1) + 1) (0 : Int)).length : Nat) : Int) := by simp; omega
     rw [if_pos hlen, if_pos hlen, if_pos hlen]
     by_cases a0 : ss.getD i 0 < 0
     ·rw [if_pos (by simp only [RI]; exact a0), show dO (ts.getD i 0) (ss.getD i 0) = 0 by unfold dO; rw [if_pos a0]]; rfl
     ·by_cases a1 : ss.getD i 0 < ts.getD i 0
      ·rw [if_neg (by simp only [RI]; exact a0), if_pos (by simp only [RI]; exact a1), show dO (ts.getD i 0) (ss.getD i 0) = 1 by unfold dO; rw [if_neg a0, if_pos a1]]; rfl
      ·rw [if_neg (by simp only [RI]; exact a0), if_neg (by simp only [RI]; exact a1), show dO (ts.getD i 0) (ss.getD i 0) = 2 by unfold dO; rw [if_neg a0, if_neg a1]]; rfl
    ·rw [SD 0 hi, SD 0 hi2]
     constructor
     ·intro x hx
      rcases Rz.1 hx with hx | hx
      ·exact hs.1 x hx
      ·simp only [Rn] at hx; subst hx; exact hd.1
     ·intro x hx
      rcases Rz.1 hx with hx | hx
      ·exact hs.2 x hx
      ·simp only [Rn] at hx; subst hx; exact hd.2
   ·right
    refine ⟨.inr (), ?_, .inr ⟨rfl, fun h => hd ⟨h.1 _ m1, h.2 _ m2⟩⟩⟩
    grind) (by
   rintro s ⟨rfl, hs⟩
   have e : List.zipWith dO (ts.take ts.length) (ss.take ts.length) ++ List.replicate (ts.length - ts.length) 0 = List.zipWith dO ts ss := by
    rw [Nat.sub_self, List.replicate_zero, List.append_nil, Sa, h.1, Sa]
   rw [Sa, h.1, Sa] at hs
   refine ⟨.inl _, ?_, .inl ⟨rfl, hs⟩⟩
   simp only [jA, e]
   rw [b8]) (s := (List.replicate ((ts.length : Int).toNat) 0, 0)) ⟨by simp, ⟨fun x hx => by simp at hx, fun x hx => by simp at hx⟩⟩
  rw [h1]
  rcases h2 with ⟨rfl, h3⟩ | ⟨rfl, h3⟩
  ·rw [kb, if_pos h3]
   unfold qC
   rw [LD (by simp; omega), if_pos (by simp; omega), if_pos (A4 fun a b => zE a b)]
   rfl
  ·rw [kc, if_neg h3]; rfl
 ·rw [if_neg h]
  grind
def WF (l : List aR) : Prop := ∀ b ∈ l, cY b.Words
theorem WF.get {l : List aR} (h : WF l) {i : Nat} (hi : i < l.length) : cY (l.getD i dA).Words := by
 rw [Re, Rf hi]
 exact h _ (Sb hi)
theorem LG {p q : aB} (hp : WF p.Fields) (hq : WF q.Fields) (hl : p.Fields.length < 1000000) :
  gm p q = some (if p.Fields.length = q.Fields.length ∧ 1 ≤ p.Fields.length ∧ p.Fields.length ≤ 5 then (List.zipWith dw p.Fields q.Fields, 0) else ([], 8)) := by
 by_cases h : p.Fields.length = q.Fields.length ∧ 1 ≤ p.Fields.length ∧ p.Fields.length ≤ 5
 ·obtain ⟨h1, h2, h3⟩ := h
  have hL : loop (fun v : List Int × Int => iD p q v.1 v.2) ([], 0) = some (List.zipWith dw p.Fields q.Fields) := by
   refine dI (fun i => (List.zipWith dw (p.Fields.take i) (q.Fields.take i), (i : Int))) p.Fields.length _ (fun i hi => ?_) ?_ (by simp)
   ·unfold iD
    simp only [Rj]
    rw [A3 (hp.get hi) (hq.get (by omega)), Option.bind_some, if_pos (by simpa using hi), aO, aO, aO, if_pos (by simp; omega), az, Fj dA dA hi (by omega)]
    rfl
   ·unfold iD
    simp only
    rw [b8, Sa, h1, Sa]
  rw [if_pos ⟨h1, h2, h3⟩]
  simp only [gm, kY, wj, Option.bind_some, hL]
  grind
 ·rw [if_neg h]
  simp only [gm, kY, wj, Option.bind_some]
  grind
theorem MF (p q : aR) : dw p q = dw q p := by
 have hz : List.zipWith (cn .u64) p.Words q.Words = List.zipWith (cn .u64) q.Words p.Words := by
  rw [List.zipWith_comm]
  congr 1
  funext a b
  unfold cn
  rw [BitVec.and_comm]
 unfold dw
 rw [hz]
 grind
theorem KQ (f : Nat) : ∀ x y, cX f (x &&& y) ≤ cX f x ∧ cX f (x &&& y) ≤ cX f y := by
 induction f with
 | zero => intro x y; simp [cX]
 | succ f ih =>
  intro x y
  have h := ih (x / 2) (y / 2)
  have h4 := @Nat.and_mod_two_eq_one x y
  rw [cX, cX, cX, Nat.and_div_two]
  rcases Nat.mod_two_eq_zero_or_one (x &&& y) with h5 | h5
  ·omega
  ·have := h4.1 h5; omega
open IntKind (i64 u64 u32 u8)
theorem A5 {l : List aB} {i : Nat} (h : i < l.length) : l.getD i bu ∈ l := by
 rw [Re, Rf h]
 exact Sb h
theorem Fl {α : Type} (d : α) {l : List α} {i : Nat} (h : i < l.length) : l.drop i = l.getD i d :: l.drop (i + 1) := by
 rw [List.drop_eq_getElem_cons h, Re, Rf h]
 rfl
theorem vS {α σ τ : Type} (d : α) (f : α → Bool) (l : List α) (s : Nat → σ) (r : Nat → τ) {υ : Type} (e : υ) {step : σ → Option (σ ⊕ (υ ⊕ τ))} (hs : ∀ i : Nat, i < l.length → step (s i) = if f (l.getD i d) = true then some (.inr (.inr (r i))) else some (.inl (s (i + 1))))
  (he : step (s l.length) = some (.inr (.inl e))) {s0 : σ} (h0 : s0 = s 0 := by rfl) : loop step s0 = some (match l.findIdx? f with | some i => .inr (r i) | none => .inl e) := by
 subst h0
 have key : ∀ k j, j + k = l.length → loop step (s j) = some (match (l.drop j).findIdx? f with | some i => .inr (r (j + i)) | none => .inl e) := by
  intro k
  induction k with
  | zero =>
   intro j hj
   have : j = l.length := by omega
   subst this
   rw [dm he, List.drop_length]
   rfl
  | succ k ih =>
   intro j hj
   have hs := hs j (by omega)
   rw [Fl d (show j < l.length by omega), List.findIdx?_cons]
   by_cases hf : f (l.getD j d) = true
   ·rw [if_pos hf] at hs
    rw [dm hs, if_pos hf]
    rfl
   ·rw [if_neg hf] at hs
    rw [dH hs, ih (j + 1) (by omega), if_neg hf]
    cases (l.drop (j + 1)).findIdx? f with
    | none => rfl
    | some i => simp only [Option.map_some]; rw [show j + (i + 1) = j + 1 + i by omega]
 have := key l.length 0 (by omega)
 rw [this, List.drop_zero]
 cases l.findIdx? f with
 | none => rfl
 | some i => simp only [R9]
theorem vT {α : Type} {f : α → Bool} {l : List α} : (∃ x ∈ l, f x = true) ↔ l.findIdx? f ≠ none := by
 rw [ne_eq, List.findIdx?_eq_none_iff]
 constructor
 ·rintro ⟨x, hx, hf⟩ h
  rw [h x hx] at hf; cases hf
 ·intro h
  refine Classical.byContradiction fun hc => h fun x hx => ?_
  cases hf : f x with
  | false => rfl
  | true => exact absurd ⟨x, hx, hf⟩ hc
def NB (b : aR) : Prop := (b.Length = 0 ∧ b.Words.length = 0) ∨ VB b
instance (b : aR) : Decidable (NB b) := by unfold NB; infer_instance
def EV (x : aB) : Prop := (1 ≤ x.ID ∧ x.ID ≤ 1048576) ∧ (1 ≤ x.Version ∧ x.Version ≤ 1048576) ∧ (1 ≤ x.Fields.length ∧ x.Fields.length ≤ 5) ∧ ∀ b ∈ x.Fields, NB b
instance (x : aB) : Decidable (EV x) := by unfold EV; infer_instance
theorem Pw (b : aR) : ru b = some (!decide (NB b)) := by
 unfold ru vJ rN qL NB
 rw [Az]
 by_cases h1 : b.Length = 0
 ·by_cases h2 : b.Words.length = 0
  ·simp [h1, h2]
  ·simp [h1, h2]
 ·simp [h1]
theorem OU {l : List aR} (hl : l.length < 1000000) : qk l = some (!decide (∀ b ∈ l, NB b)) := by
 unfold qk um
 rw [vS dA (fun b => !decide (NB b)) l (fun i => (i : Int)) (fun i => (i : Int)) () (step := fun v : Int => qj l v) (fun i hi => by
   simp only [qj, Rj]
   rw [bG, aO, aO, Pw, an, az (n := (i : Int) + 1)]
   rfl) (by
   simp only [qj]
   rw [b8])]
 by_cases h : ∀ b ∈ l, NB b
 ·rw [RL h, List.findIdx?_eq_none_iff.2 (fun b hb => by simp [h b hb])]
  rfl
 ·rw [RJ h]
  have : l.findIdx? (fun b => !decide (NB b)) ≠ none := vT.1 (by simpa using h)
  cases hi : l.findIdx? (fun b => !decide (NB b)) with
  | none => exact absurd hi this
  | some i =>
   simp only [kc, xL, an]
   rw [RL (show (i : Int) ≥ 0 by omega)]
   rfl
theorem KR {x : aB} (hl : x.Fields.length < 1000000) : su x = some (decide (EV x)) := by
 unfold su gV
 rw [OU hl]
 unfold EV
 by_cases h1 : x.ID ≥ 1 <;> by_cases h2 : x.ID ≤ 1048576 <;> by_cases h3 : x.Version ≥ 1 <;> by_cases h4 : x.Version ≤ 1048576 <;> by_cases h5 : x.Fields.length ≥ 1 <;> by_cases h6 : x.Fields.length ≤ 5 <;> grind
theorem OV {l : List Int} (hl : l.length < 1000000) : qo l = some (!decide (∀ t ∈ l, 0 ≤ t ∧ t ≤ 1000)) := by
 unfold qo uu
 have hf : ∀ t : Int, q5 t = some (!decide (0 ≤ t ∧ t ≤ 1000)) := fun t => by
  unfold q5 qG
  by_cases h1 : t < 0 <;> by_cases h2 : t > 1000 <;> grind
 rw [vS 0 (fun t : Int => !decide (0 ≤ t ∧ t ≤ 1000)) l (fun i => (i : Int)) (fun i => (i : Int)) () (step := fun v : Int => qn l v) (fun i hi => by
   simp only [qn, Rj]
   rw [bG, aO, aO, hf, an, az (n := (i : Int) + 1)]
   rfl) (by
   simp only [qn]
   rw [b8])]
 by_cases h : ∀ t ∈ l, 0 ≤ t ∧ t ≤ 1000
 ·rw [RL h, List.findIdx?_eq_none_iff.2 (fun b hb => by simp [h b hb])]
  rfl
 ·rw [RJ h]
  have : l.findIdx? (fun t : Int => !decide (0 ≤ t ∧ t ≤ 1000)) ≠ none := vT.1 (by
   have : ∃ t ∈ l, ¬ (0 ≤ t ∧ t ≤ 1000) := by
    refine Classical.byContradiction fun hc => h fun t ht => Classical.byContradiction fun hn => hc ⟨t, ht, hn⟩
   obtain ⟨t, ht, hn⟩ := this
   exact ⟨t, ht, by simp only [Bool.not_eq_true']; exact RJ hn⟩)
  cases hi : l.findIdx? (fun t : Int => !decide (0 ≤ t ∧ t ≤ 1000)) with
  | none => exact absurd hi this
  | some i =>
   simp only [kc, xU, an]
   rw [RL (show (i : Int) ≥ 0 by omega)]
   rfl
theorem MG {a b : List aB} (ha : a.length < 1000000) (hb : b.length < 1000000) : qx [a, b] = some (a ++ b) := by
 unfold qx
 have l1 : loop (fun v : Int × Int => kS [a, b] v.1 v.2) (0, 0) = some ((a.length : Int) + (b.length : Int)) := by
  rw [dH (s' := ((a.length : Int), 1)) (by
   simp only [kS]
   rw [if_pos (by simp), bX, if_pos (by simp), an]
   show (if decide (SB (0 + (a.length : Int)) < 0) = true then _ else some (Sum.inl (SB (0 + (a.length : Int)), _))) = _
   rw [az, ct, Int.zero_add]
   rfl), dH (s' := ((a.length : Int) + (b.length : Int), 2)) (by
   simp only [kS]
   rw [if_pos (by simp), bX, if_pos (by simp), an]
   show (if decide (SB ((a.length : Int) + (b.length : Int)) < 0) = true then _ else some (Sum.inl (SB ((a.length : Int) + (b.length : Int)), _))) = _
   rw [az, ct]
   rfl), dm (by
   simp only [kS]
   rw [b8])]
 rw [l1, an]
 have g : qv ((a.length : Int) + (b.length : Int)) = some [] := by
  unfold qv qu
  rw [show SB (0 - 0) = 0 from rfl, Int.sub_zero, az (n := (a.length : Int) + (b.length : Int)), ct]
  by_cases h : (a.length : Int) + (b.length : Int) > 0
  ·rw [if_pos (by simp only [RI]; exact h), if_pos h, aO, if_pos (Nat.zero_le _), List.take_zero]
  ·rw [if_neg (by simp only [RI]; exact h)]
 rw [g, an]
 rw [dH (s' := (a, 1)) (by
   simp only [mS]
   rw [if_pos (by simp), bX, if_pos (by simp), if_pos (by show [].length + a.length ≤ _; simp; omega)]
   rfl), dH (s' := (a ++ b, 2)) (by
   simp only [mS]
   rw [if_pos (by simp), bX, if_pos (by simp), if_pos (by show a.length + b.length ≤ _; omega)]
   rfl), dm (by
   simp only [mS]
   rw [b8]), an]
theorem MH {step : Int × Int → Option ((Int × Int) ⊕ Int)} {n : Nat} (hn : n ≤ 5) (hs : ∀ v : Int × Int, step v = if (decide (v.2 < (n : Int))) = true then (some (.inl (SB (v.1 * 3), SB (v.2 + 1)))) else (some (.inr v.1))) : loop step (1, 0) = some ((3 ^ n : Nat) : Int) := by
 refine dI (fun i => (((3 ^ i : Nat) : Int), (i : Int))) n _ (fun i hi => ?_) ?_ rfl
 ·rw [hs]
  have h3 := (SC (i := i) (by omega)).2
  simp only
  rw [Nat.pow_succ]
  generalize 3 ^ i = q at h3 ⊢
  rw [if_pos (by simpa using hi), az (n := (q : Int) * 3), az (n := (i : Int) + 1)]
  rfl
 ·rw [hs]
  simp only
  rw [b8]
theorem Fo (n : Int) : iT n = some (if 1 ≤ n ∧ n ≤ 5 then (((3 ^ n.toNat : Nat) : Int), 0) else (0, 8)) := by
 unfold iT nL
 by_cases h : 1 ≤ n ∧ n ≤ 5
 ·obtain ⟨m, rfl⟩ := Int.eq_ofNat_of_zero_le (show 0 ≤ n by omega)
  rw [ct, ct, MH (step := fun v : Int × Int => rt (m : Int) v.1 v.2) (by omega) (fun v => rfl), an, if_pos h]
  rfl
 ·rw [if_neg h]
  by_cases h1 : n < 1
  ·rw [if_pos (by simpa using h1)]; rfl
  ·rw [if_neg (by simpa using h1), bG]
def eo (n : Nat) (x : aB) : Prop := EV x ∧ x.Fields.length = n
instance (n : Nat) (x : aB) : Decidable (eo n x) := by unfold eo; infer_instance
def jt (m : Nat) (a b : List aB) (ts : List Int) : Int :=
 if ¬ (1 ≤ ts.length ∧ ts.length ≤ 5) then 8 else if 4096 < m then 1 else if ¬ ∀ t ∈ ts, 0 ≤ t ∧ t ≤ 1000 then 2 else if ¬ ∀ x ∈ a ++ b, eo ts.length x then 7 else 0
theorem MI {cs : List a8} {a b : List aB} {ts : List Int} (ha : a.length < 100000) (hb : b.length < 100000) (hf : ∀ x ∈ a ++ b, x.Fields.length < 1000000) (ht : ts.length < 1000000) : sf cs a b ts = some (jt cs.length a b ts) := by
 unfold sf jt
 rw [Fo]
 by_cases h1 : 1 ≤ ts.length ∧ ts.length ≤ 5
 ·rw [if_pos (show 1 ≤ (ts.length : Int) ∧ (ts.length : Int) ≤ 5 by omega), aU, aV, if_neg (show ¬ ¬ (1 ≤ ts.length ∧ ts.length ≤ 5) from fun k => k h1)]
  by_cases h2 : 4096 < cs.length
  ·rw [bG, if_pos h2]
  ·rw [ct, if_neg h2, OV ht, an]
   by_cases h3 : ∀ t ∈ ts, 0 ≤ t ∧ t ≤ 1000
   ·rw [RL h3, aV, if_neg (show ¬ ¬ _ from fun k => k h3), MG (by omega) (by omega), an]
    have hlen : (a ++ b).length < 1000000 := by rw [Rl]; omega
    rw [vS bu (fun x => !decide (eo ts.length x)) (a ++ b) (fun i => (i : Int)) (fun _ => ()) () (step := fun v : Int => q7 ts (a ++ b) v) (fun i hi => by
      have hx := hf _ (A5 hi)
      simp only [q7, Rj, R9]
      rw [bG, aO, aO, KR hx, an]
      unfold q6
      rw [az (n := (i : Int) + 1)]
      by_cases h4 : EV ((a ++ b).getD i bu)
      ·rw [RL h4, aV]
       by_cases h5 : ((a ++ b).getD i bu).Fields.length = ts.length
       ·rw [if_neg (by simp only [bne_iff_ne, ne_eq]; omega), RL (show eo ts.length ((a ++ b).getD i bu) from ⟨h4, h5⟩)]
        rfl
       ·rw [if_pos (by simp only [bne_iff_ne, ne_eq]; omega), RJ (fun k : eo ts.length ((a ++ b).getD i bu) => h5 k.2)]
        rfl
      ·rw [RJ h4, bX, RJ (fun k : eo ts.length ((a ++ b).getD i bu) => h4 k.1)]
       rfl) (by
      simp only [q7]
      rw [b8])]
    by_cases h4 : ∀ x ∈ a ++ b, eo ts.length x
    ·rw [if_neg (show ¬ ¬ _ from fun k => k h4), List.findIdx?_eq_none_iff.2 (fun b hb => by simp only [RL (h4 b hb), Bool.not_true])]
     rfl
    ·rw [if_pos h4]
     have : (a ++ b).findIdx? (fun x => !decide (eo ts.length x)) ≠ none := vT.1 (by
      have : ∃ t ∈ a ++ b, ¬ eo ts.length t := by
       refine Classical.byContradiction fun hc => h4 fun t ht => Classical.byContradiction fun hn => hc ⟨t, ht, hn⟩
      obtain ⟨t, ht, hn⟩ := this
      exact ⟨t, ht, by simp only [Bool.not_eq_true']; exact RJ hn⟩)
     cases hi : (a ++ b).findIdx? (fun x => !decide (eo ts.length x)) with
     | none => exact absurd hi this
     | some i => rfl
   ·rw [RJ h3, bX, if_pos h3]
 ·rw [if_neg (show ¬ (1 ≤ (ts.length : Int) ∧ (ts.length : Int) ≤ 5) by omega), aU, bX, if_pos h1]
def gh (l : List aB) (id : Int) : Option Nat := l.findIdx? (fun x => x.ID == id)
def gH (l : List aB) (id : Int) : aB := l.getD ((gh l id).getD 0) bu
theorem Ga {l : List aB} {id : Int} (hl : l.length < 1000000) : oF l id = some (match gh l id with | some i => (l.getD i bu, true) | none => (⟨0, 0, []⟩, false)) := by
 unfold oF uj
 rw [vS bu (fun x => x.ID == id) l (fun i => ((i : Int), id)) (fun i => ((i : Int), id)) id (step := fun v : Int × Int => mL l v.1 v.2) (fun i hi => by
   simp only [mL, Rj, vf, aU]
   rw [bG, aO, aO, az (n := (i : Int) + 1)]
   rfl) (by
   simp only [mL]
   rw [b8])]
 unfold gh
 cases hi : l.findIdx? (fun x => x.ID == id) with
 | none => rfl
 | some i =>
  have hlt : i < l.length := (List.findIdx?_eq_some_iff_getElem.1 hi).1
  simp only [kc, ui, aU]
  rw [ct, aO, aO, Rj]
theorem GQ {l : List aB} {id : Int} {i : Nat} (h : gh l id = some i) : i < l.length := (List.findIdx?_eq_some_iff_getElem.1 h).1
theorem Fp {l : List aB} {id : Int} (h : ∃ x ∈ l, x.ID = id) : ∃ i, gh l id = some i := by
 obtain ⟨x, hx, he⟩ := h
 have : gh l id ≠ none := vT.1 ⟨x, hx, by simpa using he⟩
 cases h : gh l id with
 | none => exact absurd h this
 | some i => exact ⟨i, rfl⟩
def dL (m : Nat) (ps : List Nat) : List Int := (List.range m).map fun i => ((ps.count i : Nat) : Int)
theorem jW (m : Nat) (ps : List Nat) : (dL m ps).length = m := by simp [dL]
theorem tj {m : Nat} {ps : List Nat} {i : Nat} (h : i < m) : (dL m ps).getD i 0 = ((ps.count i : Nat) : Int) := by
 unfold dL
 rw [Re, RO, List.getElem?_range h]
 rfl
theorem Gb {l k : List Int} (hl : l.length = k.length) (h : ∀ i, i < l.length → l.getD i 0 = k.getD i 0) : l = k := by
 refine List.ext_getElem hl fun i h1 h2 => ?_
 have := h i h1
 rw [Re, Re, Rf h1, Rf h2] at this
 simpa using this
theorem Fq {m : Nat} {ps : List Nat} {p : Nat} (h : p < m) : (dL m ps).set p ((dL m ps).getD p 0 + 1) = dL m (ps ++ [p]) := by
 refine Gb (by simp [jW]) fun i hi => ?_
 rw [R7, jW] at hi
 rw [tj hi, tj h, List.count_append, Re, Se]
 by_cases e : p = i
 ·subst e
  rw [if_pos rfl, if_pos (by rw [jW]; exact h)]
  simp
 ·rw [if_neg e, ← Re, tj hi, List.count_singleton, if_neg (by simpa using e)]
  simp
theorem Gc (m : Nat) : dL m [] = List.replicate m 0 := by
 refine Gb (by simp [jW]) fun i hi => ?_
 rw [jW] at hi
 rw [tj hi, Re, List.getElem?_replicate, if_pos hi]
 rfl
def fL (ts : List Int) (x y : aB) : Nat := (A0 (List.zipWith dO ts (List.zipWith dw x.Fields y.Fields))).toNat
theorem Gd (ts : List Int) (x y : aB) : A0 (List.zipWith dO ts (List.zipWith dw x.Fields y.Fields)) = ((fL ts x y : Nat) : Int) := by
 unfold fL
 have := (SE _ (A4 (f := dO) zE (l := ts) (k := List.zipWith dw x.Fields y.Fields))).1
 omega
theorem GR {ts : List Int} {x y : aB} : fL ts x y < 3 ^ ts.length := by
 have h1 := SE _ (A4 (f := dO) zE (l := ts) (k := List.zipWith dw x.Fields y.Fields))
 have h2 : (List.zipWith dO ts (List.zipWith dw x.Fields y.Fields)).length ≤ ts.length := by rw [List.length_zipWith]; exact Nat.min_le_left _ _
 have h3 := Nat.pow_le_pow_right (show 0 < 3 by decide) h2
 rw [Gd] at h1
 omega
def kP (a b : List aB) (ts : List Int) (c : a8) : Option Nat := match gh a c.A, gh b c.B with
 | some i, some j => some (fL ts (a.getD i bu) (b.getD j bu))
 | _, _ => none
def iy (f : a8 → Option Nat) : List a8 → Option (List Nat)
 | [] => some []
 | c :: l => match f c, iy f l with
  | some p, some ps => some (p :: ps)
  | _, _ => none
theorem Ge {f : a8 → Option Nat} {g : a8 → Nat} : ∀ {l : List a8}, (∀ c ∈ l, f c = some (g c)) → iy f l = some (l.map g)
 | [], _ => rfl
 | c :: l, h => by
  simp only [iy, h c Rw, Ge (l := l) fun x hx => h x (Rx _ hx), Sq]
theorem Ea : ∀ {a b : List Int}, cY a → cY b → cf (List.zipWith (cn .u64) a b) ≤ cf a ∧ cf (List.zipWith (cn .u64) a b) ≤ cf b
 | [], _, _, _ => ⟨by simp [cf], by simp [cf]⟩
 | _ :: _, [], _, _ => ⟨by simp [cf], by simp [cf]⟩
 | x :: a, y :: b, ha, hb => by
  have ih := Ea (fun w h => ha w (Rx _ h)) (fun w h => hb w (Rx _ h)) (a := a) (b := b)
  have hx := ha x Rw
  have hy := hb y Rw
  obtain ⟨u, rfl⟩ := Int.eq_ofNat_of_zero_le hx.1
  obtain ⟨v, rfl⟩ := Int.eq_ofNat_of_zero_le hy.1
  have h := KQ 64 u v
  simp only [List.zipWith_cons_cons, cf]
  rw [mm (by omega) (by omega), Rj, Rj, Rj]
  unfold im
  omega
theorem LI {p q : aR} (hp : cY p.Words) (hq : cY q.Words) : -1 ≤ dw p q ∧ dw p q ≤ 1000 := by
 unfold dw
 split
 ·split
  ·omega
  ·have h := Ea hp hq
   generalize cf p.Words = a at *
   generalize cf q.Words = b at *
   generalize cf (List.zipWith (cn .u64) p.Words q.Words) = c at *
   have : (4000 * c + (a + b)) / (2 * (a + b)) < 1001 := by
    rw [Nat.div_lt_iff_lt_mul (by omega)]
    omega
   generalize (4000 * c + (a + b)) / (2 * (a + b)) = q at this ⊢
   omega
 ·omega
theorem NP {p q : List aR} (hp : WF p) (hq : WF q) : ∀ s ∈ List.zipWith dw p q, -1 ≤ s ∧ s ≤ 1000 := by
 intro s hs
 obtain ⟨i, hi, rfl⟩ := List.mem_iff_getElem.1 hs
 rw [List.getElem_zipWith]
 exact LI (hp _ (Sb _)) (hq _ (Sb _))
def Bs (cs : List a8) (a b : List aB) (ts : List Int) : List Int × Int :=
 if jt cs.length a b ts ≠ 0 then ([], jt cs.length a b ts) else match iy (kP a b ts) cs with
  | some ps => (dL (3 ^ ts.length) ps, 0)
  | none => ([], 13)
theorem Px {m : Nat} {a b : List aB} {ts : List Int} (h : ¬ jt m a b ts ≠ 0) : (1 ≤ ts.length ∧ ts.length ≤ 5) ∧ m ≤ 4096 ∧ (∀ t ∈ ts, 0 ≤ t ∧ t ≤ 1000) ∧ ∀ x ∈ a ++ b, eo ts.length x := by
 unfold jt at h
 by_cases h1 : 1 ≤ ts.length ∧ ts.length ≤ 5
 ·rw [if_neg (show ¬ ¬ (1 ≤ ts.length ∧ ts.length ≤ 5) from fun k => k h1)] at h
  by_cases h2 : 4096 < m
  ·rw [if_pos h2] at h; exact absurd (by decide) h
  ·rw [if_neg h2] at h
   by_cases h3 : ∀ t ∈ ts, 0 ≤ t ∧ t ≤ 1000
   ·rw [if_neg (show ¬ ¬ (∀ t ∈ ts, 0 ≤ t ∧ t ≤ 1000) from fun k => k h3)] at h
    by_cases h4 : ∀ x ∈ a ++ b, eo ts.length x
    ·exact ⟨h1, by omega, h3, h4⟩
    ·rw [if_pos h4] at h; exact absurd (by decide) h
   ·rw [if_pos h3] at h; exact absurd (by decide) h
 ·rw [if_pos h1] at h; exact absurd (by decide) h
theorem MJ {ts : List Int} {x y : aB} (h1 : 1 ≤ ts.length) (h5 : ts.length ≤ 5) (ht : ∀ t ∈ ts, 0 ≤ t ∧ t ≤ 1000) (hx : x.Fields.length = ts.length) (hy : y.Fields.length = ts.length) (wx : WF x.Fields) (wy : WF y.Fields) :
  gm x y = some (List.zipWith dw x.Fields y.Fields, 0) ∧ iF ts (List.zipWith dw x.Fields y.Fields) = some (((fL ts x y : Nat) : Int), 0) := by
 refine ⟨by rw [LG wx wy (by omega), aO], ?_⟩
 have hz : (List.zipWith dw x.Fields y.Fields).length = ts.length := by rw [List.length_zipWith]; omega
 rw [LF (by omega), aO, if_pos ⟨ht, NP wx wy⟩, Gd]
theorem LJ {cs : List a8} {a b : List aB} {ts : List Int} (ha : a.length < 100000) (hb : b.length < 100000) (hc : cs.length ≤ 4096) (h1 : 1 ≤ ts.length) (h5 : ts.length ≤ 5) (ht : ∀ t ∈ ts, 0 ≤ t ∧ t ≤ 1000) (hr : ∀ x ∈ a ++ b, eo ts.length x) (hw : ∀ x ∈ a ++ b, WF x.Fields) :
  ∀ (k j : Nat) (ps : List Nat), ps.length = j → j + k = cs.length → loop (fun v : (List Int) × Int => lD cs a b ts v.1 v.2) (dL (3 ^ ts.length) ps, (j : Int)) = some (match iy (kP a b ts) (cs.drop j) with | some qs => .inl (dL (3 ^ ts.length) (ps ++ qs)) | none => .inr 13) := by
 intro k
 induction k with
 | zero =>
  intro j ps hp hj
  have : j = cs.length := by omega
  rw [this, dm (t := .inl (dL (3 ^ ts.length) ps)) (by simp only [lD]; rw [b8]), List.drop_length]
  simp only [iy, List.append_nil]
 | succ k ih =>
  intro j ps hp hj
  have hjl : j < cs.length := by omega
  rw [Fl d8 hjl]
  have hstep : lD cs a b ts (dL (3 ^ ts.length) ps) (j : Int) = match kP a b ts (cs.getD j d8) with | some p => some (.inl (dL (3 ^ ts.length) (ps ++ [p]), ((j + 1 : Nat) : Int))) | none => some (.inr (.inr 13)) := by
   unfold lD kP
   rw [bG, aO, aO, Rj, Ga (by omega), Ga (by omega)]
   cases ei : gh a (cs.getD j d8).A with
   | none => simp only [aU]; cases ej : gh b (cs.getD j d8).B <;> rfl
   | some i =>
    cases ej : gh b (cs.getD j d8).B with
    | none => rfl
    | some i2 =>
     have hx := A5 (GQ ei)
     have hy := A5 (GQ ej)
     have rx := hr _ (List.mem_append_left b hx)
     have ry := hr _ (List.mem_append_right a hy)
     have wx := hw _ (List.mem_append_left b hx)
     have wy := hw _ (List.mem_append_right a hy)
     obtain ⟨e1, e2⟩ := MJ h1 h5 ht rx.2 ry.2 wx wy
     simp only [aU, Bool.not_true, Bool.false_eq_true, if_false, q8]
     rw [e1, aU, aV, e2, aU, aV]
     have hp := GR (ts := ts) (x := a.getD i bu) (y := b.getD i2 bu)
     have hq := SC h5
     have hcn := List.count_le_length (a := fL ts (a.getD i bu) (b.getD i2 bu)) (l := ps)
     rw [aO, if_pos (by rw [jW]; omega), Rj, R9, ← Fq hp, tj hp, az (n := _ + 1), az (n := (j : Int) + 1)]
     rfl
  cases ec : kP a b ts (cs.getD j d8) with
  | none =>
   rw [ec] at hstep
   rw [dm hstep]
   simp only [iy, ec]
  | some p =>
   rw [ec] at hstep
   rw [dH hstep, ih (j + 1) (ps ++ [p]) (by simp [hp]) (by omega)]
   simp only [iy, ec]
   cases iy (kP a b ts) (cs.drop (j + 1)) with
   | none => rfl
   | some qs => simp only [RP, List.singleton_append]
theorem NQ {cs : List a8} {a b : List aB} {ts : List Int} (ha : a.length < 100000) (hb : b.length < 100000) (ht : ts.length < 1000000) (hf : ∀ x ∈ a ++ b, x.Fields.length < 1000000) (hw : ∀ x ∈ a ++ b, WF x.Fields) : jN cs a b ts = some (Bs cs a b ts) := by
 unfold jN Bs
 rw [MI ha hb hf ht, an]
 by_cases h : jt cs.length a b ts ≠ 0
 ·rw [if_pos (by simpa using h), if_pos h]
 ·obtain ⟨⟨h1, h5⟩, hc, hts, hr⟩ := Px h
  have hq := SC h5
  rw [if_neg (by simpa using h), if_neg h, Fo, aO, aU, Rj, aO, aO, Rj, ← Gc, show (0 : Int) = ((0 : Nat) : Int) from rfl, LJ ha hb hc h1 h5 hts hr hw cs.length 0 [] rfl (by omega), List.drop_zero]
  cases iy (kP a b ts) cs with
  | none => rfl
  | some ps => rfl
open AW (block exit ret seq skip)
set_option maxRecDepth 100000
set_option maxHeartbeats 10000000
theorem HG : Tryz.prog.follows .mixedOrders = true := by kernel_rfl
def kW (y19 : List aL) (y20 : List aL) (x36 : Int) (x43 : List a8) (x44 : List a8) (x45 : Int) : Option ((List a8 × List a8 × Int) ⊕ (List a8 × List a8)) := if decide (x45 < (y20.length : Int)) then if 0 ≤ x36 then if x36 < (y19.length : Int) then if 0 ≤ x45 then if x45 < (y20.length : Int) then if x43.length + ([(⟨(y19.getD x36.toNat bL).ID, (y20.getD x45.toNat bL).ID⟩ : a8)] : List a8).length ≤ 1099511627776 then if ([(⟨(y20.getD x45.toNat bL).ID, (y19.getD x36.toNat bL).ID⟩ : a8)] : List a8).length + x44.length ≤ 1099511627776 then some (.inl ((x43 ++ ([(⟨(y19.getD x36.toNat bL).ID, (y20.getD x45.toNat bL).ID⟩ : a8)] : List a8)), (([(⟨(y20.getD x45.toNat bL).ID, (y19.getD x36.toNat bL).ID⟩ : a8)] : List a8) ++ x44), SB (x45 + 1))) else none else none else none else none else none else none else some (.inr (x43, x44))
def kX (y19 : List aL) (y20 : List aL) (x34 : List a8) (x35 : List a8) (x36 : Int) : Option ((List a8 × List a8 × Int) ⊕ (List a8 × List a8)) := if decide (x36 < (y19.length : Int)) then aF (loop (fun v : List a8 × List a8 × Int => kW y19 y20 x36 v.1 v.2.1 v.2.2) (x34, x35, 0)) fun x55 x56 => (some (.inl (x55, x56, SB (x36 + 1)))) else some (.inr (x34, x35))
def gl (x77 : Bool) : Option Bool := some x77
def jy (y7 : aS) (y16 : bW) (y19 : List aL) (y20 : List aL) (y23 : List aB) (y26 : List aB) (x29 : Bool) : Option Bool := if x29 then some false else aF (loop (fun v : List a8 × List a8 × Int => kX y19 y20 v.1 v.2.1 v.2.2) (([] : List a8), ([] : List a8), 0)) fun x58 x59 => (if 0 ≤ (y7.Fields.length : Int) then if ((y7.Fields.length : Int).toNat) ≤ (([800, 700, 900, 800] : List Int).length) then aF (jN x58 y23 y26 (([800, 700, 900, 800] : List Int).take ((y7.Fields.length : Int).toNat))) fun y62 y63 => (if 0 + (y7.Fields.length : Int).toNat ≤ ([800, 700, 900, 800] : List Int).length then aF (jN x59 y26 y23 (([800, 700, 900, 800] : List Int).take ((y7.Fields.length : Int).toNat))) fun y66 y67 => (ko (ml y16 y62 2) fun y69 y70 y71 => (ko (ml y16 y66 2) fun y73 y74 y75 => (if (y63 == 0) then if (y67 == 0) then if (y71 == 0) then if (y75 == 0) then if (y70 == y74) then (pu y69 y73).bind fun y83 => (if y83 then (me y69).bind fun y86 => (if (y86 == 0) then (sk y62).bind fun y89 => (gl (y89 == (x58.length : Int))) else gl false) else gl false) else gl false else gl false else gl false else gl false else gl false))) else none) else none else none)
def mX (p0 : List Int) (x1 : Bool) : Option Bool := if x1 then (oE).bind fun y3 => (some y3) else (vI p0).bind fun y5 => (aF (qF y5) fun y7 y8 => (aF (qz y8 (y7.Fields.length : Int)) fun y10 y11 => (aF (qZ y11) fun y13 y14 => (aF (qJ y14 (y7.Fields.length : Int)) fun y16 y17 => (ko (rM y17 y7 4) fun y19 y20 y21 => (aF (oX y7 y10 y13 y19) fun y23 y24 => (aF (oX y7 y10 y13 y20) fun y26 y27 => (if (y24 != 0) then jy y7 y16 y19 y20 y23 y26 true else if (y27 != 0) then jy y7 y16 y19 y20 y23 y26 true else if ((y23.length : Int) != (y19.length : Int)) then jy y7 y16 y19 y20 y23 y26 true else jy y7 y16 y19 y20 y23 y26 ((y26.length : Int) != (y20.length : Int))))))))))
def uL (p0 : List Int) : Option Bool := (oE).bind fun y95 => (if (!y95) then mX p0 true else (vH p0).bind fun y98 => (mX p0 (!y98)))
theorem Il (p0 : List Int) (r : Bool) (h : uL p0 = some r) : CT 3 [vl 1 al p0] [] (vb r) [] := by
 refine aw ae 0 Tryz.func3 rfl (fun _ _ _ => ?_)
 unfold uL at h
 refine ah ae [] 1 (seq (seq ?_))
 refine AW.join (ι := Bool) (fun v => ⟨[(0, vl 1 al p0), (36, vb v)], [], 0⟩) (fun v : Bool => mX p0 v = some r) (fun x1 h => ?_) ?_
 ·unfold mX at h
  refine QX ?_
  refine Q2 h ?_ ?_ <;> intro c2 h
  ·obtain ⟨y3, e4, h⟩ := ap h
   refine aA ae [(2, vb y3)] 1 [hk (yr y3 e4)] (ret (QW ?_))
   apply au h (vb y3)
  ·refine skip (QX ?_)
   obtain ⟨y5, e6, h⟩ := ap h
   refine QZ ae [(3, pX 1 3)] [1] [(1, .box 89 (br y5))] 3 [hn, hl [] [] 1 (JC p0 y5 e6)] ?_
   obtain ⟨y7, y8, e9, h⟩ := aK h
   refine QZ ae [(4, pX 8 4)] [1, 4, 5, 6, 7, 8] [(8, .box 33 [.ref 4 2 0 y7.Fields.length, .ref 5 1 0 y7.Rules.Titles.length, .ref 6 2 0 y7.Rules.Nicknames.length, .ref 7 2 0 y7.Rules.Streets.length]), (1, .box 89 (br y8)), (4, .row 82 false 2 y7.Fields.length (cZ y7.Fields)), (5, .row 9 false 1 y7.Rules.Titles.length (Rs y7.Rules.Titles)), (6, .row 149 false 2 y7.Rules.Nicknames.length (bA y7.Rules.Nicknames)), (7, .row 149 false 2 y7.Rules.Streets.length (bA y7.Rules.Streets))] 10 [hn, hl [1] [] 4 (Ii y5 (y7, y8) e9)] ?_
   refine ah ae [(5, af (y7.Fields.length : Int))] 14 ?_
   obtain ⟨y10, y11, e12, h⟩ := aK h
   obtain ⟨y13, y14, e15, h⟩ := aK h
   obtain ⟨y16, y17, e18, h⟩ := aK h
   refine QZ ae [(6, rX 16 3 y10.length), (8, pX 23 3), (7, pX 22 2)] [1, 16, 20, 21, 22, 23] [(23, .box 42 [ag y16.Prior, .ref 20 1 0 y16.Match.length, .ref 21 1 0 y16.Random.length]), (22, .box 39 (bN y13)), (1, .box 89 (br y17)), (20, .row 3 false 1 y16.Match.length (al y16.Match)), (21, .row 3 false 1 y16.Random.length (al y16.Random)), (16, .row 84 false 3 y10.length (cA y10))] 27 (Ss [hl [1] [] 1 (Ia y8 (y7.Fields.length : Int) (y10, y11) e12), hn, hl [1] [] 0 (IC y11 (y13, y14) e15), hn, hn, hl [1] [] 2 (Ip y14 (y7.Fields.length : Int) (y16, y17) e18)]) ?_
   obtain ⟨y19, y20, y21, e22, h⟩ := sL h
   refine QZ ae [(10, rX 30 3 y20.length), (9, rX 29 3 y19.length)] [1, 4, 5, 6, 7, 29, 30] [(29, .row 53 false 3 y19.length (bF y19)), (30, .row 53 false 3 y20.length (bF y20)), (4, .row 82 true 2 y7.Fields.length (cZ y7.Fields)), (5, .row 9 true 1 y7.Rules.Titles.length (Rs y7.Rules.Titles)), (6, .row 149 true 2 y7.Rules.Nicknames.length (bA y7.Rules.Nicknames)), (7, .row 149 true 2 y7.Rules.Streets.length (bA y7.Rules.Streets))] 36 (Ss [hg [1] [4, 5, 6, 7] false 2 (q := (True) ∧ ((0 + y7.Fields.length ≤ y7.Fields.length) ∧ (0 + y7.Rules.Titles.length ≤ y7.Rules.Titles.length) ∧ (0 + y7.Rules.Nicknames.length ≤ y7.Rules.Nicknames.length) ∧ (0 + y7.Rules.Streets.length ≤ y7.Rules.Streets.length) ∧ (True)) ∧ (True) ∧ (True)) ⟨tv, ⟨Ax, Ax, Ax, Ax, tv⟩, tv, tv⟩ (a0 := [.c (.ptr 0 3 0 0), .agg (bf y7), af 4]) (IW y17 y7 4 (y19, y20, y21) e22) ⟨aN.refl _, aN.refl _, aN.refl _, tv⟩ (fun h => by cases h)]) ?_
   obtain ⟨y23, y24, e25, h⟩ := aK h
   refine QZ ae [(12, af y24), (11, rX 40 3 y23.length)] [16, 29, 40] [(40, .row 70 false 3 y23.length (bC y23)), (16, .row 84 true 3 y10.length (cA y10)), (29, .row 53 true 3 y19.length (bF y19))] 46 (Sv [hg [] [16, 29] false 1 (q := ((0 + y7.Fields.length ≤ y7.Fields.length) ∧ (0 + y7.Rules.Titles.length ≤ y7.Rules.Titles.length) ∧ (0 + y7.Rules.Nicknames.length ≤ y7.Rules.Nicknames.length) ∧ (0 + y7.Rules.Streets.length ≤ y7.Rules.Streets.length) ∧ (True)) ∧ (0 + y10.length ≤ y10.length) ∧ ((True) ∧ (True) ∧ (True)) ∧ (0 + y19.length ≤ y19.length) ∧ (True)) ⟨⟨Ax, Ax, Ax, Ax, tv⟩, Ax, ⟨tv, tv, tv⟩, Ax, tv⟩ (a0 := [.agg (bf y7), vl 3 cA y10, .agg (bN y13), vl 3 bF y19]) (Dy y7 y10 y13 y19 (y23, y24) e25) ⟨aN.refl _, aN.refl _, aN.refl _, aN.refl _, tv⟩ (fun h => by cases h)]) ?_
   obtain ⟨y26, y27, e28, h⟩ := aK h
   refine QZ ae [(14, af y27), (13, rX 50 3 y26.length)] [30, 50] [(50, .row 70 false 3 y26.length (bC y26)), (30, .row 53 true 3 y20.length (bF y20))] 56 (Sv [hg [] [30] false 1 (q := ((0 + y7.Fields.length ≤ y7.Fields.length) ∧ (0 + y7.Rules.Titles.length ≤ y7.Rules.Titles.length) ∧ (0 + y7.Rules.Nicknames.length ≤ y7.Rules.Nicknames.length) ∧ (0 + y7.Rules.Streets.length ≤ y7.Rules.Streets.length) ∧ (True)) ∧ (0 + y10.length ≤ y10.length) ∧ ((True) ∧ (True) ∧ (True)) ∧ (0 + y20.length ≤ y20.length) ∧ (True)) ⟨⟨Ax, Ax, Ax, Ax, tv⟩, Ax, ⟨tv, tv, tv⟩, Ax, tv⟩ (a0 := [.agg (bf y7), vl 3 cA y10, .agg (bN y13), vl 3 bF y20]) (Dy y7 y10 y13 y20 (y26, y27) e28) ⟨aN.refl _, aN.refl _, aN.refl _, aN.refl _, tv⟩ (fun h => by cases h)]) (seq (seq ?_))
   refine AW.join (ι := Bool) (fun v => ⟨[(5, af (y7.Fields.length : Int)), (8, pX 0 3), (9, vl 3 bF y19), (10, vl 3 bF y20), (11, rX 1 3 y23.length), (13, rX 2 3 y26.length), (94, vb v)], [(0, .box 42 [ag y16.Prior, .ref 3 1 0 y16.Match.length, .ref 4 1 0 y16.Random.length]), (1, .row 70 false 3 y23.length (bC y23)), (2, .row 70 false 3 y26.length (bC y26)), (3, .row 3 false 1 y16.Match.length (al y16.Match)), (4, .row 3 false 1 y16.Random.length (al y16.Random))], 5⟩) (fun v : Bool => jy y7 y16 y19 y20 y23 y26 v = some r) (fun x29 h => ?_) ?_
   ·unfold jy at h
    refine QX ?_
    refine Q2 h ?_ ?_ <;> intro c30 h
    ·refine ah ae [(2, vb false)] 6 (ret (QW ?_))
     apply au h (vb false)
    ·refine skip (QX ?_)
     refine ah ae [(16, .c (ar)), (15, .c (ar))] 7 (seq ?_)
     refine ah ae [(97, af 0), (96, af (y19.length : Int))] 10 (block ?_)
     obtain ⟨x58, x59, l91, h⟩ := aK h
     refine Q3 l91 (fun v => ⟨[(5, af (y7.Fields.length : Int)), (8, pX 0 3), (9, vl 3 bF y19), (10, vl 3 bF y20), (11, rX 1 3 y23.length), (13, rX 2 3 y26.length), (15, rX 3 2 v.1.length), (16, rX 4 2 v.2.1.length), (96, af (y19.length : Int)), (97, af v.2.2)], [(0, .box 42 [ag y16.Prior, .ref 5 1 0 y16.Match.length, .ref 6 1 0 y16.Random.length]), (1, .row 70 false 3 y23.length (bC y23)), (2, .row 70 false 3 y26.length (bC y26)), (3, .row 55 false 2 v.1.length (dX v.1)), (4, .row 55 false 2 v.2.1.length (dX v.2.1)), (5, .row 3 false 1 y16.Match.length (al y16.Match)), (6, .row 3 false 1 y16.Random.length (al y16.Random))], 7⟩) (fun t : (List a8) × (List a8) => (.exit 0, ⟨[(5, af (y7.Fields.length : Int)), (8, pX 0 3), (11, rX 1 3 y23.length), (13, rX 2 3 y26.length), (15, rX 3 2 t.1.length), (16, rX 4 2 t.2.length)], [(0, .box 42 [ag y16.Prior, .ref 5 1 0 y16.Match.length, .ref 6 1 0 y16.Random.length]), (1, .row 70 false 3 y23.length (bC y23)), (2, .row 70 false 3 y26.length (bC y26)), (3, .row 55 false 2 t.1.length (dX t.1)), (4, .row 55 false 2 t.2.length (dX t.2)), (5, .row 3 false 1 y16.Match.length (al y16.Match)), (6, .row 3 false 1 y16.Random.length (al y16.Random))], 7⟩)) (Conv.trans (cG (t := 15) (ty := 55) (sz := 2) (n := ([] : List a8).length) (f := dX ([] : List a8)) (by kernel_rfl) rfl) (Conv.trans (cG (t := 16) (ty := 55) (sz := 2) (n := ([] : List a8).length) (f := dX ([] : List a8)) (by kernel_rfl) rfl) (ai [(0, 0), (1, 1), (2, 2), (3, 10), (4, 11), (5, 3), (6, 4)]))) (fun _ => tv) ?_ ?_
     ·clear l91 h
      intro v o h
      obtain ⟨x34, x35, x36⟩ := v
      replace h : kX y19 y20 x34 x35 x36 = some o := h
      unfold kX at h
      refine ah ae [(98, vb (decide (x36 < (y19.length : Int))))] 8 (seq ?_)
      refine Q2 h ?_ ?_ <;> intro c39 h
      ·refine skip (QX ?_)
       refine seq (block ?_)
       refine ah ae [(17, af x36)] 10 ?_
       refine ah ae [(102, af 0), (101, af (y20.length : Int))] 13 (block ?_)
       obtain ⟨x55, x56, l57, h⟩ := aK h
       refine Q3 l57 (fun v => ⟨[(5, af (y7.Fields.length : Int)), (8, pX 0 3), (9, vl 3 bF y19), (10, vl 3 bF y20), (11, rX 1 3 y23.length), (13, rX 2 3 y26.length), (15, rX 3 2 v.1.length), (16, rX 4 2 v.2.1.length), (17, af x36), (96, af (y19.length : Int)), (97, af x36), (101, af (y20.length : Int)), (102, af v.2.2)], [(0, .box 42 [ag y16.Prior, .ref 5 1 0 y16.Match.length, .ref 6 1 0 y16.Random.length]), (1, .row 70 false 3 y23.length (bC y23)), (2, .row 70 false 3 y26.length (bC y26)), (3, .row 55 false 2 v.1.length (dX v.1)), (4, .row 55 false 2 v.2.1.length (dX v.2.1)), (5, .row 3 false 1 y16.Match.length (al y16.Match)), (6, .row 3 false 1 y16.Random.length (al y16.Random))], 7⟩) (fun t : (List a8) × (List a8) => (.exit 2, ⟨[(5, af (y7.Fields.length : Int)), (8, pX 0 3), (9, vl 3 bF y19), (10, vl 3 bF y20), (11, rX 1 3 y23.length), (13, rX 2 3 y26.length), (15, rX 3 2 t.1.length), (16, rX 4 2 t.2.length), (96, af (y19.length : Int)), (97, af x36)], [(0, .box 42 [ag y16.Prior, .ref 5 1 0 y16.Match.length, .ref 6 1 0 y16.Random.length]), (1, .row 70 false 3 y23.length (bC y23)), (2, .row 70 false 3 y26.length (bC y26)), (3, .row 55 false 2 t.1.length (dX t.1)), (4, .row 55 false 2 t.2.length (dX t.2)), (5, .row 3 false 1 y16.Match.length (al y16.Match)), (6, .row 3 false 1 y16.Random.length (al y16.Random))], 7⟩)) (ai [(0, 0), (1, 1), (2, 2), (3, 3), (4, 4), (5, 5), (6, 6)]) (fun _ => tv) ?_ ?_
       ·clear l57 h
        intro v o h
        obtain ⟨x43, x44, x45⟩ := v
        replace h : kW y19 y20 x36 x43 x44 x45 = some o := h
        unfold kW at h
        refine ah ae [(103, vb (decide (x45 < (y20.length : Int))))] 8 (seq ?_)
        refine Q2 h ?_ ?_ <;> intro c48 h
        ·refine skip (QX ?_)
         refine seq (block ?_)
         refine ah ae [(18, af x45)] 10 ?_
         obtain ⟨g49, g50, h⟩ := aJ h
         obtain ⟨g51, g52, h⟩ := aJ h
         obtain ⟨g53, h⟩ := aY h
         refine Q1 ae HG [[], [], [], [], [], [], [], [], [], [], [], [], [22], [23, 3]] [(15, .c (.ref 23 2 0 ((x43 ++ ([(⟨(y19.getD x36.toNat bL).ID, (y20.getD x45.toNat bL).ID⟩ : a8)] : List a8)).length)))] [(23, .row 55 false 2 (x43 ++ ([(⟨(y19.getD x36.toNat bL).ID, (y20.getD x45.toNat bL).ID⟩ : a8)] : List a8)).length (dX (x43 ++ ([(⟨(y19.getD x36.toNat bL).ID, (y20.getD x45.toNat bL).ID⟩ : a8)] : List a8))))] 25 (Su [hq g49 g50, hn, hn, hn, hn, hq g51 g52, hn, hn, hn, bB d8 se 2 (fun _ => rfl) ([(⟨(y19.getD x36.toNat bL).ID, (y20.getD x45.toNat bL).ID⟩ : a8)] : List a8), cP d8 se 2 16 x43 ([(⟨(y19.getD x36.toNat bL).ID, (y20.getD x45.toNat bL).ID⟩ : a8)] : List a8) g53 (by decide)]) ?_
         obtain ⟨g54, h⟩ := aY h
         refine Q0 ae HG [[], [], [], [], [], [], [], [], [], [], [], [36], [], [38, 36]] [(16, .c (.ref 38 2 0 ((([(⟨(y20.getD x45.toNat bL).ID, (y19.getD x36.toNat bL).ID⟩ : a8)] : List a8) ++ x44).length)))] [(38, .row 55 false 2 (([(⟨(y20.getD x45.toNat bL).ID, (y19.getD x36.toNat bL).ID⟩ : a8)] : List a8) ++ x44).length (dX (([(⟨(y20.getD x45.toNat bL).ID, (y19.getD x36.toNat bL).ID⟩ : a8)] : List a8) ++ x44)))] 40 (Ss [hq g51 g52, hn, hn, hn, hn, hq g49 g50, hn, hn, hn, bB d8 se 2 (fun _ => rfl) ([(⟨(y20.getD x45.toNat bL).ID, (y19.getD x36.toNat bL).ID⟩ : a8)] : List a8), hn, cP d8 se 2 16 ([(⟨(y20.getD x45.toNat bL).ID, (y19.getD x36.toNat bL).ID⟩ : a8)] : List a8) x44 g54 (by decide)]) ?_
         refine QU (QX ?_)
         refine ba ae [(102, af (SB (x45 + 1)))] 42 ?_
         exact bh h (ai [(0, 0), (1, 1), (2, 2), (3, 23), (4, 38), (5, 5), (6, 6)])
        ·refine exit (QR ?_)
         exact aX h rfl (ai [(0, 0), (1, 1), (2, 2), (3, 3), (4, 4), (5, 5), (6, 6)])
       ·show (_ : XQ) (.exit 2) _
        refine QO (QU (QX ?_))
        refine ba ae [(97, af (SB (x36 + 1)))] 9 ?_
        exact bh h (ai [(0, 0), (1, 1), (2, 2), (3, 3), (4, 4), (5, 5), (6, 6)])
      ·refine exit (QR ?_)
       exact aX h rfl (ai [(0, 0), (1, 1), (2, 2), (3, 3), (4, 4), (5, 5), (6, 6)])
     ·show (_ : XQ) (.exit 0) _
      refine QO (QX ?_)
      obtain ⟨g60, g61, h⟩ := aJ h
      refine QZ ae [(19, .c (.ref 7 1 0 ((y7.Fields.length : Int).toNat)))] [7] [(7, .row 3 false 1 ([800, 700, 900, 800] : List Int).length (al ([800, 700, 900, 800] : List Int)))] 11 [bB 0 dj 1 (fun _ => rfl) ([800, 700, 900, 800] : List Int), hn, ho (p := (True) ∧ (0 ≤ (y7.Fields.length : Int)) ∧ (0 ≤ ((y7.Fields.length : Int).toNat)) ∧ (((y7.Fields.length : Int).toNat) ≤ (([800, 700, 900, 800] : List Int).length))) (⟨tv, g60, (Nat.zero_le _), g61⟩)] ?_
      obtain ⟨y62, y63, e64, h⟩ := aK h
      obtain ⟨g65, h⟩ := aY h
      refine QZ ae [(21, af y63), (20, rX 15 1 y62.length)] [15] [(15, .row 3 false 1 y62.length (al y62))] 21 (Sv [hg [] [] true 1 (q := (0 + x58.length ≤ x58.length) ∧ (0 + y23.length ≤ y23.length) ∧ (0 + y26.length ≤ y26.length) ∧ (0 + (y7.Fields.length : Int).toNat ≤ ([800, 700, 900, 800] : List Int).length) ∧ (True)) ⟨Ax, Ax, Ax, g65, tv⟩ (a0 := [vl 2 dX x58, vl 3 bC y23, vl 3 bC y26, .c (.t (.tree ((y7.Fields.length : Int).toNat) 1 (al ([800, 700, 900, 800] : List Int))))]) (CY x58 y23 y26 (([800, 700, 900, 800] : List Int).take ((y7.Fields.length : Int).toNat)) (y62, y63) e64) ⟨aN.refl _, aN.refl _, aN.refl _, aN.c (cu.tree (pj (by omega))), tv⟩ (fun _ => ⟨bS fb _ _ _, tv⟩)]) ?_
      obtain ⟨y66, y67, e68, h⟩ := aK h
      refine QZ ae [(23, af y67), (22, rX 25 1 y66.length)] [25] [(25, .row 3 false 1 y66.length (al y66))] 31 (Sv [hg [] [] true 1 (q := (0 + x59.length ≤ x59.length) ∧ (0 + y26.length ≤ y26.length) ∧ (0 + y23.length ≤ y23.length) ∧ (0 + (y7.Fields.length : Int).toNat ≤ ([800, 700, 900, 800] : List Int).length) ∧ (True)) ⟨Ax, Ax, Ax, g65, tv⟩ (a0 := [vl 2 dX x59, vl 3 bC y26, vl 3 bC y23, .c (.t (.tree ((y7.Fields.length : Int).toNat) 1 (al ([800, 700, 900, 800] : List Int))))]) (CY x59 y26 y23 (([800, 700, 900, 800] : List Int).take ((y7.Fields.length : Int).toNat)) (y66, y67) e68) ⟨aN.refl _, aN.refl _, aN.refl _, aN.c (cu.tree (pj (by omega))), tv⟩ (fun _ => ⟨bS fb _ _ _, tv⟩)]) ?_
      obtain ⟨y69, y70, y71, e72, h⟩ := sL h
      refine QZ ae [(26, af y71), (25, af y70), (24, pX 39 3)] [33, 34, 39] [(39, .box 42 [ag y69.Prior, .ref 33 1 0 y69.Match.length, .ref 34 1 0 y69.Random.length]), (33, .row 3 false 1 y69.Match.length (al y69.Match)), (34, .row 3 false 1 y69.Random.length (al y69.Random))] 43 (Ss [hg [] [] true 2 (q := ((True) ∧ (0 + y16.Match.length ≤ y16.Match.length) ∧ (0 + y16.Random.length ≤ y16.Random.length) ∧ (True)) ∧ (0 + y62.length ≤ y62.length) ∧ (True) ∧ (True)) ⟨⟨tv, Ax, Ax, tv⟩, Ax, tv, tv⟩ (a0 := [.agg [ag y16.Prior, cl 1 al y16.Match, cl 1 al y16.Random], vl 1 al y62, af 2]) (EF y16 y62 2 (y69, y70, y71) e72) ⟨aN.refl _, aN.refl _, aN.refl _, tv⟩ (fun _ => ⟨bS fb _ _ _, bS fb _ _ _, tv⟩)]) ?_
      obtain ⟨y73, y74, y75, e76, h⟩ := sL h
      refine QZ ae [(29, af y75), (28, af y74), (27, pX 51 3)] [45, 46, 51] [(51, .box 42 [ag y73.Prior, .ref 45 1 0 y73.Match.length, .ref 46 1 0 y73.Random.length]), (45, .row 3 false 1 y73.Match.length (al y73.Match)), (46, .row 3 false 1 y73.Random.length (al y73.Random))] 55 (Ss [hg [] [] true 2 (q := ((True) ∧ (0 + y16.Match.length ≤ y16.Match.length) ∧ (0 + y16.Random.length ≤ y16.Random.length) ∧ (True)) ∧ (0 + y66.length ≤ y66.length) ∧ (True) ∧ (True)) ⟨⟨tv, Ax, Ax, tv⟩, Ax, tv, tv⟩ (a0 := [.agg [ag y16.Prior, cl 1 al y16.Match, cl 1 al y16.Random], vl 1 al y66, af 2]) (EF y16 y66 2 (y73, y74, y75) e76) ⟨aN.refl _, aN.refl _, aN.refl _, tv⟩ (fun _ => ⟨bS fb _ _ _, bS fb _ _ _, tv⟩)]) (seq ?_)
      refine AW.join (ι := Bool) (fun v => ⟨[(2, vb v)], [], 0⟩) (fun v : Bool => gl v = some r) (fun x77 h => ?_) ?_
      ·unfold gl at h
       refine QX (ret ?_)
       apply au h (vb x77)
      ·rcases aI h with ⟨c78, h⟩ | ⟨c78, h⟩
       ·rcases aI h with ⟨c79, h⟩ | ⟨c79, h⟩
        ·rcases aI h with ⟨c80, h⟩ | ⟨c80, h⟩
         ·rcases aI h with ⟨c81, h⟩ | ⟨c81, h⟩
          ·rcases aI h with ⟨c82, h⟩ | ⟨c82, h⟩
           ·obtain ⟨y83, e84, h⟩ := ap h
            rcases aI h with ⟨c85, hs⟩ | ⟨c85, hs⟩
            ·clear h; subst c85; have h := hs; clear hs
             obtain ⟨y86, e87, h⟩ := ap h
             rcases aI h with ⟨c88, h⟩ | ⟨c88, h⟩
             ·obtain ⟨y89, e90, h⟩ := ap h
              refine ax ae [(2, vb (y89 == (x58.length : Int)))] 89 [hn, ht c78, hn, hn, ht c79, hn, hn, hn, ht c80, hn, hn, hn, ht c81, hn, hn, hn, hn, ht c82, hn, hn, hn, hn, hg [] [] true 0 (q := ((True) ∧ (0 + y69.Match.length ≤ y69.Match.length) ∧ (0 + y69.Random.length ≤ y69.Random.length) ∧ (True)) ∧ ((True) ∧ (0 + y73.Match.length ≤ y73.Match.length) ∧ (0 + y73.Random.length ≤ y73.Random.length) ∧ (True)) ∧ (True)) ⟨⟨tv, Ax, Ax, tv⟩, ⟨tv, Ax, Ax, tv⟩, tv⟩ (a0 := [.agg [ag y69.Prior, cl 1 al y69.Match, cl 1 al y69.Random], .agg [ag y73.Prior, cl 1 al y73.Match, cl 1 al y73.Random]]) (vK y69 y73 true e84) ⟨aN.refl _, aN.refl _, tv⟩ (fun _ => tv), hn, hn, hn, hg [] [] true 0 (q := ((True) ∧ (0 + y69.Match.length ≤ y69.Match.length) ∧ (0 + y69.Random.length ≤ y69.Random.length) ∧ (True)) ∧ (True)) ⟨⟨tv, Ax, Ax, tv⟩, tv⟩ (a0 := [.agg [ag y69.Prior, cl 1 al y69.Match, cl 1 al y69.Random]]) (vD y69 y86 e87) ⟨aN.refl _, tv⟩ (fun _ => tv), ht c88, hn, hn, hn, hg [] [] true 0 (q := (0 + y62.length ≤ y62.length) ∧ (True)) ⟨Ax, tv⟩ (a0 := [vl 1 al y62]) (Je y62 y89 e90) ⟨aN.refl _, tv⟩ (fun _ => tv)] ?_
              exact jl (y89 == (x58.length : Int)) h
             ·refine ax ae [(2, vb false)] 90 [hn, ht c78, hn, hn, ht c79, hn, hn, hn, ht c80, hn, hn, hn, ht c81, hn, hn, hn, hn, ht c82, hn, hn, hn, hn, hg [] [] true 0 (q := ((True) ∧ (0 + y69.Match.length ≤ y69.Match.length) ∧ (0 + y69.Random.length ≤ y69.Random.length) ∧ (True)) ∧ ((True) ∧ (0 + y73.Match.length ≤ y73.Match.length) ∧ (0 + y73.Random.length ≤ y73.Random.length) ∧ (True)) ∧ (True)) ⟨⟨tv, Ax, Ax, tv⟩, ⟨tv, Ax, Ax, tv⟩, tv⟩ (a0 := [.agg [ag y69.Prior, cl 1 al y69.Match, cl 1 al y69.Random], .agg [ag y73.Prior, cl 1 al y73.Match, cl 1 al y73.Random]]) (vK y69 y73 true e84) ⟨aN.refl _, aN.refl _, tv⟩ (fun _ => tv), hn, hn, hn, hg [] [] true 0 (q := ((True) ∧ (0 + y69.Match.length ≤ y69.Match.length) ∧ (0 + y69.Random.length ≤ y69.Random.length) ∧ (True)) ∧ (True)) ⟨⟨tv, Ax, Ax, tv⟩, tv⟩ (a0 := [.agg [ag y69.Prior, cl 1 al y69.Match, cl 1 al y69.Random]]) (vD y69 y86 e87) ⟨aN.refl _, tv⟩ (fun _ => tv), hf c88] ?_
              exact jl false h
            ·clear h; subst c85; have h := hs; clear hs
             refine ax ae [(2, vb false)] 91 [hn, ht c78, hn, hn, ht c79, hn, hn, hn, ht c80, hn, hn, hn, ht c81, hn, hn, hn, hn, ht c82, hn, hn, hn, hn, hg [] [] true 0 (q := ((True) ∧ (0 + y69.Match.length ≤ y69.Match.length) ∧ (0 + y69.Random.length ≤ y69.Random.length) ∧ (True)) ∧ ((True) ∧ (0 + y73.Match.length ≤ y73.Match.length) ∧ (0 + y73.Random.length ≤ y73.Random.length) ∧ (True)) ∧ (True)) ⟨⟨tv, Ax, Ax, tv⟩, ⟨tv, Ax, Ax, tv⟩, tv⟩ (a0 := [.agg [ag y69.Prior, cl 1 al y69.Match, cl 1 al y69.Random], .agg [ag y73.Prior, cl 1 al y73.Match, cl 1 al y73.Random]]) (vK y69 y73 false e84) ⟨aN.refl _, aN.refl _, tv⟩ (fun _ => tv)] ?_
             exact jl false h
           ·refine ax ae [(2, vb false)] 92 [hn, ht c78, hn, hn, ht c79, hn, hn, hn, ht c80, hn, hn, hn, ht c81, hn, hn, hn, hn, hf c82] ?_
            exact jl false h
          ·refine ax ae [(2, vb false)] 92 [hn, ht c78, hn, hn, ht c79, hn, hn, hn, ht c80, hn, hn, hn, hf c81] ?_
           exact jl false h
         ·refine ax ae [(2, vb false)] 92 [hn, ht c78, hn, hn, ht c79, hn, hn, hn, hf c80] ?_
          exact jl false h
        ·refine ax ae [(2, vb false)] 92 [hn, ht c78, hn, hn, hf c79] ?_
         exact jl false h
       ·refine ax ae [(2, vb false)] 92 [hn, hf c78] ?_
        exact jl false h
   ·rcases aI h with ⟨c92, h⟩ | ⟨c92, h⟩
    ·refine ax ae [(94, vb true)] 76 [hn, ht c92] ?_
     exact jl true h (Conv.trans (cV [(9, vl 3 bF y19), (10, vl 3 bF y20)] ⟨⟨.c (.ref 29 3 0 y19.length), by kernel_rfl, bU.c (bv.ref (ty := 53) (f := bF y19) (by kernel_rfl) Ax)⟩, ⟨.c (.ref 30 3 0 y20.length), by kernel_rfl, bU.c (bv.ref (ty := 53) (f := bF y20) (by kernel_rfl) Ax)⟩, tv⟩) (ai [(0, 23), (1, 40), (2, 50), (3, 20), (4, 21)]))
    ·rcases aI h with ⟨c93, h⟩ | ⟨c93, h⟩
     ·refine ax ae [(94, vb true)] 76 [hn, hf c92, hn, hn, ht c93] ?_
      exact jl true h (Conv.trans (cV [(9, vl 3 bF y19), (10, vl 3 bF y20)] ⟨⟨.c (.ref 29 3 0 y19.length), by kernel_rfl, bU.c (bv.ref (ty := 53) (f := bF y19) (by kernel_rfl) Ax)⟩, ⟨.c (.ref 30 3 0 y20.length), by kernel_rfl, bU.c (bv.ref (ty := 53) (f := bF y20) (by kernel_rfl) Ax)⟩, tv⟩) (ai [(0, 23), (1, 40), (2, 50), (3, 20), (4, 21)]))
     ·rcases aI h with ⟨c94, h⟩ | ⟨c94, h⟩
      ·refine ax ae [(94, vb true)] 76 [hn, hf c92, hn, hn, hf c93, hn, hn, hn, hn, hn, hn, ht c94] ?_
       exact jl true h (Conv.trans (cV [(9, vl 3 bF y19), (10, vl 3 bF y20)] ⟨⟨.c (.ref 29 3 0 y19.length), by kernel_rfl, bU.c (bv.ref (ty := 53) (f := bF y19) (by kernel_rfl) Ax)⟩, ⟨.c (.ref 30 3 0 y20.length), by kernel_rfl, bU.c (bv.ref (ty := 53) (f := bF y20) (by kernel_rfl) Ax)⟩, tv⟩) (ai [(0, 23), (1, 40), (2, 50), (3, 20), (4, 21)]))
      ·refine ax ae [(94, vb ((y26.length : Int) != (y20.length : Int)))] 76 [hn, hf c92, hn, hn, hf c93, hn, hn, hn, hn, hn, hn, hf c94] ?_
       exact jl ((y26.length : Int) != (y20.length : Int)) h (Conv.trans (cV [(9, vl 3 bF y19), (10, vl 3 bF y20)] ⟨⟨.c (.ref 29 3 0 y19.length), by kernel_rfl, bU.c (bv.ref (ty := 53) (f := bF y19) (by kernel_rfl) Ax)⟩, ⟨.c (.ref 30 3 0 y20.length), by kernel_rfl, bU.c (bv.ref (ty := 53) (f := bF y20) (by kernel_rfl) Ax)⟩, tv⟩) (ai [(0, 23), (1, 40), (2, 50), (3, 20), (4, 21)]))
 ·obtain ⟨y95, e96, h⟩ := ap h
  rcases aI h with ⟨c97, h⟩ | ⟨c97, h⟩
  ·refine ax ae [(36, vb true)] 7 [hk (yr y95 e96), ht c97] ?_
   exact jl true h
  ·obtain ⟨y98, e99, h⟩ := ap h
   refine ax ae [(36, vb (!y98))] 6 [hk (yr y95 e96), hf c97, hn, hn, hk (JB p0 y98 e99)] ?_
   exact jl (!y98) h
theorem Od {α β : Type} (x : Option (α × β)) : aF x (fun a b => some (a, b)) = x := by
 cases x with
 | none => rfl
 | some p => cases p; rfl
def mF (n : Nat) (r : aL) (x : aB) : Prop := ∃ out, x = ⟨r.ID, r.Version, out⟩ ∧ out.length = n ∧ ∀ b ∈ out, cY b.Words ∧ NB b
theorem M1 {s : aS} (hs : dW s) {p : List aD} (hp : kG s.Fields.length p) (k : bd) {r : aL} (hr : gG s r) : ∃ x, oc s p k r = some (x, 0) ∧ mF s.Fields.length r x := by
 obtain ⟨out, e, o1, o2⟩ := AA hs hp k hr
 have e1 := e
 unfold gq at e1
 rw [zB hs hp, an, aV, Fc hs hr, an, aV, Od] at e1
 refine ⟨_, e1, out, rfl, o1, fun b hb => ?_⟩
 obtain ⟨j, hj, rfl⟩ := List.mem_iff_getElem.1 hb
 have hj' : j < s.Fields.length := by omega
 obtain ⟨x, ex, hx⟩ := zC hs hj' (hp.f j hj') k hr
 have e2 := o2 j hj'
 rw [ex] at e2
 have e3 : x = out[j] := by
  have := (Prod.mk.inj (ay e2)).1
  rw [this, Re, Rf hj]
  rfl
 rw [← e3]
 have hL := (hp.f j hj').l
 rcases hx with ⟨_, rfl⟩ | ⟨_, hf⟩
 ·exact ⟨fun w hw => absurd hw RE, .inl ⟨rfl, rfl⟩⟩
 ·have h1 := hf.l
  exact ⟨hf.w, .inr ⟨⟨by omega, by omega, by omega⟩, by rw [hf.n, hf.l]⟩⟩
theorem EP {s : aS} (hs : dW s) {p : List aD} (hp : kG s.Fields.length p) (k : bd) {l : List aL} (hl : pL s l) : ∃ X, oX s p k l = some (X, 0) ∧ X.length = l.length ∧ ∀ i, i < l.length → mF s.Fields.length (recD l i) (X.getD i bu) := by
 have hn := hl.n
 unfold oX ut
 obtain ⟨t, e, out, rfl, h1, h2⟩ := cC (step := fun v : (List aB) × Int × (List aC) × (List ByteArray) × (List aE) × (List aE) × (List aD) × Int × Int => mO l v.1 v.2.1 v.2.2.1 v.2.2.2.1 v.2.2.2.2.1 v.2.2.2.2.2.1 v.2.2.2.2.2.2.1 v.2.2.2.2.2.2.2.1 v.2.2.2.2.2.2.2.2) l.length (fun i t => ∃ out : List aB, t = (out, (i : Int), s.Fields, s.Rules.Titles, s.Rules.Nicknames, s.Rules.Streets, p, k.A, k.B) ∧ out.length = i ∧ ∀ j, j < i → mF s.Fields.length (recD l j) (out.getD j bu)) (fun t => ∃ out : List aB, t = .inl (out, s.Fields, s.Rules.Titles, s.Rules.Nicknames, s.Rules.Streets, p, k.A, k.B) ∧ out.length = l.length ∧ ∀ j, j < l.length → mF s.Fields.length (recD l j) (out.getD j bu)) (fun i hi t ht => by
   obtain ⟨out, rfl, o1, o2⟩ := ht
   left
   obtain ⟨x, ex, hx⟩ := M1 hs hp k (hl.ok i hi)
   simp only [mO]
   rw [Rj, bG, aO, aO, show sb (i : Int) (l.getD i bL) s p k = some (x, 0, s, p, k) by
    unfold sb
    unfold recD at ex
    rw [ex]
    rfl, o8, aV, dK, az (n := (i : Int) + 1)]
   refine ⟨_, rfl, _, rfl, by simp [o1], fun j hj => ?_⟩
   rw [hZ _ _ (by omega), o1]
   split
   ·exact o2 j (by assumption)
   ·rw [show j = i by omega]
    exact hx) (fun t ht => by
   obtain ⟨out, rfl, o1, o2⟩ := ht
   simp only [mO]
   rw [b8]
   exact ⟨_, rfl, out, rfl, o1, o2⟩) (s := ([], 0, s.Fields, s.Rules.Titles, s.Rules.Nicknames, s.Rules.Streets, p, k.A, k.B)) ⟨[], rfl, rfl, fun j hj => absurd hj (RU _)⟩
 rw [zB hs hp, an, aV, OH hs hl, an, aV, e, kb]
 exact ⟨out, rfl, h1, h2⟩
def jx (c : a8) : a8 := ⟨c.B, c.A⟩
theorem M3 (ts : List Int) (x y : aB) : fL ts x y = fL ts y x := by
 have : List.zipWith dw x.Fields y.Fields = List.zipWith dw y.Fields x.Fields := by
  rw [List.zipWith_comm]
  congr 1
  funext a b
  exact MF b a
 unfold fL
 rw [this]
theorem FD {m : Nat} {p q : List Nat} (h : p.Perm q) : dL m p = dL m q := by
 unfold dL
 exact List.map_congr_left fun i _ => by rw [h.count_eq]
theorem Gq {m : Nat} : ∀ ps : List Nat, (∀ p ∈ ps, p < m) → (dL m ps).sum = (ps.length : Int)
 | [], _ => by rw [Gc]; simp
 | p :: ps, h => by
  have hp := h p Rw
  rw [FD (List.perm_append_singleton p ps).symm, ← Fq hp, GX (by rw [jW]; exact hp), Gq ps fun q hq => h q (Rx _ hq), Rk]
  omega
theorem HH {X Y : List aB} {L : List a8} {ts : List Int} (h1 : 1 ≤ ts.length) (h5 : ts.length ≤ 5) (ht : ∀ t ∈ ts, 0 ≤ t ∧ t ≤ 1000) (hX : X.length ≤ 64) (hY : Y.length ≤ 64) (hr : ∀ x ∈ X ++ Y, eo ts.length x) (hw : ∀ x ∈ X ++ Y, WF x.Fields) (hn : L.length ≤ 4096) (hL : ∀ c ∈ L, (∃ x ∈ X, x.ID = c.A) ∧ ∃ y ∈ Y, y.ID = c.B) :
  jN L X Y ts = some (dL (3 ^ ts.length) (L.map fun c => fL ts (gH X c.A) (gH Y c.B)), 0) := by
 have hc : jt L.length X Y ts = 0 := by
  unfold jt
  rw [if_neg (fun k => k ⟨h1, h5⟩), t8, if_neg (fun k => k ht), if_neg (fun k => k hr)]
 rw [NQ (by omega) (by omega) (by omega) (fun x hx => by have := (hr x hx).2; omega) hw]
 unfold Bs
 rw [if_neg (by rw [hc]; decide), Ge (g := fun c => fL ts (gH X c.A) (gH Y c.B)) (fun c hc => by
  obtain ⟨i, ei⟩ := Fp (hL c hc).1
  obtain ⟨j, ej⟩ := Fp (hL c hc).2
  unfold kP gH
  rw [ei, ej]
  rfl)]
theorem Qp {X Y : List aB} {L : List a8} {ts : List Int} (h1 : 1 ≤ ts.length) (h5 : ts.length ≤ 5) (ht : ∀ t ∈ ts, 0 ≤ t ∧ t ≤ 1000) (hX : X.length ≤ 64) (hY : Y.length ≤ 64) (hr : ∀ x ∈ X ++ Y, eo ts.length x) (hw : ∀ x ∈ X ++ Y, WF x.Fields) (hn : L.length ≤ 4096) (hL : ∀ c ∈ L, (∃ x ∈ X, x.ID = c.A) ∧ ∃ y ∈ Y, y.ID = c.B) :
  jN (L.map jx).reverse Y X ts = some (dL (3 ^ ts.length) (L.map fun c => fL ts (gH X c.A) (gH Y c.B)), 0) := by
 have hc : ∀ x ∈ Y ++ X, x ∈ X ++ Y := fun x hx => Rz.2 (Rz.1 hx).symm
 rw [HH h1 h5 ht hY hX (fun x hx => hr x (hc x hx)) (fun x hx => hw x (hc x hx)) (by rw [List.length_reverse, RF]; exact hn) (fun c hc => by
  obtain ⟨d, hd, rfl⟩ := R6.1 (List.mem_reverse.1 hc)
  exact ⟨(hL d hd).2, (hL d hd).1⟩), List.map_reverse, List.map_map, FD (List.reverse_perm _)]
 congr 3
 exact List.map_congr_left fun c _ => M3 _ _ _
def mK (a b : List aL) (L : List a8) : Prop := ∀ c ∈ L, (∃ i, i < a.length ∧ c.A = (recD a i).ID) ∧ ∃ j, j < b.length ∧ c.B = (recD b j).ID
theorem Oe {a b : List aL} (ha : a.length ≤ 4) (hb : b.length ≤ 4) {i : Nat} (hi : i < a.length) {L : List a8} (hL : mK a b L) (hn : L.length ≤ 100 * i) : ∃ K, loop (fun v : (List a8) × (List a8) × Int => kW a b (i : Int) v.1 v.2.1 v.2.2) (L, (L.map jx).reverse, 0) = some (K, (K.map jx).reverse) ∧ mK a b K ∧ K.length ≤ 100 * (i + 1) := by
 obtain ⟨t, e, K, rfl, h1, h2⟩ := cC (step := fun v : (List a8) × (List a8) × Int => kW a b (i : Int) v.1 v.2.1 v.2.2) b.length (fun j t => ∃ K, t = (K, (K.map jx).reverse, (j : Int)) ∧ mK a b K ∧ K.length ≤ 100 * i + j) (fun t => ∃ K, t = (K, (K.map jx).reverse) ∧ mK a b K ∧ K.length ≤ 100 * (i + 1)) (fun j hj t ht => by
   obtain ⟨K, rfl, k1, k2⟩ := ht
   left
   simp only [kW]
   rw [Rj, Rj, bG, aO, aO, aO, aO, dK, if_pos (by simp only [Rq, List.length_reverse, RF]; omega), az (n := (j : Int) + 1)]
   refine ⟨_, rfl, K ++ [⟨(recD a i).ID, (recD b j).ID⟩], ?_, fun c hc => ?_, by rw [Rl, Rq]; omega⟩
   ·rw [Sm, List.reverse_append]
    rfl
   ·rcases Rz.1 hc with hc | hc
    ·exact k1 c hc
    ·rw [Rn.1 hc]
     exact ⟨⟨i, hi, rfl⟩, j, hj, rfl⟩) (fun t ht => by
   obtain ⟨K, rfl, k1, k2⟩ := ht
   simp only [kW]
   rw [b8]
   exact ⟨_, rfl, K, rfl, k1, by omega⟩) (s := (L, (L.map jx).reverse, 0)) ⟨L, rfl, hL, by omega⟩
 exact ⟨K, e, h1, h2⟩
theorem PL {a b : List aL} (ha : a.length ≤ 4) (hb : b.length ≤ 4) : ∃ K, loop (fun v : (List a8) × (List a8) × Int => kX a b v.1 v.2.1 v.2.2) (([] : List a8), ([] : List a8), 0) = some (K, (K.map jx).reverse) ∧ mK a b K ∧ K.length ≤ 400 := by
 obtain ⟨t, e, K, rfl, h1, h2⟩ := cC (step := fun v : (List a8) × (List a8) × Int => kX a b v.1 v.2.1 v.2.2) a.length (fun i t => ∃ K, t = (K, (K.map jx).reverse, (i : Int)) ∧ mK a b K ∧ K.length ≤ 100 * i) (fun t => ∃ K, t = (K, (K.map jx).reverse) ∧ mK a b K ∧ K.length ≤ 400) (fun i hi t ht => by
   obtain ⟨L, rfl, k1, k2⟩ := ht
   left
   obtain ⟨K, e, k3, k4⟩ := Oe ha hb hi k1 k2
   simp only [kX]
   rw [bG, e, aU, az (n := (i : Int) + 1)]
   exact ⟨_, rfl, K, rfl, k3, k4⟩) (fun t ht => by
   obtain ⟨K, rfl, k1, k2⟩ := ht
   simp only [kX]
   rw [b8]
   exact ⟨_, rfl, K, rfl, k1, by omega⟩) (s := ([], [], 0)) ⟨[], rfl, fun c hc => absurd hc RE, Nat.zero_le _⟩
 exact ⟨K, e, h1, h2⟩
theorem Of {n : Nat} (h5 : n ≤ 5) {c : List Int} (h : CV n c) : sk c = some c.sum := by
 have h3 := Nat.pow_le_pow_right (show 0 < 3 by decide) h5
 have hl : c.length ≤ 243 := by rw [h.1]; exact h3
 unfold sk
 rw [ct, GY h hl, aU]
theorem xf {s : aS} {n : Nat} (h1 : 1 ≤ n) (h5 : n ≤ 5) {r : aL} (hr : gG s r) {x : aB} (h : mF n r x) : eo n x ∧ WF x.Fields ∧ x.ID = r.ID := by
 obtain ⟨out, rfl, l, hb⟩ := h
 exact ⟨⟨⟨hr.i, hr.v, ⟨by simp only; omega, by simp only; omega⟩, fun b h => (hb b h).2⟩, l⟩, fun b h => (hb b h).1, rfl⟩
theorem Pe {s : aS} (hs : dW s) {m : bW} (hm : MV m) (hmn : m.Match.length = s.Fields.length) {a b : List aL} (ha : pL s a) (hb : pL s b) (ha4 : a.length ≤ 4) (hb4 : b.length ≤ 4) {X Y : List aB} (lX : X.length = a.length) (lY : Y.length = b.length) (eX : ∀ i, i < a.length → mF s.Fields.length (recD a i) (X.getD i bu)) (eY : ∀ i, i < b.length → mF s.Fields.length (recD b i) (Y.getD i bu)) : jy s m a b X Y false = some true := by
 have n0 := hs.n0
 have n1 := hs.n1
 obtain ⟨K, e, hK, hn⟩ := PL ha4 hb4
 have hT : ([800, 700, 900, 800] : List Int).length = 4 := rfl
 have hl : (([800, 700, 900, 800] : List Int).take s.Fields.length).length = s.Fields.length := by rw [Ro]; omega
 have ht : ∀ t ∈ ([800, 700, 900, 800] : List Int).take s.Fields.length, 0 ≤ t ∧ t ≤ 1000 := fun t h => (show ∀ x ∈ ([800, 700, 900, 800] : List Int), 0 ≤ x ∧ x ≤ 1000 by decide) t (List.mem_of_mem_take h)
 have hx : ∀ x ∈ X ++ Y, eo s.Fields.length x ∧ WF x.Fields := fun x hx => by
  rcases Rz.1 hx with h | h
  ·obtain ⟨i, hi, rfl⟩ := List.mem_iff_getElem.1 h
   have g := xf n0 (by omega) (ha.ok i (by omega)) (eX i (by omega))
   rw [Re, Rf hi] at g
   exact ⟨g.1, g.2.1⟩
  ·obtain ⟨i, hi, rfl⟩ := List.mem_iff_getElem.1 h
   have g := xf n0 (by omega) (hb.ok i (by omega)) (eY i (by omega))
   rw [Re, Rf hi] at g
   exact ⟨g.1, g.2.1⟩
 have hid : ∀ c ∈ K, (∃ x ∈ X, x.ID = c.A) ∧ ∃ y ∈ Y, y.ID = c.B := fun c hc => by
  obtain ⟨⟨i, hi, e1⟩, j, hj, e2⟩ := hK c hc
  exact ⟨⟨_, eR bu (show i < X.length by omega), by rw [(xf n0 (by omega) (ha.ok i hi) (eX i hi)).2.2, e1]⟩, _, eR bu (show j < Y.length by omega), by rw [(xf n0 (by omega) (hb.ok j hj) (eY j hj)).2.2, e2]⟩
 have t1 := HH (X := X) (Y := Y) (L := K) (by omega) (by omega) ht (by omega) (by omega) (fun x h => by rw [hl]; exact (hx x h).1) (fun x h => (hx x h).2) (by omega) hid
 have t2 := Qp (X := X) (Y := Y) (L := K) (by omega) (by omega) ht (by omega) (by omega) (fun x h => by rw [hl]; exact (hx x h).1) (fun x h => (hx x h).2) (by omega) hid
 rw [hl] at t1 t2
 obtain ⟨c, hc⟩ : ∃ c, c = dL (3 ^ s.Fields.length) (K.map fun c => fL (([800, 700, 900, 800] : List Int).take s.Fields.length) (gH X c.A) (gH Y c.B)) := ⟨_, rfl⟩
 have hsum : c.sum = (K.length : Int) := by
  rw [hc, Gq _ (fun p hp => by
   obtain ⟨d, _, rfl⟩ := R6.1 hp
   have := GR (ts := ([800, 700, 900, 800] : List Int).take s.Fields.length) (x := gH X d.A) (y := gH Y d.B)
   rwa [hl] at this), RF]
 have hcv : CV s.Fields.length c := by
  refine ⟨by rw [hc, jW], fun x hx => ?_, by omega⟩
  rw [hc] at hx
  unfold dL at hx
  obtain ⟨i, _, rfl⟩ := R6.1 hx
  omega
 rw [← hc] at t1 t2
 have hrun : ml m c 2 = some ((ep c 2 m).1, ((ep c 2 m).2 : Int), 0) := PK (K := 2) (by decide) hm (by rw [hmn]; exact hcv)
 obtain ⟨r1, r2⟩ := G1 (c := c) 2 m hm
 have l1 := r1.1
 have l2 := r1.2.2.1
 have hsame := Gm (x := (ep c 2 m).1) (y := (ep c 2 m).1) (by omega) (by omega)
 rw [RL rfl] at hsame
 unfold jy
 rw [aV, e, aU, aO, Rj, aO, t1, aU, aO, t2, aU, hrun, cz, cz, bX, bX, bX, bX, if_pos (by simp), hsame, an, if_pos rfl, zi, if_pos r1, an, bX, Of (n := s.Fields.length) (by omega) hcv, an, hsum]
 unfold gl
 rw [beq_self_eq_true]
theorem JW (x : List Int) : uL x = some true := by
 unfold uL
 rw [Fi, an, aV]
 unfold vH
 rw [an]
 by_cases h400 : x.length ≤ 400
 ·rw [RL (by omega)]
  unfold mX
  rw [aV]
  obtain ⟨d0, e0, hd0⟩ := Ou h400
  obtain ⟨s, d1, e1, hs, hd1⟩ := Ls hd0
  have n0 := hs.n0
  have n1 := hs.n1
  obtain ⟨p, d2, e2, hp, hd2⟩ := Lt hd1 n0 n1
  obtain ⟨k, d3, e3, _, hd3⟩ := OI hd2
  obtain ⟨m, d4, e4, hmn, hm, hd4⟩ := MS hd3 n0 (by omega)
  obtain ⟨a, b, d5, e5, ⟨n, hn4, hR⟩, hd5⟩ := KN hs hd4
  have la := hR.la
  have lb := hR.lb
  have ha := hR.a (by omega)
  have hb := hR.b (by omega)
  obtain ⟨X, eX, lX, hX⟩ := EP hs hp k ha
  obtain ⟨Y, eY, lY, hY⟩ := EP hs hp k hb
  rw [e0, an, e1, aU, e2, aU, e3, aU, e4, aU, e5, cz, eX, aU, eY, aU, aV, aV, lX, lY, bne_self_eq_false, aV, bne_self_eq_false]
  exact Pe hs hm hmn ha hb (by omega) (by omega) lX lY hX hY
 ·rw [RJ (by omega)]
  unfold mX
  rw [Bool.not_false, if_pos rfl, Fi]
  rfl
end
end Go.Proofs.YtfmhbcfklokmaaaGreatDoor
