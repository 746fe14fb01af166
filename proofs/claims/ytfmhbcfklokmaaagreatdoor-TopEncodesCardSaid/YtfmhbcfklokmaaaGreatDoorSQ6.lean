/- Lemmas for the statement TopEncodes: Go functions told as pure functions, and laws about these; texts joined and shortened by a program of mine; no condition. -/
import Derived.Test.YtfmhbcfklokmaaaGreatDoorSQ5
import Derived.Test.YtfmhbcfklokmaaaGreatDoorSQ1
import Derived.Test.YtfmhbcfklokmaaaGreatDoorRows
set_option linter.unusedVariables false
set_option linter.unusedSimpArgs false
set_option linter.defProp false
namespace Go.Proofs.YtfmhbcfklokmaaaGreatDoor
open Vm
open _root_.ByteArray (mk)
open IntKind (i64 u64 u32 u8)
theorem Ik {n : Int} (h0 : 0 ≤ n) (h1 : n < 256) : IntKind.u8.wrap n = n := by
 simp only [IntKind.wrap, IntKind.bits, IntKind.signed]
 simp
 omega
def d2 (n : Nat) : List UInt8 := [UInt8.ofNat (48 + n / 10), UInt8.ofNat (48 + n % 10)]
theorem Hb {n : Nat} (h : n < 10) : (UInt8.ofNat (48 + n)).toNat = 48 + n := by
 rw [UInt8.toNat_ofNat']; omega
theorem JR {n : Int} {k : Nat} (h : n = (k : Int)) (hk : k < 100) : gD n = some (gi (d2 k)) := by
 subst h
 unfold gD
 rw [D5 (by omega), EI (n := (k : Int) / 10) (by omega) (by omega), D4 (a := (k : Int) / 10) (by omega), D4 (a := (k : Int)) (by omega), EI (by omega) (by omega), EI (by omega) (by omega), Ik (by omega) (by omega), Ik (by omega) (by omega), ← Jl]
 unfold d2
 rw [Gr, Gr, List.map_nil, Hb (by omega), Hb (by omega)]
 rw [show (48 + (k : Int) / 10 % 10) = ((48 + k / 10 : Nat) : Int) by omega, show (48 + (k : Int) % 10) = ((48 + k % 10 : Nat) : Int) by omega]
def G3 (l : List UInt8) : Nat := l.foldl (fun a c => 10 * a + (c.toNat - 48)) 0
def Ia (l : List UInt8) : Prop := ∀ c ∈ l, 48 ≤ c.toNat ∧ c.toNat ≤ 57
theorem JS {n : Nat} (h : n < 100) : Ia (d2 n) := by
 intro c hc
 have : c = UInt8.ofNat (48 + n / 10) ∨ c = UInt8.ofNat (48 + n % 10) := by simpa [d2] using hc
 rcases this with rfl | rfl
 ·rw [Hb (by omega)]; omega
 ·rw [Hb (by omega)]; omega
theorem Ia.app {a b : List UInt8} (ha : Ia a) (hb : Ia b) : Ia (a ++ b) := fun c hc => (F2.1 hc).elim (ha c) (hb c)
theorem LM : ∀ (l : List UInt8) (a : Nat), Ia l → l.foldl (fun a c => 10 * a + (c.toNat - 48)) a < (a + 1) * 10 ^ l.length
 | [], a, _ => by simp
 | c :: l, a, h => by
  have h1 := LM l (10 * a + (c.toNat - 48)) fun x hx => h x (F0 _ hx)
  have h2 := h c FZ
  rw [Gq, FN, Nat.pow_succ]
  refine Gb h1 ?_
  rw [show (a + 1) * (10 ^ l.length * 10) = (10 * (a + 1)) * 10 ^ l.length by rw [Nat.mul_comm (10 ^ l.length) 10, ← Nat.mul_assoc, Nat.mul_comm (a + 1) 10]]
  exact F8 _ (by omega)
theorem Oq {l : List UInt8} {k : Nat} (h : Ia l) (hl : l.length ≤ k) : G3 l < 10 ^ k := by
 have := LM l 0 h
 rw [Gg, Nat.one_mul] at this
 exact Gb this (Nat.pow_le_pow_right (by decide) hl)
theorem Nt (l : List UInt8) (c : UInt8) : G3 (l ++ [c]) = 10 * G3 l + (c.toNat - 48) := by
 unfold G3
 rw [PG]
 rfl
theorem Ko {l : List UInt8} (h : Ia l) (hl : l.length ≤ 8) : ju (gi l) = some (G3 l : Int) := by
 unfold ju
 rw [DF (fun i => ((G3 (l.take i) : Int), (i : Int))) l.length (.inl (G3 l : Int)) (fun i hi => by
   have hc := h _ (GJ 0 hi)
   have h1 : G3 (l.take i) < 10 ^ 8 := Oq (fun c hc => h c (List.mem_of_mem_take hc)) (by rw [FR]; omega)
   simp only [pS, lx]
   rw [DU, DT, FM, EQ, EK, EK, ER, ER, EK, EK, Dd, IL 0 hi, Nt, EI (n := (i : Int) + 1) (by omega) (by omega), Ik (by omega) (by omega), EI (n := 10 * (G3 (l.take i) : Int)) (by omega) (by omega), EI (n := ((l.getD i 0).toNat : Int) - 48) (by omega) (by omega), EI (by omega) (by omega)]
   congr 4
   omega) (by
   simp only [pS]
   rw [DU, EO, PF]) (by simp [G3])]
 rfl
theorem KE {n : Nat} (h : n < 100) : G3 (d2 n) = n := by
 unfold G3 d2
 simp only [Gq, List.foldl_nil]
 rw [Hb (by omega), Hb (by omega)]
 omega
theorem NS {n k : Nat} (h : n < 100) (hk : k < 100) : G3 (d2 n ++ d2 k) = 100 * n + k := by
 have := KE h
 unfold G3 at this ⊢
 rw [PG, this]
 unfold d2
 simp only [Gq, List.foldl_nil]
 rw [Hb (by omega), Hb (by omega)]
 omega
def Hm (c y m d : Nat) : b8 := ⟨((100 * c + y : Nat) : Int), (m : Int), (d : Int)⟩
theorem Mk {c y m d : Nat} (hc : 18 ≤ c ∧ c ≤ 21) (hy : y < 100) (hm : 1 ≤ m ∧ m ≤ 12) (hd : 1 ≤ d ∧ d ≤ 28) : mr (Hm c y m d) = some true := by
 have hdays : ∃ k : Int, rq ((100 * c + y : Nat) : Int) (m : Int) = some k ∧ 28 ≤ k := by
  have hk : ∀ i : Nat, i < 12 → 28 ≤ ([31, 28, 31, 30, 31, 30, 31, 31, 30, 31, 30, 31] : List Int).getD i 0 ∧ ([31, 28, 31, 30, 31, 30, 31, 31, 30, 31, 30, 31] : List Int).getD i 0 ≤ 31 := by decide
  unfold rq Jh Jg
  have hm' : (((m : Int) - 1).toNat) < 12 := by omega
  have := hk _ hm'
  rw [EI (n := (m : Int) - 1) (by omega) (by omega), EK, EK]
  by_cases h2 : ((m : Int) == 2) = true
  ·rw [if_pos h2]
   have : ∃ b, rp ((100 * c + y : Nat) : Int) = some b := by
    unfold rp jq
    split
    ·split <;> exact ⟨_, rfl⟩
    ·exact ⟨_, rfl⟩
   obtain ⟨b, hb⟩ := this
   rw [hb, Dd]
   cases b with
   | true =>
    rw [if_pos rfl, Dd, EI (by omega) (by omega)]
    exact ⟨_, rfl, by omega⟩
   | false =>
    rw [EN]
    exact ⟨_, rfl, by omega⟩
  ·rw [if_neg h2, EN]
   exact ⟨_, rfl, by omega⟩
 obtain ⟨k, hk, hk2⟩ := hdays
 unfold mr HD Hm
 simp only
 rw [EQ, EQ, EQ, EQ, EQ, hk, Dd, Pw (by omega)]
theorem JL {c y m d : Nat} (hc : 18 ≤ c ∧ c ≤ 21) (hy : y < 100) (hm : 1 ≤ m ∧ m ≤ 12) (hd : 1 ≤ d ∧ d ≤ 28) {x1 x2 x3 : List UInt8} (h1 : x1 = d2 c ++ d2 y) (h2 : x2 = d2 m) (h3 : x3 = d2 d) : gL (gi x1) (gi x2) (gi x3) = some (Hm c y m d, 0) := by
 subst h1 h2 h3
 unfold gL
 rw [Ko ((JS (by omega)).app (JS hy)) (by simp [d2]), Dd, Ko (JS (by omega)) (by simp [d2]), Dd, Ko (JS (by omega)) (by simp [d2]), Dd, NS (by omega) hy, KE (by omega), KE (by omega)]
 have := Mk hc hy hm hd
 unfold Hm at this
 rw [this, Dd, EN]
 rfl
theorem IS (l : List UInt8) (i j : Nat) : (gi l).extract i j = gi ((l.drop i).take (j - i)) := by
 rw [← ml, yX, IK, IK, List.map_take, List.map_drop]
def wr (c y m d f : Nat) : List UInt8 := if f = 0 then d2 c ++ d2 y ++ [45] ++ d2 m ++ [45] ++ d2 d else if f = 1 then d2 d ++ [46] ++ d2 m ++ [46] ++ (d2 c ++ d2 y) else d2 m ++ [47] ++ d2 d ++ [47] ++ (d2 c ++ d2 y)
theorem Ot (a b c d e f g h : UInt8) {R : b8} (hm : gL (gi [a, b, c, d]) (gi [e, f]) (gi [g, h]) = some (R, 0)) : qW (gi [a, b, c, d, 45, e, f, 45, g, h]) = some (R, 0) := by
 unfold qW lL
 simp only [IS, DU, DT, FN, FP, List.drop_succ_cons, List.drop_zero, List.take_succ_cons, List.take_zero]
 simp
 rw [hm]
 rfl
theorem Ou (a b c d e f g h : UInt8) (hd : d.toNat ≠ 45) {R : b8} (hm : gL (gi [e, f, g, h]) (gi [c, d]) (gi [a, b]) = some (R, 0)) : qW (gi [a, b, 46, c, d, 46, e, f, g, h]) = some (R, 0) := by
 unfold qW lL lK
 simp only [IS, DU, DT, FN, FP, List.drop_succ_cons, List.drop_zero, List.take_succ_cons, List.take_zero]
 simp
 rw [EL, hm]
 rfl
theorem Ov (a b c d e f g h : UInt8) (hd : d.toNat ≠ 45) {R : b8} (hm : gL (gi [e, f, g, h]) (gi [a, b]) (gi [c, d]) = some (R, 0)) : qW (gi [a, b, 47, c, d, 47, e, f, g, h]) = some (R, 0) := by
 unfold qW lL lK lJ
 simp only [IS, DU, DT, FN, FP, List.drop_succ_cons, List.drop_zero, List.take_succ_cons, List.take_zero]
 simp
 rw [EL, hm]
 rfl
theorem NT {c y m d : Nat} (hc : 18 ≤ c ∧ c ≤ 21) (hy : y < 100) (hm : 1 ≤ m ∧ m ≤ 12) (hd : 1 ≤ d ∧ d ≤ 28) (f : Nat) : qW (gi (wr c y m d f)) = some (Hm c y m d, 0) := by
 have n45 : ∀ {n : Nat}, n < 10 → (UInt8.ofNat (48 + n)).toNat ≠ 45 := fun hn => by rw [Hb hn]; omega
 unfold wr
 by_cases h0 : f = 0
 ·rw [if_pos h0]
  exact Ot _ _ _ _ _ _ _ _ (JL hc hy hm hd rfl rfl rfl)
 ·rw [if_neg h0]
  by_cases h1 : f = 1
  ·rw [if_pos h1]
   exact Ou _ _ _ _ _ _ _ _ (n45 (by omega)) (JL hc hy hm hd rfl rfl rfl)
  ·rw [if_neg h1]
   exact Ov _ _ _ _ _ _ _ _ (n45 (by omega)) (JL hc hy hm hd rfl rfl rfl)
def G4 (c y m d : Nat) : List UInt8 := d2 c ++ d2 y ++ d2 m ++ d2 d
theorem KH {n : Nat} (h : n < 100) : eA (n : Int) 2 = (d2 n).map fun c => (c.toNat : Int) := by
 unfold d2
 simp only [eA, Gf, List.cons_append, Gr, List.map_nil]
 rw [D5 (by omega), EI (n := (n : Int) / 10) (by omega) (by omega), D4 (a := (n : Int) / 10) (by omega), D4 (a := (n : Int)) (by omega), EI (by omega) (by omega), EI (by omega) (by omega), Ik (by omega) (by omega), Ik (by omega) (by omega), Hb (by omega), Hb (by omega)]
 rw [show (48 + (n : Int) / 10 % 10) = ((48 + n / 10 : Nat) : Int) by omega, show (48 + (n : Int) % 10) = ((48 + n % 10 : Nat) : Int) by omega]
theorem OQ {c y : Nat} (hc : 18 ≤ c ∧ c ≤ 21) (h : y < 100) : eA ((100 * c + y : Nat) : Int) 4 = (d2 c ++ d2 y).map fun c => (c.toNat : Int) := by
 have e : eA ((100 * c + y : Nat) : Int) 4 = eA (c : Int) 2 ++ (eA (y : Int) 2) := by
  simp only [eA, Gf, List.cons_append]
  rw [D5 (a := ((100 * c + y : Nat) : Int)) (by omega), EI (n := ((100 * c + y : Nat) : Int) / 10) (by omega) (by omega), D5 (a := ((100 * c + y : Nat) : Int) / 10) (by omega), EI (n := ((100 * c + y : Nat) : Int) / 10 / 10) (by omega) (by omega), show ((100 * c + y : Nat) : Int) / 10 / 10 = (c : Int) by omega, D4 (a := ((100 * c + y : Nat) : Int)) (by omega), D4 (a := ((100 * c + y : Nat) : Int) / 10) (by omega), D5 (a := (y : Int)) (by omega), EI (n := (y : Int) / 10) (by omega) (by omega), D4 (a := (y : Int) / 10) (by omega), D4 (a := (y : Int)) (by omega), show ((100 * c + y : Nat) : Int) / 10 % 10 = (y : Int) / 10 % 10 by omega, show ((100 * c + y : Nat) : Int) % 10 = (y : Int) % 10 by omega]
 rw [e, PI, ← KH h, ← KH (n := c) (by omega)]
theorem O0 {c y : Nat} (hc : 18 ≤ c ∧ c ≤ 21) (h : y < 100) : uM ((100 * c + y : Nat) : Int) 4 = some ((d2 c ++ d2 y).map fun c => (c.toNat : Int)) := by
 unfold uM jr
 rw [EM, ← OQ hc h]
 rfl
theorem Mo {n : Nat} (h : n < 100) (l : List UInt8) (hl : l.length ≤ 100) : jr (l.map fun c => (c.toNat : Int)) (n : Int) 2 = some ((l ++ d2 n).map fun c => (c.toNat : Int)) := by
 unfold jr
 rw [if_pos ⟨by decide, by rw [Ps]; exact hl⟩, PI, ← KH h]
 rfl
theorem Nu {c y m d : Nat} (hc : 18 ≤ c ∧ c ≤ 21) (hy : y < 100) (hm : 1 ≤ m ∧ m ≤ 12) (hd : 1 ≤ d ∧ d ≤ 28) : qI (Hm c y m d) = some (gi (G4 c y m d), 0) := by
 have h := Mk hc hy hm hd
 unfold Hm at h ⊢
 unfold qI
 rw [h, Dd, EN, O0 hc hy, Dd, Mo (by omega) _ (by simp [d2]), Dd, Mo (by omega) _ (by simp [d2]), Dd, Jl]
 rfl
theorem Ml (r : aY) {c y m d : Nat} (hc : 18 ≤ c ∧ c ≤ 21) (hy : y < 100) (hm : 1 ≤ m ∧ m ≤ 12) (hd : 1 ≤ d ∧ d ≤ 28) (f : Nat) : qX r (gi (wr c y m d f)) = some (gi (G4 c y m d), 0) := by
 unfold qX
 rw [NT hc hy hm hd f, De, EN, Nu hc hy hm hd]
 rfl
theorem MW (r : aY) {c y m d : Nat} (hc : 18 ≤ c ∧ c ≤ 21) (hy : y < 100) (hm : 1 ≤ m ∧ m ≤ 12) (hd : 1 ≤ d ∧ d ≤ 28) : pr r (gi (G4 c y m d)) = some true := by
 unfold pr rt
 rw [show (gi (G4 c y m d)).size = 8 from rfl, EN, EM, EM, EM, IS, IS, IS, JL hc hy hm hd (x1 := (G4 c y m d |>.drop 0).take (4 - 0)) (x2 := (G4 c y m d |>.drop 4).take (6 - 4)) (x3 := (G4 c y m d |>.drop 6).take (8 - 6)) rfl rfl rfl]
 rfl
theorem Pb {f : Nat} (h : f < 3) : qN (f : Int) 3 = some (f : Int) := by
 unfold qN
 rw [EN, EM, D4 (a := (f : Int)) (by omega), EI (by omega) (by omega), D4 (by omega)]
 congr 1
 omega
theorem Lc {c y m d f : Nat} (hc : 18 ≤ c ∧ c ≤ 21) (hy : y < 100) (hm : 1 ≤ m ∧ m ≤ 12) (hd : 1 ≤ d ∧ d ≤ 28) (hf : f < 3) : lm (Hm c y m d) (f : Int) = some (gi (wr c y m d f)) := by
 unfold lm Hm
 simp only
 rw [D5 (a := ((100 * c + y : Nat) : Int)) (by omega), D4 (a := ((100 * c + y : Nat) : Int)) (by omega), EI (by omega) (by omega), JR (k := c) (by omega) (by omega), Dd, JR (k := y) (by omega) hy, Dd, JR (k := m) rfl (by omega), Dd, JR (k := d) rfl (by omega), Dd, Pb hf, Dd]
 rw [show (mk #[45]) = gi [45] from rfl, show (mk #[46]) = gi [46] from rfl, show (mk #[47]) = gi [47] from rfl]
 simp only [G1]
 simp only [DU, FO, show ∀ n, (d2 n).length = 2 from fun n => rfl, FN, FP]
 have h : f = 0 ∨ f = 1 ∨ f = 2 := by omega
 unfold wr
 rcases h with rfl | rfl | rfl <;> simp [show 3 ≤ bZ by decide, show 4 ≤ bZ by decide, show 5 ≤ bZ by decide, show 6 ≤ bZ by decide, show 7 ≤ bZ by decide, show 8 ≤ bZ by decide, show 10 ≤ bZ by decide]
theorem Nv {d : aL} (h : nb d) : ∃ r d', oP d = some (r, d') ∧ Gv r ∧ nb d' := by
 have k3 : ∀ {t n s} {d : aL}, nb d → (t = [] ∨ t = T2 ∨ t = [gi [100, 114]]) → (n = [] ∨ n = N2) → (s = [] ∨ s = P2) → ∃ r d', iF t n d.list d.at_ d.state s = some (r, d') ∧ Gv r ∧ nb d' := fun h ht hn hs => ⟨_, _, rfl, ⟨ht, hn, hs⟩, h⟩
 have k2 : ∀ {t n} {d : aL}, nb d → (t = [] ∨ t = T2 ∨ t = [gi [100, 114]]) → (n = [] ∨ n = N2) → ∃ r d', iG t d.list d.at_ d.state n = some (r, d') ∧ Gv r ∧ nb d' := by
  intro t n d h ht hn
  unfold iG
  obtain ⟨v, d1, he, hd1⟩ := PN h (n := 2) (by decide) (by decide)
  rw [he]; clear he; first | rw [De] | rw [Df] | rw [Dh] | rw [Dd]
  split
  ·exact k3 hd1 ht hn (.inr rfl)
  ·exact k3 hd1 ht hn (.inl rfl)
 have k1 : ∀ {t} {d : aL}, nb d → (t = [] ∨ t = T2 ∨ t = [gi [100, 114]]) → ∃ r d', iH d.list d.at_ d.state t = some (r, d') ∧ Gv r ∧ nb d' := by
  intro t d h ht
  unfold iH
  obtain ⟨v, d1, he, hd1⟩ := PN h (n := 2) (by decide) (by decide)
  rw [he]; clear he; first | rw [De] | rw [Df] | rw [Dh] | rw [Dd]
  split
  ·exact k2 hd1 ht (.inr rfl)
  ·exact k2 hd1 ht (.inl rfl)
 unfold oP
 obtain ⟨v, d1, he, hd1⟩ := PN h (n := 2) (by decide) (by decide)
 rw [he]; clear he; first | rw [De] | rw [Df] | rw [Dh] | rw [Dd]
 split
 ·exact k1 hd1 (.inr (.inl rfl))
 ·exact k1 hd1 (.inl rfl)
theorem Ks {d : aL} (h : nb d) {l : List ByteArray} (h0 : 1 ≤ l.length) (h1 : l.length ≤ 100) : ∃ s d', iS d l = some (s, d') ∧ s ∈ l ∧ nb d' := by
 unfold iS
 obtain ⟨v, d1, he, v0, v1, hd1⟩ := PL h (n := (l.length : Int)) (by omega) (by omega)
 rw [he]; clear he; first | rw [De] | rw [Df] | rw [Dh] | rw [Dd]
 rw [if_pos v0, if_pos v1]
 exact ⟨_, _, rfl, GJ _ (by omega), hd1⟩
def KV : List (List UInt8) := [[114, 111, 98, 101, 114, 116], [98, 111, 98], [97, 110, 110], [97, 110, 110, 97], [114, 117, 112, 101, 114, 116], [109, 97, 114, 105, 97], [112, 101, 116, 101, 114], [100, 114], [106, 111], [97, 115, 104, 99, 114, 97, 102, 116], [108, 105]]
def KW : List (List UInt8) := [[115, 109, 105, 116, 104], [115, 99, 104, 109, 105, 100, 116], [109, 105, 108, 108, 101, 114], [111, 110, 101, 105, 108, 108], [115, 116, 114, 97, 117, 115, 115], [118, 97, 110], [109, 97, 105, 110], [115, 116], [115, 116, 114, 101, 101, 116], [114, 100], [112, 97, 114, 107]]
theorem Mb {l : List (List UInt8)} (h : l.all (fun l => !l.isEmpty && l.all Gw && decide (l.length ≤ 8)) = true) {s : ByteArray} (hs : s ∈ l.map gi) : ∃ w, s = gi w ∧ tw w := by
 obtain ⟨w, hw, rfl⟩ := Pz.1 hs
 exact ⟨w, rfl, He _ (FX.1 h w hw)⟩
theorem Kh {d : aL} (h : nb d) : ∃ s d', iN d = some (s, d') ∧ (∃ w, s = gi w ∧ tw w) ∧ nb d' := by
 have hM : 1000 ≤ bZ := by decide
 unfold iN
 obtain ⟨b, d1, he, hd1⟩ := PN h (n := 6) (by decide) (by decide)
 rw [he]; clear he; first | rw [De] | rw [Df] | rw [Dh] | rw [Dd]
 split
 ·obtain ⟨k, d2, he, k0, k1, hd2⟩ := PL hd1 (n := 5) (by decide) (by decide)
  rw [he]; clear he; first | rw [De] | rw [Df] | rw [Dh] | rw [Dd]
  rw [EI (n := 1 + k) (by omega) (by omega)]
  obtain ⟨n, rfl⟩ : ∃ n : Nat, k = n := ⟨k.toNat, by omega⟩
  obtain ⟨t, e, w, d3, rfl, hw, hl, hd3⟩ := DG (step := fun v : ByteArray × Int × (List Int) × Int × Int => ow v.1 v.2.1 v.2.2.1 v.2.2.2.1 v.2.2.2.2) (n + 1) (fun i s => ∃ w d, s = (gi w, ((n + 1 : Nat) : Int) - i, d.list, d.at_, d.state) ∧ HY w ∧ w.length = i ∧ nb d) (fun t => ∃ w d, t = (gi w, d.list, d.at_, d.state) ∧ HY w ∧ w.length = n + 1 ∧ nb d) (fun i hi s hs => by
    obtain ⟨w, d, rfl, hw, hl, hd⟩ := hs
    left
    simp only [ow]
    rw [EQ]
    obtain ⟨c, d', he, c0, c1, hd'⟩ := PL hd (n := 26) (by decide) (by decide)
    rw [he]; clear he; first | rw [De] | rw [Df] | rw [Dh] | rw [Dd]
    have e1 : Vm.strOf ([u8.wrap (i64.wrap (97 + c))] : List Int) = gi [UInt8.ofNat (97 + c.toNat)] := by
     rw [EI (by omega) (by omega), Ik (by omega) (by omega), ← Jl, Gr, List.map_nil, UInt8.toNat_ofNat', show (97 + c) = (((97 + c.toNat) % 2 ^ 8 : Nat) : Int) by omega]
    rw [e1, if_pos (by rw [DU, DU]; simp only [Pq]; omega), G1, EI (by omega) (by omega)]
    refine ⟨_, rfl, _, d', by rw [show (((n + 1 : Nat) : Int) - (i : Int) - 1) = ((n + 1 : Nat) : Int) - ((i + 1 : Nat) : Int) by omega], ?_, by rw [FO, hl]; rfl, hd'⟩
    intro x hx
    rcases F2.1 hx with hx | hx
    ·exact hw x hx
    ·rw [FQ.1 hx]
     unfold Gw
     rw [UInt8.toNat_ofNat', Pw (by omega), Pw (by omega)]
     rfl) (fun s hs => by
    obtain ⟨w, d, rfl, hw, hl, hd⟩ := hs
    simp only [ow]
    rw [EO]
    exact ⟨_, rfl, w, d, rfl, hw, hl, hd⟩) (s := ((mk #[]), 1 + (n : Int), d2.list, d2.at_, d2.state)) ⟨[], d2, by rw [show (1 + (n : Int)) = ((n + 1 : Nat) : Int) - ((0 : Nat) : Int) by omega]; rfl, fun x hx => absurd hx Pr, rfl, hd2⟩
  rw [e, Dh]
  exact ⟨_, _, rfl, ⟨w, rfl, fun h0 => absurd (h0 ▸ hl) (by simp), hw, by omega⟩, hd3⟩
 ·obtain ⟨c, d2, he, hd2⟩ := PN hd1 (n := 2) (by decide) (by decide)
  rw [he]; clear he; first | rw [De] | rw [Df] | rw [Dh] | rw [Dd]
  split
  ·rw [show lN = some (KV.map gi) from rfl, Dd, Dd]
   obtain ⟨v, d3, he, v0, v1, hd3⟩ := PL hd2 (n := ((KV.map gi).length : Int)) (by decide) (by decide)
   rw [he]; clear he; first | rw [De] | rw [Df] | rw [Dh] | rw [Dd]
   rw [if_pos v0, if_pos v1]
   exact ⟨_, _, rfl, Mb (l := KV) (by decide) (GJ _ (by omega)), hd3⟩
  ·rw [show lA = some (KW.map gi) from rfl, Dd, Dd]
   obtain ⟨v, d3, he, v0, v1, hd3⟩ := PL hd2 (n := ((KW.map gi).length : Int)) (by decide) (by decide)
   rw [he]; clear he; first | rw [De] | rw [Df] | rw [Dh] | rw [Dd]
   rw [if_pos v0, if_pos v1]
   exact ⟨_, _, rfl, Mb (l := KW) (by decide) (GJ _ (by omega)), hd3⟩
def MD (l : List UInt8) : Prop := ∀ c ∈ l, Gw c = true ∨ c = 32
theorem Ls (a b : List UInt8) : rc (a ++ b) = rc a ++ rc b := PH
theorem NU (st : List (List UInt8) × List UInt8) : dj (dj st 32) 32 = dj st 32 := by
 unfold dj
 simp only [if_true]
 split
 ·rename_i h; simp [h]
 ·simp
theorem Ow (st : List (List UInt8) × List UInt8) : d9 (dj st 32) = d9 st := by
 unfold dj d9
 simp only [if_true]
 split
 ·rename_i h; simp [h]
 ·simp
def fd (st : List (List UInt8) × List UInt8) (l : List UInt8) : List (List UInt8) × List UInt8 := (rc l).foldl dj st
theorem OR (st) (a b : List UInt8) : fd st (a ++ b) = fd (fd st a) b := by
 unfold fd
 rw [Ls, PG]
theorem K4 {c : UInt8} (h : Gw c = true) : cS (c - 32).toNat = [c] ∧ 32 ≤ (c - 32).toNat ∧ (c - 32).toNat ≤ 126 := by
 unfold Gw at h
 simp only [FY, Pu] at h
 have e : (c - 32).toNat = c.toNat - 32 := by
  rw [UInt8.toNat_sub_of_le]
  ·rfl
  ·rw [UInt8.le_iff_toNat_le]; show 32 ≤ _; omega
 rw [e]
 refine ⟨?_, by omega, by omega⟩
 unfold cS
 rw [EK, show c.toNat - 32 + 32 = c.toNat by omega]
 show [UInt8.ofNat c.toNat] = [c]
 rw [UInt8.ofNat_toNat]
structure GZ (l : List UInt8) (i : Nat) (s : ByteArray) : Prop where
 ex : ∃ o, s = gi o ∧ GB o ∧ o.length ≤ 2 * i + 1 ∧ fd ([], []) o = (l.take i).foldl dj ([], [])
theorem GZ.step {l : List UInt8} {i : Nat} {s : ByteArray} (h : GZ l i s) (hi : i < l.length) {k : List UInt8} (hp : GB k) (hl : k.length ≤ 2) (hf : ∀ st, fd st k = dj st (l.getD i 0)) : GZ l (i + 1) (s ++ gi k) := by
 obtain ⟨o, rfl, h1, h2, h3⟩ := h
 refine ⟨o ++ k, G1 _ _, ?_, by rw [FO]; omega, ?_⟩
 ·intro c hc
  exact (F2.1 hc).elim (h1 c) (hp c)
 ·rw [OR, hf, h3, IL 0 hi, PG]
  rfl
theorem GZ.len {l : List UInt8} {i : Nat} {s : ByteArray} (h : GZ l i s) : s.size ≤ 2 * i + 1 := by
 obtain ⟨o, rfl, h1, h2, h3⟩ := h
 exact h2
abbrev Pl := (ByteArray × Int × (List Int) × Int × Int) ⊕ (ByteArray × (List Int) × Int × Int)
def J4 (l : List UInt8) (i : Nat) (r : Option Pl) : Prop := ∃ (s : ByteArray) (d : aL), r = some (.inl (s, ((i + 1 : Nat) : Int), d.list, d.at_, d.state)) ∧ GZ l (i + 1) s ∧ nb d
theorem KQ {l : List UInt8} {i : Nat} (hi : i ≤ 1000) {s : ByteArray} (h : GZ l (i + 1) s) {d : aL} (hd : nb d) : J4 l i (gm (i : Int) s d.list d.at_ d.state) := by
 unfold gm
 rw [EI (n := (i : Int) + 1) (by omega) (by omega)]
 exact ⟨s, d, rfl, h, hd⟩
def Jw (c x : UInt8) : Prop := cS x.toNat = [c] ∧ c ≠ 32 ∧ 32 ≤ x.toNat ∧ x.toNat ≤ 126
theorem OS {c x : UInt8} (h : Jw c x) (st) : fd st [x] = dj st c := by
 unfold fd rc
 rw [List.flatMap_cons, h.1]
 rfl
theorem OT {c x : UInt8} (h : Jw c x) (st) : fd st [x, 39] = dj st c := by
 unfold fd rc
 rw [List.flatMap_cons, h.1]
 rfl
theorem Mp {l : List UInt8} {i : Nat} (hi : i < l.length) (hl : l.length ≤ 100) {s : ByteArray} (h : GZ l i s) {x : UInt8} (hx : Jw (l.getD i 0) x) {d : aL} (hd : nb d) : J4 l i (iI (gi l) s (i : Int) (x.toNat : Int) d.list d.at_ d.state) := by
 have hM : 1000 ≤ bZ := by decide
 have hs := h.len
 have e1 : Vm.strOf ([(x.toNat : Int)] : List Int) = gi [x] := Jl [x]
 have p1 : GB [x] := fun c hc => by rw [FQ.1 hc]; exact hx.2.2
 have k4 : ∀ (b : Bool) {d : aL}, nb d → J4 l i (gn s (i : Int) (x.toNat : Int) b d.list d.at_ d.state) := by
  intro b d hd
  unfold gn
  rw [e1]
  cases b with
  | true =>
   rw [if_pos rfl, if_pos (by rw [ByteArray.size_append, DU]; show _ + 1 ≤ _; simp only [Pq]; omega), show (s ++ gi [x]) ++ (mk #[39]) = s ++ gi [x, 39] from (ByteArray.append_assoc).trans (congrArg (s ++ ·) (G1 [x] [39]))]
   refine KQ (by omega) (h.step hi ?_ (by simp) (OT hx)) hd
   intro c hc
   have : c = x ∨ c = 39 := by simpa using hc
   rcases this with rfl | rfl
   ·exact hx.2.2
   ·decide
  | false =>
   rw [EN]
   exact KQ (by omega) (h.step hi p1 (by simp) (OS hx)) hd
 unfold iI
 rw [e1, DU, DU, EP]
 obtain ⟨v, d1, he, hd1⟩ := PN hd (n := 20) (by decide) (by decide)
 rw [he]; clear he; first | rw [De] | rw [Df] | rw [Dh] | rw [Dd]
 rw [EI (n := (i : Int) + 1) (by omega) (by omega)]
 split
 ·split
  ·rename_i hc
   simp only [Pu] at hc
   rw [EK, if_pos hc]
   exact k4 _ hd1
  ·exact k4 _ hd1
 ·exact k4 _ hd1
theorem NV {l : List UInt8} {i : Nat} {s : ByteArray} (h : GZ l i s) (hi : i < l.length) (h32 : l.getD i 0 = 32) {y : ByteArray} (hy : y ∈ [gi [32], gi [45], gi [44, 32], gi [46], gi [32, 32], gi [47]]) : GZ l (i + 1) (s ++ y) ∧ y.size ≤ 2 := by
 have hp : ∀ k : List UInt8, (k.all (fun c => decide (32 ≤ c.toNat) && decide (c.toNat ≤ 126)) && decide (k.length ≤ 2) && (decide (rc k = [32]) || decide (rc k = [32, 32]))) = true → GZ l (i + 1) (s ++ gi k) ∧ (gi k).size ≤ 2 := by
  intro k hk
  simp only [FY, Bool.or_eq_true, Pu, FX] at hk
  refine ⟨h.step hi hk.1.1 hk.1.2 fun st => ?_, hk.1.2⟩
  rw [h32]
  unfold fd
  rcases hk.2 with e | e <;> rw [e]
  ·rfl
  ·exact NU st
 have : y = gi [32] ∨ y = gi [45] ∨ y = gi [44, 32] ∨ y = gi [46] ∨ y = gi [32, 32] ∨ y = gi [47] := by simpa using hy
 rcases this with rfl | rfl | rfl | rfl | rfl | rfl <;> exact hp _ (by decide)
theorem Nw {d : aL} (hd : nb d) {l : List UInt8} (hl : MD l) (hn : l.length ≤ 30) : ∃ s d', oQ d (gi l) = some (s, d') ∧ (∃ o, s = gi o ∧ GB o ∧ o.length ≤ 64 ∧ Gt (rc o) = Gt l) ∧ nb d' := by
 have hM : 1000 ≤ bZ := by decide
 unfold oQ
 obtain ⟨y, d1, he, hy, hd1⟩ := Ks hd (l := [mk #[], mk #[], mk #[32], mk #[45]]) (by decide) (by decide)
 rw [he]; clear he; first | rw [De] | rw [Df] | rw [Dh] | rw [Dd]
 have h0 : GZ l 0 y := by
  have hp : ∀ k : List UInt8, (k.all (fun c => decide (32 ≤ c.toNat) && decide (c.toNat ≤ 126)) && decide (k.length ≤ 1) && decide (fd ([], []) k = ([], []))) = true → GZ l 0 (gi k) := by
   intro k hk
   simp only [FY, Pu, FX] at hk
   exact ⟨k, rfl, hk.1.1, hk.1.2, hk.2⟩
  have : y = gi [] ∨ y = gi [] ∨ y = gi [32] ∨ y = gi [45] := by
   rcases F1.1 hy with e | hy
   ·exact .inl e
   ·rcases F1.1 hy with e | hy
    ·exact .inl e
    ·rcases F1.1 hy with e | hy
     ·exact .inr (.inr (.inl e))
     ·exact .inr (.inr (.inr (FQ.1 hy)))
  rcases this with rfl | rfl | rfl | rfl <;> exact hp _ (by decide)
 obtain ⟨t, e, s, d2, rfl, hs, hd2⟩ := DG (step := fun v : ByteArray × Int × (List Int) × Int × Int => oy (gi l) v.1 v.2.1 v.2.2.1 v.2.2.2.1 v.2.2.2.2) l.length (fun i s => ∃ (t : ByteArray) (d : aL), s = (t, (i : Int), d.list, d.at_, d.state) ∧ GZ l i t ∧ nb d) (fun t => ∃ (s : ByteArray) (d : aL), t = (s, d.list, d.at_, d.state) ∧ GZ l l.length s ∧ nb d) (fun i hi s hs => by
   obtain ⟨t, d, rfl, ht, hd⟩ := hs
   left
   suffices H : J4 l i (oy (gi l) t (i : Int) d.list d.at_ d.state) by
    obtain ⟨t', d', e, h1, h2⟩ := H
    exact ⟨_, e, t', d', rfl, h1, h2⟩
   have htl := ht.len
   have hc := hl _ (GJ 0 hi)
   unfold oy
   rw [DU, DT, FM, EQ, EK, EK]
   by_cases h32 : l.getD i 0 = 32
   ·rw [h32, EM]
    obtain ⟨z, d3, ez, hz, hd3⟩ := Ks hd (l := [mk #[32], mk #[45], mk #[44, 32], mk #[46], mk #[32, 32], mk #[47]]) (by decide) (by decide)
    obtain ⟨g1, g2⟩ := NV ht hi h32 (y := z) hz
    rw [ez, De, EK]
    exact KQ (by omega) g1 hd3
   ·have hlow := hc.resolve_right h32
    have hlow2 := hlow
    unfold Gw at hlow2
    simp only [FY, Pu] at hlow2
    have d1 : Jw (l.getD i 0) (l.getD i 0) := ⟨Jn hlow, h32, IN hlow⟩
    have d2 : Jw (l.getD i 0) (l.getD i 0 - 32) := ⟨(K4 hlow).1, h32, (K4 hlow).2⟩
    rw [if_neg (by simp only [beq_iff_eq]; omega), EQ, EQ]
    obtain ⟨v, d3, ev, hd3⟩ := PN hd (n := 3) (by decide) (by decide)
    rw [ev, De]
    unfold gp
    rw [DT, FM]
    cases v with
    | true =>
     have e : u8.wrap (((l.getD i 0).toNat : Int) - 32) = ((l.getD i 0 - 32).toNat : Int) := by
      rw [Ik (by omega) (by omega), UInt8.toNat_sub_of_le]
      ·show _ = (((l.getD i 0).toNat - 32 : Nat) : Int); omega
      ·rw [UInt8.le_iff_toNat_le]; show 32 ≤ _; omega
     rw [if_pos rfl, Dd, e]
     exact Mp hi (by omega) ht d2 hd3
    | false =>
     rw [EN]
     exact Mp hi (by omega) ht d1 hd3) (fun s hs => by
   obtain ⟨t, d, rfl, ht, hd⟩ := hs
   refine ⟨(t, d.list, d.at_, d.state), ?_, t, d, rfl, ht, hd⟩
   simp only [oy]
   rw [DU, EO]) (s := (y, 0, d1.list, d1.at_, d1.state)) ⟨y, d1, rfl, h0, hd1⟩
 rw [e, Dh]
 obtain ⟨z, d3, he, hzm, hd3⟩ := Ks hd2 (l := [mk #[], mk #[], mk #[32], mk #[46]]) (by decide) (by decide)
 rw [he]; clear he; first | rw [De] | rw [Df] | rw [Dh] | rw [Dd]
 obtain ⟨o, rfl, h1, h2, h3⟩ := hs
 have hp : ∀ k : List UInt8, (k.all (fun c => decide (32 ≤ c.toNat) && decide (c.toNat ≤ 126)) && decide (k.length ≤ 1) && (decide (rc k = []) || decide (rc k = [32]))) = true → ∃ s d', (if (gi o).size + (gi k).size ≤ bZ then (some ((gi o ++ gi k), d3)) else none) = some (s, d') ∧ (∃ o, s = gi o ∧ GB o ∧ o.length ≤ 64 ∧ Gt (rc o) = Gt l) ∧ nb d' := by
  intro k hk
  simp only [FY, Bool.or_eq_true, Pu, FX] at hk
  obtain ⟨⟨g1, g2⟩, g3⟩ := hk
  rw [if_pos (by rw [DU, DU]; omega)]
  refine ⟨_, _, rfl, ⟨o ++ k, G1 _ _, fun c hc => (F2.1 hc).elim (h1 c) (g1 c), by rw [FO]; omega, ?_⟩, hd3⟩
  unfold Gt
  rw [Ls, PG]
  unfold fd at h3
  rw [h3, PF]
  rcases g3 with e | e <;> rw [e]
  ·rfl
  ·exact Ow _
 have : z = gi [] ∨ z = gi [32] ∨ z = gi [46] := by
  rcases F1.1 hzm with e | hy
  ·exact .inl e
  ·rcases F1.1 hy with e | hy
   ·exact .inl e
   ·rcases F1.1 hy with e | hy
    ·exact .inr (.inl e)
    ·exact .inr (.inr (FQ.1 hy))
 rcases this with rfl | rfl | rfl <;> exact hp _ (by decide)
abbrev fld (s : aK) (i : Nat) : ar := s.Fields.getD i bq
structure Gy (s : aK) : Prop where
 r : Gv s.Rules
 n0 : 1 ≤ s.Fields.length
 n1 : s.Fields.length ≤ 4
 w : ∀ i, i < s.Fields.length → qG (fld s i).Name = some true
 u : ∀ i j, i < j → j < s.Fields.length → (fld s i).Name ≠ (fld s j).Name
 k : ∀ i, i < s.Fields.length → 1 ≤ (fld s i).Kind ∧ (fld s i).Kind ≤ 4
theorem IP {l : List UInt8} (h0 : l ≠ []) (h1 : HY l) (h2 : l.length ≤ 12) : qG (gi l) = some true := by
 unfold qG jd
 rw [show (mk #[]) = gi [] from rfl, GY, Pv h0, EM, if_pos (by rw [DU]; simp only [Pu]; omega), Kc h1 (by omega), Dd, GY, Pw rfl]
theorem O4 {l : List ar} (hn : l.length ≤ 1000) (x : ar) (h : ∀ i, i < l.length → (l.getD i bq).Name ≠ x.Name) : nH l x = some (false, x) := by
 unfold nH nI
 rw [DF (fun i => ((i : Int), x.Name, x.Kind)) l.length (.inl (x.Name, x.Kind)) (fun i hi => by
   simp only [nE, pj, De]
   rw [FM, EQ, EK, EK, Em, Pv (h i hi), EN, EI (n := (i : Int) + 1) (by omega) (by omega)]
   rfl) (by
   simp only [nE]
   rw [EO]) (by simp)]
 rfl
theorem HH {s : aK} (h : Gy s) : dz s = some 0 := by
 have h0 := h.n0
 have h1 := h.n1
 unfold dz lc
 rw [ER, ER, DF (fun i => (i : Int)) s.Fields.length (.inl ()) (fun i hi => by
   have hk : 1 ≤ (s.Fields.getD i bq).Kind ∧ (s.Fields.getD i bq).Kind ≤ 4 := h.k i hi
   have e : nH (s.Fields.take i) (s.Fields.getD i bq) = some (false, s.Fields.getD i bq) := O4 (by rw [FR]; omega) _ fun j hj => by
    rw [FR] at hj
    have : (s.Fields.take i).getD j bq = s.Fields.getD j bq := by
     rw [FI, List.getElem?_take_of_lt (by omega), FI]
    rw [this]
    exact h.u j i (by omega) hi
   simp only [ua, gv]
   rw [FM, EQ, EK, EK, EK, e, De, h.w i hi, Dd, EN, EN, ER, ER, EI (n := (i : Int) + 1) (by omega) (by omega)]
   rfl) (by
   simp only [ua]
   rw [EO]) (by simp)]
 show pn s = _
 unfold pn
 rw [Ky h.r]
 rfl
def Hv (r : aY) (k : Int) (raw v : ByteArray) : Prop := raw ≠ gi [] ∧ (k = 1 ∧ lw r raw = some (v, 0) ∨ k = 2 ∧ qX r raw = some (v, 0) ∨ k = 3 ∧ lZ raw = some (v, 0) ∨ k = 4 ∧ kR r raw = some (v, 0))
theorem NW {s : aK} (h : Gy s) {i : Nat} (hi : i < s.Fields.length) {raw v : ByteArray} (hv : Hv s.Rules (fld s i).Kind raw v) : o9 s (i : Int) raw = some (v, 0) := by
 obtain ⟨h0, hv⟩ := hv
 have e : (raw.toList == (mk #[]).toList) = false := by
  rw [show (mk #[]) = gi [] from rfl, Em, Pv h0]
 unfold o9
 rw [HH h, Dd, EK, FM, e]
 rcases hv with ⟨k, e⟩ | ⟨k, e⟩ | ⟨k, e⟩ | ⟨k, e⟩ <;> simp only [fld] at k <;> rw [k]
 ·rw [if_pos rfl, EN, e]
 ·rw [EN, if_pos rfl, EN, e]
 ·rw [EN, EN, if_pos rfl, EN]
  unfold pq
  rw [e]
  rfl
 ·rw [EN, EN, EN, if_pos rfl, EN, e]
def NF (r : aY) (k : Int) (v : ByteArray) : Prop := k = 1 ∧ (∃ ws, v = gi (dE ws) ∧ (∀ w ∈ ws, J0 r w) ∧ ws.length ≤ 2) ∨ k = 2 ∧ (∃ c y m d, v = gi (G4 c y m d) ∧ (18 ≤ c ∧ c ≤ 21) ∧ y < 100 ∧ (1 ≤ m ∧ m ≤ 12) ∧ 1 ≤ d ∧ d ≤ 28) ∨ k = 3 ∧ v = gi [97, 98, 49, 50] ∨ k = 4 ∧ ∃ w, v = gi (dE [GC r w, [49, 50]]) ∧ tw w
theorem Ld {s : aK} (h : Gy s) {i : Nat} (hi : i < s.Fields.length) {v : ByteArray} (hv : NF s.Rules (fld s i).Kind v) : jn s (i : Int) v = some true := by
 unfold jn
 rw [HH h, Dd, EK, FM]
 rcases hv with ⟨k, ws, rfl, hw, hl⟩ | ⟨k, c, y, m, d, rfl, hc, hy, hm, hd⟩ | ⟨k, rfl⟩ | ⟨k, w, rfl, hw⟩ <;> simp only [fld] at k <;> rw [k]
 ·rw [if_pos rfl]
  split
  ·rfl
  ·exact NP h.r hw (by omega)
 ·rw [EN, if_pos rfl]
  split
  ·rfl
  ·exact MW _ hc hy hm hd
 ·rw [EN, EN, if_pos rfl]
  split
  ·rfl
  ·unfold pt
   rw [MO]
   rfl
 ·rw [EN, EN, EN, if_pos rfl]
  split
  ·rfl
  ·exact Ns h.r hw
theorem K1 {i v : Int} (hi : 1 ≤ i ∧ i ≤ 1048576) (hv : 1 ≤ v ∧ v ≤ 1048576) : lf i v = some true := by
 unfold lf gq
 rw [EQ, EQ, EQ, Pw (by omega)]
theorem Ox {α : Type} (d z : α) {l : List α} {n i : Nat} (hl : l.length = n) (hi : i < n) : (l.take i ++ List.replicate (n - i) z).set i (l.getD i d) = l.take (i + 1) ++ List.replicate (n - (i + 1)) z := by
 have h1 : (l.take i).length = i := by rw [FR]; omega
 rw [List.set_append_right _ _ (by omega), h1, Nat.sub_self, show n - i = (n - (i + 1)) + 1 by omega, List.replicate_succ, List.set_cons_zero, IL d (by omega), F7]
 rfl
theorem JJ {s : aK} (h : Gy s) {id ver : Int} (hi : 1 ≤ id ∧ id ≤ 1048576) (hv : 1 ≤ ver ∧ ver ≤ 1048576) {raws vs : List ByteArray} (hr : raws.length = s.Fields.length) (hl : vs.length = s.Fields.length) (hn : ∀ i, i < s.Fields.length → Hv s.Rules (fld s i).Kind (raws.getD i mt) (vs.getD i mt)) : gC s id ver raws = some (⟨id, ver, vs⟩, 0) := by
 have h1 := h.n1
 unfold gC
 rw [HH h, Dd, EN, if_neg (by simp only [bne_iff_ne, ne_eq]; omega), K1 hi hv, Dd, EN, EK, EK, DF (fun i => ((i : Int), vs.take i ++ List.replicate (s.Fields.length - i) mt)) s.Fields.length (.inl vs) (fun i hi => by
   have hlen : (vs.take i ++ List.replicate (s.Fields.length - i) mt).length = s.Fields.length := by
    rw [FO, FR, Pt]; omega
   simp only [Jf]
   rw [FM, EQ, EK, EK, NW h hi (hn i hi), De, EN, hlen, EK, Gg, Ox mt mt hl hi, EI (n := (i : Int) + 1) (by omega) (by omega)]
   rfl) (by
   simp only [Jf]
   rw [ER, Nat.sub_self, List.replicate_zero, PE, Gk (by omega)]) (by rw [FM, hr]; simp)]
 rfl
structure GR (s : aK) (x : aB) : Prop where
 i : 1 ≤ x.ID ∧ x.ID ≤ 1048576
 v : 1 ≤ x.Version ∧ x.Version ≤ 1048576
 l : x.Values.length = s.Fields.length
 f : ∀ i, i < s.Fields.length → NF s.Rules (fld s i).Kind (x.Values.getD i mt)
theorem Lt {s : aK} (h : Gy s) {x : aB} (hx : GR s x) : PS s x = some 0 := by
 have h1 := h.n1
 have hl := hx.l
 unfold PS lh
 rw [K1 hx.i hx.v, Dd, EN, if_neg (by simp only [bne_iff_ne, ne_eq]; omega), DF (fun i => (i : Int)) s.Fields.length (.inl ()) (fun i hi => by
   simp only [uc]
   rw [FM, EQ, EK, EK, Ld h hi (hx.f i hi), Dd, EN, EI (n := (i : Int) + 1) (by omega) (by omega)]
   rfl) (by
   simp only [uc]
   rw [ER]) (by simp)]
 rfl
theorem Lu {s : aK} (h : Gy s) {x : aB} (hx : GR s x) : PT s x = some 0 := by
 unfold PT
 rw [HH h, Dd, EN, Lt h hx]
 rfl
abbrev recD (l : List aB) (i : Nat) : aB := l.getD i bg
structure IX (s : aK) (l : List aB) : Prop where
 n : l.length ≤ 64
 ok : ∀ i, i < l.length → GR s (recD l i)
 up : ∀ i, i + 1 < l.length → (recD l i).ID < (recD l (i + 1)).ID
theorem Oy {s : aK} (h : Gy s) {l : List aB} (hl : IX s l) : Ji s l = some 0 := by
 have hn := hl.n
 unfold Ji
 rw [HH h, Dd, EN, ER, DF (fun i => (i : Int)) l.length (.inl ()) (fun i hi => by
   simp only [uB, lP]
   rw [FM, EQ, EK, EK, Lt h (hl.ok i hi), Dd, EN]
   cases i with
   | zero => rw [EN, EN, EI (by omega) (by omega)]; rfl
   | succ j =>
    have : (l.getD j bg).ID < (l.getD (j + 1) bg).ID := hl.up j hi
    rw [EQ, EI (n := ((j + 1 : Nat) : Int) - 1) (by omega) (by omega), EK, EK, show (((j + 1 : Nat) : Int) - 1).toNat = j by omega, ER, EI (by omega) (by omega)]
    rfl) (by
   simp only [uB]
   rw [EO]) (by simp)]
 rfl
def Il : List (List UInt8) := [[102, 97, 109, 105, 108, 121], [103, 105, 118, 101, 110], [98, 105, 114, 116, 104], [115, 116, 114, 101, 101, 116], [99, 111, 100, 101]]
structure Ib (F : List ar) (i : Nat) : Prop where
 l : F.length = i
 f : ∀ j, j < i → (F.getD j bq).Name = (Il.map gi).getD j mt ∧ 1 ≤ (F.getD j bq).Kind ∧ (F.getD j bq).Kind ≤ 4
theorem G0 {α : Type} (d x : α) {l : List α} {j : Nat} (h : j < l.length + 1) : (l ++ [x]).getD j d = if j < l.length then l.getD j d else x := by
 split
 ·rename_i hj
  rw [FI, F3 hj, FI]
 ·rw [show j = l.length by omega, FI, F4 (by omega), Nat.sub_self]
  rfl
theorem Ib.snoc {F : List ar} {i : Nat} (h : Ib F i) {k : Int} (h1 : 1 ≤ k) (h4 : k ≤ 4) : Ib (F ++ [⟨(Il.map gi).getD i mt, k⟩]) (i + 1) := by
 have hl := h.l
 refine ⟨by rw [FO, hl]; rfl, fun j hj => ?_⟩
 rw [G0 _ _ (by omega)]
 split
 ·exact h.f j (by omega)
 ·rw [show j = i by omega]
  exact ⟨rfl, h1, h4⟩
theorem Ib.sc {F : List ar} {n : Nat} (h : Ib F n) (h1 : 1 ≤ n) (h4 : n ≤ 4) {r : aY} (hr : Gv r) : Gy ⟨F, r⟩ := by
 have hl := h.l
 refine ⟨hr, by simp only; omega, by simp only; omega, fun i hi => ?_, fun i j hij hj => ?_, fun i hi => (h.f i (by simp only at hi; omega)).2⟩
 ·have hi : i < n := by simp only at hi; omega
  show qG (F.getD i bq).Name = _
  rw [(h.f i hi).1]
  have : i = 0 ∨ i = 1 ∨ i = 2 ∨ i = 3 := by omega
  rcases this with rfl | rfl | rfl | rfl
  ·exact IP (l := [102, 97, 109, 105, 108, 121]) (by decide) (He _ (by decide)).2.1 (by decide)
  ·exact IP (l := [103, 105, 118, 101, 110]) (by decide) (He _ (by decide)).2.1 (by decide)
  ·exact IP (l := [98, 105, 114, 116, 104]) (by decide) (He _ (by decide)).2.1 (by decide)
  ·exact IP (l := [115, 116, 114, 101, 101, 116]) (by decide) (He _ (by decide)).2.1 (by decide)
 ·have hj : j < n := by simp only at hj; omega
  show (F.getD i bq).Name ≠ (F.getD j bq).Name
  rw [(h.f i (by omega)).1, (h.f j hj).1]
  have hg : ∀ k, (Il.map gi).getD k mt = gi (Il.getD k []) := fun k => by
   rw [FI, F6, FI]
   cases Il[k]? <;> rfl
  rw [hg, hg, ne_eq, Ec]
  have key : ∀ a b : Fin 4, a.val < b.val → Il.getD a.val [] ≠ Il.getD b.val [] := by decide
  exact key ⟨i, by omega⟩ ⟨j, by omega⟩ hij
theorem MX {d : aL} (h : nb d) : ∃ s d', tz d = some (s, d') ∧ Gy s ∧ nb d' := by
 unfold tz
 obtain ⟨r, d1, he, hr, hd1⟩ := Nv h
 rw [he]; clear he; first | rw [De] | rw [Df] | rw [Dh] | rw [Dd]
 obtain ⟨v, d2, he, v0, v1, hd2⟩ := PL hd1 (n := 4) (by decide) (by decide)
 rw [he]; clear he; first | rw [De] | rw [Df] | rw [Dh] | rw [Dd]
 obtain ⟨n, rfl⟩ : ∃ n : Nat, v = n := ⟨v.toNat, by omega⟩
 have hnm : ([(mk #[102, 97, 109, 105, 108, 121]), (mk #[103, 105, 118, 101, 110]), (mk #[98, 105, 114, 116, 104]), (mk #[115, 116, 114, 101, 101, 116]), (mk #[99, 111, 100, 101])] : aj) = Il.map gi := rfl
 obtain ⟨t, e, F, d3, rfl, hF, hd3⟩ := DG (step := fun v : Int × (List Int) × Int × Int × (List ar) => og (n : Int) v.1 v.2.1 v.2.2.1 v.2.2.2.1 v.2.2.2.2) (n + 1) (fun i s => ∃ (F : List ar) (d : aL), s = ((i : Int), d.list, d.at_, d.state, F) ∧ Ib F i ∧ nb d) (fun t => ∃ (F : List ar) (d : aL), t = (d.list, d.at_, d.state, F) ∧ Ib F (n + 1) ∧ nb d) (fun i hi s hs => by
   obtain ⟨F, d, rfl, hF, hd⟩ := hs
   left
   have hl := hF.l
   have k2 : ∀ {k : Int} {d : aL}, 1 ≤ k → k ≤ 4 → nb d → ∃ s', iD (i : Int) F k d.list d.at_ d.state = some (.inl s') ∧ ∃ (F : List ar) (d : aL), s' = (((i + 1 : Nat) : Int), d.list, d.at_, d.state, F) ∧ Ib F (i + 1) ∧ nb d := by
    intro k d k0 k1 hd
    unfold iD
    rw [hnm, FM, Gg, if_pos (by rw [Ps]; show (i : Int) < 5; omega), EP, EI (n := (i : Int) + 1) (by omega) (by omega)]
    exact ⟨_, rfl, _, d, rfl, hF.snoc k0 k1, hd⟩
   simp only [og]
   rw [EI (n := 1 + (n : Int)) (by omega) (by omega), EQ, EK, if_pos (by show (i : Int) < 5; omega)]
   obtain ⟨b, d4, e4, hd4⟩ := PN hd (n := 4) (by decide) (by decide)
   rw [e4, De]
   split
   ·obtain ⟨k, d5, e5, k0, k1, hd5⟩ := PL hd4 (n := 4) (by decide) (by decide)
    rw [e5, De, EI (n := 1 + k) (by omega) (by omega)]
    exact k2 (by omega) (by omega) hd5
   ·have hk : ∀ a : Fin 5, 1 ≤ ([1, 1, 2, 4, 3] : List Int).getD (0 + a.val) 0 ∧ ([1, 1, 2, 4, 3] : List Int).getD (0 + a.val) 0 ≤ 4 := by decide
    have := hk ⟨i, by omega⟩
    rw [FM]
    exact k2 this.1 this.2 hd4) (fun s hs => by
   obtain ⟨F, d, rfl, hF, hd⟩ := hs
   simp only [og]
   rw [EI (n := 1 + (n : Int)) (by omega) (by omega), ER]
   exact ⟨_, rfl, F, d, rfl, hF, hd⟩) (s := (0, d2.list, d2.at_, d2.state, [])) ⟨[], d2, rfl, ⟨rfl, fun j hj => absurd hj (Px _)⟩, hd2⟩
 rw [e, Dh]
 exact ⟨_, _, rfl, hF.sc (by omega) (by omega) hr, hd3⟩
abbrev J5 (p : List aC) (i : Nat) : aC := p.getD i cH
structure HK (n : Nat) (i : Nat) (x : aC) : Prop where
 l : 64 ≤ x.Length ∧ x.Length ≤ 192 ∧ x.Length % 64 = 0
 h : 1 ≤ x.Hashes ∧ x.Hashes ≤ 6
 s : x.Salt = -1 ∨ 0 ≤ x.Salt ∧ x.Salt < n ∧ x.Salt ≠ i
structure Iu (n : Nat) (p : List aC) : Prop where
 l : p.length = n
 f : ∀ i, i < n → HK n i (p.getD i cH)
theorem MY {d : aL} (h : nb d) {n : Nat} (h1 : 1 ≤ n) (h4 : n ≤ 4) : ∃ p d', td d (n : Int) = some (p, d') ∧ Iu n p ∧ nb d' := by
 unfold td
 obtain ⟨t, e, F, d3, rfl, hF, hd3⟩ := DG (step := fun v : (List aC) × Int × (List Int) × Int × Int => nX (n : Int) v.1 v.2.1 v.2.2.1 v.2.2.2.1 v.2.2.2.2) n (fun i s => ∃ (F : List aC) (d : aL), s = (F, (i : Int), d.list, d.at_, d.state) ∧ (F.length = i ∧ ∀ j, j < i → HK n j (F.getD j cH)) ∧ nb d) (fun t => ∃ (F : List aC) (d : aL), t = (F, d.list, d.at_, d.state) ∧ Iu n F ∧ nb d) (fun i hi s hs => by
   obtain ⟨F, d, rfl, ⟨hl, hF⟩, hd⟩ := hs
   left
   simp only [nX]
   rw [EQ]
   obtain ⟨a, d4, e4, a0, a1, hd4⟩ := PL hd (n := 3) (by decide) (by decide)
   rw [e4, De]
   obtain ⟨b, d5, e5, b0, b1, hd5⟩ := PL hd4 (n := 6) (by decide) (by decide)
   rw [e5, De]
   have k2 : ∀ {k : Int} {d : aL}, (k = -1 ∨ 0 ≤ k ∧ k < n ∧ k ≠ i) → nb d → ∃ s', iy F (i : Int) a b d.list d.at_ d.state k = some (.inl s') ∧ ∃ (F : List aC) (d : aL), s' = (F, ((i + 1 : Nat) : Int), d.list, d.at_, d.state) ∧ (F.length = i + 1 ∧ ∀ j, j < i + 1 → HK n j (F.getD j cH)) ∧ nb d := by
    intro k d hk hd
    unfold iy
    rw [EP, EI (n := 1 + a) (by omega) (by omega), EI (n := 1 + b) (by omega) (by omega), EI (n := 64 * (1 + a)) (by omega) (by omega), EI (n := (i : Int) + 1) (by omega) (by omega)]
    refine ⟨_, rfl, _, d, rfl, ⟨by rw [FO, hl]; rfl, fun j hj => ?_⟩, hd⟩
    rw [G0 _ _ (by omega)]
    split
    ·exact hF j (by omega)
    ·rw [show j = i by omega]
     exact ⟨by simp only; omega, by simp only; omega, hk⟩
   have k3 : ∀ {c : Bool} {d : aL}, (c = true → 2 ≤ n) → nb d → ∃ s', iz (n : Int) F (i : Int) a b c d.list d.at_ d.state = some (.inl s') ∧ ∃ (F : List aC) (d : aL), s' = (F, ((i + 1 : Nat) : Int), d.list, d.at_, d.state) ∧ (F.length = i + 1 ∧ ∀ j, j < i + 1 → HK n j (F.getD j cH)) ∧ nb d := by
    intro c d hc hd
    unfold iz
    cases c with
    | false =>
     rw [EN]
     exact k2 (.inl rfl) hd
    | true =>
     have := hc rfl
     rw [if_pos rfl, EK, EI (n := (i : Int) + 1) (by omega) (by omega), D4 (by omega)]
     have m0 := Int.emod_nonneg ((i : Int) + 1) (show (n : Int) ≠ 0 by omega)
     have m1 := Int.emod_lt_of_pos ((i : Int) + 1) (show 0 < (n : Int) by omega)
     refine k2 (.inr ⟨m0, m1, ?_⟩) hd
     by_cases hh : i + 1 < n
     ·rw [Int.emod_eq_of_lt (by omega) (by omega)]; omega
     ·rw [show (i : Int) + 1 = n by omega, Int.emod_self]; omega
   split
   ·obtain ⟨c, d6, e6, hd6⟩ := PN hd5 (n := 3) (by decide) (by decide)
    rw [e6, De]
    rename_i hg
    exact k3 (fun _ => by simp only [Pu] at hg; omega) hd6
   ·exact k3 (fun h => by cases h) hd5) (fun s hs => by
   obtain ⟨F, d, rfl, ⟨hl, hF⟩, hd⟩ := hs
   simp only [nX]
   rw [ER]
   exact ⟨_, rfl, F, d, rfl, ⟨hl, hF⟩, hd⟩) (s := ([], 0, d.list, d.at_, d.state)) ⟨[], d, rfl, ⟨rfl, fun j hj => absurd hj (Px _)⟩, h⟩
 rw [e, Dh]
 exact ⟨_, _, rfl, hF, hd3⟩
def Pd (k : hJ) : Prop := (0 ≤ k.A ∧ k.A < 18446744073709551616) ∧ 0 ≤ k.B ∧ k.B < 18446744073709551616
theorem Mc {d : aL} (h : nb d) : ∃ k d', t8 d = some (k, d') ∧ Pd k ∧ nb d' := by
 unfold t8
 obtain ⟨a, d1, he, a0, a1, hd1⟩ := LI h
 rw [he]; clear he; first | rw [De] | rw [Df] | rw [Dh] | rw [Dd]
 obtain ⟨b, d2, he, b0, b1, hd2⟩ := LI hd1
 rw [he]; clear he; first | rw [De] | rw [Df] | rw [Dh] | rw [Dd]
 exact ⟨_, _, rfl, ⟨⟨a0, a1⟩, b0, b1⟩, hd2⟩
theorem MZ {n : Int} (h : 64 ≤ n ∧ n ≤ 192 ∧ n % 64 = 0) : PO n = some true := by
 unfold PO iY
 rw [EQ, EQ, D4 (by omega), h.2.2]
 rfl
theorem LN {n : Int} (h : 64 ≤ n ∧ n ≤ 192 ∧ n % 64 = 0) : mu n = some (⟨n, List.replicate ((n / 64).toNat) 0⟩, 0) := by
 unfold mu
 rw [MZ h, Dd, EN, D5 (by omega), EI (by omega) (by omega), EK, EK]
theorem Ki {n i : Nat} (hn : n ≤ 4) {x : aC} (h : HK n i x) : jv x = some 0 := by
 have h1 := h.h
 have h2 := h.s
 unfold jv Iq
 rw [LN h.l, De, EN, ER, ER, ER, ER]
theorem M0 {s : aK} (h : Gy s) {p : List aC} (hp : Iu s.Fields.length p) : qx s p = some 0 := by
 have h1 := h.n1
 have hl := hp.l
 unfold qx
 rw [HH h, Dd, EN, if_neg (by simp only [bne_iff_ne, ne_eq]; omega), DF (fun i => (i : Int)) s.Fields.length (.inl ()) (fun i hi => by
   have hx := hp.f i hi
   have hs := hx.s
   simp only [ub, ja]
   rw [FM, EQ, EK, EK, Ki h1 hx, Dd, EN, ER, if_neg (by simp only [beq_iff_eq]; omega), EI (n := (i : Int) + 1) (by omega) (by omega)]
   rfl) (by
   simp only [ub]
   rw [ER]) (by simp)]
 rfl
def I7 (s : aK) (c : aX) : Prop := ∃ f : Nat, c.Field = f ∧ f < s.Fields.length ∧ (c.Transform = 1 ∨ c.Transform = 3 ∨ c.Transform = 2 ∧ (fld s f).Kind = 1 ∨ c.Transform = 4 ∧ (fld s f).Kind = 2 ∨ c.Transform = 5 ∧ (fld s f).Kind = 4)
abbrev cpD (l : List aX) (i : Nat) : aX := l.getD i cQ
structure I9 (s : aK) (k : bz) : Prop where
 l : 1 ≤ k.Components.length ∧ k.Components.length ≤ 3
 c : ∀ i, i < k.Components.length → I7 s (cpD k.Components i)
 up : ∀ i, i + 1 < k.Components.length → (cpD k.Components i).Field < (cpD k.Components (i + 1)).Field
structure Ic (s : aK) (l : List bz) : Prop where
 n : l.length ≤ 8
 k : ∀ i, i < l.length → I9 s (l.getD i dQ)
structure G5 (s : aK) (C : List aX) (i : Nat) : Prop where
 l : C.length ≤ 3
 c : ∀ j, j < C.length → I7 s (cpD C j) ∧ (cpD C j).Field < i
 up : ∀ j, j + 1 < C.length → (cpD C j).Field < (cpD C (j + 1)).Field
theorem G5.mono {s : aK} {C : List aX} {i : Nat} (h : G5 s C i) : G5 s C (i + 1) := ⟨h.l, fun j hj => ⟨(h.c j hj).1, by have := (h.c j hj).2; omega⟩, h.up⟩
theorem G5.snoc {s : aK} {C : List aX} {i : Nat} (h : G5 s C i) (hl : C.length < 3) {t : Int} (hc : I7 s ⟨(i : Int), t⟩) : G5 s (C ++ [⟨(i : Int), t⟩]) (i + 1) := by
 refine ⟨by rw [FO, Pq]; omega, fun j hj => ?_, fun j hj => ?_⟩
 ·rw [FO, Pq] at hj
  unfold cpD
  rw [G0 _ _ hj]
  split
  ·rename_i h2
   have := h.c j h2
   refine ⟨this.1, ?_⟩
   have := this.2
   simp only [cpD] at this
   omega
  ·exact ⟨hc, by simp only; omega⟩
 ·rw [FO, Pq] at hj
  unfold cpD
  rw [G0 _ _ (by omega), G0 _ _ (by omega), EK]
  split
  ·exact h.up j (by assumption)
  ·exact (h.c j (by omega)).2
abbrev Pm := (Int × (List Int) × Int × Int × (List aX)) ⊕ ((List Int) × Int × Int × (List aX))
def KX (s : aK) (i : Nat) (r : Option Pm) : Prop := ∃ (C : List aX) (d : aL), r = some (.inl (((i + 1 : Nat) : Int), d.list, d.at_, d.state, C)) ∧ G5 s C (i + 1) ∧ nb d
theorem Oz {s : aK} (hs : Gy s) {C : List aX} {i : Nat} (hi : i < s.Fields.length) (h : G5 s C i) (hl : C.length < 3) {d : aL} (hd : nb d) : KX s i (kd s (i : Int) d.list d.at_ d.state C true) := by
 have h1 := hs.n1
 have k4 : ∀ {C : List aX} {d : aL}, G5 s C (i + 1) → nb d → KX s i (iA (i : Int) d.list d.at_ d.state C) := by
  intro C d hC hd
  unfold iA
  rw [EI (n := (i : Int) + 1) (by omega) (by omega)]
  exact ⟨C, d, rfl, hC, hd⟩
 have k5 : ∀ {t : Int} {d : aL}, I7 s ⟨(i : Int), t⟩ → nb d → KX s i (iB (i : Int) C t d.list d.at_ d.state) := by
  intro t d hc hd
  unfold iB
  rw [EP]
  exact k4 (h.snoc hl hc) hd
 unfold kd
 rw [if_pos rfl]
 obtain ⟨a, d1, he, hd1⟩ := PN hd (n := 2) (by decide) (by decide)
 rw [he]; clear he; first | rw [De] | rw [Df] | rw [Dh] | rw [Dd]
 split
 ·exact k4 h.mono hd1
 ·obtain ⟨b, d2, he, b0, b1, hd2⟩ := PL hd1 (n := 2) (by decide) (by decide)
  rw [he]; clear he; first | rw [De] | rw [Df] | rw [Dh] | rw [Dd]
  rw [if_pos b0, if_pos (by show b < 2; omega)]
  obtain ⟨c, d3, he, hd3⟩ := PN hd2 (n := 2) (by decide) (by decide)
  rw [he]; clear he; first | rw [De] | rw [Df] | rw [Dh] | rw [Dd]
  split
  ·obtain ⟨g1, g2⟩ : 1 ≤ (s.Fields.getD i bq).Kind ∧ (s.Fields.getD i bq).Kind ≤ 4 := hs.k i hi
   rw [FM, EK, EK, EK, if_pos (by show _ < (5 : Int); omega)]
   refine k5 ⟨i, rfl, hi, ?_⟩ hd3
   have : (s.Fields.getD i bq).Kind = 1 ∨ (s.Fields.getD i bq).Kind = 2 ∨ (s.Fields.getD i bq).Kind = 3 ∨ (s.Fields.getD i bq).Kind = 4 := by omega
   simp only [fld]
   rcases this with e | e | e | e <;> rw [e] <;> decide
  ·refine k5 ⟨i, rfl, hi, ?_⟩ hd3
   have : b = 0 ∨ b = 1 := by omega
   rcases this with rfl | rfl
   ·exact .inl rfl
   ·exact .inr (.inl rfl)
theorem Nx {s : aK} (hs : Gy s) {d : aL} (hd : nb d) : ∃ (C : List aX) (d' : aL), loop (fun v : Int × (List Int) × Int × Int × (List aX) => oa s v.1 v.2.1 v.2.2.1 v.2.2.2.1 v.2.2.2.2) (0, d.list, d.at_, d.state, ([] : List aX)) = some (d'.list, d'.at_, d'.state, C) ∧ G5 s C s.Fields.length ∧ nb d' := by
 have h1 := hs.n1
 have stop : ∀ {C : List aX} {i : Nat} {d : aL}, i ≤ s.Fields.length → G5 s C i → nb d → ∃ t, kd s (i : Int) d.list d.at_ d.state C false = some (.inr t) ∧ ∃ (C : List aX) (d : aL), t = (d.list, d.at_, d.state, C) ∧ G5 s C s.Fields.length ∧ nb d := by
  intro C i d hi hC hd
  unfold kd
  rw [EN]
  exact ⟨_, rfl, C, d, rfl, ⟨hC.l, fun j hj => ⟨(hC.c j hj).1, by have := (hC.c j hj).2; omega⟩, hC.up⟩, hd⟩
 obtain ⟨t, e, C, d3, rfl, hF, hd3⟩ := DG (step := fun v : Int × (List Int) × Int × Int × (List aX) => oa s v.1 v.2.1 v.2.2.1 v.2.2.2.1 v.2.2.2.2) s.Fields.length (fun i t => ∃ (C : List aX) (d : aL), t = ((i : Int), d.list, d.at_, d.state, C) ∧ G5 s C i ∧ nb d) (fun t => ∃ (C : List aX) (d : aL), t = (d.list, d.at_, d.state, C) ∧ G5 s C s.Fields.length ∧ nb d) (fun i hi t ht => by
   obtain ⟨C, d, rfl, hC, hd⟩ := ht
   simp only [oa]
   rw [EQ]
   by_cases hl : C.length < 3
   ·left
    rw [Pw (by omega)]
    obtain ⟨C', d', e, g1, g2⟩ := Oz hs hi hC hl hd
    exact ⟨_, e, C', d', rfl, g1, g2⟩
   ·right
    rw [Pv (by omega)]
    exact stop (by omega) hC hd) (fun t ht => by
   obtain ⟨C, d, rfl, hC, hd⟩ := ht
   simp only [oa]
   rw [EO]
   exact stop (F9 _) hC hd) (s := (0, d.list, d.at_, d.state, [])) ⟨[], d, rfl, ⟨by decide, fun j hj => absurd hj (Px _), fun j hj => absurd hj (Px _)⟩, hd⟩
 exact ⟨C, d3, e, hF, hd3⟩
theorem Ny {s : aK} (hs : Gy s) {d : aL} (hd : nb d) : ∃ l d', tj d s 3 = some (l, d') ∧ Ic s l ∧ nb d' := by
 have h1 := hs.n1
 have h0 := hs.n0
 unfold tj
 rw [EI (n := 3 + 1) (by omega) (by omega)]
 obtain ⟨v, d1, he, v0, v1, hd1⟩ := PL hd (n := 3 + 1) (by decide) (by decide)
 rw [he]; clear he; first | rw [De] | rw [Df] | rw [Dh] | rw [Dd]
 obtain ⟨n, rfl⟩ : ∃ n : Nat, v = n := ⟨v.toNat, by omega⟩
 obtain ⟨t, e, F, d3, rfl, hF, hd3⟩ := DG (step := fun v : (List bz) × Int × (List Int) × Int × Int => oc s v.1 v.2.1 v.2.2.1 v.2.2.2.1 v.2.2.2.2) n (fun i t => ∃ (F : List bz) (d : aL), t = (F, (n : Int) - i, d.list, d.at_, d.state) ∧ (F.length = i ∧ ∀ j, j < i → I9 s (F.getD j dQ)) ∧ nb d) (fun t => ∃ (F : List bz) (d : aL), t = (F, d.list, d.at_, d.state) ∧ Ic s F ∧ nb d) (fun i hi t ht => by
   obtain ⟨F, d, rfl, ⟨hl, hF⟩, hd⟩ := ht
   left
   obtain ⟨C, d2, e2, hC, hd2⟩ := Nx hs hd
   simp only [oc]
   rw [EQ, e2, Dh]
   have k6 : ∀ {C : List aX}, I9 s ⟨C⟩ → ∃ s', ke F ((n : Int) - i) d2.list d2.at_ d2.state C = some (.inl s') ∧ ∃ (F : List bz) (d : aL), s' = (F, (n : Int) - ((i + 1 : Nat) : Int), d.list, d.at_, d.state) ∧ (F.length = i + 1 ∧ ∀ j, j < i + 1 → I9 s (F.getD j dQ)) ∧ nb d := by
    intro C hC
    unfold ke
    rw [EP, EI (by omega) (by omega), show (n : Int) - i - 1 = (n : Int) - ((i + 1 : Nat) : Int) by omega]
    refine ⟨_, rfl, _, d2, rfl, ⟨by rw [FO, hl]; rfl, fun j hj => ?_⟩, hd2⟩
    rw [G0 _ _ (by omega)]
    split
    ·exact hF j (by omega)
    ·exact hC
   split
   ·refine k6 ⟨⟨by simp, by simp⟩, fun j hj => ?_, fun j hj => absurd hj (by simp)⟩
    match j, hj with
    | 0, _ => exact ⟨0, rfl, by omega, .inl rfl⟩
   ·rename_i hne
    simp only [beq_iff_eq] at hne
    exact k6 ⟨⟨by simp only; omega, hC.l⟩, fun j hj => (hC.c j hj).1, hC.up⟩) (fun t ht => by
   obtain ⟨F, d, rfl, ⟨hl, hF⟩, hd⟩ := ht
   simp only [oc]
   rw [EO]
   exact ⟨_, rfl, F, d, rfl, ⟨by omega, fun j hj => hF j (by omega)⟩, hd⟩) (s := ([], (n : Int), d1.list, d1.at_, d1.state)) ⟨[], d1, by simp, ⟨rfl, fun j hj => absurd hj (Px _)⟩, hd1⟩
 rw [e, Dh]
 exact ⟨_, _, rfl, hF, hd3⟩
theorem M1 {s : aK} {c : aX} (h : I7 s c) : p6 s c = some true := by
 obtain ⟨f, e, hf, hc⟩ := h
 unfold p6 iU qo kX
 simp only [fld] at hc
 rw [e, FM, if_pos (by simp), EQ, EK, EK]
 rcases hc with h | h | ⟨h, k⟩ | ⟨h, k⟩ | ⟨h, k⟩ <;> rw [h] <;> try rw [k]
 all_goals rfl
theorem Nz {a b : aX} (h : a.Field < b.Field) : p7 a b = some (-1) := by
 have hc : ∀ x y : Int, ∃ v, HM x y = some v := by
  intro x y
  unfold HM lO
  simp only [Dd, bne_self_eq_false]
  rw [EN, EN]
  split
  ·exact ⟨_, rfl⟩
  ·split <;> exact ⟨_, rfl⟩
 have h1 : HM a.Field b.Field = some (-1) := by
  unfold HM lO
  simp only [Dd, bne_self_eq_false]
  rw [EN, EN, if_pos (by simpa using h)]
 obtain ⟨v, h2⟩ := hc a.Transform b.Transform
 unfold p7 qZ
 rw [h1, Dd, h2, Dd, rR (t := .inr (-1))]
 ·rfl
 ·simp only [uz]
  rw [if_pos (by simp), EM, if_pos (by simp)]
  rfl
theorem NY {s : aK} {k : bz} (h : I9 s k) : qA s k = some 0 := by
 have hl := h.l
 unfold qA lr
 rw [ER, ER, DF (fun i => (i : Int)) k.Components.length (.inl ()) (fun i hi => by
   simp only [ud, jb]
   rw [FM, EQ, EK, EK, M1 (h.c i hi), Dd, EN]
   cases i with
   | zero => rw [EN, EN, EI (by omega) (by omega)]; rfl
   | succ j =>
    rw [EQ, EI (n := ((j + 1 : Nat) : Int) - 1) (by omega) (by omega), EK, EK, show (((j + 1 : Nat) : Int) - 1).toNat = j by omega, Nz (h.up j hi), Dd, EN, EI (by omega) (by omega)]
    rfl) (by
   simp only [ud]
   rw [EO]) (by simp)]
 rfl
theorem K5 {s : aK} (hs : Gy s) {l : List bz} (h : Ic s l) : lB s l = some 0 := by
 have hn := h.n
 unfold lB
 rw [HH hs, Dd, EN, ER, DF (fun i => (i : Int)) l.length (.inl ()) (fun i hi => by
   simp only [tP]
   rw [FM, EQ, EK, EK, NY (h.k i hi), Dd, EN, EI (n := (i : Int) + 1) (by omega) (by omega)]
   rfl) (by
   simp only [tP]
   rw [EO]) (by simp)]
 rfl
theorem Jk {α β γ δ ε ζ : Type} (a : α) (b : β) (c : γ) (d : δ) (e : ε) (f : α → β → γ → δ → ε → Option ζ) : eM (some (a, b, c, d, e)) f = f a b c d e := rfl
theorem Mq (c y m d f : Nat) : gi (wr c y m d f) ≠ gi [] := fun h => by
 have := congrArg List.length (Ec.1 h)
 unfold wr at this
 split at this
 ·simp [d2] at this
 ·split at this <;> simp [d2] at this
abbrev bsD (l : List ByteArray) (i : Nat) : ByteArray := l.getD i mt
structure Im (s : aK) (a b v : List ByteArray) (i : Nat) : Prop where
 la : a.length = i
 lb : b.length = i
 lv : v.length = i
 f : ∀ j, j < i → Hv s.Rules (fld s j).Kind (bsD a j) (bsD v j) ∧ Hv s.Rules (fld s j).Kind (bsD b j) (bsD v j) ∧ NF s.Rules (fld s j).Kind (bsD v j)
theorem Im.snoc {s : aK} {a b v : List ByteArray} {i : Nat} (h : Im s a b v i) {x y z : ByteArray} (h1 : Hv s.Rules (fld s i).Kind x z) (h2 : Hv s.Rules (fld s i).Kind y z) (h3 : NF s.Rules (fld s i).Kind z) : Im s (a ++ [x]) (b ++ [y]) (v ++ [z]) (i + 1) := by
 have e1 := h.la
 have e2 := h.lb
 have e3 := h.lv
 refine ⟨by simp [e1], by simp [e2], by simp [e3], fun j hj => ?_⟩
 unfold bsD
 rw [G0 _ _ (by omega), G0 _ _ (by omega), G0 _ _ (by omega), e1, e2, e3]
 split
 ·exact h.f j (by assumption)
 ·rw [show j = i by omega]
  exact ⟨h1, h2, h3⟩
abbrev Pn := ((List ByteArray) × (List ByteArray) × Int × (List Int) × Int × Int) ⊕ ((List ByteArray) × (List ByteArray) × (List Int) × Int × Int)
def ME (s : aK) (i : Nat) (r : Option Pn) : Prop := ∃ (a b v : List ByteArray) (d : aL), r = some (.inl (a, b, ((i + 1 : Nat) : Int), d.list, d.at_, d.state)) ∧ Im s a b v (i + 1) ∧ nb d
theorem JX {s : aK} {a b v : List ByteArray} {i : Nat} (hi : i ≤ 100) (h : Im s a b v (i + 1)) {d : aL} (hd : nb d) : ME s i (fF (i : Int) a b d.list d.at_ d.state) := by
 unfold fF
 rw [EI (n := (i : Int) + 1) (by omega) (by omega)]
 exact ⟨a, b, v, d, rfl, h, hd⟩
theorem Lv {r : aY} (hr : Gv r) {w1 w2 : List UInt8} (h1 : tw w1) (h2 : tw w2) {l : List UInt8} (hp : GB l) (hn : l.length ≤ 64) (hw : Gt (rc l) = [w1, w2]) : Hv r 1 (gi l) (gi (dE (GD r [w1, w2]))) ∧ NF r 1 (gi (dE (GD r [w1, w2]))) := by
 have ht : ∀ w ∈ [w1, w2], tw w := fun w hw => by
  rcases F1.1 hw with rfl | hw
  ·exact h1
  ·rw [FQ.1 hw]; exact h2
 refine ⟨⟨fun e => ?_, .inl ⟨rfl, L8 hr hp hn hw ht (by simp)⟩⟩, .inl ⟨rfl, _, rfl, KG hr ht, List.length_filterMap_le _ _⟩⟩
 rw [Ec.1 e] at hw
 cases hw
theorem OA {s : aK} (hs : Gy s) {a b v : List ByteArray} {i : Nat} (hi : i < s.Fields.length) (h : Im s a b v i) {d : aL} (hd : nb d) : ME s i (oZ s a b (i : Int) d.list d.at_ d.state) := by
 have hM : 1000 ≤ bZ := by decide
 have h4 := hs.n1
 have la := h.la
 have lb := h.lb
 unfold oZ
 rw [FM, EQ, EK, EK]
 obtain ⟨g1, g2⟩ := hs.k i hi
 have hk : (fld s i).Kind = 1 ∨ (fld s i).Kind = 2 ∨ (fld s i).Kind = 3 ∨ (fld s i).Kind = 4 := by omega
 rw [show mk #[32] = gi [32] from rfl, show mk #[32, 49, 50] = gi [32, 49, 50] from rfl, show mk #[49, 50, 44, 32] = gi [49, 50, 44, 32] from rfl, show (s.Fields.getD i bq).Kind = (fld s i).Kind from rfl]
 rcases hk with k | k | k | k <;> rw [k]
 ·rw [EM]
  obtain ⟨t1, d1, he, ht1, hd1⟩ := Kh hd
  rw [he]; clear he; first | rw [De] | rw [Df] | rw [Dh] | rw [Dd]
  obtain ⟨w1, rfl, hw1⟩ := ht1
  rw [DU, DU, if_pos (by have := hw1.2.2; simp only [Pq]; omega)]
  obtain ⟨t2, d2, he, ht2, hd2⟩ := Kh hd1
  rw [he]; clear he; first | rw [De] | rw [Df] | rw [Dh] | rw [Dd]
  obtain ⟨w2, rfl, hw2⟩ := ht2
  have l1 := hw1.2.2
  have l2 := hw2.2.2
  rw [G1, DU, DU, G1, if_pos (by simp only [FO, Pq]; omega), EP]
  have ej : w1 ++ [32] ++ w2 = dE [w1, w2] := by simp [dE]
  have ht : ∀ w ∈ [w1, w2], tw w := fun w hw => by
   rcases F1.1 hw with rfl | hw
   ·exact hw1
   ·rw [FQ.1 hw]; exact hw2
  have el : (w1 ++ [32] ++ w2).length ≤ 30 := by simp only [FO, Pq]; omega
  have hww : Gt (w1 ++ [32] ++ w2) = [w1, w2] := by rw [ej, As (Pp ht)]
  have hwf : Gt (rc (w1 ++ [32] ++ w2)) = [w1, w2] := by
   rw [ej, Kf fun w hw c hc => Jn ((ht w hw).2.1 c hc), As (Pp ht)]
  have hlsp : MD (w1 ++ [32] ++ w2) := by
   rw [ej]
   exact AX (p := fun c => Gw c = true ∨ c = 32) (.inr rfl) fun w hw c hc => .inl ((ht w hw).2.1 c hc)
  obtain ⟨o, d3, he, ho, hd3⟩ := Nw hd2 hlsp el
  rw [he]; clear he; first | rw [De] | rw [Df] | rw [Dh] | rw [Dd]
  obtain ⟨o, rfl, o1, o2, o3⟩ := ho
  rw [EP]
  have n1 := Lv hs.r hw1 hw2 (by rw [ej]; exact Kr ht) (by omega) hwf
  have n2 := Lv hs.r hw1 hw2 o1 o2 (o3.trans hww)
  exact JX (by omega) (h.snoc (k ▸ n1.1) (k ▸ n2.1) (k ▸ n1.2)) hd3
 ·rw [EN, EM]
  obtain ⟨y, d1, he, y0, y1, hd1⟩ := PL hd (n := 20) (by decide) (by decide)
  rw [he]; clear he; first | rw [De] | rw [Df] | rw [Dh] | rw [Dd]
  obtain ⟨m, d2, he, m0, m1, hd2⟩ := PL hd1 (n := 12) (by decide) (by decide)
  rw [he]; clear he; first | rw [De] | rw [Df] | rw [Dh] | rw [Dd]
  obtain ⟨e, d3, he, e0, e1, hd3⟩ := PL hd2 (n := 28) (by decide) (by decide)
  rw [he]; clear he; first | rw [De] | rw [Df] | rw [Dh] | rw [Dd]
  obtain ⟨f, d4, he, f0, f1, hd4⟩ := PL hd3 (n := 3) (by decide) (by decide)
  rw [he]; clear he; first | rw [De] | rw [Df] | rw [Dh] | rw [Dd]
  obtain ⟨y, rfl⟩ : ∃ n : Nat, y = n := ⟨y.toNat, by omega⟩
  obtain ⟨m, rfl⟩ : ∃ n : Nat, m = n := ⟨m.toNat, by omega⟩
  obtain ⟨e, rfl⟩ : ∃ n : Nat, e = n := ⟨e.toNat, by omega⟩
  obtain ⟨f, rfl⟩ : ∃ n : Nat, f = n := ⟨f.toNat, by omega⟩
  have ed : (⟨i64.wrap (1980 + (y : Int)), i64.wrap (1 + (m : Int)), i64.wrap (1 + (e : Int))⟩ : b8) = Hm 19 (80 + y) (1 + m) (1 + e) := by
   rw [EI (by omega) (by omega), EI (by omega) (by omega), EI (by omega) (by omega)]
   unfold Hm
   congr 1 <;> omega
  rw [ed, Lc (by omega) (by omega) (by omega) (by omega) (by omega), Dd, EP]
  obtain ⟨g, d5, he, g0, g1, hd5⟩ := PL hd4 (n := 3) (by decide) (by decide)
  rw [he]; clear he; first | rw [De] | rw [Df] | rw [Dh] | rw [Dd]
  obtain ⟨g, rfl⟩ : ∃ n : Nat, g = n := ⟨g.toNat, by omega⟩
  rw [Lc (by omega) (by omega) (by omega) (by omega) (by omega), Dd, EP]
  have n1 : ∀ f, Hv s.Rules 2 (gi (wr 19 (80 + y) (1 + m) (1 + e) f)) (gi (G4 19 (80 + y) (1 + m) (1 + e))) := fun f => ⟨Mq _ _ _ _ f, .inr (.inl ⟨rfl, Ml _ (by omega) (by omega) (by omega) (by omega) f⟩)⟩
  exact JX (by omega) (h.snoc (k ▸ n1 f) (k ▸ n1 g) (k ▸ .inr (.inl ⟨rfl, _, _, _, _, rfl, by omega, by omega, by omega, by omega⟩))) hd5
 ·rw [EN, EN, EN, EP, EP]
  refine JX (v := v ++ [gi [97, 98, 49, 50]]) (by omega) (h.snoc (k ▸ ⟨?_, .inr (.inr (.inl ⟨rfl, OO⟩))⟩) (k ▸ ⟨?_, .inr (.inr (.inl ⟨rfl, OP⟩))⟩) (k ▸ .inr (.inr (.inl ⟨rfl, rfl⟩)))) hd
  ·intro h; have := (Ec (a := [97, 98, 32, 49, 50])).1 h; cases this
  ·intro h; have := (Ec (a := [65, 45, 66, 49, 50])).1 h; cases this
 ·rw [EN, EN, EM]
  obtain ⟨t1, d1, he, ht1, hd1⟩ := Kh hd
  rw [he]; clear he; first | rw [De] | rw [Df] | rw [Dh] | rw [Dd]
  obtain ⟨w1, rfl, hw1⟩ := ht1
  have l1 := hw1.2.2
  rw [G1, G1, DU, DU, DU, if_pos (by simp only [FN, FP]; omega), EP, if_pos (by simp only [FN, FP]; omega), EP]
  obtain ⟨n1, n2⟩ := Oo hs.r hw1
  refine JX (v := v ++ [gi (dE [GC s.Rules w1, [49, 50]])]) (by omega) (h.snoc (k ▸ ⟨?_, .inr (.inr (.inr ⟨rfl, n1⟩))⟩) (k ▸ ⟨?_, .inr (.inr (.inr ⟨rfl, n2⟩))⟩) (k ▸ .inr (.inr (.inr ⟨rfl, _, rfl, hw1⟩)))) hd1
  ·intro h; have := Ec.1 h; simp at this
  ·intro h; have := Ec.1 h; simp at this
structure Hz (s : aK) (a b : List aB) (i : Nat) : Prop where
 la : a.length = i
 lb : b.length = i
 f : ∀ j, j < i → ∃ v, recD a j = ⟨1 + (j : Int), 1, v⟩ ∧ recD b j = ⟨100 + (j : Int), 3, v⟩ ∧ v.length = s.Fields.length ∧ ∀ q, q < s.Fields.length → NF s.Rules (fld s q).Kind (v.getD q mt)
theorem Hz.a {s : aK} {a b : List aB} {i : Nat} (h : Hz s a b i) (hi : i ≤ 60) : IX s a := by
 have hl := h.la
 refine ⟨by omega, fun j hj => ?_, fun j hj => ?_⟩
 ·obtain ⟨v, e1, e2, e3, e4⟩ := h.f j (by omega)
  rw [e1]
  exact ⟨by simp only; omega, by simp only; omega, e3, e4⟩
 ·obtain ⟨v, e1, _⟩ := h.f j (by omega)
  obtain ⟨v', e1', _⟩ := h.f (j + 1) (by omega)
  rw [e1, e1']
  simp only
  omega
theorem Hz.b {s : aK} {a b : List aB} {i : Nat} (h : Hz s a b i) (hi : i ≤ 60) : IX s b := by
 have hl := h.lb
 refine ⟨by omega, fun j hj => ?_, fun j hj => ?_⟩
 ·obtain ⟨v, e1, e2, e3, e4⟩ := h.f j (by omega)
  rw [e2]
  exact ⟨by simp only; omega, by simp only; omega, e3, e4⟩
 ·obtain ⟨v, _, e1, _⟩ := h.f j (by omega)
  obtain ⟨v', _, e1', _⟩ := h.f (j + 1) (by omega)
  rw [e1, e1']
  simp only
  omega
theorem MP {s : aK} (hs : Gy s) {d : aL} (hd : nb d) : ∃ a b d', uo d s 4 = some (a, b, d') ∧ (∃ n, n ≤ 4 ∧ Hz s a b n) ∧ nb d' := by
 have h4 := hs.n1
 unfold uo
 obtain ⟨v, d1, he, v0, v1, hd1⟩ := PL hd (n := 4) (by decide) (by decide)
 rw [he]; clear he; first | rw [De] | rw [Df] | rw [Dh] | rw [Dd]
 obtain ⟨n, rfl⟩ : ∃ n : Nat, v = n := ⟨v.toNat, by omega⟩
 rw [EI (n := 1 + (n : Int)) (by omega) (by omega)]
 obtain ⟨t, e, a, b, d3, rfl, hF, hd3⟩ := DG (step := fun v : (List aB) × (List aB) × Int × (List Int) × Int × Int => IH s v.1 v.2.1 v.2.2.1 v.2.2.2.1 v.2.2.2.2.1 v.2.2.2.2.2) (n + 1) (fun i t => ∃ (a b : List aB) (d : aL), t = (a, b, ((n + 1 : Nat) : Int) - i, d.list, d.at_, d.state) ∧ Hz s a b i ∧ nb d) (fun t => ∃ (a b : List aB) (d : aL), t = (a, b, d.list, d.at_, d.state) ∧ Hz s a b (n + 1) ∧ nb d) (fun i hi t ht => by
   obtain ⟨a, b, d, rfl, hR, hd⟩ := ht
   left
   have la := hR.la
   have lb := hR.lb
   obtain ⟨t, e, A, B, V, d3, rfl, hW, hd3⟩ := DG (step := fun v : (List ByteArray) × (List ByteArray) × Int × (List Int) × Int × Int => oZ s v.1 v.2.1 v.2.2.1 v.2.2.2.1 v.2.2.2.2.1 v.2.2.2.2.2) s.Fields.length (fun i t => ∃ (a b v : List ByteArray) (d : aL), t = (a, b, (i : Int), d.list, d.at_, d.state) ∧ Im s a b v i ∧ nb d) (fun t => ∃ (a b v : List ByteArray) (d : aL), t = (a, b, d.list, d.at_, d.state) ∧ Im s a b v s.Fields.length ∧ nb d) (fun i hi t ht => by
     obtain ⟨a, b, v, d, rfl, hW, hd⟩ := ht
     left
     obtain ⟨a', b', v', d', e, h1, h2⟩ := OA hs hi hW hd
     exact ⟨_, e, a', b', v', d', rfl, h1, h2⟩) (fun t ht => by
     obtain ⟨a, b, v, d, rfl, hW, hd⟩ := ht
     refine ⟨(a, b, d.list, d.at_, d.state), ?_, a, b, v, d, rfl, hW, hd⟩
     simp only [oZ]
     rw [EO]) (s := ([], [], 0, d.list, d.at_, d.state)) ⟨[], [], [], d, rfl, ⟨rfl, rfl, rfl, fun j hj => absurd hj (Px _)⟩, hd⟩
   simp only [IH]
   rw [EQ, e, Jk, la, lb, EI (n := 1 + (i : Int)) (by omega) (by omega), EI (n := 100 + (i : Int)) (by omega) (by omega), JJ hs (by omega) (by decide) hW.la hW.lv (fun q hq => (hW.f q hq).1), De, JJ hs (by omega) (by decide) hW.lb hW.lv (fun q hq => (hW.f q hq).2.1), De, EM]
   unfold kU iT
   rw [EM, EP, EP, EI (by omega) (by omega)]
   refine ⟨_, rfl, _, _, d3, by rw [show ((n + 1 : Nat) : Int) - i - 1 = ((n + 1 : Nat) : Int) - ((i + 1 : Nat) : Int) by omega], ⟨by simp [la], by simp [lb], fun j hj => ?_⟩, hd3⟩
   unfold recD
   rw [G0 _ _ (by omega), G0 _ _ (by omega), la, lb]
   split
   ·exact hR.f j (by assumption)
   ·rw [show j = i by omega]
    exact ⟨V, rfl, rfl, hW.lv, fun q hq => (hW.f q hq).2.2⟩) (fun t ht => by
   obtain ⟨a, b, d, rfl, hR, hd⟩ := ht
   simp only [IH]
   rw [EO]
   exact ⟨_, rfl, a, b, d, rfl, hR, hd⟩) (s := ([], [], 1 + (n : Int), d1.list, d1.at_, d1.state)) ⟨[], [], d1, by rw [show ((n + 1 : Nat) : Int) - ((0 : Nat) : Int) = 1 + (n : Int) by omega], ⟨rfl, rfl, fun j hj => absurd hj (Px _)⟩, hd1⟩
 rw [e, Jk]
 exact ⟨_, _, _, rfl, ⟨n + 1, by omega, hF⟩, hd3⟩
def J1 : Nat → Nat → Nat
 | 0, _ => 0
 | f + 1, x => x % 2 + J1 f (x / 2)
theorem PW (a b c d : Nat) (hb : b < 256) (hd : d < 256) : (256 * a + b) &&& (256 * c + d) = 256 * (a &&& c) + (b &&& d) := by
 apply Nat.eq_of_testBit_eq
 intro j
 have hb' : b < 2 ^ 8 := hb
 have hd' : d < 2 ^ 8 := hd
 have hbd : b &&& d < 2 ^ 8 := Nat.and_lt_two_pow _ hd'
 rw [show (256 : Nat) = 2 ^ 8 from rfl, Nat.testBit_and, Nat.testBit_two_pow_mul_add _ hb', Nat.testBit_two_pow_mul_add _ hd', Nat.testBit_two_pow_mul_add _ hbd]
 split <;> simp [Nat.testBit_and]
def rep (m : Nat) : Nat → Nat
 | 0 => 0
 | k + 1 => 256 * rep m k + m
theorem P0 (m k : Nat) : rep m (k + 1) = 256 * rep m k + m := rfl
def sA (k x : Nat) : Nat := (x / 2 &&& rep 85 k) + (x &&& rep 85 k)
def sB (k x : Nat) : Nat := (x / 4 &&& rep 51 k) + (x &&& rep 51 k)
def sC (k x : Nat) : Nat := (x / 16 + x) &&& rep 15 k
theorem Qy : ∀ l, l < 256 → ∀ c, c < 2 → (128 * c + l / 2) &&& 85 = (l / 2) &&& 85 := by decide +kernel
theorem Qx : ∀ l, l < 256 → ((l / 2) &&& 85) + (l &&& 85) < 171 := by decide +kernel
theorem Qz : ∀ l, l < 171 → ∀ c, c < 4 → (64 * c + l / 4) &&& 51 = (l / 4) &&& 51 := by decide +kernel
theorem Qp (k h l : Nat) (hl : l < 256) : sA (k + 1) (256 * h + l) = 256 * sA k h + (((l / 2) &&& 85) + (l &&& 85)) := by
 unfold sA
 rw [P0]
 rw [show (256 * h + l) / 2 = 256 * (h / 2) + (128 * (h % 2) + l / 2) by omega, PW _ _ _ _ (by omega) (by omega), PW _ _ _ _ hl (by omega), Qy l hl _ (by omega)]
 omega
theorem Qq (k h l : Nat) (hl : l < 171) : sB (k + 1) (256 * h + l) = 256 * sB k h + (((l / 4) &&& 51) + (l &&& 51)) := by
 unfold sB
 rw [P0]
 rw [show (256 * h + l) / 4 = 256 * (h / 4) + (64 * (h % 4) + l / 4) by omega, PW _ _ _ _ (by omega) (by omega), PW _ _ _ _ (by omega) (by omega), Qz l hl _ (by omega)]
 omega
def PY : Nat → Nat → Prop
 | 0, x => x = 0
 | k + 1, x => x % 16 ≤ 4 ∧ x / 16 % 16 ≤ 4 ∧ PY k (x / 256)
theorem QA : ∀ c, c < 5 → ∀ u, u < 5 → ∀ v, v < 5 → (16 * c + (16 * u + v) / 16 + (16 * u + v)) &&& 15 = u + v := by decide +kernel
theorem Qr {k x : Nat} (h : PY k x) : x % 16 ≤ 4 := by
 cases k with
 | zero => have : x = 0 := h; omega
 | succ k => exact h.1
theorem Qs (k h l : Nat) (hl : l < 256) (h0 : l % 16 ≤ 4) (h1 : l / 16 ≤ 4) (hn : PY k h) : sC (k + 1) (256 * h + l) = 256 * sC k h + (l / 16 + l % 16) := by
 unfold sC
 rw [P0]
 have hc := Qr hn
 have e := QA (h % 16) (by omega) (l / 16) (by omega) (l % 16) (by omega)
 rw [show 16 * (l / 16) + l % 16 = l by omega] at e
 rw [show (256 * h + l) / 16 + (256 * h + l) = 256 * (h / 16 + h) + (16 * (h % 16) + l / 16 + l) by omega, PW _ _ _ _ (by omega) (by omega), e]
def PP : Nat → Nat → Nat
 | 0, _ => 0
 | k + 1, x => 256 * PP k (x / 256) + J1 8 (x % 256)
theorem QB : ∀ l, l < 256 → ((((l / 2) &&& 85) + (l &&& 85)) / 4 &&& 51) + ((((l / 2) &&& 85) + (l &&& 85)) &&& 51) < 256 ∧ (((((l / 2) &&& 85) + (l &&& 85)) / 4 &&& 51) + ((((l / 2) &&& 85) + (l &&& 85)) &&& 51)) % 16 ≤ 4 ∧
    (((((l / 2) &&& 85) + (l &&& 85)) / 4 &&& 51) + ((((l / 2) &&& 85) + (l &&& 85)) &&& 51)) / 16 ≤ 4 ∧
    (((((l / 2) &&& 85) + (l &&& 85)) / 4 &&& 51) + ((((l / 2) &&& 85) + (l &&& 85)) &&& 51)) / 16 + (((((l / 2) &&& 85) + (l &&& 85)) / 4 &&& 51) + ((((l / 2) &&& 85) + (l &&& 85)) &&& 51)) % 16 = J1 8 l := by decide +kernel
theorem QC (k : Nat) : ∀ x, x < 256 ^ k → PY k (sB k (sA k x)) ∧ sC k (sB k (sA k x)) = PP k x := by
  induction k with
  | zero => intro x hx; have : x = 0 := by simpa using hx
            subst this; exact ⟨rfl, rfl⟩
  | succ k ih =>
    intro x hx
    have hx' : x / 256 < 256 ^ k := by rw [Nat.pow_succ] at hx; omega
    obtain ⟨i1, i2⟩ := ih _ hx'
    have hl : x % 256 < 256 := Nat.mod_lt _ (by omega)
    obtain ⟨b1, b2, b3, b4⟩ := QB _ hl
    have hd : x = 256 * (x / 256) + x % 256 := by omega
    have e1 : sB (k + 1) (sA (k + 1) x) = 256 * sB k (sA k (x / 256)) + ((((x % 256 / 2) &&& 85) + (x % 256 &&& 85)) / 4 &&& 51) + ((((x % 256 / 2) &&& 85) + (x % 256 &&& 85)) &&& 51) := by
      conv => lhs; rw [hd]
      rw [Qp _ _ _ hl, Qq _ _ _ (Qx _ hl)]
      omega
    rw [e1]
    generalize ((((x % 256 / 2) &&& 85) + (x % 256 &&& 85)) / 4 &&& 51) = p at *
    generalize ((((x % 256 / 2) &&& 85) + (x % 256 &&& 85)) &&& 51) = q at *
    rw [Nat.add_assoc]
    refine ⟨⟨by omega, by omega, ?_⟩, ?_⟩
    · rw [show (256 * sB k (sA k (x / 256)) + (p + q)) / 256 = sB k (sA k (x / 256)) by omega]; exact i1
    · rw [Qs _ _ _ b1 b2 b3 i1, i2, b4]; rfl
theorem Qe (f : Nat) : ∀ n x, J1 (f + n) x = J1 f x + J1 n (x / 2 ^ f) := by
 induction f with
 | zero => intro n x; simp [J1]
 | succ f ih =>
  intro n x
  rw [show f + 1 + n = (f + n) + 1 by omega, J1, J1, ih, Nat.div_div_eq_div_mul, Nat.pow_succ, Nat.mul_comm 2]
  omega
theorem Qj (f : Nat) : ∀ x, J1 f (x % 2 ^ f) = J1 f x := by
 induction f with
 | zero => intro x; rfl
 | succ f ih =>
  intro x
  have h1 : x % 2 ^ (f + 1) % 2 = x % 2 := Nat.mod_mod_of_dvd _ (by rw [Nat.pow_succ]; exact Nat.dvd_mul_left ..)
  have h2 : x % 2 ^ (f + 1) / 2 = x / 2 % 2 ^ f := by rw [Nat.pow_succ, Nat.mul_comm]; exact Nat.mod_mul_right_div_self ..
  rw [J1, J1, h1, h2, ih]
theorem P3 (f : Nat) : ∀ x, J1 f x ≤ f := by
 induction f with
 | zero => intro x; simp [J1]
 | succ f ih => intro x; have := ih (x / 2); rw [J1]; omega
def PR : Nat → Nat → Nat
 | 0, _ => 0
 | k + 1, x => x % 256 + PR k (x / 256)
theorem Qb (k : Nat) : ∀ x, PR k (PP k x) = J1 (8 * k) x := by
 induction k with
 | zero => intro x; rfl
 | succ k ih =>
  intro x
  have h := P3 8 (x % 256)
  have hm := Qj 8 x
  rw [show (2 : Nat) ^ 8 = 256 from rfl] at hm
  rw [PP, PR, show (256 * PP k (x / 256) + J1 8 (x % 256)) / 256 = PP k (x / 256) by omega, ih, show 8 * (k + 1) = 8 + 8 * k by omega, Qe 8, show (2 : Nat) ^ 8 = 256 from rfl, ← hm]
  omega
def P6 : Nat → Nat → Prop
 | 0, y => y = 0
 | k + 1, y => ∃ c z, c ≤ 8 ∧ P6 k z ∧ y = c + 256 * z
theorem Qc (k : Nat) : ∀ x, P6 k (PP k x) := by
 induction k with
 | zero => intro x; rfl
 | succ k ih => intro x; exact ⟨_, _, P3 8 (x % 256), ih (x / 256), by rw [PP]; omega⟩
theorem dv (a b m : Nat) (h : a < m) : (a + m * b) / m = b := by
 rw [Nat.add_mul_div_left _ _ (by omega), Nat.div_eq_of_lt h, Nat.zero_add]
theorem PQ (k c z : Nat) (h : c ≤ 8) : PR (k + 1) (c + 256 * z) = c + PR k z := by
 rw [PR, dv c z 256 (by omega), Nat.add_mul_mod_self_left, Nat.mod_eq_of_lt (by omega)]
set_option maxHeartbeats 2000000 in
theorem Qf (y : Nat) (h : P6 8 y) :
  ∃ z u v, y + y / 256 = z ∧ z + z / 65536 = u ∧ u + u / 4294967296 = v ∧ v % 128 = PR 8 y ∧ z < 18446744073709551616 ∧ u < 18446744073709551616 ∧ v < 18446744073709551616 := by
 obtain ⟨c0, y1, l0, ⟨c1, y2, l1, ⟨c2, y3, l2, ⟨c3, y4, l3, ⟨c4, y5, l4, ⟨c5, y6, l5, ⟨c6, y7, l6, ⟨c7, y8, l7, h8, rfl⟩, rfl⟩, rfl⟩, rfl⟩, rfl⟩, rfl⟩, rfl⟩, rfl⟩ := h
 have h8 : y8 = 0 := h8
 subst h8
 rw [PQ _ _ _ l0, PQ _ _ _ l1, PQ _ _ _ l2, PQ _ _ _ l3, PQ _ _ _ l4, PQ _ _ _ l5, PQ _ _ _ l6, PQ _ _ _ l7, dv c0 _ 256 (by omega)]
 have ez : c0 + 256 * (c1 + 256 * (c2 + 256 * (c3 + 256 * (c4 + 256 * (c5 + 256 * (c6 + 256 * (c7 + 256 * 0))))))) + (c1 + 256 * (c2 + 256 * (c3 + 256 * (c4 + 256 * (c5 + 256 * (c6 + 256 * (c7 + 256 * 0))))))) =
   ((c0 + c1) + 256 * (c1 + c2)) + 65536 * (((c2 + c3) + 256 * (c3 + c4)) + 65536 * (((c4 + c5) + 256 * (c5 + c6)) + 65536 * ((c6 + c7) + 256 * c7))) := by omega
 rw [ez]
 have eu : ((c0 + c1) + 256 * (c1 + c2)) + 65536 * (((c2 + c3) + 256 * (c3 + c4)) + 65536 * (((c4 + c5) + 256 * (c5 + c6)) + 65536 * ((c6 + c7) + 256 * c7))) + (((c2 + c3) + 256 * (c3 + c4)) + 65536 * (((c4 + c5) + 256 * (c5 + c6)) + 65536 * ((c6 + c7) + 256 * c7))) =
   ((c0 + c1 + c2 + c3) + 256 * (c1 + c2 + c3 + c4) + 65536 * (c2 + c3 + c4 + c5) + 16777216 * (c3 + c4 + c5 + c6)) + 4294967296 * ((c4 + c5 + c6 + c7) + 256 * (c5 + c6 + c7) + 65536 * (c6 + c7) + 16777216 * c7) := by omega
 have ev : ((c0 + c1 + c2 + c3) + 256 * (c1 + c2 + c3 + c4) + 65536 * (c2 + c3 + c4 + c5) + 16777216 * (c3 + c4 + c5 + c6)) + 4294967296 * ((c4 + c5 + c6 + c7) + 256 * (c5 + c6 + c7) + 65536 * (c6 + c7) + 16777216 * c7) + ((c4 + c5 + c6 + c7) + 256 * (c5 + c6 + c7) + 65536 * (c6 + c7) + 16777216 * c7) =
   (c0 + c1 + c2 + c3 + c4 + c5 + c6 + c7) + 128 * (2 * (c1 + c2 + c3 + c4 + c5 + c6 + c7) + 512 * (c2 + c3 + c4 + c5 + c6 + c7) + 131072 * (c3 + c4 + c5 + c6 + c7) + 33554432 * ((c4 + c5 + c6 + c7) + 256 * (c5 + c6 + c7) + 65536 * (c6 + c7) + 16777216 * c7)) := by omega
 refine ⟨_, _, _, rfl, rfl, rfl, ?_, ?_, ?_, ?_⟩
 ·rw [dv ((c0 + c1) + 256 * (c1 + c2)) _ 65536 (by omega), eu, dv ((c0 + c1 + c2 + c3) + 256 * (c1 + c2 + c3 + c4) + 65536 * (c2 + c3 + c4 + c5) + 16777216 * (c3 + c4 + c5 + c6)) _ 4294967296 (by omega), ev, Nat.add_mul_mod_self_left, Nat.mod_eq_of_lt (by omega)]
  have t0 : PR 0 0 = 0 := rfl
  rw [t0]
  omega
 ·omega
 ·rw [dv ((c0 + c1) + 256 * (c1 + c2)) _ 65536 (by omega), eu]; omega
 ·rw [dv ((c0 + c1) + 256 * (c1 + c2)) _ 65536 (by omega), eu, dv ((c0 + c1 + c2 + c3) + 256 * (c1 + c2 + c3 + c4) + 65536 * (c2 + c3 + c4 + c5) + 16777216 * (c3 + c4 + c5 + c6)) _ 4294967296 (by omega), ev]; omega
end Go.Proofs.YtfmhbcfklokmaaaGreatDoor
namespace Go.Proofs.YtfmhbcfklokmaaaGreatDoor
namespace Vm
theorem OU {x y : Nat} (hx : x < 18446744073709551616) (hy : y < 18446744073709551616) : dG .u64 x y = ((x &&& y : Nat) : Int) := by
 have h : x &&& y < 18446744073709551616 := Nat.lt_of_le_of_lt Nat.and_le_left hx
 show IntKind.u64.wrap ((BitVec.ofInt 64 (x : Int) &&& BitVec.ofInt 64 (y : Int)).toNat : Int) = _
 simp only [BitVec.ofInt_natCast, BitVec.toNat_and, BitVec.toNat_ofNat]
 rw [show (2 : Nat) ^ 64 = 18446744073709551616 from rfl, Nat.mod_eq_of_lt hx, Nat.mod_eq_of_lt hy]
 exact EJ (by omega) (by omega)
theorem O5 {x y : Nat} (hx : x < 18446744073709551616) (hy : y < 18446744073709551616) : GA .u64 x y = ((x ||| y : Nat) : Int) := by
 have h : x ||| y < 2 ^ 64 := Nat.or_lt_two_pow hx hy
 show IntKind.u64.wrap ((BitVec.ofInt 64 (x : Int) ||| BitVec.ofInt 64 (y : Int)).toNat : Int) = _
 simp only [BitVec.ofInt_natCast, BitVec.toNat_or, BitVec.toNat_ofNat]
 rw [show (2 : Nat) ^ 64 = 18446744073709551616 from rfl, Nat.mod_eq_of_lt hx, Nat.mod_eq_of_lt hy]
 exact EJ (by omega) (by omega)
theorem PU (x : Nat) {s : Nat} (hs : s ≤ 64) : bJ .u64 x s = ((x / 2 ^ s : Nat) : Int) := by
 show (x : Int).fdiv (2 ^ min (s : Int).toNat 64) = _
 simp only [FM, Nat.min_eq_left hs]
 rw [show ((2 : Int) ^ s) = ((2 ^ s : Nat) : Int) by simp, Int.fdiv_eq_ediv_of_nonneg _ (Int.natCast_nonneg _)]
 rfl
theorem OV (x : Nat) {s : Nat} (hs : s ≤ 64) : dl .u64 x s = ((x * 2 ^ s % 18446744073709551616 : Nat) : Int) := by
 show IntKind.u64.wrap ((x : Int) * 2 ^ min (s : Int).toNat 64) = _
 simp only [FM, Nat.min_eq_left hs]
 rw [show ((2 : Int) ^ s) = ((2 ^ s : Nat) : Int) by simp, sb]
 omega
theorem PV (x y : Nat) : IntKind.u64.wrap ((x : Int) + (y : Int)) = (((x + y) % 18446744073709551616 : Nat) : Int) := by
 rw [sb]; omega
end Vm
end Go.Proofs.YtfmhbcfklokmaaaGreatDoor
namespace Go.Proofs.YtfmhbcfklokmaaaGreatDoor
open Vm
theorem Qt (v : Nat) (hv : v < 18446744073709551616) : dG .i64 (IntKind.i64.wrap (v : Int)) 127 = ((v % 128 : Nat) : Int) := by
 have h1 : BitVec.ofInt 64 (IntKind.i64.wrap (v : Int)) = BitVec.ofNat 64 v := by
  apply BitVec.eq_of_toNat_eq
  rw [BitVec.toNat_ofInt, BitVec.toNat_ofNat, D1]
  omega
 show IntKind.i64.wrap ((BitVec.ofInt 64 (IntKind.i64.wrap (v : Int)) &&& BitVec.ofInt 64 (127 : Int)).toNat : Int) = _
 rw [h1, show BitVec.ofInt 64 (127 : Int) = BitVec.ofNat 64 127 from rfl]
 simp only [BitVec.toNat_and, BitVec.toNat_ofNat]
 rw [show (2 : Nat) ^ 64 = 18446744073709551616 from rfl, Nat.mod_eq_of_lt hv, show (127 : Nat) % 18446744073709551616 = 2 ^ 7 - 1 from rfl, Nat.and_two_pow_sub_one_eq_mod]
 exact EI (by omega) (by omega)
theorem Qu {x : Nat} (hx : x < 18446744073709551616) : pd x = some ((J1 64 x : Nat) : Int) := by
 obtain ⟨hn, hs⟩ := QC 8 x (by simpa using hx)
 have r85 : rep 85 8 = 6148914691236517205 := rfl
 have r51 : rep 51 8 = 3689348814741910323 := rfl
 have r15 : rep 15 8 = 1085102592571150095 := rfl
 have hA : sA 8 x ≤ 12297829382473034410 := by
  have h1 : x / 2 &&& 6148914691236517205 ≤ 6148914691236517205 := Nat.and_le_right
  have h2 : x &&& 6148914691236517205 ≤ 6148914691236517205 := Nat.and_le_right
  rw [sA, r85]; omega
 have hB : sB 8 (sA 8 x) ≤ 7378697629483820646 := by
  have h1 : sA 8 x / 4 &&& 3689348814741910323 ≤ 3689348814741910323 := Nat.and_le_right
  have h2 : sA 8 x &&& 3689348814741910323 ≤ 3689348814741910323 := Nat.and_le_right
  rw [sB, r51]; omega
 have e1 : IntKind.u64.wrap (dG .u64 (bJ .u64 (x : Int) 1) 6148914691236517205 + dG .u64 (x : Int) 6148914691236517205) = ((sA 8 x : Nat) : Int) := by
  have g := PU x (s := 1) (by decide)
  have g1 := OU (x := x / 2) (y := 6148914691236517205) (by omega) (by decide)
  have g2 := OU (x := x) (y := 6148914691236517205) hx (by decide)
  rw [show ((1 : Nat) : Int) = 1 from rfl] at g
  rw [show ((6148914691236517205 : Nat) : Int) = 6148914691236517205 from rfl] at g1 g2
  rw [g, show x / 2 ^ 1 = x / 2 from rfl, g1, g2, PV, ← r85]
  rw [Nat.mod_eq_of_lt (by rw [sA] at hA; omega)]; rfl
 generalize sA 8 x = A at *
 have e2 : IntKind.u64.wrap (dG .u64 (bJ .u64 (A : Int) 2) 3689348814741910323 + dG .u64 (A : Int) 3689348814741910323) = ((sB 8 A : Nat) : Int) := by
  have g := PU A (s := 2) (by decide)
  have g1 := OU (x := A / 4) (y := 3689348814741910323) (by omega) (by decide)
  have g2 := OU (x := A) (y := 3689348814741910323) (by omega) (by decide)
  rw [show ((2 : Nat) : Int) = 2 from rfl] at g
  rw [show ((3689348814741910323 : Nat) : Int) = 3689348814741910323 from rfl] at g1 g2
  rw [g, show A / 2 ^ 2 = A / 4 from rfl, g1, g2, PV, ← r51]
  rw [Nat.mod_eq_of_lt (by rw [sB] at hB; omega)]; rfl
 generalize sB 8 A = B at *
 have e3 : dG .u64 (IntKind.u64.wrap (bJ .u64 (B : Int) 4 + (B : Int))) 1085102592571150095 = ((sC 8 B : Nat) : Int) := by
  have g := PU B (s := 4) (by decide)
  have g1 := OU (x := B / 16 + B) (y := 1085102592571150095) (by omega) (by decide)
  rw [show ((4 : Nat) : Int) = 4 from rfl] at g
  rw [show ((1085102592571150095 : Nat) : Int) = 1085102592571150095 from rfl] at g1
  rw [g, show B / 2 ^ 4 = B / 16 from rfl, PV, Nat.mod_eq_of_lt (by omega), g1, ← r15]; rfl
 rw [hs] at e3
 have hsm := Qc 8 x
 obtain ⟨z, u, v, f1, f2, f3, f4, l1, l2, l3⟩ := Qf _ hsm
 rw [Qb] at f4
 generalize PP 8 x = C at *
 have e4 : IntKind.u64.wrap ((C : Int) + bJ .u64 (C : Int) 8) = ((z : Nat) : Int) := by
  have g := PU C (s := 8) (by decide)
  rw [show ((8 : Nat) : Int) = 8 from rfl] at g
  rw [g, PV, show C / 2 ^ 8 = C / 256 from rfl, f1, Nat.mod_eq_of_lt l1]
 have e5 : IntKind.u64.wrap ((z : Int) + bJ .u64 (z : Int) 16) = ((u : Nat) : Int) := by
  have g := PU z (s := 16) (by decide)
  rw [show ((16 : Nat) : Int) = 16 from rfl] at g
  rw [g, PV, show z / 2 ^ 16 = z / 65536 from rfl, f2, Nat.mod_eq_of_lt l2]
 have e6 : IntKind.u64.wrap ((u : Int) + bJ .u64 (u : Int) 32) = ((v : Nat) : Int) := by
  have g := PU u (s := 32) (by decide)
  rw [show ((32 : Nat) : Int) = 32 from rfl] at g
  rw [g, PV, show u / 2 ^ 32 = u / 4294967296 from rfl, f3, Nat.mod_eq_of_lt l3]
 unfold pd
 simp only [Option.bind_some, e1, e2, e3, e4, e5, e6]
 rw [Qt v l3, f4]
def GV (l : List Int) : Prop := ∀ w ∈ l, 0 ≤ w ∧ w < 18446744073709551616
@[irreducible] def JY (x : Nat) : Nat := J1 64 x
theorem P7 (x : Nat) : JY x ≤ 64 := by unfold JY; exact P3 64 x
def GO : List Int → Nat
 | [] => 0
 | w :: l => JY w.toNat + GO l
theorem NA {l : List Int} {i : Nat} (h : i < l.length) : GO (l.take (i + 1)) = GO (l.take i) + JY (l.getD i 0).toNat := by
 induction l generalizing i with
 | nil => simp at h
 | cons w l ih =>
  cases i with
  | zero => simp [GO]
  | succ i =>
   have := ih (i := i) (by simpa using h)
   simp only [List.take_succ_cons, GO, List.getD_cons_succ]
   omega
theorem Qk {w : Int} (h : 0 ≤ w ∧ w < 18446744073709551616) : pd w = some ((JY w.toNat : Nat) : Int) := by
 obtain ⟨x, rfl⟩ := Int.eq_ofNat_of_zero_le h.1
 rw [Qu (by omega)]
 simp only [FM]
 unfold JY
 rfl
theorem GV.get {l : List Int} (h : GV l) {i : Nat} (hi : i < l.length) : 0 ≤ l.getD i 0 ∧ l.getD i 0 < 18446744073709551616 := by
 rw [FI, FJ hi]
 exact h _ (Gh hi)
theorem PX (l : List Int) : GO l ≤ 64 * l.length := by
 induction l with
 | nil => simp [GO]
 | cons w l ih =>
  have := P7 w.toNat
  simp only [GO, FN] at ih ⊢
  omega
theorem Qd (l : List Int) (i : Nat) : GO (l.take i) ≤ 64 * i := Ga (PX _) (by simp; omega)
theorem Qg {p : aP} (hw : GV p.Words) (hl : p.Words.length < 1000000) : loop (fun v : Int × Int => pF p v.1 v.2) (0, 0) = some ((GO p.Words : Nat) : Int) := by
 obtain ⟨t, h1, h2⟩ := DV (step := fun v : Int × Int => pF p v.1 v.2) (fun v => ∃ i : Nat, v.2 = i ∧ i ≤ p.Words.length ∧ v.1 = ((GO (p.Words.take i) : Nat) : Int)) (fun v => p.Words.length - v.2.toNat) (fun t => t = ((GO p.Words : Nat) : Int)) (by
  rintro ⟨a, b⟩ ⟨i, rfl, hi, rfl⟩
  simp only [pF]
  by_cases h : (i : Int) < ((p.Words.length : Nat) : Int)
  ·have hi' : i < p.Words.length := by omega
   have hb := Qd p.Words i
   have hp := P7 (p.Words.getD i 0).toNat
   refine .inl ⟨_, by rw [if_pos (by simpa using h), EK, if_pos h, FM, Qk (hw.get hi')]; rfl, ⟨i + 1, ?_, by omega, ?_⟩, ?_⟩
   ·show IntKind.i64.wrap ((i : Int) + 1) = _
    rw [EI (by omega) (by omega)]; rfl
   ·show IntKind.i64.wrap (((GO (p.Words.take i) : Nat) : Int) + ((JY (p.Words.getD i 0).toNat : Nat) : Int)) = _
    rw [EI (by omega) (by omega), NA hi']; simp
   ·show p.Words.length - (IntKind.i64.wrap ((i : Int) + 1)).toNat < p.Words.length - (i : Int).toNat
    rw [EI (by omega) (by omega)]; omega
  ·have : i = p.Words.length := by omega
   subst this
   exact .inr ⟨_, by rw [EO], by rw [PF]⟩) (0, 0) ⟨0, rfl, by omega, by simp [GO]⟩
 rw [h1, h2]
def KR (L : Int) : Prop := 64 ≤ L ∧ L ≤ 512 ∧ L % 64 = 0
theorem Qh {L : Int} (h : KR L) : PO L = some true := by
 obtain ⟨h1, h2, h3⟩ := h
 unfold PO iY
 rw [if_pos (by simpa using h1), if_pos (by simpa using h2), D4 (by omega), h3]
 rfl
theorem PZ {p : aP} (h : KR p.Length) (hl : (p.Words.length : Int) = p.Length / 64) : js p = some true := by
 unfold js lj
 rw [Qh h, Option.bind_some, if_pos rfl, hl, D5 (by have := h.1; omega), EI (by have := h.1; omega) (by have := h.2.1; omega)]
 simp
theorem Qi {p : aP} (h : KR p.Length) (hl : (p.Words.length : Int) = p.Length / 64) (hw : GV p.Words) : jt p = some ((GO p.Words : Nat) : Int) := by
 unfold jt
 rw [PZ h hl, Option.bind_some, EO, Qg hw (by have := h.2.1; omega)]
 rfl
theorem Ql {α : Type} (d : α) (a : List α) (i m : Nat) (h : a.length = i) (y : α) : (a ++ List.replicate (m + 1) d).set i y = (a ++ [y]) ++ List.replicate m d := by
 subst h
 simp [List.replicate_succ]
theorem Qm {f : Int → Int → Int} {a b : List Int} {i : Nat} (h : i < a.length) (h' : i < b.length) : List.zipWith f (a.take (i + 1)) (b.take (i + 1)) = List.zipWith f (a.take i) (b.take i) ++ [f (a.getD i 0) (b.getD i 0)] := by
 induction a generalizing b i with
 | nil => simp at h
 | cons x a ih =>
  cases b with
  | nil => simp at h'
  | cons z b =>
   cases i with
   | zero => simp
   | succ i => simpa using ih (i := i) (by simpa using h) (by simpa using h')
theorem Qn {p q : aP} (hl : p.Words.length = q.Words.length) (hs : p.Words.length < 1000000) :
  loop (fun v : Int × (List Int) => nW p q v.1 v.2) (0, List.replicate p.Words.length 0) = some (List.zipWith (dG .u64) p.Words q.Words) := by
 obtain ⟨t, h1, h2⟩ := DV (step := fun v : Int × (List Int) => nW p q v.1 v.2) (fun v => ∃ i : Nat, v.1 = i ∧ i ≤ p.Words.length ∧ v.2 = List.zipWith (dG .u64) (p.Words.take i) (q.Words.take i) ++ List.replicate (p.Words.length - i) 0)
   (fun v => p.Words.length - v.1.toNat) (fun t => t = List.zipWith (dG .u64) p.Words q.Words) (by
  rintro ⟨a, b⟩ ⟨i, rfl, hi, rfl⟩
  simp only [nW, qn]
  by_cases h : (i : Int) < ((p.Words.length : Nat) : Int)
  ·have hi' : i < p.Words.length := by omega
   refine .inl ⟨_, by rw [if_pos (by simpa using h), EK, if_pos h, EK, Option.bind_some, if_pos (by simp; omega)], ⟨i + 1, ?_, by omega, ?_⟩, ?_⟩
   ·show IntKind.i64.wrap ((i : Int) + 1) = _
    rw [EI (by omega) (by omega)]; rfl
   ·show List.set _ _ _ = _
    rw [FM, Gg, show p.Words.length - i = (p.Words.length - (i + 1)) + 1 by omega, Ql 0 _ i _ (by simp; omega), Qm hi' (by omega)]
   ·show p.Words.length - (IntKind.i64.wrap ((i : Int) + 1)).toNat < p.Words.length - (i : Int).toNat
    rw [EI (by omega) (by omega)]; omega
  ·have : i = p.Words.length := by omega
   subst this
   refine .inr ⟨_, by rw [EO], ?_⟩
   rw [Nat.sub_self, List.replicate_zero, PE, PF, hl, PF]) (0, List.replicate p.Words.length 0) ⟨0, rfl, by omega, by simp⟩
 rw [h1, h2]
theorem Qv {p q : aP} (h : KR p.Length) (hp : (p.Words.length : Int) = p.Length / 64) (hq : (q.Words.length : Int) = p.Length / 64) (hl : q.Length = p.Length) :
  qY p q = some (⟨p.Length, List.zipWith (dG .u64) p.Words q.Words⟩, 0) := by
 have h2 := h.2.1
 unfold qY nZ iw
 rw [PZ h hp, PZ (p := q) (by rw [hl]; exact h) (by rw [hl]; exact hq)]
 simp only [Option.bind_some, Bool.not_true, Bool.false_eq_true, if_false, hl, bne_self_eq_false]
 rw [EK, EK, FM, Qn (by omega) (by omega)]
 rfl
theorem GV.and {a b : List Int} : GV (List.zipWith (dG .u64) a b) := by
 intro w hw
 obtain ⟨i, hi, rfl⟩ := PD.1 hw
 rw [List.getElem_zipWith]
 unfold dG
 exact ⟨D2 _, D3 _⟩
instance (L : Int) : Decidable (KR L) := by unfold KR; infer_instance
def VB (p : aP) : Prop := KR p.Length ∧ (p.Words.length : Int) = p.Length / 64
instance (p : aP) : Decidable (VB p) := by unfold VB; infer_instance
theorem Qo (L : Int) : PO L = some (decide (KR L)) := by
 grind [PO, iY, KR, D4]
theorem P8 (p : aP) : js p = some (decide (VB p)) := by
 grind [js, lj, Qo, VB, KR, D5, EI]
theorem VB.len {p : aP} (h : VB p) : p.Words.length ≤ 8 ∧ 1 ≤ p.Words.length := by
 obtain ⟨⟨h1, h2, h3⟩, h4⟩ := h; omega
theorem P1 {p : aP} (hw : GV p.Words) : jt p = some (if VB p then ((GO p.Words : Nat) : Int) else 0) := by
 by_cases h : VB p
 ·rw [Qi h.1 h.2 hw, if_pos h]
 ·grind [jt, P8]
def EB : aP := ⟨0, []⟩
theorem Qa (p q : aP) : qY p q = some (if VB p ∧ VB q ∧ p.Length = q.Length then (⟨p.Length, List.zipWith (dG .u64) p.Words q.Words⟩, 0) else (EB, 8)) := by
 by_cases h : VB p ∧ VB q ∧ p.Length = q.Length
 ·rw [if_pos h]
  obtain ⟨h1, h2, h3⟩ := h
  exact Qv h1.1 h1.2 (by rw [h3]; exact h2.2) h3.symm
 ·grind [qY, nZ, iw, P8, aM, EB]
theorem QE {p q : aP} {f : Int → Int → Int} (hp : VB p) (hq : VB q) (h : p.Length = q.Length) : VB ⟨p.Length, List.zipWith f p.Words q.Words⟩ := by
 refine ⟨hp.1, ?_⟩
 have := hp.2; have := hq.2
 simp only [List.length_zipWith]
 omega
def MA (p q : aP) : Int := if VB p ∧ VB q ∧ p.Length = q.Length then (if GO p.Words + GO q.Words = 0 then 0 else (((4000 * GO (List.zipWith (dG .u64) p.Words q.Words) + (GO p.Words + GO q.Words)) / (2 * (GO p.Words + GO q.Words)) : Nat) : Int)) else -1
theorem P9 {p q : aP} (hp : GV p.Words) (hq : GV q.Words) : pG p q = some (MA p q) := by
 by_cases h : VB p ∧ VB q ∧ p.Length = q.Length
 ·obtain ⟨h1, h2, h3⟩ := h
  have l1 := h1.len
  have l2 := h2.len
  have b1 := PX p.Words
  have b2 := PX q.Words
  have b3 := PX (List.zipWith (dG .u64) p.Words q.Words)
  have hc := P1 (p := ⟨p.Length, List.zipWith (dG .u64) p.Words q.Words⟩) GV.and
  rw [if_pos (QE h1 h2 h3)] at hc
  simp only [List.length_zipWith] at b3
  unfold pG MA
  rw [Qa, if_pos ⟨h1, h2, h3⟩, if_pos ⟨h1, h2, h3⟩]
  simp only [aM, Option.bind_some]
  rw [EO, P1 hp, P1 hq, if_pos h1, if_pos h2, hc]
  simp only [Option.bind_some]
  generalize GO p.Words = a at *
  generalize GO q.Words = b at *
  generalize GO (List.zipWith (dG .u64) p.Words q.Words) = c at *
  have b4 : c ≤ 512 := by omega
  have d0 : 0 ≤ (4000 * (c : Int) + ((a : Int) + b)) / (2 * ((a : Int) + b)) := Int.ediv_nonneg (by omega) (by omega)
  have d1 := Int.ediv_le_self (b := 2 * ((a : Int) + b)) (show 0 ≤ 4000 * (c : Int) + ((a : Int) + b) by omega)
  simp (disch := omega) only [EI, D5]
  by_cases h0 : a + b = 0
  ·rw [if_pos (by simp; omega), if_pos h0]
  ·rw [if_neg (by simp; omega), if_neg h0, EK]
   simp
 ·unfold pG MA
  rw [Qa, if_neg h, if_neg h]
  simp [aM]
open _root_.ByteArray (mk)
open IntKind (i64 u64 u32 u8)
theorem IR (x : Int) : (∃ v, eW x 13 = some v) ∧ (∃ v, eW x 16 = some v) ∧ (∃ v, eW x 17 = some v) ∧ (∃ v, eW x 21 = some v) ∧ ∃ v, eW x 32 = some v := by
 unfold eW
 refine ⟨?_, ?_, ?_, ?_, ?_⟩ <;> (rw [EM, EM]; exact ⟨_, rfl⟩)
theorem K6 (s : cN) {n : Nat} (hn : n ≤ 10) : ∃ t, kA s (n : Int) = some t := by
 unfold kA
 obtain ⟨⟨a, b, c, d⟩, e, _⟩ := DG (step := fun v : Int × Int × Int × Int × Int => od (n : Int) v.1 v.2.1 v.2.2.1 v.2.2.2.1 v.2.2.2.2) n (fun i s => s.1 = i) (fun _ => True) (fun i hi s hs => by
   obtain ⟨j, a, b, c, d⟩ := s
   obtain rfl : j = i := hs
   left
   simp only [od]
   rw [EQ]
   obtain ⟨v1, e1⟩ := (IR b).1
   obtain ⟨v2, e2⟩ := (IR (u64.wrap (a + b))).2.2.2.2
   obtain ⟨v3, e3⟩ := (IR d).2.1
   rw [e1, Dd, e2, Dd, e3, Dd, Dd]
   obtain ⟨v4, e4⟩ := (IR (bw .u64 v3 (u64.wrap (c + d)))).2.2.2.1
   rw [e4, Dd, Dd]
   obtain ⟨v5, e5⟩ := (IR (bw .u64 v1 (u64.wrap (a + b)))).2.2.1
   rw [e5, Dd]
   obtain ⟨v6, e6⟩ := (IR (u64.wrap ((u64.wrap (c + d)) + (bw .u64 v1 (u64.wrap (a + b)))))).2.2.2.2
   rw [e6, Dd, EI (n := (i : Int) + 1) (by omega) (by omega)]
   exact ⟨_, rfl, rfl⟩) (fun s hs => by
   obtain ⟨j, a, b, c, d⟩ := s
   obtain rfl : j = n := hs
   simp only [od]
   rw [EO]
   exact ⟨_, rfl, trivial⟩) (s := (0, s.a, s.b, s.c, s.d)) rfl
 rw [e, Dh]
 exact ⟨_, rfl⟩
theorem Lf (s : cN) (m : Int) : ∃ t, kL s m = some t := by
 unfold kL
 obtain ⟨t, e⟩ := K6 (⟨s.a, s.b, s.c, bw .u64 s.d m⟩ : cN) (n := 2) (by decide)
 rw [show (2 : Int) = ((2 : Nat) : Int) from rfl, e, Dd]
 exact ⟨_, rfl⟩
theorem Lw (l : List Int) (hl : l.length ≤ 1000) : ∃ v, lz l = some v := by
 unfold lz
 obtain ⟨t, e, _⟩ := DG (step := fun v : Int × Int => oW l v.1 v.2) l.length (fun i s => s.2 = i) (fun _ => True) (fun i hi s hs => by
   obtain ⟨x, j⟩ := s
   obtain rfl : j = i := hs
   left
   simp only [oW]
   rw [EQ, EK, EK, EI (n := 8 * (i : Int)) (by omega) (by omega), EK, Dd, EI (n := (i : Int) + 1) (by omega) (by omega)]
   exact ⟨_, rfl, rfl⟩) (fun s hs => by
   obtain ⟨x, j⟩ := s
   obtain rfl : j = l.length := hs
   simp only [oW]
   rw [EO]
   exact ⟨_, rfl, trivial⟩) (s := (0, 0)) rfl
 rw [e, Dd]
 exact ⟨_, rfl⟩
theorem NB (k : hJ) (l : List Int) : ∃ v, qK k l = some v ∧ 0 ≤ v ∧ v < 18446744073709551616 := by
 unfold qK
 obtain ⟨⟨x, a, b, c, d⟩, e, hx⟩ := DG (step := fun v : (List Int) × Int × Int × Int × Int => pY v.1 v.2.1 v.2.2.1 v.2.2.2.1 v.2.2.2.2) (l.length / 8) (fun i s => s.1.length = l.length - 8 * i) (fun t => t.1.length ≤ 8) (fun i hi s hs => by
   obtain ⟨x, a, b, c, d⟩ := s
   have hs : x.length = l.length - 8 * i := hs
   left
   simp only [pY]
   rw [EQ, EK]
   obtain ⟨v, ev⟩ := Lw (x.take 8) (by rw [FR]; omega)
   obtain ⟨t, et⟩ := Lf (⟨a, b, c, d⟩ : cN) v
   rw [ev, Dd, et, Dd]
   refine ⟨_, rfl, ?_⟩
   show ((x.drop 8).take (x.length - 8)).length = _
   rw [FR, FU]
   omega) (fun s hs => by
   obtain ⟨x, a, b, c, d⟩ := s
   have hs : x.length = l.length - 8 * (l.length / 8) := hs
   simp only [pY]
   rw [ER]
   exact ⟨_, rfl, by simp only; omega⟩) (s := (l, bw .u64 k.A 8317987319222330741, bw .u64 k.B 7237128888997146477, bw .u64 k.A 7816392313619706465, bw .u64 k.B 8387220255154660723)) rfl
 rw [e, Jk]
 obtain ⟨v, ev⟩ := Lw x (by simp only at hx; omega)
 rw [ev, Dd]
 obtain ⟨t, et⟩ := Lf (⟨a, b, c, d⟩ : cN) (GA .u64 v (dl .u64 (u64.wrap (l.length : Int)) 56))
 rw [et, Dd]
 obtain ⟨u, eu⟩ := K6 (⟨t.a, t.b, bw .u64 t.c 255, t.d⟩ : cN) (n := 4) (by decide)
 rw [show (4 : Int) = ((4 : Nat) : Int) from rfl, eu, Dd]
 exact ⟨_, rfl, by unfold bw; exact D2 _, by unfold bw; exact D3 _⟩
theorem Lg (k : hJ) {L : List ByteArray} (hn : L.length ≤ 100) (hall : ∀ i, i < L.length → (L.getD i mt).size ≤ 1000) : ∃ v, fI k L = some v ∧ 0 ≤ v ∧ v < 18446744073709551616 := by
 unfold fI
 obtain ⟨t, e1, _⟩ := DG (step := fun v : (List Int) × Int => pc L v.1 v.2) L.length (fun i s => s.2 = (i : Int) ∧ s.1.length ≤ 2000 * i) (fun _ => True) (by
   rintro i hi ⟨l, j⟩ ⟨s1, s2⟩
   left
   simp only at s1 s2
   subst s1
   simp only [pc, FM]
   have h1 := hall i hi
   rw [EQ, EK, EK]
   have hm : (QF (L.getD i mt)) = (((L.getD i mt).size : Nat) : Int) := if_neg (by omega)
   simp only [hm, FM]
   have hx : ((L.getD i mt).extract 0 (L.getD i mt).size).size = (L.getD i mt).size := by rw [ByteArray.size_extract]; omega
   rw [EK, EK, if_pos (by simp only [FN, FP]; omega), if_pos (by rw [FO, hx]; simp only [FN, FP]; omega)]
   refine ⟨_, rfl, ?_, ?_⟩
   ·simp only; rw [EI (by omega) (by omega)]; omega
   ·simp only [FO, FN, FP]
    rw [← zq, hx]; omega) (by
   rintro ⟨l, j⟩ ⟨s1, s2⟩
   simp only at s1 s2
   subst s1
   refine ⟨l, ?_, trivial⟩
   simp only [pc]
   rw [EO]) (s := (([] : List Int), 0)) ⟨rfl, by simp⟩
 obtain ⟨v, ev, hv⟩ := NB k t
 rw [e1, Dd, ev, Dd]
 exact ⟨v, rfl, hv⟩
theorem JU (k : hJ) {s g : ByteArray} (hs : s.size ≤ 1000) (hg : g.size ≤ 1000) : ∃ v, fI k ([s, g] : aj) = some v ∧ 0 ≤ v ∧ v < 18446744073709551616 := Lg k (show 2 ≤ 100 by decide) fun i hi => by
 match i, hi with
 | 0, _ => exact hs
 | 1, _ => exact hg
theorem Kd (k : hJ) {s : ByteArray} (hs : s.size ≤ 1000) : ∃ k', jf k s = some k' := by
 unfold jf
 obtain ⟨a, ea, _⟩ := JU k (s := s) (g := mk #[97]) hs (by decide)
 obtain ⟨b, eb, _⟩ := JU k (s := s) (g := mk #[98]) hs (by decide)
 rw [ea, Dd, eb, Dd]
 exact ⟨_, rfl⟩
theorem M2 {n i : Nat} {p : aC} (h : HK n i p) (k : hJ) {g : ByteArray} (hg : g.size ≤ 1000) : ∃ x y, qL p k g = some (x, y, p, x) ∧ (0 ≤ x ∧ x < p.Length) ∧ 0 ≤ y ∧ y < p.Length := by
 obtain ⟨h1, h2, h3⟩ := h.l
 obtain ⟨u, e1, u0, u1⟩ := JU k (s := mk #[49]) (g := g) (by decide) hg
 obtain ⟨v, e2, v0, v1⟩ := JU k (s := mk #[50]) (g := g) (by decide) hg
 have a0 := Int.emod_nonneg u (show p.Length ≠ 0 by omega)
 have a1 := Int.emod_lt_of_pos u (show 0 < p.Length by omega)
 have b0 := Int.emod_nonneg v (show p.Length - 1 ≠ 0 by omega)
 have b1 := Int.emod_lt_of_pos v (show 0 < p.Length - 1 by omega)
 refine ⟨u % p.Length, 1 + v % (p.Length - 1), ?_, ⟨a0, a1⟩, by omega, by omega⟩
 unfold qL
 rw [e1, Dd, EJ (n := p.Length) (by omega) (by omega), EK, e2, Dd, EI (n := p.Length - 1) (by omega) (by omega), EJ (n := p.Length - 1) (by omega) (by omega), EK, D4 u0, D4 v0, EI (n := u % p.Length) (by omega) (by omega), EI (n := v % (p.Length - 1)) (by omega) (by omega), EI (n := 1 + v % (p.Length - 1)) (by omega) (by omega), Dd]
def J6 (L : Int) (l : List Int) : Prop := ∀ v ∈ l, 0 ≤ v ∧ v < L
theorem MH {n i : Nat} (hn : n ≤ 4) {p : aC} (h : HK n i p) (k : hJ) {g : ByteArray} (hg : g.size ≤ 1000) : ∃ l, Je p k g = some (l, 0) ∧ (1 ≤ l.length ∧ l.length ≤ 6) ∧ J6 p.Length l := by
 obtain ⟨h1, h2, h3⟩ := h.l
 obtain ⟨hh1, hh2⟩ := h.h
 obtain ⟨x, y, ed, hx, hy⟩ := M2 h k hg
 have hlen : (List.replicate p.Hashes.toNat (0 : Int)).length = p.Hashes.toNat := Pt
 unfold Je
 rw [Ki hn h, Dd, EN, EK, EK, ed, Dd]
 obtain ⟨t, e, ht⟩ := DG (step := fun v : (List Int) × Int × Int × Int × Int × Int × Int × Int => oM p v.1 v.2.1 v.2.2.1 v.2.2.2.1 v.2.2.2.2.1 v.2.2.2.2.2.1 v.2.2.2.2.2.2.1 v.2.2.2.2.2.2.2) p.Hashes.toNat (fun i s => ∃ l x z, s = (l, (i : Int), x, y, p.Length, p.Hashes, p.Salt, z) ∧ (l.length = p.Hashes.toNat ∧ J6 p.Length l) ∧ 0 ≤ x ∧ x < p.Length) (fun t => t.length = p.Hashes.toNat ∧ J6 p.Length t) (fun i hi s hs => by
   obtain ⟨l, x, z, rfl, ⟨hl, hv⟩, x0, x1⟩ := hs
   left
   have m0 := Int.emod_nonneg (x + y) (show p.Length ≠ 0 by omega)
   have m1 := Int.emod_lt_of_pos (x + y) (show 0 < p.Length by omega)
   simp only [oM]
   rw [hlen, EQ, show pZ x y (⟨p.Length, p.Hashes, p.Salt⟩ : aC) z = some (x, (x + y) % p.Length, y, p, x) by
    unfold pZ
    simp only
    rw [EK, EI (by omega) (by omega), D4 (by omega)], Jk, EK, EK, FM, Gg, EI (n := (i : Int) + 1) (by omega) (by omega)]
   refine ⟨_, rfl, _, _, _, rfl, ⟨by rw [Gd]; exact hl, fun v hm => ?_⟩, m0, m1⟩
   rcases List.mem_or_eq_of_mem_set hm with hm | rfl
   ·exact hv v hm
   ·exact ⟨x0, x1⟩) (fun s hs => by
   obtain ⟨l, x, z, rfl, hl, hx⟩ := hs
   simp only [oM]
   rw [hlen, EO]
   exact ⟨_, rfl, hl⟩) (s := (List.replicate p.Hashes.toNat (0 : Int), 0, x, y, p.Length, p.Hashes, p.Salt, x)) ⟨_, x, x, rfl, ⟨hlen, fun v hv => by rw [List.eq_of_mem_replicate hv]; omega⟩, hx⟩
 refine ⟨t, ?_, by have := ht.1; omega, ht.2⟩
 simp only
 rw [e, Dd]
theorem N0 {j : Int} (h0 : 0 ≤ j) (h1 : j < 64) : dl .u64 1 j = ((2 ^ j.toNat : Nat) : Int) := by
 obtain ⟨k, rfl⟩ := Int.eq_ofNat_of_zero_le h0
 have h2 : 2 ^ k < 18446744073709551616 := show 2 ^ k < 2 ^ 64 from Nat.pow_lt_pow_right (by omega) (by omega)
 have := OV 1 (s := k) (by omega)
 rw [Nat.one_mul, Nat.mod_eq_of_lt h2] at this
 exact this
def NZ (W : List Int) : Prop := ∃ j, j < W.length ∧ W.getD j 0 ≠ 0
theorem OW {W : List Int} (hw : GV W) {q : Nat} (hq : q < W.length) {m : Int} (m0 : 0 ≤ m) (m1 : m < 64) : GV (W.set q (GA .u64 (W.getD q 0) (dl .u64 1 m))) ∧ NZ (W.set q (GA .u64 (W.getD q 0) (dl .u64 1 m))) := by
 refine ⟨fun w hm => ?_, q, by rw [Gd]; exact hq, ?_⟩
 ·rcases List.mem_or_eq_of_mem_set hm with hm | rfl
  ·exact hw w hm
  ·unfold GA; exact ⟨D2 _, D3 _⟩
 ·have g := hw.get hq
  have e : (W.set q (GA .u64 (W.getD q 0) (dl .u64 1 m))).getD q 0 = GA .u64 (W.getD q 0) (dl .u64 1 m) := by
   rw [FI, Gj]
   simp [hq]
  rw [e, N0 m0 m1]
  obtain ⟨x, hx⟩ := Int.eq_ofNat_of_zero_le g.1
  rw [hx]
  have h2 : 2 ^ m.toNat < 18446744073709551616 := show 2 ^ m.toNat < 2 ^ 64 from Nat.pow_lt_pow_right (by omega) (by omega)
  rw [O5 (by omega) h2]
  have : 2 ^ m.toNat ≤ x ||| 2 ^ m.toNat := Nat.right_le_or
  have : 0 < 2 ^ m.toNat := Nat.pow_pos (by decide)
  omega
theorem N1 {W l : List Int} {L : Int} (hL : L = 64 * (W.length : Int)) (hn : W.length ≤ 8) (hw : GV W) (hl : J6 L l) (h1 : 1 ≤ l.length ∧ l.length ≤ 6) : ∃ V, loop (fun v : Int × (List Int) => pD l v.1 v.2) (0, W) = some V ∧ V.length = W.length ∧ GV V ∧ NZ V := by
 obtain ⟨t, e, h2, h3, h4⟩ := DG (step := fun v : Int × (List Int) => pD l v.1 v.2) l.length (fun i s => ∃ V, s = ((i : Int), V) ∧ V.length = W.length ∧ GV V ∧ (1 ≤ i → NZ V)) (fun V => V.length = W.length ∧ GV V ∧ NZ V) (fun i hi s hs => by
   obtain ⟨V, rfl, hv, hw, hz⟩ := hs
   left
   obtain ⟨c0, c1⟩ := hl _ (GJ 0 hi)
   simp only [pD]
   rw [FM, Gg, EQ, EK, EK, D5 c0, D4 c0, EI (n := l.getD i 0 / 64) (by omega) (by omega), EK, EK, EK, Gg, EI (n := (i : Int) + 1) (by omega) (by omega)]
   obtain ⟨g1, g2⟩ := OW hw (q := (l.getD i 0 / 64).toNat) (by omega) (m := l.getD i 0 % 64) (by omega) (by omega)
   exact ⟨_, rfl, _, rfl, by rw [Gd]; exact hv, g1, fun _ => g2⟩) (fun s hs => by
   obtain ⟨V, rfl, hv, hw, hz⟩ := hs
   simp only [pD]
   rw [EO]
   exact ⟨_, rfl, hv, hw, hz h1.1⟩) (s := (0, W)) ⟨W, rfl, rfl, hw, fun h => absurd h (by decide)⟩
 exact ⟨t, e, h2, h3, h4⟩
structure KS (L : Int) (x : aP) : Prop where
 l : x.Length = L
 n : (x.Words.length : Int) = L / 64
 w : GV x.Words
 z : NZ x.Words
theorem M3 {n i : Nat} (hn : n ≤ 4) {p : aC} (h : HK n i p) (k : hJ) {gs : List ByteArray} (hg : ∀ g ∈ gs, g.size ≤ 1000) (h1 : 1 ≤ gs.length) (h80 : gs.length ≤ 80) : ∃ x, qy p k gs = some (x, 0) ∧ KS p.Length x := by
 obtain ⟨l1, l2, l3⟩ := h.l
 have hz : GV (List.replicate ((p.Length / 64).toNat) (0 : Int)) := fun w hw => by rw [List.eq_of_mem_replicate hw]; decide
 unfold qy
 rw [Ki hn h, Dd, EN, ER, LN h.l, De]
 obtain ⟨t, e, h2, h3, h4⟩ := DG (step := fun v : Int × (List Int) => pE p k gs v.1 v.2) gs.length (fun i s => ∃ V, s = ((i : Int), V) ∧ V.length = (p.Length / 64).toNat ∧ GV V ∧ (1 ≤ i → NZ V)) (fun V => V.length = (p.Length / 64).toNat ∧ GV V ∧ NZ V) (fun i hi s hs => by
   obtain ⟨V, rfl, hv, hw, hz⟩ := hs
   left
   simp only [pE]
   rw [FM, EQ, EK, EK]
   obtain ⟨l, e1, e2, e3⟩ := MH hn h k (hg _ (GJ mt hi))
   obtain ⟨U, f1, f2, f3, f4⟩ := N1 (L := p.Length) (by omega) (by omega) hw e3 e2
   rw [e1, De, f1, Dd, EI (n := (i : Int) + 1) (by omega) (by omega)]
   exact ⟨_, rfl, _, rfl, by omega, f3, fun _ => f4⟩) (fun s hs => by
   obtain ⟨V, rfl, hv, hw, hz⟩ := hs
   simp only [pE]
   rw [EO]
   exact ⟨_, rfl, hv, hw, hz h1⟩) (s := (0, List.replicate ((p.Length / 64).toNat) (0 : Int))) ⟨_, rfl, Pt, hz, fun h => absurd h (by decide)⟩
 refine ⟨⟨p.Length, t⟩, ?_, rfl, by simp only; omega, h3, h4⟩
 simp only
 rw [e, Dd]
theorem NC {x : Nat} (h0 : x ≠ 0) (h1 : x < 18446744073709551616) : 0 < JY x := by
 have key : ∀ f x : Nat, x ≠ 0 → x < 2 ^ f → 0 < J1 f x := by
  intro f
  induction f with
  | zero => intro x h0 h1; simp at h1; omega
  | succ f ih =>
   intro x h0 h1
   unfold J1
   by_cases hx : x % 2 = 0
   ·have := ih (x / 2) (by omega) (by rw [Nat.pow_succ] at h1; omega)
    omega
   ·omega
 unfold JY
 exact key 64 x h0 h1
theorem N3 {W : List Int} (hw : GV W) (h : NZ W) : 0 < GO W := by
 obtain ⟨j, hj, h0⟩ := h
 have h1 := hw.get hj
 have h2 := NA hj
 have h3 := NC (x := (W.getD j 0).toNat) (by omega) (by omega)
 have h4 : ∀ (l : List Int) (i : Nat), GO (l.take i) ≤ GO l := by
  intro l
  induction l with
  | nil => intro i; simp
  | cons w l ih =>
   intro i
   cases i with
   | zero => simp [GO]
   | succ i => have := ih i; simp only [List.take_succ_cons, GO]; omega
 have := h4 W (j + 1)
 omega
theorem M4 {W : List Int} (hw : GV W) : List.zipWith (dG .u64) W W = W := by
 induction W with
 | nil => rfl
 | cons w W ih =>
  have g := hw w FZ
  obtain ⟨x, rfl⟩ := Int.eq_ofNat_of_zero_le g.1
  rw [List.zipWith_cons_cons, ih fun y hy => hw y (F0 _ hy), OU (by omega) (by omega), Nat.and_self]
theorem ND {L : Int} (hL : 64 ≤ L ∧ L ≤ 192 ∧ L % 64 = 0) {x : aP} (h : KS L x) : pG x x = some 1000 := by
 have hv : VB x := ⟨⟨by have := h.l; omega, by have := h.l; omega, by have := h.l; omega⟩, by rw [h.n, h.l]⟩
 have hp := N3 h.w h.z
 rw [P9 h.w h.w]
 unfold MA
 rw [if_pos ⟨hv, hv, rfl⟩, EL, M4 h.w]
 generalize GO x.Words = c at hp
 rw [show (4000 * c + (c + c)) / (2 * (c + c)) = 1000 from Nat.div_eq_of_lt_le (by omega) (by omega)]
 rfl
theorem NE : pG ⟨0, []⟩ ⟨0, []⟩ = some (-1) := by
 have hw : GV [] := fun w hw => absurd hw Pr
 rw [P9 (p := ⟨0, []⟩) (q := ⟨0, []⟩) hw hw]
 unfold MA
 rw [if_neg (fun h => absurd h.1.1.1 (by decide))]
structure Jt (g : List ByteArray) : Prop where
 l : 1 ≤ g.length ∧ g.length ≤ 80
 s : ∀ s ∈ g, s.size ≤ 1000
theorem Lx : ∀ (l : List ByteArray) (es : List (Lit × DataW Unit)), ∃ es', l.foldl (fun D s => D.put (.string s.data.toList) (.agg [])) (DataW.map es) = DataW.map es' ∧ es'.length ≤ es.length + l.length ∧ (1 ≤ es.length + l.length → 1 ≤ es'.length) ∧ ∀ p ∈ es', p ∈ es ∨ ∃ s ∈ l, p.1 = .string s.data.toList
 | [], es => ⟨es, rfl, by simp, by simp, fun p hp => .inl hp⟩
 | x :: l, es => by
  obtain ⟨es', e, h1, h2, h3⟩ := Lx l (DataW.insert (.string x.data.toList, .agg []) (es.filter fun p => !p.1.sameKey (.string x.data.toList)))
  have hl : (DataW.insert (.string x.data.toList, .agg []) (es.filter fun p => !p.1.sameKey (.string x.data.toList))).length = (es.filter fun p => !p.1.sameKey (.string x.data.toList)).length + 1 := (Go.WideShapes.insert_perm _ _).length_eq
  have hf := List.length_filter_le (fun p : Lit × DataW Unit => !p.1.sameKey (.string x.data.toList)) es
  refine ⟨es', e, by rw [FN]; omega, fun _ => h2 (by omega), fun p hp => ?_⟩
  rcases h3 p hp with h | ⟨s, hs, e⟩
  ·rcases ChangeMaps.mem_insert_iff.1 h with rfl | h
   ·exact .inr ⟨x, FZ, rfl⟩
   ·exact .inl ((List.mem_filter.1 h).1)
  ·exact .inr ⟨s, F0 _ hs, e⟩
theorem OB {l : List ByteArray} (h : Jt l) : ∃ g, rT l = some g ∧ Jt g := by
 obtain ⟨h0, h1⟩ := h.l
 obtain ⟨es, e, l1, l2, l3⟩ := Lx l []
 have eg : fY l = DataW.map es := e
 have en : (fk l).length = es.length := by
  unfold fk
  rw [Ps, List.length_mergeSort, eg]
  exact Ps ..
 unfold rT
 rw [if_pos ⟨by omega, h.s⟩]
 refine ⟨_, rfl, ⟨by rw [en]; exact l2 (by simp only [FP]; omega), by rw [en]; simp only [FP] at l1; omega⟩, fun s hs => ?_⟩
 unfold fk at hs
 obtain ⟨x, hx, rfl⟩ := Pz.1 hs
 rw [List.mem_mergeSort, eg] at hx
 obtain ⟨p, hp, rfl⟩ := Pz.1 (show x ∈ es.map fun p => strOf p.1 from hx)
 rcases l3 p hp with h' | ⟨t, ht, e⟩
 ·cases h'
 ·rw [e]
  exact h.s t ht
theorem LO (s : ByteArray) (i j : Nat) : (s.extract i j).size ≤ s.size := by
 rw [ByteArray.size_extract]
 omega
theorem LP {ws : List (List UInt8)} (h : okW ws) (hl : ∀ w ∈ ws, w.length ≤ 8) (ha : ∀ w ∈ ws, ∀ c ∈ w, c.toNat < 128) (h1 : 1 ≤ ws.length) (h2 : ws.length ≤ 2) : ∃ g, ms (gi (dE ws)) = some g ∧ Jt g := by
 have hM : 1000 ≤ bZ := by decide
 have hsum : (ws.map fun x => x.length + 1).sum ≤ 9 * ws.length := by
  have : ∀ l : List (List UInt8), (∀ w ∈ l, w.length ≤ 8) → (l.map fun x => x.length + 1).sum ≤ 9 * l.length := by
   intro l
   induction l with
   | nil => simp
   | cons x l ih =>
    intro hl
    have := ih fun w hw => hl w (F0 _ hw)
    have := hl x FZ
    simp only [Gr, PK, FN]
    omega
  exact this ws hl
 have hj := HI ws
 have hasc : ascii (dE ws) := AX (p := fun c => c.toNat < 128) (by decide) ha
 unfold ms
 rw [DU, ER, IM hasc (by omega), As h, Dd]
 obtain ⟨t, e, ht, ht2⟩ := DG (step := fun v : (List ByteArray) × Int => ql (ws.map gi) v.1 v.2) ws.length (fun i s => ∃ l, s = (l, (i : Int)) ∧ (l.length ≤ 9 * i ∧ (1 ≤ i → 1 ≤ l.length)) ∧ ∀ s ∈ l, s.size ≤ 1000) (fun l => (1 ≤ l.length ∧ l.length ≤ 18) ∧ ∀ s ∈ l, s.size ≤ 1000) (fun i hi s hs => by
   obtain ⟨l, rfl, ⟨l1, l2⟩, l3⟩ := hs
   left
   have hg : (ws.map gi).getD (0 + (i : Int).toNat) mt = gi (ws.getD i []) := by
    rw [Gg, FM, FI, F6, FI]
    cases ws[i]? <;> rfl
   have hm := hl _ (GJ [] hi)
   simp only [ql]
   rw [hg, Ps, show mk #[95] = gi [95] from rfl, G1, G1, DU, DU, DU, EQ, EK, EK, EP, if_pos (by simp only [FO, Pq]; omega), Dd]
   have ez : i64.wrap ((([95] ++ ws.getD i [] ++ [95]).length : Nat) - 1 : Int) = (((ws.getD i []).length + 1 : Nat) : Int) := by
    rw [EI (by simp only [FO, Pq]; omega) (by simp only [FO, Pq]; omega)]
    simp only [FO, Pq]
    omega
   rw [DU, ez]
   obtain ⟨t, e, t1, t2⟩ := DG (step := fun v : (List ByteArray) × Int => qk (ws.map gi) (i : Int) (((ws.getD i []).length + 1 : Nat) : Int) v.1 v.2) ((ws.getD i []).length + 1) (fun j s => ∃ k, s = (k, (j : Int)) ∧ k.length = l.length + j ∧ ∀ s ∈ k, s.size ≤ 1000) (fun k => k.length = l.length + ((ws.getD i []).length + 1) ∧ ∀ s ∈ k, s.size ≤ 1000) (fun j hj s hs => by
     obtain ⟨k, rfl, k1, k2⟩ := hs
     left
     simp only [qk]
     rw [hg, show mk #[95] = gi [95] from rfl, G1, G1, DU, EI (n := (j : Int) + 2) (by omega) (by omega), EQ, EK, EK, EK, if_pos (by simp only [FO, Pq]; omega), EP, EI (n := (j : Int) + 1) (by omega) (by omega)]
     refine ⟨_, rfl, _, rfl, by simp only [FO, Pq]; omega, fun s hs => ?_⟩
     rcases F2.1 hs with hs | hs
     ·exact k2 s hs
     ·rw [FQ.1 hs]
      refine Ga (LO _ _ _) ?_
      rw [DU]
      simp only [FO, Pq]
      omega) (fun s hs => by
     obtain ⟨k, rfl, k1, k2⟩ := hs
     simp only [qk]
     rw [EO]
     exact ⟨_, rfl, k1, k2⟩) (s := (l, 0)) ⟨l, rfl, rfl, l3⟩
   rw [e, Dd, EI (n := (i : Int) + 1) (by omega) (by omega)]
   exact ⟨_, rfl, t, rfl, ⟨by omega, fun _ => by omega⟩, t2⟩) (fun s hs => by
   obtain ⟨l, rfl, ⟨l1, l2⟩, l3⟩ := hs
   simp only [ql]
   rw [Ps, EO]
   exact ⟨_, rfl, ⟨l2 h1, by omega⟩, l3⟩) (s := ([], 0)) ⟨[], rfl, ⟨by simp, fun h => absurd h (by decide)⟩, fun s hs => absurd hs Pr⟩
 rw [e, Dd]
 obtain ⟨g, eg, hg⟩ := OB ⟨⟨ht.1, by omega⟩, ht2⟩
 rw [eg, Dd]
 exact ⟨g, rfl, hg⟩
theorem MI {l : List UInt8} (h1 : 1 ≤ l.length) (h2 : l.length ≤ 26) : ∃ g, pu (gi l) = some g ∧ Jt g := by
 unfold pu
 rw [DU, ER]
 obtain ⟨t, e, t1, t2⟩ := DG (step := fun v : (List ByteArray) × Int => oK (gi l) v.1 v.2) l.length (fun j s => ∃ k, s = (k, (j : Int)) ∧ k.length = j ∧ ∀ s ∈ k, s.size ≤ 1000) (fun k => k.length = l.length ∧ ∀ s ∈ k, s.size ≤ 1000) (fun j hj s hs => by
   obtain ⟨k, rfl, k1, k2⟩ := hs
   left
   simp only [oK]
   rw [DU, EQ, EK, EK, EP, EI (n := (j : Int) + 1) (by omega) (by omega)]
   refine ⟨_, rfl, _, rfl, by simp only [FO, Pq]; omega, fun s hs => ?_⟩
   rcases F2.1 hs with hs | hs
   ·exact k2 s hs
   ·rw [FQ.1 hs, Dk]
    show 2 ≤ 1000
    decide) (fun s hs => by
   obtain ⟨k, rfl, k1, k2⟩ := hs
   simp only [oK]
   rw [DU, EO]
   exact ⟨_, rfl, k1, k2⟩) (s := ([], 0)) ⟨[], rfl, rfl, fun s hs => absurd hs Pr⟩
 rw [e, Dd]
 exact ⟨t, rfl, by omega, t2⟩
theorem NG {s : aK} (hs : Gy s) {i : Nat} (hi : i < s.Fields.length) {v : ByteArray} (hv : NF s.Rules (fld s i).Kind v) (h0 : v ≠ gi []) : ∃ g, qw s (i : Int) v = some (g, 0) ∧ Jt g := by
 have hM : 1000 ≤ bZ := by decide
 have e0 : (v.toList == (mk #[]).toList) = false := by
  rw [show (mk #[]) = gi [] from rfl, Em, Pv h0]
 have hn := Ld hs hi hv
 unfold qw
 rw [HH hs, Dd, if_pos ⟨rfl, by omega, by omega, hn⟩, FM, e0]
 rcases hv with ⟨k, ws, rfl, hw, hl⟩ | ⟨k, c, y, m, d, rfl, hc, hy, hm, hd⟩ | ⟨k, rfl⟩ | ⟨k, w, rfl, hw⟩ <;> simp only [fld] at k <;> rw [k]
 ·rw [if_pos rfl, EN]
  have ht : ∀ w ∈ ws, tw w := fun w h => (hw w h).1
  have h1 : 1 ≤ ws.length := by
   refine Nat.pos_of_ne_zero fun h => h0 ?_
   rw [List.eq_nil_of_length_eq_zero h]
   rfl
  obtain ⟨g, e, hg⟩ := LP (Pp ht) (fun w h => (ht w h).2.2) (fun w h c hc => by have := IN ((ht w h).2.1 c hc); omega) h1 hl
  rw [e, Dd]
  exact ⟨g, rfl, hg⟩
 ·rw [EN, if_pos rfl, EN]
  obtain ⟨g, e, hg⟩ := MI (l := G4 c y m d) (by simp [G4, d2]) (by simp [G4, d2])
  rw [e, Dd]
  exact ⟨g, rfl, hg⟩
 ·rw [EN, EN, if_pos rfl, EN]
  unfold pw
  rw [if_pos (Ga (show (mk #[61]).size + (gi [97, 98, 49, 50]).size ≤ 1000 by decide) hM), Dd]
  refine ⟨_, rfl, by simp, fun s hs => ?_⟩
  rw [FQ.1 hs, show mk #[61] = gi [61] from rfl, G1, DU]
  decide
 ·rw [EN, EN, EN, if_pos rfl, EN]
  obtain ⟨ht, _⟩ := Js hs.r hw
  have q1 : okW [GC s.Rules w, [49, 50]] := fun x hx => by
   rcases F1.1 hx with rfl | hx
   ·exact ⟨ht.1, ht.space⟩
   ·rw [FQ.1 hx]; decide
  have q2 : ∀ x ∈ [GC s.Rules w, [49, 50]], x.length ≤ 8 := fun x hx => by
   rcases F1.1 hx with rfl | hx
   ·exact ht.2.2
   ·rw [FQ.1 hx]; decide
  have q3 : ∀ x ∈ [GC s.Rules w, [49, 50]], ∀ c ∈ x, c.toNat < 128 := fun x hx c hc => by
   rcases F1.1 hx with rfl | hx
   ·have := IN (ht.2.1 c hc); omega
   ·rw [FQ.1 hx] at hc
    have : c = 49 ∨ c = 50 := by simpa using hc
    rcases this with rfl | rfl <;> decide
  obtain ⟨g, e, hg⟩ := LP q1 q2 q3 (by simp) (by simp)
  rw [e, Dd]
  exact ⟨g, rfl, hg⟩
theorem Ly {i : Nat} (h : i < 10) : ∃ s, l8 (i : Int) = some s ∧ s.size ≤ 10 := by
 have : i = 0 ∨ i = 1 ∨ i = 2 ∨ i = 3 ∨ i = 4 ∨ i = 5 ∨ i = 6 ∨ i = 7 ∨ i = 8 ∨ i = 9 := by omega
 rcases this with rfl | rfl | rfl | rfl | rfl | rfl | rfl | rfl | rfl | rfl <;> exact ⟨_, rfl, by decide⟩
theorem N4 {i : Nat} (hi : i < 10) (b : Bool) {s : ByteArray} (hs : s.size ≤ 900) (k : hJ) : ∃ k', ol ⟨(i : Int), b, s⟩ k = some k' := by
 have hM : 1000 ≤ bZ := by decide
 obtain ⟨t, et, ht⟩ := Ly hi
 unfold ol iC
 simp only
 have h5 : (mk #[102, 105, 101, 108, 100]).size = 5 := rfl
 have h6 : (mk #[115, 97, 108, 116, 61]).size = 5 := rfl
 obtain ⟨k1, e1⟩ := Kd k (s := mk #[102, 105, 101, 108, 100] ++ t) (by rw [ByteArray.size_append]; omega)
 rw [et, Dd, EK, e1, Dd]
 cases b with
 | false => exact ⟨_, rfl⟩
 | true =>
  obtain ⟨k2, e2⟩ := Kd k1 (s := mk #[115, 97, 108, 116, 61] ++ s) (by rw [ByteArray.size_append]; omega)
  rw [if_pos rfl, EK, e2, Dd]
  exact ⟨_, rfl⟩
theorem NF.size {r : aY} (hr : Gv r) {k : Int} {v : ByteArray} (h : NF r k v) : v.size ≤ 64 := by
 rcases h with ⟨k, ws, rfl, hw, hl⟩ | ⟨k, c, y, m, d, rfl, hc, hy, hm, hd⟩ | ⟨k, rfl⟩ | ⟨k, w, rfl, hw⟩
 ·have h1 := JO fun w h => (hw w h).1
  have h2 := HI ws
  rw [DU]
  omega
 ·show 8 ≤ 64
  decide
 ·decide
 ·have := JQ (Js hr hw).1
  rw [DU]
  omega
theorem MQ {s : aK} {p : aC} {k : hJ} {a b : aB} (h : a.Values = b.Values) (i : Int) : qz s p k a i = qz s p k b i := by
 unfold qz li
 rw [h]
def KT (L : Int) (v : ByteArray) (x : aP) : Prop := (v = gi [] ∧ x = ⟨0, []⟩) ∨ (v ≠ gi [] ∧ KS L x)
theorem Lh {s : aK} (hs : Gy s) {i : Nat} (hi : i < s.Fields.length) {p : aC} (hp : HK s.Fields.length i p) (k : hJ) {r : aB} (hr : GR s r) : ∃ x, qz s p k r (i : Int) = some (x, 0) ∧ KT p.Length (bsD r.Values i) x := by
 have h4 := hs.n1
 have hl := hr.l
 unfold qz
 rw [EK, EK, FM]
 by_cases h0 : bsD r.Values i = gi []
 ·rw [show r.Values.getD i mt = gi [] from h0, show mk #[] = gi [] from rfl, Em, Pw rfl, if_pos rfl]
  exact ⟨_, rfl, .inl ⟨h0, rfl⟩⟩
 ·rw [show mk #[] = gi [] from rfl, Em, Pv h0, EN]
  obtain ⟨g, eg, hg⟩ := NG hs hi (hr.f i hi) h0
  have key : ∀ v : ByteArray, v.size ≤ 900 → ∃ x, li s p k r (i : Int) v = some (x, 0) ∧ KT p.Length (bsD r.Values i) x := by
   intro v hv
   unfold li
   rw [FM, eg, De, EN]
   obtain ⟨k', ek⟩ := N4 (i := i) (by omega) (decide (p.Salt ≥ 0)) hv k
   obtain ⟨x, ex, hx⟩ := M3 h4 hp k' hg.s hg.l.1 hg.l.2
   rw [ek, Dd, ex, De]
   exact ⟨x, rfl, .inr ⟨h0, hx⟩⟩
  by_cases hS : p.Salt ≥ 0
  ·have hq := hp.s
   obtain ⟨q, hq2⟩ : ∃ q : Nat, p.Salt = q := ⟨p.Salt.toNat, by omega⟩
   rw [Pw hS, if_pos rfl, if_pos hS, EK]
   refine key _ ?_
   have := NF.size hs.r (hr.f q (by omega))
   rw [hq2, FM]
   omega
  ·rw [Pv hS, EN]
   exact key _ (by decide)
theorem LQ {s : aK} (hs : Gy s) {p : List aC} (hp : Iu s.Fields.length p) (k : hJ) {r : aB} (hr : GR s r) : ∃ out, lM s p k r = some (⟨r.ID, r.Version, out⟩, 0) ∧ out.length = s.Fields.length ∧ ∀ j, j < s.Fields.length → qz s (J5 p j) k r (j : Int) = some (out.getD j GM, 0) := by
 have h4 := hs.n1
 have hl := hp.l
 unfold lM p5 nV
 rw [M0 hs hp, Dd, EN, Lu hs hr, Dd, EN]
 obtain ⟨t, e, out, rfl, h1, h2⟩ := DG (step := fun v : (List aP) × Int × (List ar) × (List ByteArray) × (List aA) × (List aA) × Int × Int × Int × Int × (List ByteArray) => nP p v.1 v.2.1 v.2.2.1 v.2.2.2.1 v.2.2.2.2.1 v.2.2.2.2.2.1 v.2.2.2.2.2.2.1 v.2.2.2.2.2.2.2.1 v.2.2.2.2.2.2.2.2.1 v.2.2.2.2.2.2.2.2.2.1 v.2.2.2.2.2.2.2.2.2.2) s.Fields.length (fun i t => ∃ out : List aP, t = (out, (i : Int), s.Fields, s.Rules.Titles, s.Rules.Nicknames, s.Rules.Streets, k.A, k.B, r.ID, r.Version, r.Values) ∧ out.length = i ∧ ∀ j, j < i → qz s (J5 p j) k r (j : Int) = some (out.getD j GM, 0)) (fun t => ∃ out : List aP, t = .inl (out, s.Fields, s.Rules.Titles, s.Rules.Nicknames, s.Rules.Streets, k.A, k.B, r.ID, r.Version, r.Values) ∧ out.length = s.Fields.length ∧ ∀ j, j < s.Fields.length → qz s (J5 p j) k r (j : Int) = some (out.getD j GM, 0)) (fun i hi t ht => by
   obtain ⟨out, rfl, o1, o2⟩ := ht
   left
   obtain ⟨x, ex, _⟩ := Lh hs hi (hp.f i hi) k hr
   simp only [nP]
   rw [FM, EQ, EK, EK, show oX (i : Int) (p.getD i cH) s k r = some (x, 0, s, k, r) by
    unfold oX
    rw [ex]
    rfl, Jk, EN, EP, EI (n := (i : Int) + 1) (by omega) (by omega)]
   refine ⟨_, rfl, _, rfl, by simp [o1], fun j hj => ?_⟩
   rw [G0 _ _ (by omega), o1]
   split
   ·exact o2 j (by assumption)
   ·rw [show j = i by omega]
    exact ex) (fun t ht => by
   obtain ⟨out, rfl, o1, o2⟩ := ht
   simp only [nP]
   rw [ER]
   exact ⟨_, rfl, out, rfl, o1, o2⟩) (s := ([], 0, s.Fields, s.Rules.Titles, s.Rules.Nicknames, s.Rules.Streets, k.A, k.B, r.ID, r.Version, r.Values)) ⟨[], rfl, rfl, fun j hj => absurd hj (Px _)⟩
 rw [e, D6]
 exact ⟨out, rfl, h1, h2⟩
theorem JC {n : Int} (h : 1 ≤ n ∧ n ≤ 5) : HL n = some true := by
 unfold HL kB
 rw [EQ, Pw (by omega)]
structure IZ (v : List ByteArray) (n : Nat) (c : List Int) : Prop where
 l : c.length = n
 f : ∀ j, j < n → bsD v j = gi [] ∧ c.getD j 0 = -1 ∨ bsD v j ≠ gi [] ∧ c.getD j 0 = 1000
theorem Lz {s : aK} (hs : Gy s) {p : List aC} (hp : Iu s.Fields.length p) (k : hJ) {a b : aB} (ha : GR s a) (hb : GR s b) (he : a.Values = b.Values) : ∃ u v c, lM s p k a = some (u, 0) ∧ lM s p k b = some (v, 0) ∧ oN u v = some (c, 0) ∧ IZ a.Values s.Fields.length c := by
 have h0 := hs.n0
 have h4 := hs.n1
 obtain ⟨u, eu, u1, u2⟩ := LQ hs hp k ha
 obtain ⟨v, ev, v1, v2⟩ := LQ hs hp k hb
 have hx : ∀ j, j < s.Fields.length → v.getD j GM = u.getD j GM ∧ KT (J5 p j).Length (bsD a.Values j) (u.getD j GM) := by
  intro j hj
  obtain ⟨x, ex, hx⟩ := Lh hs hj (hp.f j hj) k ha
  have e1 := u2 j hj
  have e2 := v2 j hj
  rw [← MQ he, e1] at e2
  rw [ex] at e1
  have f1 := (Prod.mk.inj (am e1)).1
  have f2 := (Prod.mk.inj (am e2)).1
  exact ⟨f2.symm, f1 ▸ hx⟩
 obtain ⟨c, e, hc⟩ : ∃ c, oN ⟨a.ID, a.Version, u⟩ ⟨b.ID, b.Version, v⟩ = some (c, 0) ∧ IZ a.Values s.Fields.length c := by
  unfold oN kr
  simp only
  rw [u1, v1, EO, JC (by omega), Dd, EN]
  obtain ⟨t, e, h1, h2⟩ := DG (step := fun w : (List Int) × Int => om ⟨a.ID, a.Version, u⟩ ⟨b.ID, b.Version, v⟩ w.1 w.2) s.Fields.length (fun i t => ∃ c, t = (c, (i : Int)) ∧ IZ a.Values i c) (fun c => IZ a.Values s.Fields.length c) (fun i hi t ht => by
    obtain ⟨c, rfl, hc⟩ := ht
    left
    have hl := hc.l
    obtain ⟨e1, hb⟩ := hx i hi
    simp only [om]
    rw [FM, u1, v1, EQ, EK, EK, EK, e1]
    obtain ⟨d, ed, hd⟩ : ∃ d, pG (u.getD i GM) (u.getD i GM) = some d ∧ (bsD a.Values i = gi [] ∧ d = -1 ∨ bsD a.Values i ≠ gi [] ∧ d = 1000) := by
     rcases hb with ⟨h, e⟩ | ⟨h, hf⟩
     ·rw [e]
      exact ⟨_, NE, .inl ⟨h, rfl⟩⟩
     ·exact ⟨_, ND (hp.f i hi).l hf, .inr ⟨h, rfl⟩⟩
    rw [ed, Dd, EP, EI (n := (i : Int) + 1) (by omega) (by omega)]
    refine ⟨_, rfl, _, rfl, by simp [hl], fun j hj => ?_⟩
    rw [G0 _ _ (by omega), hl]
    split
    ·exact hc.f j (by assumption)
    ·rw [show j = i by omega]
     exact hd) (fun t ht => by
    obtain ⟨c, rfl, hc⟩ := ht
    simp only [om]
    rw [u1, EO]
    exact ⟨_, rfl, hc⟩) (s := ([], 0)) ⟨[], rfl, rfl, fun j hj => absurd hj (Px _)⟩
  rw [e, Dd]
  exact ⟨t, rfl, h1, h2⟩
 exact ⟨_, _, c, eu, ev, e, hc⟩
def GH : List Int := [1, 3, 9, 27, 81, 243]
def GI (d : Nat → Int) : Nat → Int
 | 0 => 0
 | i + 1 => GI d i + d i * GH.getD i 0
theorem OX {d : Nat → Int} (hd : ∀ j, 0 ≤ d j ∧ d j ≤ 2) {n i : Nat} (hn : n ≤ 4) (hi : i < n) : GI d n / GH.getD i 0 % 3 = d i := by
 have h0 := hd 0
 have h1 := hd 1
 have h2 := hd 2
 have h3 := hd 3
 have : n = 1 ∨ n = 2 ∨ n = 3 ∨ n = 4 := by omega
 rcases this with rfl | rfl | rfl | rfl
 ·obtain rfl : i = 0 := by omega
  simp only [GI, GH, List.getD_cons_zero, List.getD_cons_succ]; omega
 ·have : i = 0 ∨ i = 1 := by omega
  rcases this with rfl | rfl <;> (simp only [GI, GH, List.getD_cons_zero, List.getD_cons_succ]; omega)
 ·have : i = 0 ∨ i = 1 ∨ i = 2 := by omega
  rcases this with rfl | rfl | rfl <;> (simp only [GI, GH, List.getD_cons_zero, List.getD_cons_succ]; omega)
 ·have : i = 0 ∨ i = 1 ∨ i = 2 ∨ i = 3 := by omega
  rcases this with rfl | rfl | rfl | rfl <;> (simp only [GI, GH, List.getD_cons_zero, List.getD_cons_succ]; omega)
theorem KI {d : Nat → Int} (hd : ∀ j, 0 ≤ d j ∧ d j ≤ 2) {n : Nat} (hn : n ≤ 4) : 0 ≤ GI d n ∧ GI d n < GH.getD n 0 := by
 have h0 := hd 0
 have h1 := hd 1
 have h2 := hd 2
 have h3 := hd 3
 have : n = 0 ∨ n = 1 ∨ n = 2 ∨ n = 3 ∨ n = 4 := by omega
 rcases this with rfl | rfl | rfl | rfl | rfl <;> (simp only [GI, GH, List.getD_cons_zero, List.getD_cons_succ]; omega)
def GK (d : Nat → Int) (n : Nat) : List Int := (List.range n).map d
theorem HJ (d : Nat → Int) (n : Nat) : (GK d n).length = n := by simp [GK]
theorem LR (d : Nat → Int) (n : Nat) : GK d (n + 1) = GK d n ++ [d n] := by simp [GK, List.range_succ]
theorem Md {d : Nat → Int} {n i : Nat} (h : i < n) : (GK d n).getD i 0 = d i := by
 simp [GK, FI, h]
theorem JV {i : Nat} (h : i < 5) : 1 ≤ GH.getD i 0 ∧ GH.getD i 0 ≤ 81 := by
 have key : ∀ i : Fin 5, 1 ≤ GH.getD i.val 0 ∧ GH.getD i.val 0 ≤ 81 := by decide
 exact key ⟨i, h⟩
theorem M5 {d : Nat → Int} (hd : ∀ j, 0 ≤ d j ∧ d j ≤ 2) {n : Nat} (h1 : 1 ≤ n) (hn : n ≤ 4) : oY (GK d n) = some (GI d n, 0) := by
 unfold oY
 rw [HJ, JC (by omega), Dd, EN, DF (fun i => (GI d i, (i : Int))) n (.inl (GI d n)) (fun i hi => by
   have g := hd i
   have a := KI hd (n := i) (by omega)
   have b := JV (i := i) (by omega)
   have c := KI hd (n := i + 1) (by omega)
   have e := JV (i := i + 1 - 1) (by omega)
   simp only [oC, kC]
   rw [FM, HJ, Md hi, EQ, EK, EK, ER, ER]
   unfold iQ
   rw [Dd, EK, Dd, EI (n := (i : Int) + 1) (by omega) (by omega)]
   show some (Sum.inl (i64.wrap (GI d i + i64.wrap (d i * GH.getD i 0)), (i : Int) + 1)) = _
   have m : d i * GH.getD i 0 ≤ 2 * 81 := Int.mul_le_mul g.2 b.2 (by omega) (by omega)
   have m0 : 0 ≤ d i * GH.getD i 0 := Int.mul_nonneg g.1 (by omega)
   rw [EI (n := d i * GH.getD i 0) (by omega) (by omega), EI (by omega) (by omega)]
   rfl) (by
   simp only [oC]
   rw [HJ, EO]) (s := (0, 0)) rfl]
 rfl
noncomputable def GL (v : List ByteArray) (j : Nat) : Int := if bsD v j = gi [] then 0 else 2
theorem Mm (v : List ByteArray) (j : Nat) : 0 ≤ GL v j ∧ GL v j ≤ 2 := by
 unfold GL
 split <;> decide
theorem K7 {ts c : List Int} {v : List ByteArray} {n : Nat} (h1 : 1 ≤ n) (hn : n ≤ 4) (hl : ts.length = n) (ht : ∀ j, j < n → 0 ≤ ts.getD j 0 ∧ ts.getD j 0 ≤ 1000) (hc : IZ v n c) : oO ts c = some (GI (GL v) n, 0) := by
 have hcl := hc.l
 unfold oO ku
 rw [hl, hcl, EO, JC (by omega), Dd, EN, EK, EK, DF (fun i => (GK (GL v) i ++ List.replicate (n - i) 0, (i : Int))) n (.inl (GK (GL v) n)) (fun i hi => by
   have g := ht i hi
   have hlen : (GK (GL v) i ++ List.replicate (n - i) (0 : Int)).length = n := by
    rw [FO, HJ, Pt]; omega
   have hset : ∀ x, x = GL v i → (GK (GL v) i ++ List.replicate (n - i) (0 : Int)).set i x = GK (GL v) (i + 1) ++ List.replicate (n - (i + 1)) 0 := by
    rintro x rfl
    rw [List.set_append_right _ _ (by rw [HJ]; omega), HJ, Nat.sub_self, show n - i = (n - (i + 1)) + 1 by omega, List.replicate_succ, List.set_cons_zero, LR, F7]
    rfl
   simp only [oq, gl, iE]
   rw [FM, hl, hcl, hlen, Gg, EQ, EK, EK, EK, ER, ER]
   rcases hc.f i hi with ⟨hb, hv⟩ | ⟨hb, hv⟩
   ·rw [hv, EN, EN, EM, EK, hset 0 (by unfold GL; rw [if_pos hb]), EI (n := (i : Int) + 1) (by omega) (by omega)]
    rfl
   ·rw [hv, EN, EN, EN, ER, EK, hset 2 (by unfold GL; rw [if_neg hb]), EI (n := (i : Int) + 1) (by omega) (by omega)]
    rfl) (by
   simp only [oq]
   rw [hl, EO, Nat.sub_self, List.replicate_zero, PE]) (by rw [FM]; simp [GK])]
 show tq (GK (GL v) n) = _
 unfold tq
 rw [M5 (Mm v) h1 hn]
 rfl
theorem M6 {d : Nat → Int} (hd : ∀ j, 0 ≤ d j ∧ d j ≤ 2) {n : Nat} (h1 : 1 ≤ n) (hn : n ≤ 4) : tT (GI d n) (n : Int) = some (GK d n, 0) := by
 have hm := KI hd hn
 have hp := JV (i := n) (by omega)
 unfold tT kD iQ
 rw [JC (by omega), Dd, EN, ER, Dd, EK, EK, FM]
 have hge : decide (GI d n ≥ ([1, 3, 9, 27, 81, 243] : List Int).getD n 0) = false := Pv (by show ¬ GI d n ≥ GH.getD n 0; omega)
 rw [hge, EN, DF (fun i => (GK d i, (i : Int))) n (GK d n) (fun i hi => by
   have b := JV (i := i) (by omega)
   have c := OX hd hn hi
   simp only [oE]
   unfold iQ
   rw [FM, EQ, Dd, EK, EK, show ([1, 3, 9, 27, 81, 243] : List Int) = GH from rfl, EK, HJ, EP, D5 hm.1, EI (n := (i : Int) + 1) (by omega) (by omega)]
   have q0 : 0 ≤ GI d n / GH.getD i 0 := Int.ediv_nonneg hm.1 (by omega)
   have q1 := Int.ediv_le_self (b := GH.getD i 0) hm.1
   rw [EI (n := GI d n / GH.getD i 0) (by omega) (by omega), D4 q0, c, LR]
   rfl) (by
   simp only [oE]
   rw [EO]) (s := ([], 0)) rfl]
 rfl
theorem Li {c : UInt8} (h : Gw c = true) : ∃ v, lQ (c.toNat : Int) = some v := by
 unfold Gw at h
 simp only [FY, Pu] at h
 unfold lQ
 rw [Ik (n := (c.toNat : Int) - 97) (by omega) (by omega), EK, if_pos (by show (c.toNat : Int) - 97 < 26; omega)]
 exact ⟨_, rfl⟩
theorem MK {w : List UInt8} (h : tw w) : ∃ s, pf (gi w) = some s ∧ s.size ≤ 100 := by
 have h8 := h.2.2
 have h0 : 0 < w.length := List.length_pos_iff.2 h.1
 have hr : p8 (gi w) = some true := by
  unfold p8 iV
  rw [show (mk #[]) = gi [] from rfl, GY, Pv h.1, EM, if_pos (by rw [DU]; simp only [Pu]; omega), Kc h.2.1 (by omega), Dd, GY, Pw rfl]
 obtain ⟨c0, e0⟩ := Li (h.2.1 _ (GJ 0 h0))
 unfold pf
 rw [hr, Dd, EN, DU, DT, EK, e0, Dd]
 obtain ⟨t, e, ht⟩ := DG (step := fun v : (List Int) × Int × Int => oI (gi w) v.1 v.2.1 v.2.2) w.length (fun i s => ∃ l x, s = (l, x, ((i + 1 : Nat) : Int)) ∧ l.length ≤ i + 1) (fun t => t.length ≤ 20) (fun i hi s hs => by
   obtain ⟨l, x, rfl, hl⟩ := hs
   simp only [oI, kK, iL, kI, kJ]
   rw [DU, DT, FM]
   by_cases hi2 : i + 1 < w.length
   ·rw [EQ]
    by_cases h4 : l.length < 4
    ·left
     obtain ⟨c, ec⟩ := Li (h.2.1 _ (GJ 0 hi2))
     rw [Pw (by omega), if_pos rfl, EK, EK, ec, Dd, EI (n := ((i + 1 : Nat) : Int) + 1) (by omega) (by omega)]
     have hx : ∀ (b : Bool), ∃ s', (if b = true then (if l.length + ([c] : List Int).length ≤ 1099511627776 then some (Sum.inl (l ++ [c], c, ((i + 1 : Nat) : Int) + 1) : ((List Int) × Int × Int) ⊕ (List Int)) else none) else some (Sum.inl (l, c, ((i + 1 : Nat) : Int) + 1))) = some (.inl s') ∧ ∃ l x, s' = (l, x, ((i + 1 + 1 : Nat) : Int)) ∧ l.length ≤ i + 1 + 1 := by
      intro b
      cases b with
      | true =>
       rw [if_pos rfl, EP]
       exact ⟨_, rfl, _, _, rfl, by simp only [FO, Pq]; omega⟩
      | false => exact ⟨_, rfl, _, _, rfl, by omega⟩
     split
     ·exact ⟨_, rfl, _, _, rfl, by omega⟩
     ·split
      ·exact hx _
      ·exact hx false
    ·right
     rw [Pv (by omega), EN]
     exact ⟨_, rfl, by omega⟩
   ·right
    rw [ER, EN]
    exact ⟨_, rfl, by omega⟩) (fun s hs => by
   obtain ⟨l, x, rfl, hl⟩ := hs
   simp only [oI, kK]
   rw [DU, ER, EN]
   exact ⟨_, rfl, by omega⟩) (s := ([((w.getD 0 0).toNat : Int)], c0, 1)) ⟨_, _, rfl, by simp⟩
 rw [e, Dd]
 obtain ⟨u, eu, hu⟩ := DG (step := fun v : List Int => tC v) (4 - t.length) (fun i s => s.length = t.length + i) (fun t => t.length ≤ 30) (fun i hi s hs => by
   left
   simp only [tC]
   rw [EQ, EP]
   exact ⟨_, rfl, by simp only [FO, Pq]; omega⟩) (fun s hs => by
   simp only [tC]
   rw [ER]
   exact ⟨_, rfl, by omega⟩) (s := t) rfl
 rw [eu, Dd]
 exact ⟨_, rfl, by rw [Dk]; omega⟩
theorem NH {ws : List (List UInt8)} (h : ∀ w ∈ ws, tw w) (h6 : ws.length ≤ 6) : ∃ s, l9 (gi (dE ws)) = some s ∧ s.size ≤ 100 := by
 have h1 := JO h
 have h2 := HI ws
 unfold l9
 rw [IM (Kr h).ascii (by omega), As (Pp h), Dd, Ps]
 cases ws with
 | nil => exact ⟨_, rfl, by decide⟩
 | cons w ws =>
  obtain ⟨s, e, hs⟩ := MK (h w FZ)
  rw [if_neg (by simp only [FN, beq_iff_eq]; omega), if_pos (by simp only [FN]; omega), show ((w :: ws).map gi).getD (0 + 0) mt = gi w from rfl, e, Dd]
  exact ⟨s, rfl, hs⟩
theorem Lj (v : ByteArray) {n : Nat} : ∃ s, lC v (n : Int) = some s ∧ s.size ≤ v.size := by
 unfold lC
 have h : ∃ m : Nat, (if ((v.size : Nat) : Int) < (n : Int) then ((v.size : Nat) : Int) else (n : Int)) = (m : Int) ∧ m ≤ v.size := by
  split
  ·exact ⟨_, rfl, F9 _⟩
  ·exact ⟨_, rfl, by omega⟩
 obtain ⟨m, e, hm⟩ := h
 rw [e, FM, EK, if_pos hm]
 exact ⟨_, rfl, LO _ _ _⟩
theorem MR {r : aY} (hr : Gv r) {w : List UInt8} (h : tw w) : lD (gi (dE [GC r w, [49, 50]])) = some (gi [49, 50]) := by
 obtain ⟨ht, _⟩ := Js hr h
 have hl := JQ ht
 have hw : Gt (dE [GC r w, [49, 50]]) = [GC r w, [49, 50]] := As fun x hx => by
  rcases F1.1 hx with rfl | hx
  ·exact ⟨ht.1, ht.space⟩
  ·rw [FQ.1 hx]; decide
 unfold lD
 rw [IM (JP ht).1.ascii (by omega), hw, Dd, show ([GC r w, [49, 50]] : List (List UInt8)).map gi = [gi (GC r w), gi [49, 50]] from rfl]
 have := KC ht false
 rw [EN] at this
 rw [this, De, EO, if_pos (by simp)]
 rfl
theorem NI {s : aK} (hs : Gy s) {r : aB} (hr : GR s r) {c : aX} (hc : I7 s c) : ∃ t, qt c r = some t ∧ t.size ≤ 200 := by
 obtain ⟨f, ef, hf, ht⟩ := hc
 have hl := hr.l
 have hv := hr.f f hf
 have hz := NF.size hs.r hv
 unfold qt
 rw [ef, FM, EK, show mk #[] = gi [] from rfl, Em]
 by_cases h0 : r.Values.getD f mt = gi []
 ·rw [Pw h0, if_pos rfl]
  exact ⟨_, rfl, by decide⟩
 ·rw [Pv h0, EN]
  rcases ht with h | h | ⟨h, k⟩ | ⟨h, k⟩ | ⟨h, k⟩ <;> rw [h]
  ·rw [if_pos rfl]
   exact ⟨_, rfl, by omega⟩
  ·rw [EN, EN, if_pos rfl]
   obtain ⟨t, e, hz2⟩ := Lj (r.Values.getD f mt) (n := 1)
   unfold ki
   rw [show (1 : Int) = ((1 : Nat) : Int) from rfl, e]
   exact ⟨t, rfl, by omega⟩
  ·rw [EN, if_pos rfl]
   rcases hv with ⟨_, ws, e, hw, hl⟩ | ⟨k', _⟩ | ⟨k', _⟩ | ⟨k', _⟩
   ·rw [e]
    obtain ⟨t, et, hz2⟩ := NH (fun w h => (hw w h).1) (by omega)
    exact ⟨t, et, by omega⟩
   all_goals (rw [k] at k'; exact absurd k' (by decide))
  ·rw [EN, EN, EN, if_pos rfl]
   obtain ⟨t, e, hz2⟩ := Lj (r.Values.getD f mt) (n := 4)
   unfold km
   rw [show (4 : Int) = ((4 : Nat) : Int) from rfl, e]
   exact ⟨t, rfl, by omega⟩
  ·rw [EN, EN, EN, EN, if_pos rfl]
   rcases hv with ⟨k', _⟩ | ⟨k', _⟩ | ⟨k', _⟩ | ⟨_, w, e, hw⟩
   ·rw [k] at k'; exact absurd k' (by decide)
   ·rw [k] at k'; exact absurd k' (by decide)
   ·rw [k] at k'; exact absurd k' (by decide)
   ·rw [e, MR hs.r hw]
    exact ⟨_, rfl, by decide⟩
theorem LA {s : aK} (hs : Gy s) {r : aB} (hr : GR s r) {k : bz} (hk : I9 s k) (secret : hJ) {i : Nat} (hi : i < 10) : ∃ h ok, lR secret k (i : Int) r = some (h, ok) ∧ 0 ≤ h ∧ h < 18446744073709551616 := by
 have hM : 1000 ≤ bZ := by decide
 have hl := hk.l
 unfold lR
 obtain ⟨t, e, t1, t2⟩ := DG (step := fun v : (List ByteArray) × Int => pg k r v.1 v.2) k.Components.length (fun j s => ∃ l, s = (l, (j : Int)) ∧ l.length = j ∧ ∀ x ∈ l, x.size ≤ 200) (fun l => l.length = k.Components.length ∧ ∀ x ∈ l, x.size ≤ 200) (fun j hj t ht => by
   obtain ⟨l, rfl, l1, l2⟩ := ht
   left
   obtain ⟨x, ex, hx⟩ := NI hs hr (hk.c j hj)
   simp only [pg]
   rw [FM, EQ, EK, EK, ex, Dd, EP, EI (n := (j : Int) + 1) (by omega) (by omega)]
   refine ⟨_, rfl, _, rfl, by simp [l1], fun y hy => ?_⟩
   rcases F2.1 hy with hy | hy
   ·exact l2 y hy
   ·rw [FQ.1 hy]; exact hx) (fun t ht => by
   obtain ⟨l, rfl, l1, l2⟩ := ht
   simp only [pg]
   rw [EO]
   exact ⟨_, rfl, l1, l2⟩) (s := ([], 0)) ⟨[], rfl, rfl, fun x hx => absurd hx Pr⟩
 rw [e, Dd, LJ _ (by omega), Dd]
 split
 ·exact ⟨_, _, rfl, by decide, by decide⟩
 ·obtain ⟨u, eu, hu⟩ := Ly hi
  have h5 : (mk #[98, 108, 111, 99, 107]).size = 5 := rfl
  obtain ⟨k', ek⟩ := Kd secret (s := mk #[98, 108, 111, 99, 107] ++ u) (by rw [ByteArray.size_append]; omega)
  obtain ⟨v, ev, v0, v1⟩ := Lg k' (L := t) (by omega) (fun j hj => Ga (t2 _ (GJ mt hj)) (by decide))
  rw [eu, Dd, EK, ek, Dd, ev, Dd]
  exact ⟨_, _, rfl, v0, v1⟩
theorem M7 {secret : hJ} {k : bz} {i : Int} {a b : aB} (h : a.Values = b.Values) : lR secret k i a = lR secret k i b := by
 have : pg k a = pg k b := by
  funext x y
  unfold pg qt
  rw [h]
 unfold lR
 rw [this]
theorem NJ {s : aK} (hs : Gy s) {r : aB} (hr : GR s r) {l : List bz} (hk : Ic s l) (secret : hJ) {i : Nat} (hi : i < l.length) : ∃ h ok, uD s secret l (i : Int) r = some (h, ok, 0) ∧ lR secret (l.getD i dQ) (i : Int) r = some (h, ok) := by
 have hn := hk.n
 obtain ⟨h, ok, e, _⟩ := LA hs hr (hk.k i hi) secret (i := i) (by omega)
 unfold uD p9 kV
 rw [K5 hs hk, Dd, EN, ER, ER, Dd, EN, Lu hs hr, Dd, EN, EK, EK, FM, e]
 exact ⟨h, ok, rfl, rfl⟩
abbrev GG (l : List aH) (i : Nat) : aH := l.getD i aE
theorem MB (b : aH) (h : Int) : kM b h = some (if b.Hash < h then -1 else if b.Hash > h then 1 else 0) := by
 unfold kM oS kY
 simp only [Dd, bne_self_eq_false]
 rw [EN, EN]
 by_cases h1 : b.Hash < h
 ·rw [if_pos (by simpa using h1), if_pos h1]; rfl
 ·rw [if_neg (by simpa using h1), if_neg h1]
  by_cases h2 : b.Hash > h
  ·rw [if_pos (by simpa using h2), if_pos h2]; rfl
  ·rw [if_neg (by simpa using h2), if_neg h2]; rfl
theorem M8 {l : List aH} (hn : l.length ≤ 100) (hs : ∀ i j, i < j → j < l.length → (GG l i).Hash < (GG l j).Hash) (h : Int) : ∃ at_ : Nat, ∃ there : Bool, nC l h = some ((at_ : Int), there) ∧ at_ ≤ l.length ∧ (∀ i, i < at_ → (GG l i).Hash < h) ∧ (∀ i, at_ ≤ i → i < l.length → h ≤ (GG l i).Hash) ∧ (there = true ↔ at_ < l.length ∧ (GG l at_).Hash = h) := by
 unfold nC
 obtain ⟨t, e, k, rfl, hk, k1, k2⟩ := DV (step := fun v : Int × Int => nz l h v.1 v.2) (fun s => ∃ a b : Nat, s = ((a : Int), (b : Int)) ∧ a ≤ b ∧ b ≤ l.length ∧ (∀ i, i < a → (GG l i).Hash < h) ∧ ∀ i, b ≤ i → i < l.length → h ≤ (GG l i).Hash) (fun s => (s.2 - s.1).toNat) (fun t => ∃ a : Nat, t = (a : Int) ∧ a ≤ l.length ∧ (∀ i, i < a → (GG l i).Hash < h) ∧ ∀ i, a ≤ i → i < l.length → h ≤ (GG l i).Hash) (by
   rintro s ⟨a, b, rfl, hab, hb, h1, h2⟩
   simp only [nz]
   by_cases hlt : a < b
   ·left
    rw [EQ, EI (n := (a : Int) + b) (by omega) (by omega), EJ (n := (a : Int) + b) (by omega) (by omega), O9, EI (n := ((a : Int) + b) / 2) (by omega) (by omega), Dd]
    obtain ⟨m, hm⟩ : ∃ m : Nat, ((a : Int) + b) / 2 = m := ⟨(((a : Int) + b) / 2).toNat, by omega⟩
    rw [hm, FM, EK, EK, MB, Dd]
    by_cases hc : (GG l m).Hash < h
    ·rw [if_pos hc, EM, EI (n := (m : Int) + 1) (by omega) (by omega)]
     refine ⟨_, rfl, ⟨m + 1, b, rfl, by omega, hb, fun i hi => ?_, h2⟩, by simp only; omega⟩
     by_cases hi2 : i = m
     ·rw [hi2]; exact hc
     ·exact Int.lt_trans (hs i m (by omega) (by omega)) hc
    ·rw [if_neg hc, if_neg (by split <;> decide)]
     refine ⟨_, rfl, ⟨a, m, rfl, by omega, by omega, h1, fun i hi hil => ?_⟩, by simp only; omega⟩
     by_cases hi2 : i = m
     ·rw [hi2]; omega
     ·have := hs m i (by omega) hil; omega
   ·right
    rw [ER]
    exact ⟨_, rfl, a, rfl, by omega, h1, fun i hi => h2 i (by omega)⟩) (0, (l.length : Int)) ⟨0, l.length, rfl, by omega, by omega, fun i hi => absurd hi (Px _), fun i hi h => by omega⟩
 rw [e, Dd]
 unfold kb
 by_cases hkl : k < l.length
 ·rw [EQ, EK, EK, FM, MB, Dd]
  refine ⟨k, _, rfl, hk, k1, k2, ?_⟩
  have g := k2 k (F9 _) hkl
  simp only [GG] at g ⊢
  rw [EL]
  constructor
  ·intro hb
   refine ⟨hkl, ?_⟩
   split at hb
   ·cases hb
   ·omega
  ·rintro ⟨_, hb⟩
   rw [EL]
   rfl
 ·rw [ER]
  exact ⟨k, false, rfl, hk, k1, k2, ⟨fun h => absurd h (by decide), fun h => absurd h.1 hkl⟩⟩
structure Gz (L : List aH) (P : Int → Int → Prop) (n : Int) (m : Nat) : Prop where
 asc : L.Pairwise fun a b => a.Hash < b.Hash
 ne : ∀ b ∈ L, b.IDs ≠ []
 ida : ∀ b ∈ L, b.IDs.Pairwise (· < ·)
 rng : ∀ x ∈ allI L, 1 ≤ x ∧ x < n
 nod : (allI L).Nodup
 tot : cm L ≤ m
 mem : ∀ h id, (∃ b ∈ L, b.Hash = h ∧ id ∈ b.IDs) ↔ P h id
theorem Kt (A B : List aH) : allI (A ++ B) = allI A ++ allI B := PH
theorem Ku (A B : List aH) : cm (A ++ B) = cm A + cm B := by simp [cm]
theorem Gz.put {A C : List aH} {o : List Int} {h : Int} {P : Int → Int → Prop} {n : Int} {m : Nat} {t : Bool} (ht : t = false → o = []) (H : Gz (A ++ ((if t = true then [⟨h, o⟩] else []) ++ C)) P n m) (hA : ∀ b ∈ A, b.Hash < h) (hC : ∀ b ∈ C, h < b.Hash) {id : Int} (h1 : 1 ≤ id) (hid : n ≤ id) :
  Gz (A ++ (⟨h, o ++ [id]⟩ :: C)) (fun h' id' => P h' id' ∨ h' = h ∧ id' = id) (id + 1) (m + 1) := by
 have hall : allI (A ++ ((if t = true then [⟨h, o⟩] else []) ++ C)) = allI A ++ (o ++ allI C) := by
  rw [Kt, Kt]
  cases t with
  | true => simp [allI]
  | false => rw [ht rfl]; simp [allI]
 have hall2 : allI (A ++ (⟨h, o ++ [id]⟩ :: C)) = allI A ++ ((o ++ [id]) ++ allI C) := by
  rw [Kt]
  simp [allI]
 have hr := H.rng
 have hn := H.nod
 rw [hall] at hr hn
 obtain ⟨p1, p2, p3⟩ := List.pairwise_append.1 H.asc
 have pC : C.Pairwise fun a b => a.Hash < b.Hash := (List.pairwise_append.1 p2).2.1
 have ho : o.Pairwise (· < ·) := by
  cases t with
  | true => exact H.ida ⟨h, o⟩ (by simp)
  | false => rw [ht rfl]; exact List.Pairwise.nil
 have hnew : id ∉ allI A ++ (o ++ allI C) := fun hm => by have := (hr id hm).2; omega
 refine ⟨?_, fun b hb => ?_, fun b hb => ?_, fun x hx => ?_, ?_, ?_, fun h' id' => ?_⟩
 ·refine List.pairwise_append.2 ⟨p1, Py.2 ⟨fun b hb => hC b hb, pC⟩, fun a ha b hb => ?_⟩
  rcases F1.1 hb with rfl | hb
  ·exact hA a ha
  ·exact Int.lt_trans (hA a ha) (hC b hb)
 ·rcases F2.1 hb with hb | hb
  ·exact H.ne b (by simp [hb])
  ·rcases F1.1 hb with rfl | hb
   ·simp
   ·exact H.ne b (by simp [hb])
 ·rcases F2.1 hb with hb | hb
  ·exact H.ida b (by simp [hb])
  ·rcases F1.1 hb with rfl | hb
   ·refine List.pairwise_append.2 ⟨ho, List.pairwise_singleton _ _, fun a ha b hb => ?_⟩
    rw [FQ.1 hb]
    have := (hr a (by simp [ha])).2
    omega
   ·exact H.ida b (by simp [hb])
 ·rw [hall2] at hx
  by_cases he : x = id
  ·omega
  ·have : x ∈ allI A ++ (o ++ allI C) := by
    simp only [F2, FQ] at hx ⊢
    rcases hx with hx | (hx | hx) | hx
    ·exact .inl hx
    ·exact .inr (.inl hx)
    ·exact absurd hx he
    ·exact .inr (.inr hx)
   have := hr x this
   omega
 ·rw [hall2]
  have hp : (allI A ++ ((o ++ [id]) ++ allI C)).Perm (id :: (allI A ++ (o ++ allI C))) := by
   refine (List.Perm.append_left _ (?_ : ((o ++ [id]) ++ allI C).Perm (id :: (o ++ allI C)))).trans List.perm_middle
   rw [F7]
   exact List.perm_middle
  exact hp.nodup_iff.2 (List.nodup_cons.2 ⟨hnew, hn⟩)
 ·have h0 := H.tot
  rw [Ku, Ku] at h0
  rw [Ku]
  have e : cm (⟨h, o ++ [id]⟩ :: C) = o.length + 1 + cm C := by simp [cm]
  have e2 : o.length ≤ cm (if t = true then [(⟨h, o⟩ : aH)] else []) := by
   cases t with
   | true => simp [cm]
   | false => rw [ht rfl]; simp
  omega
 ·have hm := H.mem h' id'
  constructor
  ·rintro ⟨b, hb, rfl, hi⟩
   rcases F2.1 hb with hb | hb
   ·exact .inl (hm.1 ⟨b, by simp [hb], rfl, hi⟩)
   ·rcases F1.1 hb with rfl | hb
    ·rcases F2.1 hi with hi | hi
     ·left
      cases t with
      | true => exact hm.1 ⟨⟨h, o⟩, by simp, rfl, hi⟩
      | false => rw [ht rfl] at hi; cases hi
     ·exact .inr ⟨rfl, FQ.1 hi⟩
    ·exact .inl (hm.1 ⟨b, by simp [hb], rfl, hi⟩)
  ·rintro (hp | ⟨rfl, rfl⟩)
   ·obtain ⟨b, hb, e, hi⟩ := hm.2 hp
    rcases F2.1 hb with hb | hb
    ·exact ⟨b, by simp [hb], e, hi⟩
    ·rcases F2.1 hb with hb | hb
     ·cases t with
      | true =>
       rw [if_pos rfl] at hb
       rw [FQ.1 hb] at e hi
       exact ⟨⟨h, o ++ [id]⟩, by simp, e, by simp [hi]⟩
      | false => rw [EN] at hb; cases hb
     ·exact ⟨b, by simp [hb], e, hi⟩
   ·exact ⟨⟨h', o ++ [id']⟩, by simp, rfl, by simp⟩
theorem Gz.len {L : List aH} {P n m} (H : Gz L P n m) : L.length ≤ m := by
 have : ∀ l : List aH, (∀ b ∈ l, b.IDs ≠ []) → l.length ≤ cm l := by
  intro l
  induction l with
  | nil => intro _; exact F9 _
  | cons x l ih =>
   intro h
   have h1 := ih fun y hy => h y (F0 _ hy)
   have h2 := List.length_pos_iff.2 (h x FZ)
   simp only [cm, Gr, PK, FN] at h1 ⊢
   omega
 exact Ga (this L H.ne) H.tot
theorem Gz.lt {L : List aH} {P n m} (H : Gz L P n m) : ∀ i j, i < j → j < L.length → (GG L i).Hash < (GG L j).Hash := by
 intro i j hij hj
 have := List.pairwise_iff_getElem.1 H.asc i j (by omega) hj hij
 unfold GG
 rw [FI, FI, FJ (show i < L.length by omega), FJ hj]
 exact this
theorem Gz.more {L : List aH} {P Q : Int → Int → Prop} {n n' : Int} {m m' : Nat} (H : Gz L P n m) (hn : n ≤ n') (hm : m ≤ m') (h : ∀ a b, P a b ↔ Q a b) : Gz L Q n' m' :=
 ⟨H.asc, H.ne, H.ida, fun x hx => by have := H.rng x hx; omega, H.nod, Ga H.tot hm, fun a b => (H.mem a b).trans (h a b)⟩
theorem N5 {L : List aH} {P n m} (H : Gz L P n m) (hm : m ≤ 90) {k : hJ} {bk : bz} {i : Int} {r : aB} {h : Int} {ok : Bool} (e : lR k bk i r = some (h, ok)) (h1 : 1 ≤ r.ID) (hid : n ≤ r.ID) : ∃ L', m9 k bk i L r = some L' ∧ Gz L' (fun h' id' => P h' id' ∨ ok = true ∧ h' = h ∧ id' = r.ID) (r.ID + 1) (m + 1) := by
 have hl := H.len
 unfold m9
 rw [e, De]
 cases ok with
 | false =>
  rw [EN]
  exact ⟨L, rfl, H.more (by omega) (by omega) fun a b => by simp⟩
 | true =>
  rw [if_pos rfl]
  obtain ⟨at_, there, eb, b1, b2, b3, b4⟩ := M8 (by omega) H.lt h
  rw [eb, De, EK, FM]
  have hA : ∀ b ∈ L.take at_, b.Hash < h := fun b hb => by
   obtain ⟨j, hj, rfl⟩ := PD.1 hb
   rw [FR] at hj
   have := b2 j (by omega)
   unfold GG at this
   rw [FI, FJ (show j < L.length by omega)] at this
   rw [List.getElem_take]
   exact this
  have hC : ∀ q, at_ ≤ q → (∀ j, q ≤ j → j < L.length → h < (GG L j).Hash) → ∀ b ∈ L.drop q, h < b.Hash := fun q hq hh b hb => by
   obtain ⟨j, hj, rfl⟩ := PD.1 hb
   rw [FU] at hj
   have := hh (q + j) (by omega) (by omega)
   unfold GG at this
   rw [FI, FJ (show q + j < L.length by omega)] at this
   rw [List.getElem_drop]
   exact this
  cases there with
  | true =>
   obtain ⟨c1, c2⟩ := b4.1 rfl
   have hb : L[at_]? = some ⟨h, (GG L at_).IDs⟩ := by
    rw [FJ c1]
    unfold GG at c2 ⊢
    rw [FI, FJ c1] at c2 ⊢
    rw [← c2]
    rfl
   have hsp : L = L.take at_ ++ ((if true = true then [⟨h, (GG L at_).IDs⟩] else []) ++ L.drop (at_ + 1)) := by
    rw [if_pos rfl]
    conv => lhs; rw [← Ge at_ L, List.drop_eq_getElem_cons c1]
    rw [FJ c1] at hb
    rw [am hb]
    rfl
   have hput := Gz.put (t := true) (fun h => by cases h) (hsp ▸ H) hA (hC (at_ + 1) (by omega) fun j hj hjl => by have := H.lt at_ j (by omega) hjl; omega) h1 hid
   unfold xi
   rw [if_pos rfl, hb]
   refine ⟨_, rfl, ?_⟩
   rw [List.set_eq_take_append_cons_drop, if_pos c1]
   exact hput.more (by omega) (by omega) fun a b => by simp
  | false =>
   have hne : ∀ j, at_ ≤ j → j < L.length → h < (GG L j).Hash := fun j hj hjl => by
    have g := b3 j hj hjl
    by_cases hja : j = at_
    ·subst hja
     have : ¬ (GG L j).Hash = h := fun hh => by have := b4.2 ⟨hjl, hh⟩; cases this
     omega
    ·have g2 := b3 at_ (F9 _) (by omega)
     have := H.lt at_ j (by omega) hjl
     omega
   have hsp : L = L.take at_ ++ ((if false = true then [⟨h, []⟩] else []) ++ L.drop at_) := by
    rw [EN, Gf, Ge]
   have hput := Gz.put (t := false) (o := []) (fun _ => rfl) (hsp ▸ H) hA (hC at_ (F9 _) hne) h1 hid
   unfold xi dH
   have htl : (L.take at_).length = at_ := by rw [FR]; omega
   rw [EN, F7, F4 (by omega), htl, Nat.sub_self]
   simp only [List.cons_append, Gf, List.getElem?_cons_zero]
   rw [List.set_append_right _ _ (by omega), htl, Nat.sub_self, List.set_cons_zero]
   exact ⟨_, rfl, hput.more (by omega) (by omega) fun a b => by simp⟩
theorem Gz.good {L : List aH} {P n m} (H : Gz L P n m) (hm : m ≤ 64) (hn : n ≤ 1048577) : xc L := by
 have hg : ∀ i, i < L.length → L.getD i aE ∈ L := fun i hi => GJ _ hi
 refine ⟨by have := H.tot; omega, fun i hi => H.ne _ (hg i hi), fun i hi => H.lt i (i + 1) (by omega) hi, fun x hx => by have := H.rng x hx; omega, fun i hi j hj => ?_, H.nod⟩
 have := List.pairwise_iff_getElem.1 (H.ida _ (hg i hi)) j (j + 1) (by omega) hj (by omega)
 rw [FI (i := j), FI (i := j + 1), FJ (show j < _ by omega), FJ hj]
 exact this
theorem LS {k : hJ} {bk : bz} {i : Int} {N : Int} : ∀ (l : List aB) (L : List aH) (P : Int → Int → Prop) (n : Int) (m : Nat), Gz L P n m → m + l.length ≤ 64 → n ≤ N → (∀ r ∈ l, n ≤ r.ID ∧ 1 ≤ r.ID ∧ r.ID < N) → (l.Pairwise fun a b => a.ID < b.ID) → (∀ r ∈ l, ∃ h ok, lR k bk i r = some (h, ok)) → ∃ L', l.foldlM (m9 k bk i) L = some L' ∧ Gz L' (fun h id => P h id ∨ ∃ r ∈ l, r.ID = id ∧ lR k bk i r = some (h, true)) N 64
 | [], L, P, n, m, H, hm, hN, h1, h2, h3 => ⟨L, rfl, H.more hN (by simp only [FP] at hm; omega) fun a b => by simp⟩
 | r :: l, L, P, n, m, H, hm, hN, h1, h2, h3 => by
  obtain ⟨g1, g2, g3⟩ := h1 r FZ
  obtain ⟨q1, q2⟩ := Py.1 h2
  obtain ⟨h, ok, e⟩ := h3 r FZ
  simp only [FN] at hm
  obtain ⟨L1, e1, H1⟩ := N5 H (by omega) e g2 g1
  obtain ⟨L2, e2, H2⟩ := LS (N := N) l L1 _ (r.ID + 1) (m + 1) H1 (by omega) (by omega) (fun x hx => by have := h1 x (F0 _ hx); have := q1 x hx; omega) q2 fun x hx => h3 x (F0 _ hx)
  refine ⟨L2, by rw [List.foldlM_cons, e1]; exact e2, H2.more (Int.le_refl _) (F9 _) fun a b => ?_⟩
  simp only [F1, exists_eq_or_imp, e, FL, FV]
  constructor
  ·rintro ((hp | ⟨rfl, rfl, rfl⟩) | hp)
   ·exact .inl hp
   ·exact .inr (.inl ⟨rfl, rfl, rfl⟩)
   ·exact .inr (.inr hp)
  ·rintro (hp | ⟨rfl, rfl, rfl⟩ | hp)
   ·exact .inl (.inl hp)
   ·exact .inl (.inr ⟨rfl, rfl, rfl⟩)
   ·exact .inr hp
theorem Qw (x q : Nat) : x &&& 2 ^ q ≠ 0 ↔ x.testBit q = true := by
 constructor
 ·intro h
  cases hb : x.testBit q with
  | true => rfl
  | false =>
   refine absurd (Nat.eq_of_testBit_eq fun i => ?_) h
   rw [Nat.testBit_and, Nat.testBit_two_pow, Nat.zero_testBit]
   by_cases hi : q = i
   ·rw [← hi, hb, Bool.false_and]
   ·rw [Pv hi, Bool.and_false]
 ·intro h e
  have := congrArg (fun y => y.testBit q) e
  simp only [Nat.testBit_and, h, Nat.testBit_two_pow_self, Nat.zero_testBit] at this
  cases this
theorem Me {X Y : List (List aH)} {q : Nat} (hq : q < X.length) {c : kk} : c ∈ G2 X Y (2 ^ q) ↔ ∃ x ∈ X.getD q [], ∃ y ∈ Y.getD q [], x.Hash = y.Hash ∧ c.A ∈ x.IDs ∧ c.B ∈ y.IDs := by
 have he : (q, c) ∈ GF X Y X.length ↔ ∃ x ∈ X.getD q [], ∃ y ∈ Y.getD q [], x.Hash = y.Hash ∧ c.A ∈ x.IDs ∧ c.B ∈ y.IDs := by
  simp only [GF, Ju, Iy, Ie, PC, List.mem_range]
  constructor
  ·rintro ⟨i, hi, x, hx, y, hy, h⟩
   split at h
   ·simp only [PC, Pz, FV] at h
    obtain ⟨s, hs, t, ht, rfl, rfl⟩ := h
    exact ⟨x, hx, y, hy, by assumption, hs, ht⟩
   ·cases h
  ·rintro ⟨x, hx, y, hy, h, hs, ht⟩
   refine ⟨q, hq, x, hx, y, hy, ?_⟩
   rw [if_pos h]
   simp only [PC, Pz, FV]
   exact ⟨c.A, hs, c.B, ht, by simp⟩
 rw [G2, Km, List.mem_filter, ← he, Pu, Qw, L0, Pu]
 exact ⟨fun h => h.2, fun h => ⟨Pz.2 ⟨_, h, rfl⟩, h⟩⟩
def Hk (k : hJ) (bk : bz) (i : Int) (l : List aB) (h id : Int) : Prop := ∃ r ∈ l, r.ID = id ∧ lR k bk i r = some (h, true)
theorem OC {s : aK} {l : List aB} (h : IX s l) : l.Pairwise fun a b => a.ID < b.ID := by
 refine List.pairwise_iff_getElem.2 fun i j hi hj hij => ?_
 have : ∀ d : Nat, i + d < l.length → (recD l i).ID ≤ (recD l (i + d)).ID := fun d => by
  induction d with
  | zero => intro _; exact Int.le_refl _
  | succ d ih => intro hd; exact Int.le_trans (ih (by omega)) (Int.le_of_lt (h.up (i + d) (by omega)))
 have h1 := this (j - 1 - i) (by omega)
 have h2 := h.up (j - 1) (by omega)
 rw [show i + (j - 1 - i) = j - 1 by omega] at h1
 rw [show j - 1 + 1 = j by omega] at h2
 unfold recD at h1 h2
 rw [FI, FI, FJ hi, FJ (show j - 1 < l.length by omega)] at h1
 rw [FI, FI, FJ hj, FJ (show j - 1 < l.length by omega)] at h2
 exact Int.lt_of_le_of_lt h1 h2
theorem M9 {s : aK} (hs : Gy s) {l : List aB} (hl : IX s l) {ks : List bz} (hk : Ic s ks) (secret : hJ) {q : Nat} (hq : q < ks.length) : ∃ L, pK secret (ks.getD q dQ) (q : Int) l = some L ∧ Gz L (Hk secret (ks.getD q dQ) (q : Int) l) 1048577 64 := by
 have hn := hl.n
 have hkn := hk.n
 have hr : ∀ r ∈ l, GR s r := fun r h => by
  obtain ⟨j, hj, rfl⟩ := PD.1 h
  have := hl.ok j hj
  unfold recD at this
  rwa [FI, FJ hj] at this
 unfold pK
 rw [EK]
 obtain ⟨L, e, H⟩ := LS (k := secret) (bk := ks.getD q dQ) (i := (q : Int)) (N := 1048577) l [] (fun _ _ => False) 1 0 ⟨List.Pairwise.nil, fun b h => absurd h Pr, fun b h => absurd h Pr, fun x h => absurd h Pr, List.Pairwise.nil, F9 _, fun h id => ⟨fun ⟨b, hb, _⟩ => absurd hb Pr, False.elim⟩⟩ (by omega) (by decide) (fun r h => by have := (hr r h).i; omega) (OC hl) (fun r h => by
  obtain ⟨x, y, e, _⟩ := LA hs (hr r h) (hk.k q hq) secret (i := q) (by omega)
  exact ⟨x, y, e⟩)
 exact ⟨L, e, H.more (Int.le_refl _) (F9 _) fun a b => by simp [Hk]⟩
theorem Mr {n : Nat} (h : n ≤ 8) : dl .i64 1 (n : Int) = ((2 ^ n : Nat) : Int) := by
 have : ∀ n : Fin 9, dl .i64 1 ((n : Nat) : Int) = ((2 ^ (n : Nat) : Nat) : Int) := by decide
 exact this ⟨n, by omega⟩
theorem N6 : pi ([0, 0] : List Int) = some 0 := by
 unfold pi
 rw [DF (fun i => (i : Int)) 2 (.inl ()) (fun i hi => by
   simp only [tD]
   have hz : ([0, 0] : List Int).getD i 0 = 0 := by
    rcases (show i = 0 ∨ i = 1 by omega) with rfl | rfl <;> rfl
   rw [FM, hz, if_pos (by simp only [Pu, FN, FP]; omega), EK, if_pos (by simp only [FN, FP]; omega), EN, EI (n := (i : Int) + 1) (by omega) (by omega)]
   rfl) (by
   simp only [tD]
   rw [EN]) (by rfl)]
 rfl
theorem Na {X Y : List (List aH)} (h : HS X Y) {q : Nat} (hq : q < X.length) : IJ X Y ((2 ^ q : Nat) : Int) = some 0 := by
 have hl := h.len
 have h8 := h.len8
 unfold IJ lF
 rw [if_neg (by simp only [bne_iff_ne, ne_eq]; omega), ER, DF (fun i => (i : Int)) X.length (.inl ()) (fun i hi => by
   have e1 : me (X.getD i []) = some 0 := if_pos (h.g0 i hi)
   have e2 : me (Y.getD i []) = some 0 := if_pos (h.g1 i hi)
   simp only [ut]
   rw [FM, EQ, EK, EK, e1, Dd, EK, e2, Dd, N6, Dd, EN, EI (n := (i : Int) + 1) (by omega) (by omega)]
   rfl) (by
   simp only [ut]
   rw [EO]) (by simp)]
 rw [D6]
 have hp : 2 ^ q < 2 ^ X.length := Nat.pow_lt_pow_right (by decide) hq
 unfold qa lE
 rw [Mr h8]
 generalize 2 ^ q = u at hp ⊢
 generalize 2 ^ X.length = v at hp ⊢
 rw [ER, EK, ER]
theorem NK {X Y : List (List aH)} (h : HS X Y) {q : Nat} (hq : q < X.length) : Jj X Y ((2 ^ q : Nat) : Int) = some (G2 X Y (2 ^ q), 0) := by
 have h8 := h.len8
 have hp : 2 ^ q < 2 ^ 8 := Nat.pow_lt_pow_right (by decide) (by omega)
 have hc := Na h hq
 unfold Jj
 generalize 2 ^ q = u at hp hc ⊢
 rw [if_pos ⟨hc, h, by omega, by omega⟩, FM]
theorem LU {s : aK} (hs : Gy s) {l : List aB} (hl : IX s l) {ks : List bz} (hk : Ic s ks) (secret : hJ) : ∃ L, uO s secret ks l = some (L, 0) ∧ L.length = ks.length ∧ ∀ q, q < ks.length → Gz (L.getD q []) (Hk secret (ks.getD q dQ) (q : Int) l) 1048577 64 := by
 have hn := hk.n
 unfold uO
 obtain ⟨t, e, h1, h2⟩ := DG (step := fun v : (List (List aH)) × Int => pL secret ks l v.1 v.2) ks.length (fun i t => ∃ L, t = (L, (i : Int)) ∧ L.length = i ∧ ∀ q, q < i → Gz (L.getD q []) (Hk secret (ks.getD q dQ) (q : Int) l) 1048577 64) (fun L => L.length = ks.length ∧ ∀ q, q < ks.length → Gz (L.getD q []) (Hk secret (ks.getD q dQ) (q : Int) l) 1048577 64) (fun i hi t ht => by
   obtain ⟨L, rfl, hL, hb⟩ := ht
   left
   obtain ⟨B, e, hB⟩ := M9 hs hl hk secret hi
   simp only [pL]
   rw [FM, EQ, EK, EK, e, Dd, EP, EI (n := (i : Int) + 1) (by omega) (by omega)]
   refine ⟨_, rfl, _, rfl, by simp [hL], fun q hq => ?_⟩
   rw [G0 _ _ (by omega), hL]
   split
   ·exact hb q (by assumption)
   ·rw [show q = i by omega]
    exact hB) (fun t ht => by
   obtain ⟨L, rfl, hL, hb⟩ := ht
   simp only [pL]
   rw [EO]
   exact ⟨_, rfl, hL, hb⟩) (s := ([], 0)) ⟨[], rfl, rfl, fun q hq => absurd hq (Px _)⟩
 rw [K5 hs hk, Dd, EN, Oy hs hl, Dd, EN, e, Dd]
 exact ⟨t, rfl, h1, h2⟩
def G8 : aY := ⟨[gi [100, 114]], [], []⟩
def Po : List ar := [⟨gi [103, 105, 118, 101, 110], 1⟩, ⟨gi [98, 105, 114, 116, 104], 2⟩]
def Hn : aK := ⟨Po, G8⟩
def KY : List aC := [⟨64, 2, -1⟩, ⟨128, 3, 0⟩]
theorem KJ : Gv G8 := ⟨.inr (.inr rfl), .inl rfl, .inl rfl⟩
theorem HQ {p : Nat → Prop} (h0 : p 0) (h1 : p 1) : ∀ i, i < 2 → p i := fun i hi => by
 rcases (show i = 0 ∨ i = 1 by omega) with rfl | rfl
 ·exact h0
 ·exact h1
theorem JW : Gy Hn := by
 refine ⟨KJ, by decide, by decide, HQ ?_ ?_, fun i j hij hj => ?_, HQ ⟨by decide, by decide⟩ ⟨by decide, by decide⟩⟩
 ·exact IP (l := [103, 105, 118, 101, 110]) (by decide) (by unfold HY; decide) (by decide)
 ·exact IP (l := [98, 105, 114, 116, 104]) (by decide) (by unfold HY; decide) (by decide)
 ·have hj : j < 2 := hj
  rw [show i = 0 by omega, show j = 1 by omega]
  intro h
  have := (Ec (a := [103, 105, 118, 101, 110]) (b := [98, 105, 114, 116, 104])).1 h
  exact absurd this (by decide)
theorem OY : Iu 2 KY := ⟨rfl, HQ ⟨by decide, by decide, by decide⟩ ⟨by decide, by decide, by decide⟩⟩
theorem Ms : tw [100, 114] := He _ (by decide)
theorem KL : tw [97, 110, 110] := He _ (by decide)
theorem OD : GD G8 [[100, 114], [97, 110, 110]] = GD G8 [[97, 110, 110]] := by
 have : G7 G8 [100, 114] = none := by
  unfold G7
  rw [Ms.filter, EN, if_pos (Kx.2 (show gi [100, 114] ∈ G8.Titles from FQ.2 rfl))]
 unfold GD
 rw [List.filterMap_cons, this]
noncomputable def Io : List ByteArray := [gi (dE (GD G8 [[97, 110, 110]])), gi (G4 20 0 2 3)]
theorem Mt {ws : List (List UInt8)} (h : ws = [[100, 114], [97, 110, 110]] ∨ ws = [[97, 110, 110]]) : (∀ w ∈ ws, tw w) ∧ ws.length ≤ 6 := by
 rcases h with rfl | rfl
 ·refine ⟨fun w hw => ?_, by decide⟩
  rcases F1.1 hw with rfl | hw
  ·exact Ms
  ·rw [FQ.1 hw]; exact KL
 ·exact ⟨fun w hw => by rw [FQ.1 hw]; exact KL, by decide⟩
theorem Mf {l : List UInt8} (hp : GB l) (hn : l.length ≤ 64) (h0 : l ≠ []) (h : Gt (rc l) = [[100, 114], [97, 110, 110]] ∨ Gt (rc l) = [[97, 110, 110]]) : Hv G8 1 (gi l) (gi (dE (GD G8 [[97, 110, 110]]))) := by
 obtain ⟨t1, t2⟩ := Mt h
 have e := L8 KJ hp hn rfl t1 t2
 refine ⟨fun e => h0 (Ec.1 e), .inl ⟨rfl, ?_⟩⟩
 rw [e]
 rcases h with h | h <;> rw [h]
 rw [OD]
theorem Mg (f : Nat) : Hv G8 2 (gi (wr 20 0 2 3 f)) (gi (G4 20 0 2 3)) := ⟨Mq _ _ _ _ f, .inr (.inl ⟨rfl, Ml _ (by omega) (by omega) (by omega) (by omega) f⟩)⟩
theorem Mu : ∀ i, i < 2 → NF G8 (fld Hn i).Kind (Io.getD i mt) := by
 refine HQ (.inl ⟨rfl, _, rfl, KG KJ (Mt (.inr rfl)).1, Ga (List.length_filterMap_le _ _) (by decide)⟩) (.inr (.inl ⟨rfl, 20, 0, 2, 3, rfl, by decide, by decide, by decide, by decide, by decide⟩))
theorem Pe : gC Hn 1 1 ([(mk #[68, 114, 46, 32, 65, 110, 110]), (mk #[50, 48, 48, 48, 45, 48, 50, 45, 48, 51])] : aj) = some (⟨1, 1, Io⟩, 0) :=
 JJ JW (by decide) (by decide) rfl rfl (HQ (Mf (l := [68, 114, 46, 32, 65, 110, 110]) (by unfold GB; decide) (by decide) (by decide) (.inl (by decide))) (Mg 0))
theorem Pf : gC Hn 8 2 ([(mk #[65, 78, 78]), (mk #[48, 51, 46, 48, 50, 46, 50, 48, 48, 48])] : aj) = some (⟨8, 2, Io⟩, 0) :=
 JJ JW (by decide) (by decide) rfl rfl (HQ (Mf (l := [65, 78, 78]) (by unfold GB; decide) (by decide) (by decide) (.inr (by decide))) (Mg 1))
theorem LB : uN = some true := by
 have ra : GR Hn ⟨1, 1, Io⟩ := ⟨by decide, by decide, rfl, Mu⟩
 have rb : GR Hn ⟨8, 2, Io⟩ := ⟨by decide, by decide, rfl, Mu⟩
 obtain ⟨u, v, c, e1, e2, e3, hc⟩ := Lz JW OY ⟨5, 0⟩ ra rb rfl
 have hl : c.length = 2 := hc.l
 have hv : ∀ j, j < 2 → bsD Io j ≠ gi [] := by
  refine HQ (fun h => ?_) (fun h => ?_)
  ·have h1 := Ec.1 h
   have h2 : GD G8 [[97, 110, 110]] = [[97, 110, 110]] := by
    have : G7 G8 [97, 110, 110] = some [97, 110, 110] := by
     unfold G7
     rw [KL.filter, EN, JM (fun h => by
      have := Ec.1 (FQ.1 h)
      exact absurd this (by decide)), EN]
     rfl
    unfold GD
    rw [List.filterMap_cons, this]
    rfl
   rw [h2] at h1
   exact absurd h1 (by decide)
  ·exact absurd (Ec.1 h) (by decide)
 have hp := K7 (ts := [800, 800]) (n := 2) (by decide) (by decide) rfl (HQ (by decide) (by decide)) hc
 have hd : GI (GL Io) 2 = 8 := by
  have g : ∀ j, j < 2 → GL Io j = 2 := fun j hj => if_neg (hv j hj)
  simp only [GI, g 0 (by decide), g 1 (by decide)]
  decide
 have h0 : c.getD 0 0 = 1000 := by
  rcases hc.f 0 (by decide) with h | h
  ·exact absurd h.1 (hv 0 (by decide))
  ·exact h.2
 have es := HH JW
 unfold uN
 change aM (gC Hn 1 1 _) _ = _
 rw [Pe, De]
 change aM (gC Hn 8 2 _) _ = _
 rw [Pf, De]
 change aM (lM Hn KY _ _) _ = _
 rw [e1, De]
 change aM (lM Hn KY _ _) _ = _
 rw [e2, De, e3, De, hp, De, EM, EM, EM, EM, EM, EM, hl, EM, EM, Gg, h0, EM, hd, EM]
 change (dz Hn).bind _ = _
 rw [es, Dd]
 rfl
open AW (block exit ret seq skip)
set_option maxRecDepth 100000
set_option maxHeartbeats 10000000
theorem Iv : Tryz.prog.follows .mixedOrders = true := by kernel_rfl
noncomputable def G9 (x61 : Int) (x65 : Bool) : Option (Int ⊕ (Unit ⊕ Unit)) := if x65 then (some (.inr (.inr ()))) else (some (.inl (i64.wrap (x61 + 1))))
noncomputable def Jb (y7 : aK) (y22 : List aB) (x37 : Int) (y48 : List Int) (y55 : List Int) (x61 : Int) : Option (Int ⊕ (Unit ⊕ Unit)) := if (decide (x61 < (y7.Fields.length : Int))) then (if 0 ≤ x61 then (if x61 < (((y22.getD x37.toNat bg).Values).length : Int) then (if ((((y22.getD x37.toNat bg).Values).getD x61.toNat mt).toList == (mk #[]).toList) then (if x61 < (y48.length : Int) then (if ((y48.getD (0 + x61.toNat) 0) != (-1)) then (G9 x61 true) else (if x61 < (y55.length : Int) then (if ((y55.getD (0 + x61.toNat) 0) != 0) then (G9 x61 true) else (if (!true) then (if ((y48.getD (0 + x61.toNat) 0) != 1000) then (G9 x61 true) else (G9 x61 ((y55.getD (0 + x61.toNat) 0) != 2))) else (G9 x61 false))) else none)) else none) else (if (!false) then (if x61 < (y48.length : Int) then (if ((y48.getD (0 + x61.toNat) 0) != 1000) then (G9 x61 true) else (if x61 < (y55.length : Int) then (G9 x61 ((y55.getD (0 + x61.toNat) 0) != 2)) else none)) else none) else (G9 x61 false))) else none) else none) else (some (.inr (.inl ())))
noncomputable def IE (x92 : Int) (x97 : Bool) : Option ((Bool × Int) ⊕ Bool) := some (.inl (x97, i64.wrap (x92 + 1)))
noncomputable def IF (y22 : List aB) (y23 : List aB) (x37 : Int) (y86 : List kk) (x91 : Bool) (x92 : Int) : Option ((Bool × Int) ⊕ Bool) := if (decide (x92 < (y86.length : Int))) then (if 0 ≤ x92 then (if x92 < (y86.length : Int) then (if x91 then (IE x92 true) else (if (((y86.getD x92.toNat G6).A) == ((y22.getD x37.toNat bg).ID)) then (IE x92 (((y86.getD x92.toNat G6).B) == ((y23.getD x37.toNat bg).ID))) else (IE x92 false))) else none) else none) else (some (.inr x91))
noncomputable def IC (x79 : Int) (x101 : Bool) : Option (Int ⊕ (Unit ⊕ Unit)) := if x101 then (some (.inr (.inr ()))) else (some (.inl (i64.wrap (x79 + 1))))
noncomputable def Jc (y7 : aK) (y16 : hJ) (y19 : List bz) (y22 : List aB) (y23 : List aB) (y28 : List (List aH)) (y31 : List (List aH)) (x37 : Int) (x79 : Int) : Option (Int ⊕ (Unit ⊕ Unit)) := if (decide (x79 < (y19.length : Int))) then (ni (uD y7 y16 y19 x79 (y22.getD x37.toNat bg)) fun y81 y82 y83 => (if 0 ≤ x79 then (aM (Jj y28 y31 (dl .i64 1 x79)) fun y86 y87 => ((loop (fun v : Bool × Int => IF y22 y23 x37 y86 v.1 v.2) (false, 0)).bind fun x100 => (if (y83 != 0) then (IC x79 true) else (if (y87 != 0) then (IC x79 true) else (IC x79 (!(x100 == y82))))))) else none)) else (some (.inr (.inl ())))
noncomputable def Jx (x37 : Int) : Option (Int ⊕ (Unit ⊕ Unit)) := some (.inl (i64.wrap (x37 + 1)))
noncomputable def J7 : Option (Int ⊕ (Unit ⊕ Unit)) := some (.inr (.inr ()))
noncomputable def Jy (y7 : aK) (y16 : hJ) (y19 : List bz) (y22 : List aB) (y23 : List aB) (y28 : List (List aH)) (y31 : List (List aH)) (x37 : Int) : Option (Int ⊕ (Unit ⊕ Unit)) := ca (loop (fun v : Int => Jc y7 y16 y19 y22 y23 y28 y31 x37 v) 0) (fun t => Jx x37) (fun t => J7)
noncomputable def J8 : Option (Int ⊕ (Unit ⊕ Unit)) := some (.inr (.inr ()))
noncomputable def Hq (y7 : aK) (y16 : hJ) (y19 : List bz) (y22 : List aB) (y23 : List aB) (y28 : List (List aH)) (y31 : List (List aH)) (x37 : Int) (y48 : List Int) (y55 : List Int) (x58 : Bool) : Option (Int ⊕ (Unit ⊕ Unit)) := if x58 then (some (.inr (.inr ()))) else (ca (loop (fun v : Int => Jb y7 y22 x37 y48 y55 v) 0) (fun t => Jy y7 y16 y19 y22 y23 y28 y31 x37) (fun t => J8))
noncomputable def Jd (y7 : aK) (y10 : List aC) (y13 : hJ) (y16 : hJ) (y19 : List bz) (y22 : List aB) (y23 : List aB) (y28 : List (List aH)) (y31 : List (List aH)) (x37 : Int) : Option (Int ⊕ (Unit ⊕ Unit)) := if (decide (x37 < (y22.length : Int))) then (if 0 ≤ x37 then (if x37 < (y22.length : Int) then (aM (lM y7 y10 y13 (y22.getD x37.toNat bg)) fun y41 y42 => (if x37 < (y23.length : Int) then (aM (lM y7 y10 y13 (y23.getD x37.toNat bg)) fun y45 y46 => (aM (oN y41 y45) fun y48 y49 => (aM (oO (([1000, 900, 1000, 1] : List Int).take ((y7.Fields.length : Int).toNat)) y48) fun y51 y52 => (if 0 + (y7.Fields.length : Int).toNat ≤ ([1000, 900, 1000, 1] : List Int).length then (aM (tT y51 (y7.Fields.length : Int)) fun y55 y56 => (if (y42 != 0) then (Hq y7 y16 y19 y22 y23 y28 y31 x37 y48 y55 true) else (if (y46 != 0) then (Hq y7 y16 y19 y22 y23 y28 y31 x37 y48 y55 true) else (if (y49 != 0) then (Hq y7 y16 y19 y22 y23 y28 y31 x37 y48 y55 true) else (if (y52 != 0) then (Hq y7 y16 y19 y22 y23 y28 y31 x37 y48 y55 true) else (if (y56 != 0) then (Hq y7 y16 y19 y22 y23 y28 y31 x37 y48 y55 true) else (if ((y48.length : Int) != (y7.Fields.length : Int)) then (Hq y7 y16 y19 y22 y23 y28 y31 x37 y48 y55 true) else (Hq y7 y16 y19 y22 y23 y28 y31 x37 y48 y55 ((y55.length : Int) != (y7.Fields.length : Int)))))))))) else none)))) else none)) else none) else none) else (some (.inr (.inl ())))
noncomputable def J9 : Option Bool := some true
noncomputable def Ka : Option Bool := some false
noncomputable def Ip (y7 : aK) (y10 : List aC) (y13 : hJ) (y16 : hJ) (y19 : List bz) (y22 : List aB) (y23 : List aB) (y28 : List (List aH)) (y31 : List (List aH)) (x34 : Bool) : Option Bool := if x34 then (some false) else (ca (loop (fun v : Int => Jd y7 y10 y13 y16 y19 y22 y23 y28 y31 v) 0) (fun t => J9) (fun t => Ka))
noncomputable def IG (p0 : List Int) (x1 : Bool) : Option Bool := if x1 then ((uN).bind fun y3 => (some y3)) else ((uZ p0).bind fun y5 => (aM (tz y5) fun y7 y8 => (aM (td y8 (y7.Fields.length : Int)) fun y10 y11 => (aM (t8 y11) fun y13 y14 => (aM (t8 y14) fun y16 y17 => (aM (tj y17 y7 3) fun y19 y20 => (ni (uo y20 y7 4) fun y22 y23 y24 => (if 0 ≤ (y7.Fields.length : Int) then (if ((y7.Fields.length : Int).toNat) ≤ (([1000, 900, 1000, 1] : List Int).length) then (aM (uO y7 y16 y19 y22) fun y28 y29 => (aM (uO y7 y16 y19 y23) fun y31 y32 => (if (y29 != 0) then (Ip y7 y10 y13 y16 y19 y22 y23 y28 y31 true) else (if (y32 != 0) then (Ip y7 y10 y13 y16 y19 y22 y23 y28 y31 true) else (if ((y28.length : Int) != (y19.length : Int)) then (Ip y7 y10 y13 y16 y19 y22 y23 y28 y31 true) else (Ip y7 y10 y13 y16 y19 y22 y23 y28 y31 ((y31.length : Int) != (y19.length : Int)))))))) else none) else none))))))))
noncomputable def Jz (p0 : List Int) : Option Bool := (uN).bind fun y118 => (if (!y118) then (IG p0 true) else ((uY p0).bind fun y121 => (IG p0 (!y121))))
theorem MF (p0 : List Int) (r : Bool) (h : Jz p0 = some r) : CT 4 [vl 1 aF p0] [] (vb r) [] := by
 refine an ae 0 Tryz.func4 rfl (fun _ _ _ => ?_)
 unfold Jz at h
 refine ah ae [] 1 (seq (seq ?_))
 refine AW.join (ι := Bool) (fun v => ⟨[(0, vl 1 aF p0), (45, vb v)], [], 0⟩) (fun v : Bool => IG p0 v = some r) (fun x1 h => ?_) ?_
 ·unfold IG at h
  refine Fp ?_
  refine Fw h (fun c2 h => ?_) (fun c2 h => ?_)
  ·obtain ⟨y3, e4, h⟩ := ak h
   refine ay ae [(2, vb y3)] 1 [hk (CV y3 e4)] (ret (Fo ?_))
   apply al h (vb y3)
  ·refine skip (Fp ?_)
   obtain ⟨y5, e6, h⟩ := ak h
   refine Fs ae [(3, pX 1 3)] [1] [(1, .box 89 (bl y5))] 3 [hn, hl [] [] 1 (C0 p0 y5 e6)] ?_
   obtain ⟨y7, y8, e9, h⟩ := aO h
   refine Fs ae [(4, pX 8 4)] [1, 4, 5, 6, 7, 8] [(8, .box 33 [.ref 4 2 0 y7.Fields.length, .ref 5 1 0 y7.Rules.Titles.length, .ref 6 2 0 y7.Rules.Nicknames.length, .ref 7 2 0 y7.Rules.Streets.length]), (1, .box 89 (bl y8)), (4, .row 82 false 2 y7.Fields.length (cw y7.Fields)), (5, .row 9 false 1 y7.Rules.Titles.length (Rs y7.Rules.Titles)), (6, .row 149 false 2 y7.Rules.Nicknames.length (bv y7.Rules.Nicknames)), (7, .row 149 false 2 y7.Rules.Streets.length (bv y7.Rules.Streets))] 10 [hn, hl [1] [] 4 (CO y5 (y7, y8) e9)] ?_
   refine ah ae [(5, af (y7.Fields.length : Int))] 14 ?_
   obtain ⟨y10, y11, e12, h⟩ := aO h
   obtain ⟨y13, y14, e15, h⟩ := aO h
   obtain ⟨y16, y17, e18, h⟩ := aO h
   obtain ⟨y19, y20, e21, h⟩ := aO h
   refine Fv ae Iv [[], [], [1, 16], [], [1], [], [1], [], [], [1, 21, 4, 5, 6, 7], [22], [23], [], [22], [23]] [(9, rX 21 1 y19.length), (6, rX 16 3 y10.length), (8, pX 23 2), (7, pX 22 2)] [(23, .box 39 (bp y16)), (22, .box 39 (bp y13)), (1, .box 89 (bl y20)), (21, .row 117 false 1 y19.length (cR y19)), (4, .row 82 true 2 y7.Fields.length (cw y7.Fields)), (5, .row 9 true 1 y7.Rules.Titles.length (Rs y7.Rules.Titles)), (6, .row 149 true 2 y7.Rules.Nicknames.length (bv y7.Rules.Nicknames)), (7, .row 149 true 2 y7.Rules.Streets.length (bv y7.Rules.Streets)), (16, .row 84 false 3 y10.length (cC y10))] 28 [hn, hn, hl [1] [] 1 (CM y8 (y7.Fields.length : Int) (y10, y11) e12), hn, hl [1] [] 0 (CQ y11 (y13, y14) e15), hn, hl [1] [] 0 (CQ y14 (y16, y17) e18), hn, hn, hg [1] [4, 5, 6, 7] false 1 (q := (True) ∧ ((0 + y7.Fields.length ≤ y7.Fields.length) ∧ (0 + y7.Rules.Titles.length ≤ y7.Rules.Titles.length) ∧ (0 + y7.Rules.Nicknames.length ≤ y7.Rules.Nicknames.length) ∧ (0 + y7.Rules.Streets.length ≤ y7.Rules.Streets.length) ∧ (True)) ∧ (True) ∧ (True)) ⟨tv, ⟨br, br, br, br, tv⟩, tv, tv⟩ (a0 := [.c (.ptr 0 3 0 0), .agg (aJ y7), af 3]) (CN y17 y7 3 (y19, y20) e21) ⟨aR.refl _, aR.refl _, aR.refl _, tv⟩ (fun h => by cases h)] ?_
   obtain ⟨y22, y23, y24, e25, h⟩ := Db h
   refine Fs ae [(11, rX 31 3 y23.length), (10, rX 30 3 y22.length)] [1, 30, 31] [(30, .row 53 false 3 y22.length (bB y22)), (31, .row 53 false 3 y23.length (bB y23))] 37 [hn, hn, hg [1] [] false 2 (q := (True) ∧ ((0 + y7.Fields.length ≤ y7.Fields.length) ∧ (0 + y7.Rules.Titles.length ≤ y7.Rules.Titles.length) ∧ (0 + y7.Rules.Nicknames.length ≤ y7.Rules.Nicknames.length) ∧ (0 + y7.Rules.Streets.length ≤ y7.Rules.Streets.length) ∧ (True)) ∧ (True) ∧ (True)) ⟨tv, ⟨br, br, br, br, tv⟩, tv, tv⟩ (a0 := [.c (.ptr 0 3 0 0), .agg (aJ y7), af 4]) (CR y20 y7 4 (y22, y23, y24) e25) ⟨aR.refl _, aR.refl _, aR.refl _, tv⟩ (fun h => by cases h)] ?_
   obtain ⟨g26, g27, h⟩ := aG h
   refine Fs ae [(12, .c (.ref 37 1 0 ((y7.Fields.length : Int).toNat)))] [37] [(37, .row 3 false 1 ([1000, 900, 1000, 1] : List Int).length (aF ([1000, 900, 1000, 1] : List Int)))] 41 [bh 0 db 1 (fun _ => rfl) ([1000, 900, 1000, 1] : List Int), hn, ho (p := (True) ∧ (0 ≤ (y7.Fields.length : Int)) ∧ (0 ≤ ((y7.Fields.length : Int).toNat)) ∧ (((y7.Fields.length : Int).toNat) ≤ (([1000, 900, 1000, 1] : List Int).length))) (⟨tv, g26, (Nat.zero_le _), g27⟩)] ?_
   obtain ⟨y28, y29, e30, h⟩ := aO h
   refine Fs ae [(14, af y29), (13, rX 45 1 y28.length)] [21, 30, 45] [(45, .row 121 false 1 y28.length (dF y28)), (21, .row 117 true 1 y19.length (cR y19)), (30, .row 53 true 3 y22.length (bB y22))] 51 [hn, hn, hn, hn, hg [] [21, 30] false 1 (q := ((0 + y7.Fields.length ≤ y7.Fields.length) ∧ (0 + y7.Rules.Titles.length ≤ y7.Rules.Titles.length) ∧ (0 + y7.Rules.Nicknames.length ≤ y7.Rules.Nicknames.length) ∧ (0 + y7.Rules.Streets.length ≤ y7.Rules.Streets.length) ∧ (True)) ∧ ((True) ∧ (True) ∧ (True)) ∧ (0 + y19.length ≤ y19.length) ∧ (0 + y22.length ≤ y22.length) ∧ (True)) ⟨⟨br, br, br, br, tv⟩, ⟨tv, tv, tv⟩, br, br, tv⟩ (a0 := [.agg (aJ y7), .agg (bp y16), vl 1 cR y19, vl 3 bB y22]) (CY y7 y16 y19 y22 (y28, y29) e30) ⟨aR.refl _, aR.refl _, aR.refl _, aR.refl _, tv⟩ (fun h => by cases h)] ?_
   obtain ⟨y31, y32, e33, h⟩ := aO h
   refine Fs ae [(16, af y32), (15, rX 55 1 y31.length)] [31, 55] [(55, .row 121 false 1 y31.length (dF y31)), (31, .row 53 true 3 y23.length (bB y23))] 61 [hn, hn, hn, hn, hg [] [31] false 1 (q := ((0 + y7.Fields.length ≤ y7.Fields.length) ∧ (0 + y7.Rules.Titles.length ≤ y7.Rules.Titles.length) ∧ (0 + y7.Rules.Nicknames.length ≤ y7.Rules.Nicknames.length) ∧ (0 + y7.Rules.Streets.length ≤ y7.Rules.Streets.length) ∧ (True)) ∧ ((True) ∧ (True) ∧ (True)) ∧ (0 + y19.length ≤ y19.length) ∧ (0 + y23.length ≤ y23.length) ∧ (True)) ⟨⟨br, br, br, br, tv⟩, ⟨tv, tv, tv⟩, br, br, tv⟩ (a0 := [.agg (aJ y7), .agg (bp y16), vl 1 cR y19, vl 3 bB y23]) (CY y7 y16 y19 y23 (y31, y32) e33) ⟨aR.refl _, aR.refl _, aR.refl _, aR.refl _, tv⟩ (fun h => by cases h)] (seq (seq ?_))
   refine AW.join (ι := Bool) (fun v => ⟨[(4, pX 0 4), (5, af (y7.Fields.length : Int)), (6, rX 1 3 y10.length), (7, pX 2 2), (8, pX 3 2), (9, vl 1 cR y19), (10, vl 3 bB y22), (11, vl 3 bB y23), (12, .c (.ref 4 1 0 ((y7.Fields.length : Int).toNat))), (13, rX 5 1 y28.length), (15, rX 6 1 y31.length), (108, vb v)], [(0, .box 33 (aJ y7)), (1, .row 84 false 3 y10.length (cC y10)), (2, .box 39 (bp y13)), (3, .box 39 (bp y16)), (4, .row 3 false 1 ([1000, 900, 1000, 1] : List Int).length (aF ([1000, 900, 1000, 1] : List Int))), (5, .row 121 false 1 y28.length (dF y28)), (6, .row 121 false 1 y31.length (dF y31))], 7⟩) (fun v : Bool => Ip y7 y10 y13 y16 y19 y22 y23 y28 y31 v = some r) (fun x34 h => ?_) ?_
   ·unfold Ip at h
    refine Fp ?_
    refine Fw h (fun c35 h => ?_) (fun c35 h => ?_)
    ·refine ah ae [(2, vb false)] 8 (ret (Fo ?_))
     apply al h (vb false)
    ·refine skip (Fp (seq ?_))
     refine ah ae [(111, af 0), (110, af (y22.length : Int))] 10 (block ?_)
     refine FA h (fun v => ⟨[(4, pX 0 4), (5, af (y7.Fields.length : Int)), (6, vl 3 cC y10), (7, pX 1 2), (8, pX 2 2), (9, vl 1 cR y19), (10, vl 3 bB y22), (11, vl 3 bB y23), (12, .c (.ref 3 1 0 ((y7.Fields.length : Int).toNat))), (13, vl 1 dF y28), (15, vl 1 dF y31), (110, af (y22.length : Int)), (111, af v)], [(0, .box 33 (aJ y7)), (1, .box 39 (bp y13)), (2, .box 39 (bp y16)), (3, .row 3 false 1 ([1000, 900, 1000, 1] : List Int).length (aF ([1000, 900, 1000, 1] : List Int)))], 4⟩) (fun t => (.exit 0, ⟨[], [], 0⟩)) (fun t => (.ret, ⟨[(2, vb false)], [], 0⟩)) (Conv.trans (Iw 1 84 3 y10.length (cC y10) (by kernel_rfl)) (Conv.trans (Iw 5 121 1 y28.length (dF y28) (by kernel_rfl)) (Conv.trans (Iw 6 121 1 y31.length (dF y31) (by kernel_rfl)) (Conv.trans (fK [(6, vl 3 cC y10), (13, vl 1 dF y28), (15, vl 1 dF y31)] ⟨⟨.c (.ref 1 3 0 y10.length), by kernel_rfl, cG.c (cf.ref (ty := 84) (f := cC y10) (by kernel_rfl) br)⟩, ⟨.c (.ref 5 1 0 y28.length), by kernel_rfl, cG.c (cf.ref (ty := 121) (f := dF y28) (by kernel_rfl) br)⟩, ⟨.c (.ref 6 1 0 y31.length), by kernel_rfl, cG.c (cf.ref (ty := 121) (f := dF y31) (by kernel_rfl) br)⟩, tv⟩) (ai [(0, 0), (1, 2), (2, 3), (3, 4)]))))) (fun _ => tv) (fun _ => tv) ?_ (fun t h => ?_) (fun t h => ?_)
     ·clear h
      intro x37 o h
      unfold Jd at h
      refine ah ae [(112, vb (decide (x37 < (y22.length : Int))))] 5 (seq ?_)
      refine Fw h (fun c38 h => ?_) (fun c38 h => ?_)
      ·refine skip (Fp ?_)
       refine seq (block ?_)
       refine ah ae [(17, af x37)] 7 ?_
       obtain ⟨g39, g40, h⟩ := aG h
       obtain ⟨y41, y42, e43, h⟩ := aO h
       refine Fv ae Iv [[], [], [], [], [], [], [], [14], [], [], [], [18], [18]] [(19, af y42), (18, pX 18 3)] [(18, .box 70 [ag y41.ID, ag y41.Version, .ref 14 2 0 y41.Fields.length]), (14, .row 126 false 2 y41.Fields.length (cn y41.Fields))] 21 [hn, hn, hn, hn, hn, hq g39 g40, hn, hl [] [] 1 (tM y7 y10 y13 (y22.getD x37.toNat bg) (y41, y42) e43)] ?_
       obtain ⟨g44, h⟩ := aN h
       obtain ⟨y45, y46, e47, h⟩ := aO h
       refine Fv ae Iv [[], [], [], [], [], [], [], [28], [], [], [], [32], [32]] [(21, af y46), (20, pX 32 3)] [(32, .box 70 [ag y45.ID, ag y45.Version, .ref 28 2 0 y45.Fields.length]), (28, .row 126 false 2 y45.Fields.length (cn y45.Fields))] 35 [hn, hn, hn, hn, hn, hq g39 g44, hn, hl [] [] 1 (tM y7 y10 y13 (y23.getD x37.toNat bg) (y45, y46) e47)] ?_
       obtain ⟨y48, y49, e50, h⟩ := aO h
       refine Fs ae [(23, af y49), (22, rX 37 1 y48.length)] [37] [(37, .row 3 false 1 y48.length (aF y48))] 43 [hn, hn, hg [] [] true 1 (q := ((True) ∧ (True) ∧ (0 + y41.Fields.length ≤ y41.Fields.length) ∧ (True)) ∧ ((True) ∧ (True) ∧ (0 + y45.Fields.length ≤ y45.Fields.length) ∧ (True)) ∧ (True)) ⟨⟨tv, tv, br, tv⟩, ⟨tv, tv, br, tv⟩, tv⟩ (a0 := [.agg [ag y41.ID, ag y41.Version, cl 2 cn y41.Fields], .agg [ag y45.ID, ag y45.Version, cl 2 cn y45.Fields]]) (xE y41 y45 (y48, y49) e50) ⟨aR.refl _, aR.refl _, tv⟩ (fun _ => ⟨bV xf _ _ _, tv⟩)] ?_
       obtain ⟨y51, y52, e53, h⟩ := aO h
       obtain ⟨g54, h⟩ := aN h
       refine ay ae [(25, af y52), (24, af y51)] 50 [hn, hn, hg [] [] true 0 (q := (0 + (y7.Fields.length : Int).toNat ≤ ([1000, 900, 1000, 1] : List Int).length) ∧ (0 + y48.length ≤ y48.length) ∧ (True)) ⟨g54, br, tv⟩ (a0 := [.c (.t (.tree ((y7.Fields.length : Int).toNat) 1 (aF ([1000, 900, 1000, 1] : List Int)))), vl 1 aF y48]) (xF (([1000, 900, 1000, 1] : List Int).take ((y7.Fields.length : Int).toNat)) y48 (y51, y52) e53) ⟨aR.c (bO.tree (v8 (by omega))), aR.refl _, tv⟩ (fun _ => tv)] ?_
       obtain ⟨y55, y56, e57, h⟩ := aO h
       refine Fs ae [(27, af y56), (26, rX 52 1 y55.length)] [52] [(52, .row 3 false 1 y55.length (aF y55))] 58 [hn, hn, hm [] [] 1 (CP y51 (y7.Fields.length : Int) (y55, y56) e57) ⟨bV xf _ _ _, tv⟩] (seq (seq ?_))
       refine AW.join (ι := Bool) (fun v => ⟨[(4, pX 0 4), (5, af (y7.Fields.length : Int)), (6, vl 3 cC y10), (7, pX 1 2), (8, pX 2 2), (9, vl 1 cR y19), (10, vl 3 bB y22), (11, vl 3 bB y23), (12, .c (.ref 3 1 0 ((y7.Fields.length : Int).toNat))), (13, vl 1 dF y28), (15, vl 1 dF y31), (17, af x37), (22, rX 4 1 y48.length), (26, rX 5 1 y55.length), (110, af (y22.length : Int)), (111, af x37), (183, vb v)], [(0, .box 33 (aJ y7)), (1, .box 39 (bp y13)), (2, .box 39 (bp y16)), (3, .row 3 false 1 ([1000, 900, 1000, 1] : List Int).length (aF ([1000, 900, 1000, 1] : List Int))), (4, .row 3 false 1 y48.length (aF y48)), (5, .row 3 false 1 y55.length (aF y55))], 6⟩) (fun v : Bool => Hq y7 y16 y19 y22 y23 y28 y31 x37 y48 y55 v = some o) (fun x58 h => ?_) ?_
       ·unfold Hq at h
        refine Fp ?_
        refine Fw h (fun c59 h => ?_) (fun c59 h => ?_)
        ·refine ah ae [(2, vb false)] 7 (ret (Fo ?_))
         refine Fi (Fo ?_)
         exact aU h rfl (ai [])
        ·refine skip (Fp (seq ?_))
         refine ah ae [(28, af 0)] 7 (block ?_)
         refine FA h (fun v => ⟨[(4, pX 0 4), (5, af (y7.Fields.length : Int)), (6, vl 3 cC y10), (7, pX 1 2), (8, pX 2 2), (9, vl 1 cR y19), (10, vl 3 bB y22), (11, vl 3 bB y23), (12, .c (.ref 3 1 0 ((y7.Fields.length : Int).toNat))), (13, vl 1 dF y28), (15, vl 1 dF y31), (17, af x37), (22, rX 4 1 y48.length), (26, rX 5 1 y55.length), (28, af v), (110, af (y22.length : Int)), (111, af x37)], [(0, .box 33 (aJ y7)), (1, .box 39 (bp y13)), (2, .box 39 (bp y16)), (3, .row 3 false 1 ([1000, 900, 1000, 1] : List Int).length (aF ([1000, 900, 1000, 1] : List Int))), (4, .row 3 false 1 y48.length (aF y48)), (5, .row 3 false 1 y55.length (aF y55))], 6⟩) (fun t => (.exit 2, ⟨[(4, pX 0 4), (5, af (y7.Fields.length : Int)), (6, vl 3 cC y10), (7, pX 1 2), (8, pX 2 2), (9, vl 1 cR y19), (10, vl 3 bB y22), (11, vl 3 bB y23), (12, .c (.ref 3 1 0 ((y7.Fields.length : Int).toNat))), (13, vl 1 dF y28), (15, vl 1 dF y31), (17, af x37), (110, af (y22.length : Int)), (111, af x37)], [(0, .box 33 (aJ y7)), (1, .box 39 (bp y13)), (2, .box 39 (bp y16)), (3, .row 3 false 1 ([1000, 900, 1000, 1] : List Int).length (aF ([1000, 900, 1000, 1] : List Int)))], 4⟩)) (fun t => (.ret, ⟨[(2, vb false)], [], 0⟩)) (ai [(0, 0), (1, 1), (2, 2), (3, 3), (4, 4), (5, 5)]) (fun _ => tv) (fun _ => tv) ?_ (fun t h => ?_) (fun t h => ?_)
         ·clear h
          intro x61 o h
          unfold Jb at h
          refine seq ?_
          refine ah ae [(186, vb (decide (x61 < (y7.Fields.length : Int))))] 9 ?_
          refine Fw h (fun c62 h => ?_) (fun c62 h => ?_)
          ·refine skip (Fp ?_)
           refine seq (block ?_)
           obtain ⟨g63, g64, h⟩ := aG h
           refine ay ae [(29, vb ((((y22.getD x37.toNat bg).Values).getD x61.toNat mt).toList == (mk #[]).toList))] 19 [hn, hn, hq g39 g40, hn, hn, hn, hq g63 g64] (seq ?_)
           refine AW.join (ι := Bool) (fun v => ⟨[(4, pX 0 4), (5, af (y7.Fields.length : Int)), (6, vl 3 cC y10), (7, pX 1 2), (8, pX 2 2), (9, vl 1 cR y19), (10, vl 3 bB y22), (11, vl 3 bB y23), (12, .c (.ref 3 1 0 ((y7.Fields.length : Int).toNat))), (13, vl 1 dF y28), (15, vl 1 dF y31), (17, af x37), (22, rX 4 1 y48.length), (26, rX 5 1 y55.length), (28, af x61), (110, af (y22.length : Int)), (111, af x37), (230, vb v)], [(0, .box 33 (aJ y7)), (1, .box 39 (bp y13)), (2, .box 39 (bp y16)), (3, .row 3 false 1 ([1000, 900, 1000, 1] : List Int).length (aF ([1000, 900, 1000, 1] : List Int))), (4, .row 3 false 1 y48.length (aF y48)), (5, .row 3 false 1 y55.length (aF y55))], 6⟩) (fun v : Bool => G9 x61 v = some o) (fun x65 h => ?_) ?_
           ·unfold G9 at h
            refine Fp ?_
            refine Fw h (fun c66 h => ?_) (fun c66 h => ?_)
            ·refine ah ae [(2, vb false)] 7 (ret (Fi (Fo ?_)))
             exact aU h rfl (ai [])
            ·refine skip (Fj (Fp ?_))
             refine aS ae [(28, af (i64.wrap (x61 + 1)))] 9 ?_
             exact bu h (ai [(0, 0), (1, 1), (2, 2), (3, 3), (4, 4), (5, 5)])
           ·rcases aD h with ⟨c67, h⟩ | ⟨c67, h⟩
            ·refine AW.pre (fK [(29, vb true)] ⟨⟨vb ((((y22.getD x37.toNat bg).Values).getD x61.toNat mt).toList == (mk #[]).toList), by kernel_rfl, cG.c (cf.bool c67)⟩, tv⟩) ?_
             obtain ⟨g68, h⟩ := aN h
             rcases aD h with ⟨c69, h⟩ | ⟨c69, h⟩
             ·refine au ae [(230, vb true)] 52 [hn, hn, hn, hn, hq g63 g68, ho (p := (0 + x61.toNat) < y48.length) (by have h1 : 0 ≤ x61 := g63; have h2 : x61 < (y48.length : Int) := g68; omega), ht c69] ?_
              exact jl true h (ai [(0, 0), (1, 1), (2, 2), (3, 3), (4, 4), (5, 5)])
             ·obtain ⟨g70, h⟩ := aN h
              rcases aD h with ⟨c71, h⟩ | ⟨c71, h⟩
              ·refine au ae [(230, vb true)] 52 [hn, hn, hn, hn, hq g63 g68, ho (p := (0 + x61.toNat) < y48.length) (by have h1 : 0 ≤ x61 := g63; have h2 : x61 < (y48.length : Int) := g68; omega), hf c69, hn, hn, hn, hq g63 g70, ho (p := (0 + x61.toNat) < y55.length) (by have h1 : 0 ≤ x61 := g63; have h2 : x61 < (y55.length : Int) := g70; omega), ht c71] ?_
               exact jl true h (ai [(0, 0), (1, 1), (2, 2), (3, 3), (4, 4), (5, 5)])
              ·rcases aD h with ⟨c72, h⟩ | ⟨c72, h⟩
               ·rcases aD h with ⟨c73, h⟩ | ⟨c73, h⟩
                ·refine au ae [(230, vb true)] 52 [hn, hn, hn, hn, hq g63 g68, ho (p := (0 + x61.toNat) < y48.length) (by have h1 : 0 ≤ x61 := g63; have h2 : x61 < (y48.length : Int) := g68; omega), hf c69, hn, hn, hn, hq g63 g70, ho (p := (0 + x61.toNat) < y55.length) (by have h1 : 0 ≤ x61 := g63; have h2 : x61 < (y55.length : Int) := g70; omega), hf c71, hn, hn, hn, hn, ht c72, hn, hn, hn, hq g63 g68, ho (p := (0 + x61.toNat) < y48.length) (by have h1 : 0 ≤ x61 := g63; have h2 : x61 < (y48.length : Int) := g68; omega), ht c73] ?_
                 exact jl true h (ai [(0, 0), (1, 1), (2, 2), (3, 3), (4, 4), (5, 5)])
                ·refine au ae [(230, vb ((y55.getD (0 + x61.toNat) 0) != 2))] 52 [hn, hn, hn, hn, hq g63 g68, ho (p := (0 + x61.toNat) < y48.length) (by have h1 : 0 ≤ x61 := g63; have h2 : x61 < (y48.length : Int) := g68; omega), hf c69, hn, hn, hn, hq g63 g70, ho (p := (0 + x61.toNat) < y55.length) (by have h1 : 0 ≤ x61 := g63; have h2 : x61 < (y55.length : Int) := g70; omega), hf c71, hn, hn, hn, hn, ht c72, hn, hn, hn, hq g63 g68, ho (p := (0 + x61.toNat) < y48.length) (by have h1 : 0 ≤ x61 := g63; have h2 : x61 < (y48.length : Int) := g68; omega), hf c73, hn, hn, hn, hq g63 g70, ho (p := (0 + x61.toNat) < y55.length) (by have h1 : 0 ≤ x61 := g63; have h2 : x61 < (y55.length : Int) := g70; omega)] ?_
                 exact jl ((y55.getD (0 + x61.toNat) 0) != 2) h (ai [(0, 0), (1, 1), (2, 2), (3, 3), (4, 4), (5, 5)])
               ·refine au ae [(230, vb false)] 52 [hn, hn, hn, hn, hq g63 g68, ho (p := (0 + x61.toNat) < y48.length) (by have h1 : 0 ≤ x61 := g63; have h2 : x61 < (y48.length : Int) := g68; omega), hf c69, hn, hn, hn, hq g63 g70, ho (p := (0 + x61.toNat) < y55.length) (by have h1 : 0 ≤ x61 := g63; have h2 : x61 < (y55.length : Int) := g70; omega), hf c71, hn, hn, hn, hn, hf c72] ?_
                exact jl false h (ai [(0, 0), (1, 1), (2, 2), (3, 3), (4, 4), (5, 5)])
            ·refine AW.pre (fK [(29, vb false)] ⟨⟨vb ((((y22.getD x37.toNat bg).Values).getD x61.toNat mt).toList == (mk #[]).toList), by kernel_rfl, cG.c (cf.bool c67)⟩, tv⟩) ?_
             rcases aD h with ⟨c74, h⟩ | ⟨c74, h⟩
             ·obtain ⟨g75, h⟩ := aN h
              rcases aD h with ⟨c76, h⟩ | ⟨c76, h⟩
              ·refine au ae [(230, vb true)] 52 [hn, hn, hn, hn, hn, hn, hn, hn, hn, hn, hn, hn, hn, hn, hn, hn, hn, ht c74, hn, hn, hn, hq g63 g75, ho (p := (0 + x61.toNat) < y48.length) (by have h1 : 0 ≤ x61 := g63; have h2 : x61 < (y48.length : Int) := g75; omega), ht c76] ?_
               exact jl true h (ai [(0, 0), (1, 1), (2, 2), (3, 3), (4, 4), (5, 5)])
              ·obtain ⟨g77, h⟩ := aN h
               refine au ae [(230, vb ((y55.getD (0 + x61.toNat) 0) != 2))] 52 [hn, hn, hn, hn, hn, hn, hn, hn, hn, hn, hn, hn, hn, hn, hn, hn, hn, ht c74, hn, hn, hn, hq g63 g75, ho (p := (0 + x61.toNat) < y48.length) (by have h1 : 0 ≤ x61 := g63; have h2 : x61 < (y48.length : Int) := g75; omega), hf c76, hn, hn, hn, hq g63 g77, ho (p := (0 + x61.toNat) < y55.length) (by have h1 : 0 ≤ x61 := g63; have h2 : x61 < (y55.length : Int) := g77; omega)] ?_
               exact jl ((y55.getD (0 + x61.toNat) 0) != 2) h (ai [(0, 0), (1, 1), (2, 2), (3, 3), (4, 4), (5, 5)])
             ·refine au ae [(230, vb false)] 52 [hn, hn, hn, hn, hn, hn, hn, hn, hn, hn, hn, hn, hn, hn, hn, hn, hn, hf c74] ?_
              exact jl false h (ai [(0, 0), (1, 1), (2, 2), (3, 3), (4, 4), (5, 5)])
          ·refine exit (Fb ?_)
           exact aU h rfl (ai [(0, 0), (1, 1), (2, 2), (3, 3)])
         ·replace h : Jy y7 y16 y19 y22 y23 y28 y31 x37 = some o := h
          unfold Jy at h
          show (_ : Exit → St → Prop) (.exit 2) _
          refine E6 (Fp ?_)
          refine ah ae [(233, af 0), (232, af (y19.length : Int))] 7 (block ?_)
          refine FA h (fun v => ⟨[(4, pX 0 4), (5, af (y7.Fields.length : Int)), (6, vl 3 cC y10), (7, pX 1 2), (8, pX 2 2), (9, vl 1 cR y19), (10, vl 3 bB y22), (11, vl 3 bB y23), (12, .c (.ref 3 1 0 ((y7.Fields.length : Int).toNat))), (13, vl 1 dF y28), (15, vl 1 dF y31), (17, af x37), (110, af (y22.length : Int)), (111, af x37), (232, af (y19.length : Int)), (233, af v)], [(0, .box 33 (aJ y7)), (1, .box 39 (bp y13)), (2, .box 39 (bp y16)), (3, .row 3 false 1 ([1000, 900, 1000, 1] : List Int).length (aF ([1000, 900, 1000, 1] : List Int)))], 4⟩) (fun t => (.exit 4, ⟨[(4, pX 0 4), (5, af (y7.Fields.length : Int)), (6, vl 3 cC y10), (7, pX 1 2), (8, pX 2 2), (9, vl 1 cR y19), (10, vl 3 bB y22), (11, vl 3 bB y23), (12, .c (.ref 3 1 0 ((y7.Fields.length : Int).toNat))), (13, vl 1 dF y28), (15, vl 1 dF y31), (110, af (y22.length : Int)), (111, af x37)], [(0, .box 33 (aJ y7)), (1, .box 39 (bp y13)), (2, .box 39 (bp y16)), (3, .row 3 false 1 ([1000, 900, 1000, 1] : List Int).length (aF ([1000, 900, 1000, 1] : List Int)))], 4⟩)) (fun t => (.ret, ⟨[(2, vb false)], [], 0⟩)) (ai [(0, 0), (1, 1), (2, 2), (3, 3)]) (fun _ => tv) (fun _ => tv) ?_ (fun t h => ?_) (fun t h => ?_)
          ·clear h
           intro x79 o h
           unfold Jc at h
           refine ah ae [(234, vb (decide (x79 < (y19.length : Int))))] 5 (seq ?_)
           refine Fw h (fun c80 h => ?_) (fun c80 h => ?_)
           ·refine skip (Fp ?_)
            refine seq (block ?_)
            refine ah ae [(30, af x79)] 7 ?_
            obtain ⟨y81, y82, y83, e84, h⟩ := Db h
            refine Fv ae Iv [] [(33, af y83), (32, vb y82)] [] 22 [hn, hn, hn, hn, hn, hn, hq g39 g40, hn, hk (CU y7 y16 y19 x79 (y22.getD x37.toNat bg) (y81, y82, y83) e84)] ?_
            obtain ⟨g85, h⟩ := aN h
            obtain ⟨y86, y87, e88, h⟩ := aO h
            refine ay ae [(35, af y87), (34, vl 2 HE y86)] 31 [hn, hn, hn, ho g85, hk (MG y28 y31 (dl .i64 1 x79) (y86, y87) e88)] ?_
            refine ah ae [(36, vb false)] 32 (seq ?_)
            refine ah ae [(259, af 0), (258, af (y86.length : Int)), (257, vl 2 HE y86)] 35 (block ?_)
            obtain ⟨x100, l105, h⟩ := ak h
            refine Fy l105 (fun v => ⟨[(4, pX 0 4), (5, af (y7.Fields.length : Int)), (6, vl 3 cC y10), (7, pX 1 2), (8, pX 2 2), (9, vl 1 cR y19), (10, vl 3 bB y22), (11, vl 3 bB y23), (12, .c (.ref 3 1 0 ((y7.Fields.length : Int).toNat))), (13, vl 1 dF y28), (15, vl 1 dF y31), (17, af x37), (32, vb y82), (33, af y83), (35, af y87), (36, vb v.1), (110, af (y22.length : Int)), (111, af x37), (232, af (y19.length : Int)), (233, af x79), (257, vl 2 HE y86), (258, af (y86.length : Int)), (259, af v.2)], [(0, .box 33 (aJ y7)), (1, .box 39 (bp y13)), (2, .box 39 (bp y16)), (3, .row 3 false 1 ([1000, 900, 1000, 1] : List Int).length (aF ([1000, 900, 1000, 1] : List Int)))], 4⟩) (fun t : Bool => (.exit 6, ⟨[(4, pX 0 4), (5, af (y7.Fields.length : Int)), (6, vl 3 cC y10), (7, pX 1 2), (8, pX 2 2), (9, vl 1 cR y19), (10, vl 3 bB y22), (11, vl 3 bB y23), (12, .c (.ref 3 1 0 ((y7.Fields.length : Int).toNat))), (13, vl 1 dF y28), (15, vl 1 dF y31), (17, af x37), (32, vb y82), (33, af y83), (35, af y87), (36, vb t), (110, af (y22.length : Int)), (111, af x37), (232, af (y19.length : Int)), (233, af x79)], [(0, .box 33 (aJ y7)), (1, .box 39 (bp y13)), (2, .box 39 (bp y16)), (3, .row 3 false 1 ([1000, 900, 1000, 1] : List Int).length (aF ([1000, 900, 1000, 1] : List Int)))], 4⟩)) (ai [(0, 0), (1, 1), (2, 2), (3, 3)]) (fun _ => tv) ?_ ?_
            ·clear l105 h
             intro v o h
             obtain ⟨x91, x92⟩ := v
             replace h : IF y22 y23 x37 y86 x91 x92 = some o := h
             unfold IF at h
             refine ah ae [(260, vb (decide (x92 < (y86.length : Int))))] 5 (seq ?_)
             refine Fw h (fun c94 h => ?_) (fun c94 h => ?_)
             ·refine skip (Fp ?_)
              refine seq (block ?_)
              obtain ⟨g95, g96, h⟩ := aG h
              refine Fs ae [(38, pX 7 2)] [7] [(7, .box 55 [ag ((y86.getD x92.toNat G6).A), ag ((y86.getD x92.toNat G6).B)])] 9 [hq g95 g96] ?_
              refine AW.join (ι := Bool) (fun v => ⟨[(4, pX 0 4), (5, af (y7.Fields.length : Int)), (6, vl 3 cC y10), (7, pX 1 2), (8, pX 2 2), (9, vl 1 cR y19), (10, vl 3 bB y22), (11, vl 3 bB y23), (12, .c (.ref 3 1 0 ((y7.Fields.length : Int).toNat))), (13, vl 1 dF y28), (15, vl 1 dF y31), (17, af x37), (32, vb y82), (33, af y83), (35, af y87), (36, vb v), (110, af (y22.length : Int)), (111, af x37), (232, af (y19.length : Int)), (233, af x79), (257, vl 2 HE y86), (258, af (y86.length : Int)), (259, af x92)], [(0, .box 33 (aJ y7)), (1, .box 39 (bp y13)), (2, .box 39 (bp y16)), (3, .row 3 false 1 ([1000, 900, 1000, 1] : List Int).length (aF ([1000, 900, 1000, 1] : List Int)))], 4⟩) (fun v : Bool => IE x92 v = some o) (fun x97 h => ?_) ?_
              ·unfold IE at h
               refine Fj (Fp ?_)
               refine aS ae [(259, af (i64.wrap (x92 + 1)))] 6 ?_
               exact bu h (ai [(0, 0), (1, 1), (2, 2), (3, 3)])
              ·rcases aD h with ⟨c98, hs⟩ | ⟨c98, hs⟩
               ·clear h; subst c98; have h := hs; clear hs
                refine Fu ae Iv [] [(36, vb true)] [] 31 [] ?_
                exact jl true h (ai [(0, 0), (1, 1), (2, 2), (3, 3)])
               ·clear h; subst c98; have h := hs; clear hs
                rcases aD h with ⟨c99, h⟩ | ⟨c99, h⟩
                ·refine Fu ae Iv [] [(36, vb (((y86.getD x92.toNat G6).B) == ((y23.getD x37.toNat bg).ID)))] [] 31 [hn, hn, hn, hn, hn, hn, hq g39 g40, hn, hn, ht c99, hn, hn, hn, hn, hn, hq g39 g44] ?_
                 exact jl (((y86.getD x92.toNat G6).B) == ((y23.getD x37.toNat bg).ID)) h (ai [(0, 0), (1, 1), (2, 2), (3, 3)])
                ·refine Fu ae Iv [] [(36, vb false)] [] 31 [hn, hn, hn, hn, hn, hn, hq g39 g40, hn, hn, hf c99] ?_
                 exact jl false h (ai [(0, 0), (1, 1), (2, 2), (3, 3)])
             ·refine exit (Fb ?_)
              exact aU h rfl (ai [(0, 0), (1, 1), (2, 2), (3, 3)])
            ·show (_ : Exit → St → Prop) (.exit 6) _
             refine E6 (Fp (seq ?_))
             refine AW.join (ι := Bool) (fun v => ⟨[(4, pX 0 4), (5, af (y7.Fields.length : Int)), (6, vl 3 cC y10), (7, pX 1 2), (8, pX 2 2), (9, vl 1 cR y19), (10, vl 3 bB y22), (11, vl 3 bB y23), (12, .c (.ref 3 1 0 ((y7.Fields.length : Int).toNat))), (13, vl 1 dF y28), (15, vl 1 dF y31), (17, af x37), (110, af (y22.length : Int)), (111, af x37), (232, af (y19.length : Int)), (233, af x79), (295, vb v)], [(0, .box 33 (aJ y7)), (1, .box 39 (bp y13)), (2, .box 39 (bp y16)), (3, .row 3 false 1 ([1000, 900, 1000, 1] : List Int).length (aF ([1000, 900, 1000, 1] : List Int)))], 4⟩) (fun v : Bool => IC x79 v = some o) (fun x101 h => ?_) ?_
             ·unfold IC at h
              refine Fp ?_
              refine Fw h (fun c102 h => ?_) (fun c102 h => ?_)
              ·refine ah ae [(2, vb false)] 5 (ret (Fi (Fo ?_)))
               exact aU h rfl (ai [])
              ·refine skip (Fj (Fp ?_))
               refine aS ae [(233, af (i64.wrap (x79 + 1)))] 6 ?_
               exact bu h (ai [(0, 0), (1, 1), (2, 2), (3, 3)])
             ·rcases aD h with ⟨c103, h⟩ | ⟨c103, h⟩
              ·refine au ae [(295, vb true)] 15 [hn, ht c103] ?_
               exact jl true h (ai [(0, 0), (1, 1), (2, 2), (3, 3)])
              ·rcases aD h with ⟨c104, h⟩ | ⟨c104, h⟩
               ·refine au ae [(295, vb true)] 15 [hn, hf c103, hn, hn, ht c104] ?_
                exact jl true h (ai [(0, 0), (1, 1), (2, 2), (3, 3)])
               ·refine au ae [(295, vb (!(x100 == y82)))] 15 [hn, hf c103, hn, hn, hf c104] ?_
                exact jl (!(x100 == y82)) h (ai [(0, 0), (1, 1), (2, 2), (3, 3)])
           ·refine exit (Fb ?_)
            exact aU h rfl (ai [(0, 0), (1, 1), (2, 2), (3, 3)])
          ·replace h : Jx x37 = some o := h
           unfold Jx at h
           show (_ : Exit → St → Prop) (.exit 4) _
           refine E6 (Fj (Fp ?_))
           refine aS ae [(111, af (i64.wrap (x37 + 1)))] 6 ?_
           exact bu h (ai [(0, 0), (1, 1), (2, 2), (3, 3)])
          ·replace h : J7 = some o := h
           unfold J7 at h
           show (_ : Exit → St → Prop) (.ret) _
           refine Fi (Fi (Fo ?_))
           exact aU h rfl (ai [])
         ·replace h : J8 = some o := h
          unfold J8 at h
          show (_ : Exit → St → Prop) (.ret) _
          refine Fi (Fo ?_)
          refine Fi (Fo ?_)
          exact aU h rfl (ai [])
       ·rcases aD h with ⟨c108, h⟩ | ⟨c108, h⟩
        ·refine au ae [(183, vb true)] 88 [hn, ht c108] ?_
         exact jl true h (ai [(0, 0), (1, 1), (2, 2), (3, 3), (4, 37), (5, 52)])
        ·rcases aD h with ⟨c109, h⟩ | ⟨c109, h⟩
         ·refine au ae [(183, vb true)] 88 [hn, hf c108, hn, hn, ht c109] ?_
          exact jl true h (ai [(0, 0), (1, 1), (2, 2), (3, 3), (4, 37), (5, 52)])
         ·rcases aD h with ⟨c110, h⟩ | ⟨c110, h⟩
          ·refine au ae [(183, vb true)] 88 [hn, hf c108, hn, hn, hf c109, hn, hn, hn, ht c110] ?_
           exact jl true h (ai [(0, 0), (1, 1), (2, 2), (3, 3), (4, 37), (5, 52)])
          ·rcases aD h with ⟨c111, h⟩ | ⟨c111, h⟩
           ·refine au ae [(183, vb true)] 88 [hn, hf c108, hn, hn, hf c109, hn, hn, hn, hf c110, hn, hn, hn, ht c111] ?_
            exact jl true h (ai [(0, 0), (1, 1), (2, 2), (3, 3), (4, 37), (5, 52)])
           ·rcases aD h with ⟨c112, h⟩ | ⟨c112, h⟩
            ·refine au ae [(183, vb true)] 88 [hn, hf c108, hn, hn, hf c109, hn, hn, hn, hf c110, hn, hn, hn, hf c111, hn, hn, hn, ht c112] ?_
             exact jl true h (ai [(0, 0), (1, 1), (2, 2), (3, 3), (4, 37), (5, 52)])
            ·rcases aD h with ⟨c113, h⟩ | ⟨c113, h⟩
             ·refine au ae [(183, vb true)] 88 [hn, hf c108, hn, hn, hf c109, hn, hn, hn, hf c110, hn, hn, hn, hf c111, hn, hn, hn, hf c112, hn, hn, hn, hn, hn, ht c113] ?_
              exact jl true h (ai [(0, 0), (1, 1), (2, 2), (3, 3), (4, 37), (5, 52)])
             ·refine au ae [(183, vb ((y55.length : Int) != (y7.Fields.length : Int)))] 88 [hn, hf c108, hn, hn, hf c109, hn, hn, hn, hf c110, hn, hn, hn, hf c111, hn, hn, hn, hf c112, hn, hn, hn, hn, hn, hf c113] ?_
              exact jl ((y55.length : Int) != (y7.Fields.length : Int)) h (ai [(0, 0), (1, 1), (2, 2), (3, 3), (4, 37), (5, 52)])
      ·refine exit (Fb ?_)
       exact aU h rfl (ai [])
     ·replace h : J9 = some r := h
      unfold J9 at h
      show (_ : Exit → St → Prop) (.exit 0) _
      refine E6 (Fp ?_)
      refine ah ae [(2, vb true)] 1 (ret ?_)
      apply al h (vb true)
     ·replace h : Ka = some r := h
      unfold Ka at h
      show (_ : Exit → St → Prop) (.ret) _
      refine Fi (Fo ?_)
      apply al h (vb false)
   ·rcases aD h with ⟨c115, h⟩ | ⟨c115, h⟩
    ·refine au ae [(108, vb true)] 81 [hn, ht c115] ?_
     exact jl true h (Conv.trans (fK [(9, vl 1 cR y19), (10, vl 3 bB y22), (11, vl 3 bB y23)] ⟨⟨.c (.ref 21 1 0 y19.length), by kernel_rfl, cG.c (cf.ref (ty := 117) (f := cR y19) (by kernel_rfl) br)⟩, ⟨.c (.ref 30 3 0 y22.length), by kernel_rfl, cG.c (cf.ref (ty := 53) (f := bB y22) (by kernel_rfl) br)⟩, ⟨.c (.ref 31 3 0 y23.length), by kernel_rfl, cG.c (cf.ref (ty := 53) (f := bB y23) (by kernel_rfl) br)⟩, tv⟩) (Conv.trans (mN (id := 8) (ty := 33) (cs := [.ref 4 2 0 y7.Fields.length, .ref 5 1 0 y7.Rules.Titles.length, .ref 6 2 0 y7.Rules.Nicknames.length, .ref 7 2 0 y7.Rules.Streets.length]) (ds := (aJ y7)) (by kernel_rfl) ⟨cf.ref (ty := 82) (f := cw y7.Fields) (by kernel_rfl) br, cf.ref (ty := 9) (f := Rs y7.Rules.Titles) (by kernel_rfl) br, cf.ref (ty := 149) (f := bv y7.Rules.Nicknames) (by kernel_rfl) br, cf.ref (ty := 149) (f := bv y7.Rules.Streets) (by kernel_rfl) br, tv⟩) (ai [(0, 8), (1, 16), (2, 22), (3, 23), (4, 37), (5, 45), (6, 55)])))
    ·rcases aD h with ⟨c116, h⟩ | ⟨c116, h⟩
     ·refine au ae [(108, vb true)] 81 [hn, hf c115, hn, hn, ht c116] ?_
      exact jl true h (Conv.trans (fK [(9, vl 1 cR y19), (10, vl 3 bB y22), (11, vl 3 bB y23)] ⟨⟨.c (.ref 21 1 0 y19.length), by kernel_rfl, cG.c (cf.ref (ty := 117) (f := cR y19) (by kernel_rfl) br)⟩, ⟨.c (.ref 30 3 0 y22.length), by kernel_rfl, cG.c (cf.ref (ty := 53) (f := bB y22) (by kernel_rfl) br)⟩, ⟨.c (.ref 31 3 0 y23.length), by kernel_rfl, cG.c (cf.ref (ty := 53) (f := bB y23) (by kernel_rfl) br)⟩, tv⟩) (Conv.trans (mN (id := 8) (ty := 33) (cs := [.ref 4 2 0 y7.Fields.length, .ref 5 1 0 y7.Rules.Titles.length, .ref 6 2 0 y7.Rules.Nicknames.length, .ref 7 2 0 y7.Rules.Streets.length]) (ds := (aJ y7)) (by kernel_rfl) ⟨cf.ref (ty := 82) (f := cw y7.Fields) (by kernel_rfl) br, cf.ref (ty := 9) (f := Rs y7.Rules.Titles) (by kernel_rfl) br, cf.ref (ty := 149) (f := bv y7.Rules.Nicknames) (by kernel_rfl) br, cf.ref (ty := 149) (f := bv y7.Rules.Streets) (by kernel_rfl) br, tv⟩) (ai [(0, 8), (1, 16), (2, 22), (3, 23), (4, 37), (5, 45), (6, 55)])))
     ·rcases aD h with ⟨c117, h⟩ | ⟨c117, h⟩
      ·refine au ae [(108, vb true)] 81 [hn, hf c115, hn, hn, hf c116, hn, hn, hn, hn, hn, hn, ht c117] ?_
       exact jl true h (Conv.trans (fK [(9, vl 1 cR y19), (10, vl 3 bB y22), (11, vl 3 bB y23)] ⟨⟨.c (.ref 21 1 0 y19.length), by kernel_rfl, cG.c (cf.ref (ty := 117) (f := cR y19) (by kernel_rfl) br)⟩, ⟨.c (.ref 30 3 0 y22.length), by kernel_rfl, cG.c (cf.ref (ty := 53) (f := bB y22) (by kernel_rfl) br)⟩, ⟨.c (.ref 31 3 0 y23.length), by kernel_rfl, cG.c (cf.ref (ty := 53) (f := bB y23) (by kernel_rfl) br)⟩, tv⟩) (Conv.trans (mN (id := 8) (ty := 33) (cs := [.ref 4 2 0 y7.Fields.length, .ref 5 1 0 y7.Rules.Titles.length, .ref 6 2 0 y7.Rules.Nicknames.length, .ref 7 2 0 y7.Rules.Streets.length]) (ds := (aJ y7)) (by kernel_rfl) ⟨cf.ref (ty := 82) (f := cw y7.Fields) (by kernel_rfl) br, cf.ref (ty := 9) (f := Rs y7.Rules.Titles) (by kernel_rfl) br, cf.ref (ty := 149) (f := bv y7.Rules.Nicknames) (by kernel_rfl) br, cf.ref (ty := 149) (f := bv y7.Rules.Streets) (by kernel_rfl) br, tv⟩) (ai [(0, 8), (1, 16), (2, 22), (3, 23), (4, 37), (5, 45), (6, 55)])))
      ·refine au ae [(108, vb ((y31.length : Int) != (y19.length : Int)))] 81 [hn, hf c115, hn, hn, hf c116, hn, hn, hn, hn, hn, hn, hf c117] ?_
       exact jl ((y31.length : Int) != (y19.length : Int)) h (Conv.trans (fK [(9, vl 1 cR y19), (10, vl 3 bB y22), (11, vl 3 bB y23)] ⟨⟨.c (.ref 21 1 0 y19.length), by kernel_rfl, cG.c (cf.ref (ty := 117) (f := cR y19) (by kernel_rfl) br)⟩, ⟨.c (.ref 30 3 0 y22.length), by kernel_rfl, cG.c (cf.ref (ty := 53) (f := bB y22) (by kernel_rfl) br)⟩, ⟨.c (.ref 31 3 0 y23.length), by kernel_rfl, cG.c (cf.ref (ty := 53) (f := bB y23) (by kernel_rfl) br)⟩, tv⟩) (Conv.trans (mN (id := 8) (ty := 33) (cs := [.ref 4 2 0 y7.Fields.length, .ref 5 1 0 y7.Rules.Titles.length, .ref 6 2 0 y7.Rules.Nicknames.length, .ref 7 2 0 y7.Rules.Streets.length]) (ds := (aJ y7)) (by kernel_rfl) ⟨cf.ref (ty := 82) (f := cw y7.Fields) (by kernel_rfl) br, cf.ref (ty := 9) (f := Rs y7.Rules.Titles) (by kernel_rfl) br, cf.ref (ty := 149) (f := bv y7.Rules.Nicknames) (by kernel_rfl) br, cf.ref (ty := 149) (f := bv y7.Rules.Streets) (by kernel_rfl) br, tv⟩) (ai [(0, 8), (1, 16), (2, 22), (3, 23), (4, 37), (5, 45), (6, 55)])))
 ·obtain ⟨y118, e119, h⟩ := ak h
  rcases aD h with ⟨c120, h⟩ | ⟨c120, h⟩
  ·refine au ae [(45, vb true)] 7 [hk (CV y118 e119), ht c120] ?_
   exact jl true h
  ·obtain ⟨y121, e122, h⟩ := ak h
   refine au ae [(45, vb (!y121))] 6 [hk (CV y118 e119), hf c120, hn, hn, hk (CZ p0 y121 e122)] ?_
   exact jl (!y121) h
theorem OF {a b : List aB} {i : Nat} (L : List kk) (hn : L.length ≤ 1000000000) : loop (fun v : Bool × Int => IF a b (i : Int) L v.1 v.2) (false, 0) = some (L.any fun z => z.A == (recD a i).ID && z.B == (recD b i).ID) := by
 refine DF (fun j => (((L.take j).any fun z => z.A == (recD a i).ID && z.B == (recD b i).ID), (j : Int))) L.length _ (fun j hj => ?_) ?_ (by simp)
 ·have hc := IL G6 hj
  simp only [IF, IE]
  rw [FM, FM, EQ, EK, EK, EI (n := (j : Int) + 1) (by omega) (by omega), hc, List.any_append, List.any_cons, List.any_nil, Bool.or_false]
  unfold recD
  cases (L.take j).any fun z => z.A == (a.getD i bg).ID && z.B == (b.getD i bg).ID
  ·rw [EN, Bool.false_or]
   cases (L.getD j G6).A == (a.getD i bg).ID
   ·rw [EN, Bool.false_and]
    rfl
   ·rw [if_pos rfl, Bool.true_and]
    rfl
  ·rw [if_pos rfl, Bool.true_or]
   rfl
 ·simp only [IF]
  rw [EO, PF]
theorem O6 {s : aK} {a b : List aB} {n : Nat} (hR : Hz s a b n) {X Y : List (List aH)} {secret : hJ} {bk : bz} {q : Nat} (hq : q < X.length)
  (hX : Gz (X.getD q []) (Hk secret bk (q : Int) a) 1048577 64) (hY : Gz (Y.getD q []) (Hk secret bk (q : Int) b) 1048577 64) {i : Nat} (hi : i < n) {h : Int} {ok : Bool} (e : lR secret bk (q : Int) (recD a i) = some (h, ok)) :
  ((G2 X Y (2 ^ q)).any fun z => z.A == (recD a i).ID && z.B == (recD b i).ID) = ok := by
 have la := hR.la
 have lb := hR.lb
 obtain ⟨v, f1, f2, _⟩ := hR.f i hi
 have ma : recD a i ∈ a := GJ _ (by omega)
 have mb : recD b i ∈ b := GJ _ (by omega)
 have e2 : lR secret bk (q : Int) (recD b i) = some (h, ok) := by
  rw [← e]
  exact M7 (by rw [f1, f2])
 rw [Bool.eq_iff_iff, List.any_eq_true]
 constructor
 ·rintro ⟨z, hz, hz2⟩
  simp only [FY, beq_iff_eq] at hz2
  obtain ⟨x, hx, y, hy, _, hA, hB⟩ := (Me hq).1 hz
  obtain ⟨r, hr, hr2, hr3⟩ := (hX.mem x.Hash z.A).1 ⟨x, hx, rfl, hA⟩
  obtain ⟨j, hj, rfl⟩ := PD.1 hr
  obtain ⟨w, g1, _⟩ := hR.f j (by omega)
  have gj : a[j] = recD a j := by
   unfold recD
   rw [FI, FJ hj]
   rfl
  have : j = i := by
   rw [gj, g1, hz2.1, f1] at hr2
   simp only at hr2
   omega
  subst this
  rw [gj, e] at hr3
  exact (Prod.mk.inj (am hr3)).2
 ·rintro rfl
  obtain ⟨x, hx, hx1, hx2⟩ := (hX.mem h (recD a i).ID).2 ⟨_, ma, rfl, e⟩
  obtain ⟨y, hy, hy1, hy2⟩ := (hY.mem h (recD b i).ID).2 ⟨_, mb, rfl, e2⟩
  exact ⟨⟨(recD a i).ID, (recD b i).ID⟩, (Me hq).2 ⟨x, hx, y, hy, by rw [hx1, hy1], hx2, hy2⟩, by simp⟩
theorem Jr {α β : Type} {f : α → List β} {n : Nat} : ∀ {l : List α}, (∀ x ∈ l, (f x).length ≤ n) → (l.flatMap f).length ≤ l.length * n
 | [], _ => Nat.zero_le _
 | x :: l, h => by
  have h1 := h x FZ
  have h2 := Jr (l := l) fun y hy => h y (F0 _ hy)
  rw [List.flatMap_cons, FO, FN, Nat.succ_mul]
  omega
theorem LV (x : kk) : ∀ l, (Hh x l).length ≤ l.length + 1
 | [] => F9 _
 | y :: l => by
  have := LV x l
  unfold Hh
  split
  ·exact F9 _
  ·split
   ·simp only [FN]
    omega
   ·exact Nat.le_succ _
theorem LC : ∀ l, (HR l).length ≤ l.length
 | [] => F9 _
 | x :: l => Ga (LV x (HR l)) (Nat.succ_le_succ (LC l))
theorem OG {X Y : List (List aH)} (h : HS X Y) (q : Nat) : (G2 X Y q).length ≤ 1000000000 := by
 have h8 := h.len8
 have hl := h.len
 have hid : ∀ {L : List aH}, xc L → ∀ x ∈ L, x.IDs.length ≤ 64 := fun {L} g x hx => by
  obtain ⟨i, hi, rfl⟩ := PD.1 hx
  have := g.ids hi
  rwa [FI, FJ hi] at this
 have e1 : (GF X Y X.length).length ≤ X.length * (64 * (64 * (64 * 64))) := by
  refine Ga (Jr (n := 64 * (64 * (64 * 64))) fun i hi => ?_) (Nat.le_of_eq (by rw [List.length_range]))
  have hi := List.mem_range.1 hi
  have gx := h.g0 i hi
  have gy := h.g1 i hi
  refine Ga (Jr (n := 64 * (64 * 64)) fun x hx => ?_) (F8 _ gx.len)
  refine Ga (Jr (n := 64 * 64) fun y hy => ?_) (F8 _ gy.len)
  split
  ·refine Ga (Jr (n := 64) fun s hs => ?_) (F8 _ (hid gx x hx))
   rw [Ps]
   exact hid gy y hy
  ·exact Nat.zero_le _
 have e2 := LC (((GF X Y X.length).map Prod.snd).filter fun c => Gs (GF X Y X.length) c &&& q ≠ 0)
 have e3 := List.length_filter_le (fun c => decide (Gs (GF X Y X.length) c &&& q ≠ 0)) ((GF X Y X.length).map Prod.snd)
 rw [Ps] at e3
 unfold G2
 omega
theorem OH {s : aK} (hs : Gy s) {ks : List bz} (hk : Ic s ks) {secret : hJ} {a b : List aB} {n : Nat} (hn : n ≤ 4) (hR : Hz s a b n) {X Y : List (List aH)} (lX : X.length = ks.length) (lY : Y.length = ks.length)
  (hX : ∀ q, q < ks.length → Gz (X.getD q []) (Hk secret (ks.getD q dQ) (q : Int) a) 1048577 64) (hY : ∀ q, q < ks.length → Gz (Y.getD q []) (Hk secret (ks.getD q dQ) (q : Int) b) 1048577 64) {i : Nat} (hi : i < n) :
  loop (fun v : Int => Jc s secret ks a b X Y (i : Int) v) 0 = some (.inl ()) := by
 have la := hR.la
 have hkn := hk.n
 have ra : GR s (recD a i) := (hR.a (by omega)).ok i (by omega)
 have hG : HS X Y := ⟨by omega, by omega, fun q hq => (hX q (by omega)).good (by decide) (by decide), fun q hq => (hY q (by omega)).good (by decide) (by decide)⟩
 refine DF (fun q => (q : Int)) ks.length _ (fun q hq => ?_) ?_ (by simp)
 ·obtain ⟨h, ok, e1, e2⟩ := NJ hs ra hk secret hq
  have e3 := OF (a := a) (b := b) (i := i) (G2 X Y (2 ^ q)) (OG hG _)
  rw [O6 hR (by omega) (hX q hq) (hY q hq) hi e2] at e3
  simp only [Jc]
  unfold recD at e1
  rw [FM, EQ, e1, Df, EK, Mr (by omega), NK hG (by omega), De, e3, Dd, EN, EN, beq_self_eq_true]
  unfold IC
  rw [EN, EI (n := (q : Int) + 1) (by omega) (by omega)]
  rfl
 ·simp only [Jc]
  rw [EO]
theorem NL {s : aK} (hs : Gy s) {a : List aB} {i : Nat} (ra : GR s (recD a i)) {c : List Int} (hc : IZ (recD a i).Values s.Fields.length c) :
  loop (fun v : Int => Jb s a (i : Int) c (GK (GL (recD a i).Values) s.Fields.length) v) 0 = some (.inl ()) := by
 have h4 := hs.n1
 have hl := hc.l
 have hv : (a.getD i bg).Values.length = s.Fields.length := ra.l
 refine DF (fun q => (q : Int)) s.Fields.length _ (fun q hq => ?_) ?_ (by simp)
 ·have hg : (GK (GL (recD a i).Values) s.Fields.length).getD q 0 = GL (recD a i).Values q := Md hq
  simp only [Jb, G9]
  rw [FM, FM, EQ, EK, hv, EK, show (mk #[]) = gi [] from rfl, Em, hl, HJ, Gg, hg]
  rcases hc.f q hq with ⟨h, e⟩ | ⟨h, e⟩
  ·have hd : GL (recD a i).Values q = 0 := if_pos h
   rw [Pw h, if_pos rfl, EK, e, EN, EK, hd, EN, EN, EN, EI (n := (q : Int) + 1) (by omega) (by omega)]
   rfl
  ·have hd : GL (recD a i).Values q = 2 := if_neg h
   rw [Pv h, EN, EM, EK, e, EN, EK, hd, EN, EI (n := (q : Int) + 1) (by omega) (by omega)]
   rfl
 ·simp only [Jb]
  rw [EO]
theorem N7 {s : aK} (hs : Gy s) {p : List aC} (hp : Iu s.Fields.length p) (k : hJ) {ks : List bz} (hk : Ic s ks) {secret : hJ} {a b : List aB} {n : Nat} (hn : n ≤ 4) (hR : Hz s a b n) {X Y : List (List aH)} (lX : X.length = ks.length) (lY : Y.length = ks.length)
  (hX : ∀ q, q < ks.length → Gz (X.getD q []) (Hk secret (ks.getD q dQ) (q : Int) a) 1048577 64) (hY : ∀ q, q < ks.length → Gz (Y.getD q []) (Hk secret (ks.getD q dQ) (q : Int) b) 1048577 64) {i : Nat} (hi : i < a.length) :
  Jd s p k secret ks a b X Y (i : Int) = some (.inl ((i + 1 : Nat) : Int)) := by
 have la := hR.la
 have lb := hR.lb
 have n0 := hs.n0
 have n1 := hs.n1
 have ra : GR s (recD a i) := (hR.a (by omega)).ok i (by omega)
 have rb : GR s (recD b i) := (hR.b (by omega)).ok i (by omega)
 obtain ⟨v, f1, f2, _⟩ := hR.f i (by omega)
 obtain ⟨u, v', c, g1, g2, g3, hc⟩ := Lz hs hp k ra rb (by rw [f1, f2])
 have hT := fun j (hj : j < s.Fields.length) => (show ∀ x ∈ ([1000, 900, 1000, 1] : List Int), 0 ≤ x ∧ x ≤ 1000 by decide) _ (List.mem_of_mem_take (GJ 0 (show j < (([1000, 900, 1000, 1] : List Int).take s.Fields.length).length by rw [FR, FN, FN, FN, FN, FP]; omega)))
 have hpat := K7 (ts := ([1000, 900, 1000, 1] : List Int).take s.Fields.length) n0 n1 (by rw [FR, FN, FN, FN, FN, FP]; omega) hT hc
 have hdig := M6 (Mm (recD a i).Values) n0 n1
 have hF := NL hs ra hc
 have hK := OH hs hk hn hR lX lY hX hY (i := i) (by omega)
 unfold recD at g1 g2 hpat hdig hF
 unfold recD at hc
 have hcl := hc.l
 simp only [Jd]
 rw [FM, FM, EQ, EK, EK, g1, De, EK, g2, De, g3, De, hpat, De, if_pos (by rw [FN, FN, FN, FN, FP]; omega), hdig, De, EN, EN, EN, EN, EN, hcl, EO, HJ, bne_self_eq_false]
 unfold Hq
 rw [EN, hF, D6]
 unfold Jy
 rw [hK, D6]
 unfold Jx
 rw [EI (n := (i : Int) + 1) (by omega) (by omega)]
 rfl
theorem ML (x : List Int) : Jz x = some true := by
 unfold Jz
 rw [LB, Dd, EN]
 unfold uY
 rw [Dd]
 by_cases h400 : x.length ≤ 400
 ·rw [Pw (by omega)]
  unfold IG
  rw [EN]
  obtain ⟨d0, e0, hd0⟩ := Oi h400
  obtain ⟨s, d1, e1, hs, hd1⟩ := MX hd0
  have n1 := hs.n1
  obtain ⟨p, d2, e2, hp, hd2⟩ := MY hd1 hs.n0 n1
  obtain ⟨k, d3, e3, _, hd3⟩ := Mc hd2
  obtain ⟨secret, d4, e4, _, hd4⟩ := Mc hd3
  obtain ⟨ks, d5, e5, hks, hd5⟩ := Ny hs hd4
  obtain ⟨a, b, d6, e6, ⟨n, hn4, hR⟩, hd6⟩ := MP hs hd5
  obtain ⟨X, eX, lX, hX⟩ := LU hs (hR.a (by omega)) hks secret
  obtain ⟨Y, eY, lY, hY⟩ := LU hs (hR.b (by omega)) hks secret
  have la := hR.la
  rw [e0, Dd, e1, De, e2, De, e3, De, e4, De, e5, De, e6, Df, EK, FM, if_pos (show s.Fields.length ≤ ([1000, 900, 1000, 1] : List Int).length from n1), eX, De, eY, De, EN, EN, lX, lY, bne_self_eq_false, EN]
  unfold Ip
  rw [EN, DF (fun i => (i : Int)) a.length (.inl ()) (fun i hi => N7 hs hp k hks hn4 hR lX lY hX hY hi) (by
   simp only [Jd]
   rw [EO]) (by simp)]
  rfl
 ·rw [Pv (by omega)]
  unfold IG
  rw [Bool.not_false, if_pos rfl, LB]
  rfl
end Go.Proofs.YtfmhbcfklokmaaaGreatDoor
