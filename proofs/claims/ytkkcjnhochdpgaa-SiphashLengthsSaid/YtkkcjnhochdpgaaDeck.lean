/- The deck of the statements: what it deals, and that it stays a deck. -/
import Derived.Test.YtkkcjnhochdpgaaMem
namespace Go.Proofs.Ytkkcjnhochdpgaa
open Go.RowKit

def intsV (l : List Int) : List Value := l.map fun x => .int .i64 x
/-- Block p is a deck over a list of at most 400 numbers that lies below it. -/
structure DeckAt (w : World) (p : Nat) (q : Option Addr) (n c : Nat) (l : List Int) (at_ : Int) (st : UInt64) : Prop where
  blk : w.heap[p]? = some (.cells #[.slice q n c, .int .i64 at_, .int .u64 (T64 st)] 45 (0, 0))
  len : n = l.length
  cells : Cells w q (intsV l)
  low : n = 0 ∨ ∀ a, q = some a → a.block < p
  at0 : 0 ≤ at_
  at1 : at_ ≤ n
  few : n ≤ 400
theorem keepInts {w w' : World} {p n : Nat} {q : Option Addr} {l : List Int} (hn : n = l.length) (h : Cells w q (intsV l)) (k : Only p w w') (hp : n = 0 ∨ ∀ a, q = some a → a.block ≠ p) : Cells w' q (intsV l) := by
  rcases hp with h0 | h0
  · have : l = [] := List.eq_nil_of_length_eq_zero (by omega)
    subst this; exact Cells.nil _ _
  · exact h.onlyNe k h0
def Deck (w : World) (p : Nat) : Prop := ∃ q n c l at_ st, DeckAt w p q n c l at_ st
theorem Deck.below {w w' : World} {p : Nat} (h : Deck w p) (k : Below w.heap.size w w') : Deck w' p := by
  obtain ⟨q, n, c, l, at_, st, hb, h1, h2, h3, h4, h5, h6⟩ := h
  exact ⟨q, n, c, l, at_, st, (k.block p (lt_of_heap hb)).trans hb, h1, h2.below k, h3, h4, h5, h6⟩
theorem Deck.lt {w : World} {p : Nat} (h : Deck w p) : p < w.heap.size := by
  obtain ⟨q, n, c, l, at_, st, hb, _⟩ := h
  exact lt_of_heap hb
theorem DeckAt.step {w w' : World} {p n c : Nat} {q : Option Addr} {l : List Int} {at_ at' : Int} {st st' : UInt64} (h : DeckAt w p q n c l at_ st) (h0 : 0 ≤ at') (h1 : at' ≤ n)
    (hb : w'.heap[p]? = some (.cells #[.slice q n c, .int .i64 at', .int .u64 (T64 st')] 45 (0, 0))) (ho : Only p w w') : Deck w' p :=
  ⟨q, n, c, l, at', st', hb, h.len, keepInts h.len h.cells ho (h.low.imp id fun f a ha => by have := f a ha; omega), h.low, h0, h1, h.few⟩
/-- What a call on a deck comes to: a value of which R holds; of all that was there only the deck has changed, and it is a deck still. -/
def DkPost (p : Nat) (w : World) (R : Value → Prop) (e : Ending) (w' : World) : Prop := ∃ v, e = .returned v ∧ R v ∧ Deck w' p ∧ Only p w w'
theorem DeckAt.post {w w' : World} {p n c : Nat} {q : Option Addr} {l : List Int} {at_ at' : Int} {st st' : UInt64} {R : Value → Prop} {v : Value} (h : DeckAt w p q n c l at_ st) (h0 : 0 ≤ at') (h1 : at' ≤ n)
    (hb : w'.heap[p]? = some (.cells #[.slice q n c, .int .i64 at', .int .u64 (T64 st')] 45 (0, 0))) (ho : Only p w w') (hR : R v) : DkPost p w R (.returned v) w' :=
  ⟨v, rfl, hR, h.step h0 h1 hb ho, ho⟩
theorem Deck.onlyNew {w w' : World} {p q : Nat} (h : Deck w p) (k : Only q w w') (hq : p < q) : Deck w' p := by
  obtain ⟨q', n, c, l, at_, st, hb, h1, h2, h3, h4, h5, h6⟩ := h
  exact ⟨q', n, c, l, at_, st, (k.block p (lt_of_heap hb) (by omega)).trans hb, h1, keepInts h1 h2 k (h3.imp id fun f a ha => by have := f a ha; omega), h3, h4, h5, h6⟩
def isU64 (v : Value) : Prop := ∃ x : UInt64, v = .int .u64 (T64 x)

set_option maxHeartbeats 1600000 in
theorem word_more (p : Nat) (q : Option Addr) (n c : Nat) (l : List Int) (at_ : Int) (st : UInt64) (w : World) (h : DeckAt w p q n c l at_ st) (h1 : at_ < n) :
    Calls Try.prog 22 #[.pointer (some ⟨p, 0, none⟩)] w (DkPost p w isU64) := by
  have H := Lib.hid h
  obtain ⟨hb, hl, hcs, hlow, h0, _, hn⟩ := h
  have c0 : w.cell? ⟨p, 0, none⟩ = some (.slice q n c) := cell_at hb 0
  have c1 : w.cell? ⟨p, 1, none⟩ = some (.int .i64 at_) := cell_at hb 1
  have c2 : w.cell? ⟨p, 2, none⟩ = some (.int .u64 (T64 st)) := cell_at hb 2
  have f0 : ∀ k, w.frozen? ⟨p, k, none⟩ = false := frozen_at hb
  obtain ⟨b, o, rfl, hx⟩ := hcs at_.toNat (by simp only [intsV, List.length_map]; omega)
  obtain ⟨x, hx'⟩ : ∃ x : Int, (intsV l)[at_.toNat]'(by simp only [intsV, List.length_map]; omega) = .int .i64 x := by simp [intsV]
  rw [hx'] at hx
  obtain ⟨y, hy⟩ : ∃ y : UInt64, IntKind.u64.wrap x = T64 y := ⟨_, T64_of _ (by rw [IntKind.wrap_u64]; omega) (by rw [IntKind.wrap_u64]; omega)⟩
  have e1 := u64_mul
  clear hb hl hcs hlow hx' e1
  have m1 : ∀ z : UInt64, IntKind.u64.wrap (T64 z * 6364136223846793005) = T64 (z * 6364136223846793005) := fun z => u64_mul z 6364136223846793005
  have m2 : ∀ z : UInt64, IntKind.u64.wrap (T64 z + 1442695040888963407) = T64 (z + 1442695040888963407) := fun z => u64_add z 1442695040888963407
  have m3 : ∀ z : UInt64, IntKind.u64.wrap (T64 z * 18397679294719823053) = T64 (z * 18397679294719823053) := fun z => u64_mul z 18397679294719823053
  go_enter Try.func22, Try.ntmps22
  go_wp2
  go_quiet (fail)
  go_wp2
  go_quiet (fail)
  go_wp2
  go_quiet (fail)
  go_wp2
  go_ret
  exact H.out.post (at' := at_ + 1) (by omega) (by omega) (heap_setCell_eq (heap_setCell_eq H.out.blk 1 _) 2 _) (((((Only.refl p w).drewN _).setCell 1 _).setCell 2 _).drewN _) ⟨_, rfl⟩
set_option maxHeartbeats 1600000 in
theorem word_done (p : Nat) (q : Option Addr) (n c : Nat) (l : List Int) (at_ : Int) (st : UInt64) (w : World) (h : DeckAt w p q n c l at_ st) (h1 : ¬ at_ < n) :
    Calls Try.prog 22 #[.pointer (some ⟨p, 0, none⟩)] w (DkPost p w isU64) := by
  have H := Lib.hid h
  obtain ⟨hb, hl, hcs, hlow, h0, h2, hn⟩ := h
  have c0 : w.cell? ⟨p, 0, none⟩ = some (.slice q n c) := cell_at hb 0
  have c1 : w.cell? ⟨p, 1, none⟩ = some (.int .i64 at_) := cell_at hb 1
  have c2 : w.cell? ⟨p, 2, none⟩ = some (.int .u64 (T64 st)) := cell_at hb 2
  have f0 : ∀ k, w.frozen? ⟨p, k, none⟩ = false := frozen_at hb
  clear hb hl hcs hlow
  have m1 : ∀ z : UInt64, IntKind.u64.wrap (T64 z * 6364136223846793005) = T64 (z * 6364136223846793005) := fun z => u64_mul z 6364136223846793005
  have m2 : ∀ z : UInt64, IntKind.u64.wrap (T64 z + 1442695040888963407) = T64 (z + 1442695040888963407) := fun z => u64_add z 1442695040888963407
  have m3 : ∀ z : UInt64, IntKind.u64.wrap (T64 z * 18397679294719823053) = T64 (z * 18397679294719823053) := fun z => u64_mul z 18397679294719823053
  go_enter Try.func22, Try.ntmps22
  go_wp2
  go_quiet (fail)
  go_wp2
  go_quiet (fail)
  go_wp2
  go_ret
  exact H.out.post (at' := at_) h0 h2 (heap_setCell_eq H.out.blk 2 _) ((((Only.refl p w).drewN _).setCell 2 _).drewN _) ⟨_, rfl⟩
theorem word_any' (p : Nat) (w : World) (h : Deck w p) : Calls Try.prog 22 #[.pointer (some ⟨p, 0, none⟩)] w (DkPost p w isU64) := by
  obtain ⟨q, n, c, l, at_, st, h⟩ := h
  by_cases h1 : at_ < n
  · exact word_more p q n c l at_ st w h h1
  · exact word_done p q n c l at_ st w h h1

def isLt (n : Int) (v : Value) : Prop := ∃ k : Int, v = .int .i64 k ∧ 0 ≤ k ∧ k < n
set_option maxHeartbeats 400000 in
theorem next_any (p : Nat) (n : Int) (h1 : 1 ≤ n) (h2 : n ≤ 1000000000) (w : World) (h : Deck w p) : Calls Try.prog 12 #[.pointer (some ⟨p, 0, none⟩), .int .i64 n] w (DkPost p w (isLt n)) := by
  have H := Lib.hid h
  clear h
  have h3 : ¬ n < 1 := by omega
  go_enter Try.func12, Try.ntmps12
  go_wp2_with fail
  refine (word_any' p w H.out).mono ?_
  rintro e w' ⟨v, rfl, ⟨x, rfl⟩, hd, ho⟩
  have HD := Lib.hid hd
  have HO := Lib.hid ho
  clear hd ho
  have t1 := T64_pos (x >>> 1)
  have t2 : T64 (x >>> 1) < 9223372036854775808 := by
    unfold T64; rw [UInt64.toNat_shiftRight]; have := x.toNat_lt; rw [Nat.shiftRight_eq_div_pow, show (1 : UInt64).toNat % 64 = 1 from rfl]; omega
  have t3 : 0 ≤ T64 (x >>> 1) % n := Int.emod_nonneg _ (by omega)
  have t4 : T64 (x >>> 1) % n < n := Int.emod_lt_of_pos _ (by omega)
  go_wp2_with fail
  go_ret
  exact ⟨_, rfl, ⟨_, rfl, t3, t4⟩, HD.out, HO.out⟩

def isBool (v : Value) : Prop := ∃ b : Bool, v = .bool b
set_option maxHeartbeats 400000 in
theorem one_any (p : Nat) (n : Int) (h1 : 1 ≤ n) (h2 : n ≤ 1000000000) (w : World) (h : Deck w p) : Calls Try.prog 27 #[.pointer (some ⟨p, 0, none⟩), .int .i64 n] w (DkPost p w isBool) := by
  have H := Lib.hid h
  clear h
  go_enter Try.func27, Try.ntmps27
  go_wp2_with fail
  refine (next_any p n h1 h2 w H.out).mono ?_
  rintro e w' ⟨v, rfl, ⟨k, rfl, k0, k1⟩, hd, ho⟩
  have HD := Lib.hid hd
  have HO := Lib.hid ho
  clear hd ho
  go_wp2_with fail
  go_ret
  exact ⟨_, rfl, ⟨_, rfl⟩, HD.out, HO.out⟩
def isKey (v : Value) : Prop := ∃ a b : UInt64, v = .agg #[.int .u64 (T64 a), .int .u64 (T64 b)]
set_option maxHeartbeats 400000 in
theorem key_any (p : Nat) (w : World) (h : Deck w p) : Calls Try.prog 11 #[.pointer (some ⟨p, 0, none⟩)] w (DkPost p w isKey) := by
  have hp := h.lt
  have H := Lib.hid h
  clear h
  go_enter Try.func11, Try.ntmps11
  go_wp2_with fail
  refine (word_any' p _ (H.out.below ((Below.refl _ _).alloc (Nat.le_refl _) _))).mono ?_
  rintro e w1 ⟨v, rfl, ⟨x, rfl⟩, hd, ho⟩
  have HD1 := Lib.hid hd
  have HO1 := Lib.hid ho
  clear hd ho
  go_wp2_with fail
  refine (word_any' p w1 HD1.out).mono ?_
  rintro e w2 ⟨v, rfl, ⟨y, rfl⟩, hd, ho⟩
  have HD2 := Lib.hid hd
  have HO2 := Lib.hid (HO1.out.trans ho)
  clear hd ho
  have hb : Hid (w2.heap[w.heap.size]? = some (.cells #[.int .u64 0, .int .u64 0] 29 (0, 0))) := by
    show _ = _
    rw [HO2.out.block _ (by simp) (by omega)]; exact heap_new _ _
  have d0 : w2.cell? ⟨w.heap.size, 0, none⟩ = some (.int .u64 0) := cell_at hb.out 0
  have d1 : w2.cell? ⟨w.heap.size, 1, none⟩ = some (.int .u64 0) := cell_at hb.out 1
  have g0 : ∀ k, w2.frozen? ⟨w.heap.size, k, none⟩ = false := frozen_at hb.out
  go_wp2_with fail
  refine bodyPost_ret (v := .agg #[.int .u64 (T64 x), .int .u64 (T64 y)]) (by simp [results, Try.results11, go_sem, d0, d1]) rfl ⟨_, rfl, ⟨x, y, rfl⟩, ?_, ?_⟩
  · refine HD2.out.onlyNew ?_ (q := w.heap.size) (by omega)
    exact ((Only.refl _ _).setCell 0 _).setCell 1 _
  · exact ((((Only.refl _ _).alloc _).trans HO2.out).setNew (Nat.le_refl _) _ _).setNew (Nat.le_refl _) _ _
def isOf (ss : List ByteArray) (v : Value) : Prop := ∃ s, s ∈ ss ∧ v = .string s
set_option maxHeartbeats 400000 in
theorem pick_any (p : Nat) (q : Option Addr) (n c : Nat) (ss : List ByteArray) (hn : n = ss.length) (h1 : 1 ≤ n) (h2 : n ≤ 1000000) (w : World) (h : Deck w p) (hc : Cells w q (strV ss)) (hq : ∀ a, q = some a → a.block ≠ p) :
    Calls Try.prog 23 #[.pointer (some ⟨p, 0, none⟩), .slice q n c] w (DkPost p w (isOf ss)) := by
  have H := Lib.hid h
  have HC := Lib.hid hc
  have HQ := Lib.hid hq
  have HN := Lib.hid hn
  clear h hc hq hn
  go_enter Try.func23, Try.ntmps23
  go_wp2_with fail
  refine (next_any p n (by omega) (by omega) w H.out).mono ?_
  rintro e w' ⟨v, rfl, ⟨k, rfl, k0, k1⟩, hd, ho⟩
  have HD := Lib.hid hd
  have HO := Lib.hid ho
  clear hd ho
  obtain ⟨k, rfl⟩ := Int.eq_ofNat_of_zero_le k0
  have hk : k < ss.length := by have := HN.out; omega
  obtain ⟨b, o, rfl, hx⟩ := str_at (HC.out.onlyNe HO.out HQ.out) k hk
  go_wp2_with fail
  go_ret
  exact ⟨_, rfl, ⟨ss[k], List.getElem_mem hk, rfl⟩, HD.out, HO.out⟩

set_option maxHeartbeats 400000 in
theorem few_yes (q : Option Addr) (n c : Nat) (h : n ≤ 400) (w : World) : Calls Try.prog 9 #[.slice q n c] w fun e w' => e = .returned (.bool true) ∧ w = w' := by
  have h1 : (n : Int) ≤ 400 := by omega
  go_enter Try.func9, Try.ntmps9
  go_wp2
  go_ret
  exact ⟨ret_eq (by simp), rfl⟩
set_option maxHeartbeats 400000 in
theorem few_no (q : Option Addr) (n c : Nat) (h : ¬ n ≤ 400) (w : World) : Calls Try.prog 9 #[.slice q n c] w fun e w' => e = .returned (.bool false) ∧ w = w' := by
  have h1 : ¬ (n : Int) ≤ 400 := by omega
  go_enter Try.func9, Try.ntmps9
  go_wp2
  go_ret
  exact ⟨ret_eq (by simp), rfl⟩
set_option maxHeartbeats 400000 in
theorem new_any (q : Option Addr) (n c : Nat) (l : List Int) (hl : n = l.length) (hn : n ≤ 400) (w : World) (hc : Cells w q (intsV l)) (hq : n = 0 ∨ ∀ a, q = some a → a.block < w.heap.size) :
    Calls Try.prog 10 #[.slice q n c] w fun e w' => e = .returned (.pointer (some ⟨w.heap.size, 0, none⟩)) ∧ Deck w' w.heap.size ∧ Below w.heap.size w w' := by
  have HC := Lib.hid hc
  have HQ := Lib.hid hq
  have HL := Lib.hid hl
  clear hc hq hl
  go_enter Try.func10, Try.ntmps10
  go_wp2
  go_ret
  have hb : Below w.heap.size w (w.alloc (.cells #[.slice q n c, .int .i64 0, .int .u64 (T64 11400714819323198485)] 45 (0, 0))) := (Below.refl _ _).alloc (Nat.le_refl _) _
  exact ⟨rfl, ⟨q, n, c, l, 0, 11400714819323198485, heap_new _ _, HL.out, HC.out.below hb, HQ.out, by omega, by omega, hn⟩, hb⟩
def shortB (ss : List ByteArray) : Bool := ss.all fun s => decide (s.size ≤ 200)
set_option maxHeartbeats 800000 in
theorem short_any (q : Option Addr) (n c : Nat) (ss : List ByteArray) (hn : n = ss.length) (hm : n ≤ 1000000) (w : World) (hc : Cells w q (strV ss)) :
    Calls Try.prog 19 #[.slice q n c] w fun e w' => e = .returned (.bool (shortB ss)) ∧ w = w' := by
  have HC := Lib.hid hc
  have HN := Lib.hid hn
  clear hc hn
  go_enter Try.func19, Try.ntmps19
  go_wp2
  go_loop [3] (fun i => ∃ k : Nat, k ≤ n ∧ i = .int .i64 k ∧ Hid (∀ s ∈ ss.take k, s.size ≤ 200)) (fun i => n - (intOf i).toNat)
  case atStart => exact ⟨0, by omega, rfl, fun s hs => by simp at hs⟩
  case round =>
    obtain ⟨k, hk, rfl, HS⟩ := hrel
    by_cases hlt : k < n
    · have hk' : k < ss.length := by have := HN.out; omega
      obtain ⟨b, o, rfl, hx⟩ := str_at HC.out k hk'
      by_cases hz : ss[k].size ≤ 200
      · have hz' : ¬ (200 : Int) < (ss[k].size : Int) := by omega
        go_wp2
        go_round
        case rel => exact ⟨k + 1, by omega, by go_num, fun s hs => by
          rw [List.take_succ_eq_append_getElem hk', List.mem_append, List.mem_singleton] at hs
          rcases hs with hs | rfl
          · exact HS.out s hs
          · exact hz⟩
        case measure => simp [intOf]; omega
      · have hz' : (200 : Int) < (ss[k].size : Int) := by omega
        have hB : Hid (shortB ss = false) := by
          show _ = _
          rw [shortB, List.all_eq_false]
          exact ⟨ss[k], List.getElem_mem hk', by simpa using hz⟩
        go_wp2
        go_ret
        exact ⟨ret_eq (by rw [hB.out]; rfl), rfl⟩
    · have hB : Hid (shortB ss = true) := by
        show _ = _
        rw [shortB, List.all_eq_true]
        intro s hs
        have hkl : k = ss.length := by have := HN.out; omega
        have := HS.out s (by rw [hkl, List.take_length]; exact hs)
        simpa using this
      go_wp2
      go_ret
      exact ⟨ret_eq (by rw [hB.out]; rfl), rfl⟩
end Go.Proofs.Ytkkcjnhochdpgaa
