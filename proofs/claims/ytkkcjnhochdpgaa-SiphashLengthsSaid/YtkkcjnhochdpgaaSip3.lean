/- SipHash: words, sums. -/
import Derived.Test.YtkkcjnhochdpgaaSip2
namespace Go.Proofs.Ytkkcjnhochdpgaa
open Go.RowKit
attribute [local irreducible] rnds

def wordS (s : St) (m : UInt64) : St :=
  ((rnds 2 (s.1, s.2.1, s.2.2.1, s.2.2.2 ^^^ m)).1 ^^^ m, (rnds 2 (s.1, s.2.1, s.2.2.1, s.2.2.2 ^^^ m)).2.1, (rnds 2 (s.1, s.2.1, s.2.2.1, s.2.2.2 ^^^ m)).2.2.1, (rnds 2 (s.1, s.2.1, s.2.2.1, s.2.2.2 ^^^ m)).2.2.2)
set_option maxHeartbeats 400000 in
theorem word_any (p : Nat) (s : St) (m : UInt64) (w : World) (hp : S4 w w p s.1 s.2.1 s.2.2.1 s.2.2.2) :
    Calls Try.prog 24 #[.pointer (some ⟨p, 0, none⟩), .int .u64 (T64 m)] w fun e w' => e = .returned (.tuple #[]) ∧
      S4 w w' p (wordS s m).1 (wordS s m).2.1 (wordS s m).2.2.1 (wordS s m).2.2.2 := by
  have H := Lib.hid hp
  obtain ⟨c0, c1, c2, c3, f0⟩ := hp.facts
  clear hp
  go_enter Try.func24, Try.ntmps24
  go_wp2_with fail
  refine (rounds_any p 2 (by omega) (s.1, s.2.1, s.2.2.1, s.2.2.2 ^^^ m) _ ⟨(H.out.set3 _).blk, Only.refl _ _⟩).mono ?_
  rintro e w' ⟨rfl, hs⟩
  have H1 := Lib.hid hs
  obtain ⟨d0, d1, d2, d3, f1⟩ := hs.facts
  clear hs c0 c1 c2 c3 f0
  go_wp2_with fail
  go_end0
  exact ⟨rfl, (⟨H1.out.blk, (H.out.set3 _).only.trans H1.out.only⟩ : S4 w w' p _ _ _ _).set0 _⟩

attribute [local irreducible] wordS
/-- The first k bytes as a number. -/
def numTo (l : List UInt8) : Nat → UInt64
  | 0 => 0
  | k + 1 => numTo l k ||| (l.getD k 0).toUInt64 <<< UInt64.ofNat (8 * k)
def num (l : List UInt8) : UInt64 := numTo l l.length
def bytesV (l : List UInt8) : List Value := l.map fun x => .int .u8 (T8 x)
theorem bytes_at {w : World} {q : Option Addr} {l : List UInt8} (h : Cells w q (bytesV l)) (i : Nat) (hi : i < l.length) :
    ∃ b o, q = some ⟨b, o, none⟩ ∧ w.cell? ⟨b, o + i, none⟩ = some (.int .u8 (T8 l[i])) := by
  obtain ⟨b, o, e, hc⟩ := h i (by simpa [bytesV] using hi)
  exact ⟨b, o, e, by rw [hc]; simp [bytesV]⟩
set_option maxHeartbeats 400000 in
theorem number_any (q : Option Addr) (n c : Nat) (l : List UInt8) (hn : n = l.length) (hl : n ≤ 8) (w : World) (hc : Cells w q (bytesV l)) :
    Calls Try.prog 25 #[.slice q n c] w fun e w' => e = .returned (.int .u64 (T64 (num l))) ∧ w = w' := by
  have HC := Lib.hid hc
  have HN := Lib.hid hn
  clear hc hn
  go_enter Try.func25, Try.ntmps25
  go_wp2
  go_loop [3, 8, 4, 5] (fun m i x y => ∃ k : Nat, k ≤ n ∧ i = .int .i64 k ∧ ∃ m' : UInt64, m = .int .u64 (T64 m') ∧ Hid (m' = numTo l k)) (fun _ i _ _ => n - (intOf i).toNat)
  case atStart => exact ⟨0, by omega, rfl, 0, rfl, rfl⟩
  case round =>
    obtain ⟨k, hk, rfl, m', rfl, HM⟩ := hrel
    by_cases hlt : k < n
    · have hk' : k < l.length := by have := HN.out; omega
      obtain ⟨b, o, rfl, hx⟩ := bytes_at HC.out k hk'
      have hs := u64_shlv l[k].toUInt64 (8 * k) (by omega)
      go_wp2
      go_round
      case rel => exact ⟨k + 1, by omega, by go_num, _, rfl, (by show _ = numTo l (k + 1); rw [HM.out]; simp [numTo, hk'])⟩
      case measure => simp [intOf]; omega
    · have HK := Lib.hid (show k = n by omega)
      go_wp2
      go_ret
      exact ⟨ret_eq (by show Value.int .u64 (T64 m') = _; rw [HM.out, HK.out, HN.out]; rfl), rfl⟩

def sip0 (a b : UInt64) : St := (a ^^^ 8317987319222330741, b ^^^ 7237128888997146477, a ^^^ 7816392313619706465, b ^^^ 8387220255154660723)
/-- The state after k groups of eight bytes. -/
def blk (a b : UInt64) (l : List UInt8) : Nat → St
  | 0 => sip0 a b
  | k + 1 => wordS (blk a b l k) (num ((l.drop (8 * k)).take 8))
def sipEnd (s : St) : UInt64 :=
  let t := rnds 4 (s.1, s.2.1, s.2.2.1 ^^^ 255, s.2.2.2)
  t.1 ^^^ t.2.1 ^^^ t.2.2.1 ^^^ t.2.2.2
def sip (a b : UInt64) (l : List UInt8) : UInt64 :=
  sipEnd (wordS (blk a b l (l.length / 8)) (num (l.drop (8 * (l.length / 8))) ||| UInt64.ofNat l.length <<< 56))
theorem xlit1 (a : UInt64) : bits .xor .u64 (T64 a) 8317987319222330741 = T64 (a ^^^ 8317987319222330741) := u64_xor a 8317987319222330741
theorem xlit2 (a : UInt64) : bits .xor .u64 (T64 a) 7237128888997146477 = T64 (a ^^^ 7237128888997146477) := u64_xor a 7237128888997146477
theorem xlit3 (a : UInt64) : bits .xor .u64 (T64 a) 7816392313619706465 = T64 (a ^^^ 7816392313619706465) := u64_xor a 7816392313619706465
theorem xlit4 (a : UInt64) : bits .xor .u64 (T64 a) 8387220255154660723 = T64 (a ^^^ 8387220255154660723) := u64_xor a 8387220255154660723
theorem xlit5 (a : UInt64) : bits .xor .u64 (T64 a) 255 = T64 (a ^^^ 255) := u64_xor a 255
attribute [go_sem] xlit1 xlit2 xlit3 xlit4 xlit5
theorem shl56 (n : Nat) (hn : n ≤ 9223372036854775807) : IntKind.u64.wrap ((n : Int) * 72057594037927936) = T64 (UInt64.ofNat n <<< 56) := by
  have h : (n : Int) = T64 (UInt64.ofNat n) := by unfold T64; rw [UInt64.toNat_ofNat']; omega
  rw [h]; exact u64_shl _ 56 72057594037927936 (by decide) (by decide)
theorem bytesV_drop (l : List UInt8) (k : Nat) : (bytesV l).drop k = bytesV (l.drop k) := by simp [bytesV, List.map_drop]
theorem bytesV_take (l : List UInt8) (k : Nat) : (bytesV l).take k = bytesV (l.take k) := by simp [bytesV, List.map_take]
set_option maxHeartbeats 1600000 in
theorem sum_any (a b : UInt64) (q : Option Addr) (n c : Nat) (l : List UInt8) (hn : n = l.length) (hcap : n ≤ c) (hmax : c ≤ 9223372036854775807) (w : World) (hc : Cells w q (bytesV l)) :
    Calls Try.prog 15 #[.agg #[.int .u64 (T64 a), .int .u64 (T64 b)], .slice q n c] w fun e w' => e = .returned (.int .u64 (T64 (sip a b l))) ∧ Below w.heap.size w w' := by
  have HC := Lib.hid hc
  have HN := Lib.hid hn
  have hw := shl56 n (by omega)
  clear hc hn
  go_enter Try.func15, Try.ntmps15
  go_wp2
  go_loopw [1] (fun v wr => ∃ (k : Nat) (q' : Option Addr) (c' : Nat), 8 * k ≤ n ∧ v = .slice q' (n - 8 * k : Nat) c' ∧ n - 8 * k ≤ c' ∧ c' ≤ 9223372036854775807 ∧ Hid (Cells w q' (bytesV (l.drop (8 * k)))) ∧
    S4 w wr (w.heap.size + 1) (blk a b l k).1 (blk a b l k).2.1 (blk a b l k).2.2.1 (blk a b l k).2.2.2) (fun v _ => match v with | .slice _ m _ => m | _ => 0)
  case atStart =>
    refine ⟨0, q, c, by omega, rfl, by omega, hmax, HC.out, ?_⟩
    exact ⟨heap_new1 _ _ _, ((Only.refl _ _).alloc _).alloc _⟩
  case round =>
    obtain ⟨k, q', c', hk, rfl, hc1, hc2, HB, hs⟩ := hrel
    have HS := Lib.hid hs
    obtain ⟨c0, c1, c2, c3, f0⟩ := hs.facts
    clear hs
    by_cases hlt : 8 ≤ n - 8 * k
    · have hn8 : 8 ≤ (l.drop (8 * k)).length := by rw [List.length_drop]; have := HN.out; omega
      obtain ⟨bb, o, rfl, _⟩ := bytes_at HB.out 0 (by omega)
      go_wp2_with fail
      refine (number_any _ 8 _ ((l.drop (8 * k)).take 8) (by rw [List.length_take]; omega) (by omega) _ ?_).mono ?_
      · rw [← bytesV_take]; exact (HB.out.only HS.out.only (by omega)).take 8
      rintro e w' ⟨rfl, rfl⟩
      go_wp2_with fail
      refine (word_any _ (blk a b l k) (num ((l.drop (8 * k)).take 8)) _ ⟨HS.out.blk, Only.refl _ _⟩).mono ?_
      rintro e w' ⟨rfl, hs⟩
      have HS1 := Lib.hid hs
      clear hs c0 c1 c2 c3 f0
      have hstep : Hid (S4 w w' (w.heap.size + 1) (blk a b l (k + 1)).1 (blk a b l (k + 1)).2.1 (blk a b l (k + 1)).2.2.1 (blk a b l (k + 1)).2.2.2) :=
        ⟨HS1.out.blk, HS.out.only.trans HS1.out.only⟩
      have HD : Hid (Cells w (some ⟨bb, o + 8, none⟩) (bytesV (l.drop (8 * (k + 1))))) := by
        have := HB.out.drop 8
        rw [bytesV_drop, List.drop_drop, show 8 * k + 8 = 8 * (k + 1) by omega] at this
        exact this
      have HE : Hid (n - 8 * k = 8 → Cells w (some ⟨bb, o, none⟩) (bytesV (l.drop (8 * (k + 1))))) := fun h => by
        have : l.drop (8 * (k + 1)) = [] := List.drop_eq_nil_of_le (by have := HN.out; omega)
        rw [this]; exact Cells.nil _ _
      rcases Nat.lt_or_ge 8 c' with h8 | h8
      · go_wp2_with fail
        go_roundw
        case rel => exact ⟨k + 1, _, c' - 8, by omega, by congr 1, by omega, by omega, HD, hstep.out⟩
        case measure => simp; omega
      · obtain rfl : c' = 8 := by omega
        go_wp2_with fail
        go_roundw
        case rel => exact ⟨k + 1, _, 0, by omega, by congr 1; omega, by omega, by omega, HE.out (by omega), hstep.out⟩
        case measure => simp; omega
    · have hK : Hid (k = l.length / 8) := by show k = _; have := HN.out; omega
      go_wp2_with fail
      refine (number_any _ _ _ (l.drop (8 * k)) (by rw [List.length_drop]; have := HN.out; omega) (by omega) _ (HB.out.only HS.out.only (by omega))).mono ?_
      rintro e w' ⟨rfl, rfl⟩
      go_wp2_with fail
      generalize hm : num (l.drop (8 * k)) ||| UInt64.ofNat n <<< 56 = m
      have HM := Lib.hid hm
      clear hm
      refine (word_any _ (blk a b l k) m _ ⟨HS.out.blk, Only.refl _ _⟩).mono ?_
      generalize ht : wordS (blk a b l k) m = t
      have HT := Lib.hid ht
      clear ht
      rintro e w' ⟨rfl, hs⟩
      have HS1 := Lib.hid hs
      obtain ⟨d0, d1, d2, d3, f1⟩ := hs.facts
      clear hs c0 c1 c2 c3 f0
      go_wp2_with fail
      have h2 : S4 w' (w'.setCell ⟨w.heap.size + 1, 2, none⟩ (.int .u64 (T64 (t.2.2.1 ^^^ 255)))) (w.heap.size + 1) t.1 t.2.1 (t.2.2.1 ^^^ 255) t.2.2.2 := (⟨HS1.out.blk, Only.refl _ _⟩ : S4 w' w' _ _ _ _ _).set2 _
      have H2 := Lib.hid h2
      clear h2
      refine (rounds_any _ 4 (by omega) (t.1, t.2.1, t.2.2.1 ^^^ 255, t.2.2.2) _ ⟨H2.out.blk, Only.refl _ _⟩).mono ?_
      generalize hr : rnds 4 (t.1, t.2.1, t.2.2.1 ^^^ 255, t.2.2.2) = r
      have HR := Lib.hid hr
      clear hr
      rintro e w2 ⟨rfl, hs⟩
      have HS2 := Lib.hid hs
      obtain ⟨e0, e1, e2, e3, f2⟩ := hs.facts
      clear hs d0 d1 d2 d3 f1
      go_wp2_with fail
      go_ret
      refine ⟨ret_eq ?_, ?_⟩
      · show Value.int .u64 (T64 (r.1 ^^^ r.2.1 ^^^ r.2.2.1 ^^^ r.2.2.2)) = _
        rw [sip, sipEnd, ← hK.out, ← HN.out, HM.out, HT.out, HR.out]
      · exact (((HS.out.only.trans HS1.out.only).trans H2.out.only).trans HS2.out.only).toBelow (Nat.le_refl _) (by omega)
end Go.Proofs.Ytkkcjnhochdpgaa
