/- The deck: tokens and texts. -/
import Derived.Test.YtkkcjnhochdpgaaDeck
namespace Go.Proofs.Ytkkcjnhochdpgaa
open Go.RowKit
set_option linter.constructorNameAsVariable false

def givenL : List ByteArray := [⟨#[114, 111, 98, 101, 114, 116]⟩, ⟨#[98, 111, 98]⟩, ⟨#[97, 110, 110]⟩, ⟨#[97, 110, 110, 97]⟩, ⟨#[114, 117, 112, 101, 114, 116]⟩, ⟨#[109, 97, 114, 105, 97]⟩, ⟨#[112, 101, 116, 101, 114]⟩, ⟨#[100, 114]⟩, ⟨#[106, 111]⟩, ⟨#[97, 115, 104, 99, 114, 97, 102, 116]⟩, ⟨#[108, 105]⟩]
def familyL : List ByteArray := [⟨#[115, 109, 105, 116, 104]⟩, ⟨#[115, 99, 104, 109, 105, 100, 116]⟩, ⟨#[109, 105, 108, 108, 101, 114]⟩, ⟨#[111, 110, 101, 105, 108, 108]⟩, ⟨#[115, 116, 114, 97, 117, 115, 115]⟩, ⟨#[118, 97, 110]⟩, ⟨#[109, 97, 105, 110]⟩, ⟨#[115, 116]⟩, ⟨#[115, 116, 114, 101, 101, 116]⟩, ⟨#[114, 100]⟩, ⟨#[112, 97, 114, 107]⟩]
set_option maxHeartbeats 400000 in
theorem given_any (w : World) : Calls Try.prog 28 #[] w fun e w' => e = .returned (.slice (some ⟨w.heap.size, 0, none⟩) 11 11) ∧ w.alloc (.cells (strV givenL).toArray 9) = w' := by
  go_enter Try.func28, Try.ntmps28
  go_wp2
  go_ret
  exact ⟨rfl, rfl⟩
set_option maxHeartbeats 400000 in
theorem family_any (w : World) : Calls Try.prog 29 #[] w fun e w' => e = .returned (.slice (some ⟨w.heap.size, 0, none⟩) 11 11) ∧ w.alloc (.cells (strV familyL).toArray 9) = w' := by
  go_enter Try.func29, Try.ntmps29
  go_wp2
  go_ret
  exact ⟨rfl, rfl⟩

def isStr (n : Nat) (v : Value) : Prop := ∃ s : ByteArray, v = .string s ∧ s.size ≤ n
set_option maxHeartbeats 1600000 in
theorem token_any (p : Nat) (w : World) (h : Deck w p) : Calls Try.prog 17 #[.pointer (some ⟨p, 0, none⟩)] w (DkPost p w (isStr 9)) := by
  have hlt := h.lt
  have H := Lib.hid h
  clear h
  go_enter Try.func17, Try.ntmps17
  go_wp2_with fail
  refine (one_any p 6 (by omega) (by omega) w H.out).mono ?_
  rintro e w1 ⟨v, rfl, ⟨b, rfl⟩, hd, ho⟩
  have hlt1 := hd.lt
  have HD1 := Lib.hid hd
  have HO1 := Lib.hid ho
  clear hd ho
  cases b
  · go_wp2_with fail
    refine (one_any p 2 (by omega) (by omega) w1 HD1.out).mono ?_
    rintro e wq ⟨v, rfl, ⟨b, rfl⟩, hd, ho⟩
    have HOq := Lib.hid (HO1.out.trans ho)
    have hlt2 := hd.lt
    have HDq := Lib.hid hd
    clear hd ho HO1 HD1 hlt1
    cases b
    · go_wp2_with fail
      refine (family_any wq).mono ?_
      rintro e w2 ⟨rfl, rfl⟩
      go_wp2_with fail
      refine (family_any _).mono ?_
      rintro e w2 ⟨rfl, rfl⟩
      go_wp2_with fail
      refine (next_any p 11 (by omega) (by omega) _ (HDq.out.below (((Below.refl _ wq).alloc (Nat.le_refl _) _).alloc (by simp) _))).mono ?_
      rintro e w3 ⟨v, rfl, ⟨k, rfl, k0, k1⟩, hd, ho⟩
      obtain ⟨k, rfl⟩ := Int.eq_ofNat_of_zero_le k0
      have hcs := ((cells_alloc (cells_new wq (strV familyL) 9 (0, 0)) (.cells (strV familyL).toArray 9)).onlyNe ho (fun a ha => by injection ha with ha; subst ha; simp; omega))
      have hk : k < familyL.length := by simp [familyL]; omega
      obtain ⟨b, o, e1, hx⟩ := str_at hcs k hk
      injection e1 with e1
      injection e1 with e1 e2 _
      subst e1; subst e2
      have hsz : (familyL[k]).size ≤ 9 := by
        have : ∀ s ∈ familyL, s.size ≤ 9 := by decide
        exact this _ (List.getElem_mem hk)
      generalize familyL[k] = s at hx hsz
      have HD3 := Lib.hid hd
      have HO3 := Lib.hid ((((HOq.out.alloc _).alloc _).trans ho))
      clear hd ho hcs
      rw [Nat.zero_add] at hx
      go_wp2_with fail
      go_ret
      exact ⟨_, rfl, ⟨s, rfl, hsz⟩, HD3.out, HO3.out⟩
    · go_wp2_with fail
      refine (given_any wq).mono ?_
      rintro e w2 ⟨rfl, rfl⟩
      go_wp2_with fail
      refine (given_any _).mono ?_
      rintro e w2 ⟨rfl, rfl⟩
      go_wp2_with fail
      refine (next_any p 11 (by omega) (by omega) _ (HDq.out.below (((Below.refl _ wq).alloc (Nat.le_refl _) _).alloc (by simp) _))).mono ?_
      rintro e w3 ⟨v, rfl, ⟨k, rfl, k0, k1⟩, hd, ho⟩
      obtain ⟨k, rfl⟩ := Int.eq_ofNat_of_zero_le k0
      have hcs := ((cells_alloc (cells_new wq (strV givenL) 9 (0, 0)) (.cells (strV givenL).toArray 9)).onlyNe ho (fun a ha => by injection ha with ha; subst ha; simp; omega))
      have hk : k < givenL.length := by simp [givenL]; omega
      obtain ⟨b, o, e1, hx⟩ := str_at hcs k hk
      injection e1 with e1
      injection e1 with e1 e2 _
      subst e1; subst e2
      have hsz : (givenL[k]).size ≤ 9 := by
        have : ∀ s ∈ givenL, s.size ≤ 9 := by decide
        exact this _ (List.getElem_mem hk)
      generalize givenL[k] = s at hx hsz
      have HD3 := Lib.hid hd
      have HO3 := Lib.hid ((((HOq.out.alloc _).alloc _).trans ho))
      clear hd ho hcs
      rw [Nat.zero_add] at hx
      go_wp2_with fail
      go_ret
      exact ⟨_, rfl, ⟨s, rfl, hsz⟩, HD3.out, HO3.out⟩
  · go_wp2_with fail
    refine (next_any p 5 (by omega) (by omega) w1 HD1.out).mono ?_
    rintro e w2 ⟨v, rfl, ⟨k, rfl, k0, k1⟩, hd, ho⟩
    obtain ⟨k, rfl⟩ := Int.eq_ofNat_of_zero_le k0
    have HD2 := Lib.hid hd
    have HO2 := Lib.hid (HO1.out.trans ho)
    have hlt2 := hd.lt
    clear hd ho
    go_wp2_with fail
    go_loopw [3, 4] (fun s k wr => ∃ (t : ByteArray) (j : Nat), s = .string t ∧ k = .int .i64 j ∧ t.size + j ≤ 5 ∧ Hid (Deck wr p) ∧ Hid (Only p w wr) ∧ p < wr.heap.size) (fun _ k _ => (intOf k).toNat)
    case atStart => exact ⟨⟨#[]⟩, k + 1, rfl, by go_num, by simp [ByteArray.size]; omega, HD2.out, HO2.out, hlt2⟩
    case round =>
      obtain ⟨t, j, rfl, rfl, htj, HD, HO, hltr⟩ := hrel
      by_cases hj : 0 < j
      · have hj' : (0 : Int) < (j : Int) := by omega
        go_wp2_with fail
        refine (next_any p 26 (by omega) (by omega) wr HD.out).mono ?_
        rintro e w3 ⟨v, rfl, ⟨x, rfl, x0, x1⟩, hd, ho⟩
        obtain ⟨x, rfl⟩ := Int.eq_ofNat_of_zero_le x0
        have HD3 := Lib.hid (hd.below ((Below.refl _ w3).alloc (Nat.le_refl _) (.cells #[.int .u8 (97 + (x : Int))] 5)))
        have HO3 := Lib.hid ((HO.out.trans ho).alloc (.cells #[.int .u8 (97 + (x : Int))] 5))
        have hlt3 := hd.lt
        clear hd ho
        have hcv := run_convert_bytes_back (P := Try.prog) (w3.alloc (.cells #[.int .u8 (97 + (x : Int))] 5)) 32 9 5 ⟨w3.heap.size, 0, none⟩ 1 [UInt8.ofNat (97 + x)] Try.underlying32 Try.underlying5 Try.underlying9 (fun i hi => by
          have : i = 0 := by simpa using hi
          subst this
          rw [Addr.add_lit, cell_at (heap_new _ _)]
          simp [UInt8.toNat_ofNat']
          omega)
        simp only [List.length_singleton] at hcv
        go_wp2_with fail
        go_roundw
        case rel => exact ⟨_, j - 1, rfl, by go_num, by rw [ByteArray.size_append]; show t.size + 1 + (j - 1) ≤ 5; omega, HD3.out, HO3.out, by simp; omega⟩
        case measure => simp [intOf]; omega
      · have hj' : ¬ (0 : Int) < (j : Int) := by omega
        go_wp2_with fail
        go_ret
        exact ⟨_, rfl, ⟨t, rfl, by omega⟩, HD.out, HO.out⟩
end Go.Proofs.Ytkkcjnhochdpgaa
