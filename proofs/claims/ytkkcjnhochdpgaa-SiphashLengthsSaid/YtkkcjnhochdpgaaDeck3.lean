/- The deck: texts. -/
import Derived.Test.YtkkcjnhochdpgaaDeck2
namespace Go.Proofs.Ytkkcjnhochdpgaa
open Go.RowKit
set_option linter.constructorNameAsVariable false

def txtA : List ByteArray := [⟨#[]⟩, ⟨#[]⟩, ⟨#[32]⟩, ⟨#[45]⟩, ⟨#[39]⟩]
def txtB (t u : ByteArray) : List ByteArray := [t, u, ⟨#[49, 50]⟩, ⟨#[48, 48, 55]⟩, ⟨#[51, 98]⟩, ⟨#[77, 195, 188, 108, 108, 101, 114]⟩, ⟨#[195, 134, 103, 105, 114]⟩, ⟨#[195, 159]⟩, ⟨#[79, 39, 78, 101, 105, 108, 108]⟩, ⟨#[195, 151]⟩]
def txtC : List ByteArray := [⟨#[32]⟩, ⟨#[32]⟩, ⟨#[46]⟩, ⟨#[44, 32]⟩]
def txtD : List ByteArray := [⟨#[31]⟩, ⟨#[127]⟩, ⟨#[194, 160]⟩, ⟨#[255]⟩, ⟨#[10]⟩]
def lenOf (v : Value) : Nat := match v with | .string s => s.size | _ => 0
set_option maxHeartbeats 3200000 in
theorem text_any (p : Nat) (w : World) (h : Deck w p) : Calls Try.prog 13 #[.pointer (some ⟨p, 0, none⟩)] w (DkPost p w (isStr 64)) := by
  have hlt := h.lt
  have H := Lib.hid h
  clear h
  go_enter Try.func13, Try.ntmps13
  go_wp2_with fail
  refine (next_any p 5 (by omega) (by omega) w H.out).mono ?_
  rintro e w1 ⟨v, rfl, ⟨k, rfl, k0, k1⟩, hd, ho⟩
  obtain ⟨k, rfl⟩ := Int.eq_ofNat_of_zero_le k0
  have HD1 := Lib.hid hd
  have HO1 := Lib.hid ho
  have hlt1 := hd.lt
  clear hd ho
  go_wp2_with fail
  go_loopw [3, 4] (fun s k wr => ∃ (t : ByteArray) (j : Nat), s = .string t ∧ k = .int .i64 j ∧ t.size + 12 * j ≤ 48 ∧ Hid (Deck wr p) ∧ Hid (Only p w wr) ∧ p < wr.heap.size) (fun _ k _ => (intOf k).toNat)
  case atStart => exact ⟨⟨#[]⟩, k, rfl, rfl, by simp [ByteArray.size]; omega, HD1.out, HO1.out, hlt1⟩
  case round =>
    obtain ⟨t, j, rfl, rfl, htj, HD, HO, hltr⟩ := hrel
    by_cases hj : 0 < j
    · have hj' : (0 : Int) < (j : Int) := by omega
      · go_wp2_with fail
        refine (pick_any p _ 5 5 txtA rfl (by omega) (by omega) _ (HD.out.below ((Below.refl _ _).alloc (Nat.le_refl _) _)) (cells_new _ (strV txtA) _ _) (fun a ha => by injection ha with ha; subst ha; simp; omega)).mono ?_
        rintro e w2 ⟨v, rfl, ⟨a, ha, rfl⟩, hd, ho⟩
        have hza : a.size ≤ 1 := (by decide : ∀ s ∈ txtA, s.size ≤ 1) a ha
        have HD2 := Lib.hid hd
        have HO2 := Lib.hid ((HO.out.alloc _).trans ho)
        have hlt2 := hd.lt
        clear hd ho ha
        go_wp2_with fail
        refine (token_any p w2 HD2.out).mono ?_
        rintro e w3 ⟨v, rfl, ⟨b, rfl, hzb⟩, hd, ho⟩
        have HD3 := Lib.hid hd
        have HO3 := Lib.hid (HO2.out.trans ho)
        have hlt3 := hd.lt
        clear hd ho
        go_wp2_with fail
        refine (token_any p w3 HD3.out).mono ?_
        rintro e w4 ⟨v, rfl, ⟨c, rfl, hzc⟩, hd, ho⟩
        have HD4 := Lib.hid hd
        have HO4 := Lib.hid (HO3.out.trans ho)
        have hlt4 := hd.lt
        clear hd ho
        go_wp2_with fail
        refine (pick_any p _ 10 10 (txtB b c) rfl (by omega) (by omega) _ (HD4.out.below ((Below.refl _ _).alloc (Nat.le_refl _) _)) (cells_new _ (strV (txtB b c)) _ _) (fun a ha => by injection ha with ha; subst ha; simp; omega)).mono ?_
        rintro e w5 ⟨v, rfl, ⟨d, hd', rfl⟩, hd, ho⟩
        have hzd : d.size ≤ 9 := by simp only [txtB, List.mem_cons, List.not_mem_nil, or_false] at hd'; rcases hd' with rfl | rfl | rfl | rfl | rfl | rfl | rfl | rfl | rfl | rfl <;> first | assumption | decide
        have HD5 := Lib.hid hd
        have HO5 := Lib.hid ((HO4.out.alloc _).trans ho)
        have hlt5 := hd.lt
        clear hd ho hd'
        go_wp2_with fail
        refine (pick_any p _ 4 4 txtC rfl (by omega) (by omega) _ (HD5.out.below ((Below.refl _ _).alloc (Nat.le_refl _) _)) (cells_new _ (strV txtC) _ _) (fun a ha => by injection ha with ha; subst ha; simp; omega)).mono ?_
        rintro e w6 ⟨v, rfl, ⟨f, hf, rfl⟩, hd, ho⟩
        have hzf : f.size ≤ 2 := (by decide : ∀ s ∈ txtC, s.size ≤ 2) f hf
        have HD6 := Lib.hid hd
        have HO6 := Lib.hid ((HO5.out.alloc _).trans ho)
        have hlt6 := hd.lt
        clear hd ho hf
        go_wp2_with fail
        go_roundw
        case rel => exact ⟨_, j - 1, rfl, by go_num, by rw [ByteArray.size_append, ByteArray.size_append, ByteArray.size_append]; omega, HD6.out, HO6.out, hlt6⟩
        case measure => simp [intOf]; omega
    · have hj' : ¬ (0 : Int) < (j : Int) := by omega
      go_wp2_with fail
      refine (next_any p 12 (by omega) (by omega) wr HD.out).mono ?_
      rintro e w2 ⟨v, rfl, ⟨x, rfl, x0, x1⟩, hd, ho⟩
      have HD2 := Lib.hid hd
      have HO2 := Lib.hid (HO.out.trans ho)
      have hlt2 := hd.lt
      clear hd ho
      have hts : t.size ≤ 48 := by omega
      by_cases e0 : x = 0
      · subst e0
        go_wp2_with fail
        go_ret
        exact ⟨_, rfl, ⟨_, rfl, by rw [ByteArray.size_append]; show t.size + 1 ≤ 64; omega⟩, HD2.out, HO2.out⟩
      · have b0 : (x == 0) = false := by simpa using e0
        by_cases e1 : x = 1
        · subst e1
          go_wp2_with fail
          refine (pick_any p _ 5 5 txtD rfl (by omega) (by omega) _ (HD2.out.below ((Below.refl _ _).alloc (Nat.le_refl _) _)) (cells_new _ (strV txtD) _ _) (fun a ha => by injection ha with ha; subst ha; simp; omega)).mono ?_
          rintro e w3 ⟨v, rfl, ⟨a, ha, rfl⟩, hd, ho⟩
          have hza : a.size ≤ 2 := (by decide : ∀ s ∈ txtD, s.size ≤ 2) a ha
          have HD3 := Lib.hid hd
          have HO3 := Lib.hid ((HO2.out.alloc _).trans ho)
          clear hd ho ha
          go_wp2_with fail
          go_ret
          exact ⟨_, rfl, ⟨_, rfl, by rw [ByteArray.size_append]; omega⟩, HD3.out, HO3.out⟩
        · have b1 : (x == 1) = false := by simpa using e1
          by_cases e2 : x = 2
          · subst e2
            go_wp2_with fail
            go_loop [3] (fun s => ∃ u : ByteArray, s = .string u ∧ u.size ≤ 64) (fun s => 64 - lenOf s)
            case atStart => exact ⟨t, rfl, by omega⟩
            case round =>
              obtain ⟨u, rfl, hu⟩ := hrel
              by_cases hl : u.size < 64
              · have hl' : (u.size : Int) < 64 := by omega
                go_wp2_with fail
                go_round
                case rel => exact ⟨_, rfl, by rw [ByteArray.size_append]; show u.size + 1 ≤ 64; omega⟩
                case measure =>
                  show 64 - (u ++ _).size < 64 - u.size
                  rw [ByteArray.size_append]; show 64 - (u.size + 1) < 64 - u.size; omega
              · have hl' : ¬ (u.size : Int) < 64 := by omega
                go_wp2_with fail
                go_ret
                exact ⟨_, rfl, ⟨u, rfl, hu⟩, HD2.out, HO2.out⟩
          · have b2 : (x == 2) = false := by simpa using e2
            go_wp2_with fail
            go_ret
            exact ⟨_, rfl, ⟨t, rfl, by omega⟩, HD2.out, HO2.out⟩
end Go.Proofs.Ytkkcjnhochdpgaa
