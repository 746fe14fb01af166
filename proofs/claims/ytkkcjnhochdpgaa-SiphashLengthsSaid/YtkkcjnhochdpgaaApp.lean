/- A region that draws its order and appends onto a row of the call's own: what it leaves as it was. -/
import Derived.Test.YtkkcjnhochdpgaaDeckR
namespace Go.Proofs.Ytkkcjnhochdpgaa
open Go.RowKit

/-- An append onto an owned row, one cell an element: either no old block has changed, or the row had room and was written behind its elements. -/
def AppSplit (w w' : World) (e : TypeId) (v : Value) (n m : Nat) (ys : List Value) : Prop :=
  Below w.heap.size w w' ∨ ∃ g cap cur, v = .slice (some ⟨g, 0, none⟩) n cap ∧ w.heap[g]? = some (.cells cur e (0, 0)) ∧ n + m ≤ cap ∧ cur.size = cap ∧ w' = w.setRow g (cur.toList.take n ++ ys ++ cur.toList.drop (n + m)).toArray
section
variable {P : Program} (w : World)
theorem run_app_split (base : Nat) (t ty e : TypeId) (i : TypeInfo) (z : Value) (bytes : Nat) (ht : P.underlying t = some (.slice e)) (hi : P.info? e = some i) (hz : i.zero = some z)
    (hsize : i.size = 1) (hby : i.bytes = bytes) (hzs : z.cells.size = 1) (v : Value) (n : Nat) (xs : List Value) (hown : w.ownsRow base e 1 v n xs)
    (B : Nat) (A : Option Addr) (m c : Nat) (ys : List Value) (hr : Reads w B 1 A m ys) (h1 : ∀ u ∈ ys, u.oneCell' = true)
    (h63 : n + m ≤ maxLen) (hbytes : (n + m) * bytes ≤ 140737488355328) (hbase : base ≤ w.heap.size) :
    ∃ v' w', (Builtin.append_ #[t, t] ty #[v, .slice A m c]).run P w = .ok v' w' ∧ w'.ownsRow base e 1 v' (n + m) (xs ++ ys) ∧ AppSplit w w' e v n m ys := by
  obtain ⟨v', w', hrun, h2, h3, h4⟩ := run_append_any (P := P) w base t ty e i z 1 bytes ht hi hz hsize hby hzs (by omega) v n xs hown B A m c ys hr h1 h63 hbytes hbase
  refine ⟨v', w', hrun, h2, ?_⟩
  have hyl : ys.length = m := by have := hr.1; omega
  rcases hown.2 with ⟨rfl, rfl⟩ | ⟨g, cap, cur, rfl, hbg, hg, hnc, hcm, hcs, htake⟩
  · left
    exact ⟨h3.os, h3.tape, h3.output, h3.size, fun k hk => h3.block k hk (by simp [Value.ownBlock])⟩
  · have hcs' : cur.size = cap := by omega
    rcases A with _ | ad
    · have hm : m = 0 := by
        rcases Nat.eq_zero_or_pos m with h0 | h0
        · exact h0
        · obtain ⟨ad, h, _⟩ := hr.2 h0; cases h
      subst hm
      have h5 := run_append_of_nil (P := P) w base t ty e i 1 ht hi _ n xs hown c
      rw [h5] at hrun
      injection hrun with _ e2
      subst e2
      exact .inl (Below.refl _ _)
    · have hcells : ∀ j u, ys[j]? = some u → w.cell? (ad.add j) = some u := by
        intro j u hu
        rcases Nat.eq_zero_or_pos m with h0 | h0
        · subst h0
          have hn : ys = [] := List.eq_nil_of_length_eq_zero hyl
          subst hn; simp at hu
        · obtain ⟨ad', h, _, hc⟩ := hr.2 h0
          injection h with h; subst h
          exact hc j u hu
      by_cases hroom : n + m ≤ cap
      · right
        have h5 := run_append_room (P := P) w t ty e i ht hi g n cap cur hg ad m c ys (by rw [hsize]; omega) hcells h1 hroom (by rw [hsize]; omega)
        rw [h5] at hrun
        injection hrun with _ e2
        refine ⟨g, cap, cur, rfl, hg, hroom, hcs', ?_⟩
        rw [← e2, hsize, Nat.mul_one, hyl]
      · left
        have holds : ∀ j u, xs[j]? = some u → w.cell? ((⟨g, 0, none⟩ : Addr).add j) = some u := hown.cells (g := g) rfl
        have h5 := run_append_grow (P := P) w t ty e i z ht hi hz ⟨g, 0, none⟩ n cap xs (by rw [hsize]; exact hown.1) holds ad m c ys (by rw [hsize]; omega) hcells (by omega) (by unfold maxLen at h63; omega) (growslice_fits (by omega) (by rw [hby]; exact hbytes))
        rw [h5] at hrun
        injection hrun with _ e2
        rw [← e2]
        exact (Below.refl _ w).drew.alloc (Nat.le_refl _) _
theorem run_appStr_split (base : Nat) (t u ty e : TypeId) (i : TypeInfo) (ht : P.underlying t = some (.slice e)) (hu : P.underlying u = some .string) (hi : P.info? e = some i) (hz : i.zero = some (.int .u8 0))
    (hsize : i.size = 1) (hby : i.bytes = 1) (v : Value) (n : Nat) (xs : List Value) (hown : w.ownsRow base e 1 v n xs) (s : ByteArray)
    (hlen : n + s.size ≤ 140737488355328) (hbase : base ≤ w.heap.size) :
    ∃ v' w', (Builtin.append_ #[t, u] ty #[v, .string s]).run P w = .ok v' w' ∧ w'.ownsRow base e 1 v' (n + s.size) (xs ++ Lib.strCells s) ∧ AppSplit w w' e v n s.size (Lib.strCells s) := by
  obtain ⟨v', w', hrun, h2, h3, _⟩ := Lib.run_append_own_string (P := P) w base t u ty e i ht hu hi hz hsize hby v n xs hown s (by unfold maxLen; omega) hlen hbase
  refine ⟨v', w', hrun, h2, ?_⟩
  rcases hown.2 with ⟨rfl, rfl⟩ | ⟨g, cap, cur, rfl, hbg, hg, hnc, hcm, hcs, htake⟩
  · left
    exact ⟨h3.os, h3.tape, h3.output, h3.size, fun k hk => h3.block k hk (by simp [Value.ownBlock])⟩
  · have hcs' : cur.size = cap := by omega
    by_cases hroom : n + s.size ≤ cap
    · right
      have h5 := Lib.run_append_room_string (P := P) w t u ty e i ht hu hi hsize g n cap cur hg s hroom (by omega)
      rw [h5] at hrun
      injection hrun with _ e2
      exact ⟨g, cap, cur, rfl, hg, hroom, hcs', e2.symm⟩
    · left
      have holds : ∀ j u, xs[j]? = some u → w.cell? ((⟨g, 0, none⟩ : Addr).add j) = some u := hown.cells (g := g) rfl
      have h5 := Lib.run_append_grow_string (P := P) w t u ty e i (.int .u8 0) ht hu hi hz ⟨g, 0, none⟩ n cap xs (by rw [hsize]; exact hown.1) holds s (by omega) (by omega) (by rw [hby]; exact growslice_fits (by omega) (by omega))
      rw [h5] at hrun
      injection hrun with _ e2
      rw [← e2]
      exact (Below.refl _ w).drew.alloc (Nat.le_refl _) _
end
/-- What a region leaves that appends onto one row of type e, of whose contents all states are beginnings of L: nothing below B changes; rows that read as beginnings of L do so still; other rows, and rows of at most N elements, are as they were. -/
def GrowA (B : Nat) (e : TypeId) (L : List Value) (N : Nat) (x y : World) : Prop :=
  Below B x y ∧ (∀ v n zs, zs <+: L → x.ownsRow B e 1 v n zs → y.ownsRow B e 1 v n zs) ∧ ∀ g t cs, (t ≠ e ∨ cs.size ≤ N) → Blk x g t cs → Blk y g t cs
theorem own_below {x y : World} {B n size : Nat} {e : TypeId} {v : Value} {zs : List Value} (h : x.ownsRow B e size v n zs) (k : Below x.heap.size x y) : y.ownsRow B e size v n zs := by
  have hg : x.grownBy y none := ⟨k.os, k.tape, k.output, k.size, fun i hi _ => k.block i hi⟩
  rcases h.2 with ⟨rfl, _⟩ | ⟨g, cap, cur, rfl, _⟩
  · exact h.kept hg (.inl rfl)
  · exact h.kept hg (.inr (by simp [Value.ownBlock]))
theorem take_of_pre {xs ys zs L : List Value} (h1 : xs ++ ys <+: L) (h2 : zs <+: L) : zs.take (xs ++ ys).length = (xs ++ ys).take zs.length := by
  rw [List.prefix_iff_eq_take.1 h1, List.prefix_iff_eq_take.1 h2]
  simp only [List.take_take, List.length_take]
  congr 1
  omega
namespace GrowA
variable {B N : Nat} {e : TypeId} {L : List Value} {x y z : World}
theorem rfl_ : GrowA B e L N x x := ⟨Below.refl _ _, fun _ _ _ _ h => h, fun _ _ _ _ h => h⟩
theorem refl (x : World) : GrowA B e L N x x := rfl_
theorem trans (x y z : World) (h : GrowA B e L N x y) (k : GrowA B e L N y z) : GrowA B e L N x z :=
  ⟨h.1.trans k.1, fun v n zs hz ho => k.2.1 v n zs hz (h.2.1 v n zs hz ho), fun g t cs ht hb => k.2.2 g t cs ht (h.2.2 g t cs ht hb)⟩
theorem below (h : Below x.heap.size x y) (hB : B ≤ x.heap.size) : GrowA B e L N x y :=
  ⟨h.mono hB, fun _ _ _ _ ho => own_below ho h, fun g _ _ _ hb => (h.block g hb.lt).trans hb⟩
theorem alloc (x : World) (o : Obj) (hB : B ≤ x.heap.size) : GrowA B e L N x (x.alloc o) := below ((Below.refl _ _).alloc (Nat.le_refl _) o) hB
theorem append {w w' : World} {v : Value} {n m : Nat} {xs ys : List Value} (h : AppSplit w w' e v n m ys) (hm : ys.length = m) (hB : B ≤ w.heap.size) (hown : w.ownsRow B e 1 v n xs) (hL : xs ++ ys <+: L) (hN : N ≤ n ∨ v = .slice none 0 0) : GrowA B e L N w w' := by
  rcases h with h | ⟨g, cap, cur, rfl, hg, hroom, hcs, rfl⟩
  · exact below h hB
  have hxl : xs.length = n := by have := hown.1; omega
  have hcur : cur.toList.take n = xs ∧ B ≤ g := by
    rcases hown.2 with ⟨h1, _⟩ | ⟨g', cap', cur', h1, hbg, hg', _, _, _, h4⟩
    · cases h1
    · injection h1 with h1 _ _
      injection h1 with h1
      injection h1 with h1 _ _
      subst h1
      rw [hg] at hg'
      injection hg' with hg'
      injection hg' with hg' _ _
      subst hg'
      exact ⟨by simpa using h4, hbg⟩
  rw [hcur.1]
  refine ⟨⟨rfl, rfl, rfl, by simp, fun k hk => setRow_other w g k _ (by omega)⟩, fun v2 n2 zs hz ho => ?_, fun g2 t cs ht hb => ?_⟩
  · refine ⟨ho.1, ?_⟩
    rcases ho.2 with h0 | ⟨g2, cap2, cur2, rfl, hb2, hg2, h1, h2, h3, h4⟩
    · exact .inl h0
    · by_cases hgg : g2 = g
      · subst hgg
        rw [hg] at hg2
        injection hg2 with hg2
        injection hg2 with hg2 _ _
        subst hg2
        refine .inr ⟨g2, cap2, _, rfl, hb2, setRow_heap w g2 cur _ e _ hg, h1, h2, ?_, ?_⟩
        · simp only [List.size_toArray, List.length_append, List.length_drop, Array.length_toList]; omega
        · have hzl : zs.length = n2 := by have := ho.1; omega
          have hp := take_of_pre hL hz
          rw [List.length_append, hxl, hm] at hp
          rw [Nat.mul_one] at h4 ⊢
          by_cases hle : n2 ≤ n + m
          · rw [List.take_append_of_le_length (by rw [List.length_append, hxl, hm]; exact hle), ← hzl, ← hp, List.take_of_length_le (by omega)]
          · have e1 : zs.take (n + m) = xs ++ ys := by rw [hp, List.take_of_length_le (by rw [List.length_append]; omega)]
            rw [← h4, List.take_take, Nat.min_eq_left (by omega)] at e1
            rw [← e1, ← h4]
            simp
      · exact .inr ⟨g2, cap2, cur2, rfl, hb2, by rw [setRow_other w g g2 _ hgg]; exact hg2, h1, h2, h3, h4⟩
  · by_cases hgg : g2 = g
    · subst hgg
      unfold Blk at hb ⊢
      rw [hg] at hb
      injection hb with hb
      injection hb with h1 h2 _
      subst h1; subst h2
      have hsz : cur.size ≤ N := by rcases ht with h | h; exact absurd rfl h; exact h
      have hn0 : N ≤ n := by rcases hN with h | h; exact h; cases h
      have hm0 : m = 0 := by omega
      have hy : ys = [] := List.eq_nil_of_length_eq_zero (by omega)
      rw [setRow_heap w g2 cur _ e _ hg, hy, ← hcur.1, hm0]
      simp
    · unfold Blk at hb ⊢
      rw [setRow_other w g g2 _ hgg]; exact hb
end GrowA
def MonoA (B : Nat) (e : TypeId) (L : List Value) (N : Nat) (f : Spec) : Prop := ∀ v x y, GrowA B e L N x y → f.fact v x → f.fact v y
def MonoAAll (B : Nat) (e : TypeId) (L : List Value) (N : Nat) (fs : List Spec) : Prop := ∀ (j : Nat) v x y, GrowA B e L N x y → factAt fs j v x → factAt fs j v y
section
variable {B N : Nat} {e : TypeId} {L : List Value}
theorem monoA_nil : MonoAAll B e L N [] := fun j _ _ _ _ h => by cases j <;> exact h
theorem monoA_cons {f : Spec} {fs : List Spec} (h : MonoA B e L N f) (k : MonoAAll B e L N fs) : MonoAAll B e L N (f :: fs)
  | 0 => h
  | j + 1 => k j
theorem isA_mono (v : Value) : MonoA B e L N (is v) := fun _ _ _ _ h => h
/-- A row of the call's own. -/
def isOwn (B : Nat) (e : TypeId) (n : Nat) (xs : List Value) : Fact := fun v w => w.ownsRow B e 1 v n xs
theorem isOwn_monoA (n : Nat) (xs : List Value) (h : xs <+: L) : MonoA B e L N (such (isOwn B e n xs)) := fun v _ _ hg ho => hg.2.1 v n xs h ho
/-- A literal's row, whole. -/
def isLit (t : TypeId) (n : Nat) (cs : Array Value) : Fact := fun v w => ∃ g, v = .slice (some ⟨g, 0, none⟩) n n ∧ Blk w g t cs
theorem isLit_monoA (t : TypeId) (n : Nat) (cs : Array Value) (h : t ≠ e ∨ cs.size ≤ N) : MonoA B e L N (such (isLit t n cs)) := fun _ _ _ hg ⟨g, hv, hb⟩ => ⟨g, hv, hg.2.2 g t cs h hb⟩
end
theorem Blk.cells {w : World} {g : Nat} {t : TypeId} {l : List Value} (h : Blk w g t l.toArray) : Cells w (some ⟨g, 0, none⟩) l := fun i hi => ⟨g, 0, rfl, by rw [h.cell]; simp [hi]⟩
theorem wp_relyA {P : Program} {id : Nat} {Q : Exit → Act → World → Prop} {a : Act} {w : World} {l : List Oper} (B : Nat) (e : TypeId) (L : List Value) (N : Nat) (n : Nat) (fs : List Spec) (hm : P.follows .mixedOrders = true)
    (hB : relyB l.toArray n a.tmps.size = true) (hmono : MonoAAll B e L N fs)
    (hs : Steps P l.toArray (GrowA B e L N) w.drew fs (fun a w => wpList P l.toArray Q (l.drop n) a w) [] a (l.take n)) : (Code.region id l.toArray true).wp P Q a w :=
  wp_region_rely n (GrowA B e L N) fs hm hB GrowA.refl GrowA.trans hmono hs
theorem wanted_free {o : Oper} {y : Nat → Option Bool} (hg : o.guard = none) : Region.wanted o y = true := by simp [Region.wanted, hg]
theorem yield_append {P : Program} {w w' : World} {o : Oper} {ev : Operand → Value} {G : Fact} {v y v' : Value} (s x : Operand) (t u : TypeId)
    (ho : o.op = .call { callee := .builtin .append, args := #[s, x], argTypes := #[t, u] }) (hs : ev s = v) (hx : ev x = y)
    (hrun : (Builtin.append_ #[t, u] o.type #[v, y]).run P w = .ok v' w') (hG : G v' w') : Yield P G ((execOp ev o).run P w) := by
  unfold execOp
  simp only [ho, resolve, invoke, builtin, Sem.run_bind, Sem.run_pure, Result.andThen_ok, List.map_toArray, List.map_cons, List.map_nil, hs, hx, hrun]
  exact hG
/-- append at an operation of such a region. -/
theorem yield_app {P : Program} {w : World} {B N : Nat} {e : TypeId} {L : List Value} {t ty : TypeId} {i : TypeInfo} {z : Value} {bytes : Nat} (ht : P.underlying t = some (.slice e)) (hi : P.info? e = some i) (hz : i.zero = some z)
    (hsize : i.size = 1) (hby : i.bytes = bytes) (hzs : z.cells.size = 1) {v : Value} {n : Nat} {xs : List Value} (hown : w.ownsRow B e 1 v n xs)
    {A : Option Addr} {m c : Nat} {ys : List Value} (hm : m = ys.length) (hr : Cells w A ys) (h1 : ∀ u ∈ ys, u.oneCell' = true)
    (hbytes : (n + m) * bytes ≤ 140737488355328) (hlen : n + m ≤ 140737488355328) (hbase : B ≤ w.heap.size) (hL : xs ++ ys <+: L) (hN : N ≤ n ∨ v = .slice none 0 0) :
    ∃ v' w', (Builtin.append_ #[t, t] ty #[v, .slice A m c]).run P w = .ok v' w' ∧ w'.ownsRow B e 1 v' (n + m) (xs ++ ys) ∧ GrowA B e L N w w' := by
  subst hm
  obtain ⟨v', w', h2, h3, h4⟩ := run_app_split (P := P) w B t ty e i z bytes ht hi hz hsize hby hzs v n xs hown w.heap.size A ys.length c ys hr.reads h1 (by unfold maxLen; omega) hbytes hbase
  exact ⟨v', w', h2, h3, GrowA.append h4 rfl hbase hown hL hN⟩
theorem yield_appStr {P : Program} {w : World} {B N : Nat} {e : TypeId} {L : List Value} {t u ty : TypeId} {i : TypeInfo} (ht : P.underlying t = some (.slice e)) (hu : P.underlying u = some .string) (hi : P.info? e = some i) (hz : i.zero = some (.int .u8 0))
    (hsize : i.size = 1) (hby : i.bytes = 1) {v : Value} {n : Nat} {xs : List Value} (hown : w.ownsRow B e 1 v n xs) (s : ByteArray)
    (hlen : n + s.size ≤ 140737488355328) (hbase : B ≤ w.heap.size) (hL : xs ++ Lib.strCells s <+: L) (hN : N ≤ n ∨ v = .slice none 0 0) :
    ∃ v' w', (Builtin.append_ #[t, u] ty #[v, .string s]).run P w = .ok v' w' ∧ w'.ownsRow B e 1 v' (n + s.size) (xs ++ Lib.strCells s) ∧ GrowA B e L N w w' := by
  obtain ⟨v', w', h2, h3, h4⟩ := run_appStr_split (P := P) w B t u ty e i ht hu hi hz hsize hby v n xs hown s hlen hbase
  exact ⟨v', w', h2, h3, GrowA.append h4 (Lib.strCells_length s) hbase hown hL hN⟩
end Go.Proofs.Ytkkcjnhochdpgaa
