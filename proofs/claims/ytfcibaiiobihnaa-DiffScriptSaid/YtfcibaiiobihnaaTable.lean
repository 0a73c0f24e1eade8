/- The walk of diff.lengths: the table of the longest common subsequences. -/
import Derived.Test.YtfcibaiiobihnaaMem
import Derived.Test.YtfcibaiiobihnaaLcs
namespace Go.Proofs.Ytfcibaiiobihnaa
open Go.RowKit

theorem Try.infoInt : (Try.prog.info? 3).map (fun i => (i.zero, i.size, i.bytes)) = some (some (.int .i64 0), 1, 8) := by kernel_rfl
theorem Try.infoInts : (Try.prog.info? 52).map (fun i => (i.zero, i.size, i.bytes)) = some (some (.slice none 0 0), 1, 24) := by kernel_rfl
theorem mul_in (k m : Nat) (h : k * m ≤ 9223372036854775807) : wrap64 ((k : Int) * (m : Int)) = (k : Int) * (m : Int) := by
  refine IntWalk.wrap64_in _ ⟨?_, ?_⟩
  · have := Int.mul_nonneg (Int.natCast_nonneg k) (Int.natCast_nonneg m); omega
  · have : ((k * m : Nat) : Int) ≤ 9223372036854775807 := by omega
    rwa [Int.natCast_mul] at this

/-- Row x of the flat table in block A. -/
def rowv (A m x : Nat) : Value := .slice (some ⟨A, x * (m + 1), none⟩) (m + 1) (m + 1)
def rowsF (A m k : Nat) (x : Nat) : Value := if x < k then rowv A m x else .slice none 0 0
theorem mulWrap (k m L : Nat) (hL : k * (m + 1) = L) (h : L ≤ 9223372036854775807) : wrap64 ((k : Int) * ((m : Int) + 1)) = (L : Int) := by
  subst hL
  exact (mul_in k (m + 1) h).trans (Int.natCast_mul k (m + 1)).symm
theorem mulWrap' (k m L : Nat) (hL : (k + 1) * (m + 1) = L) (h : L ≤ 9223372036854775807) : wrap64 (((k : Int) + 1) * ((m : Int) + 1)) = (L : Int) := mulWrap (k + 1) m L hL h
/-- The table's value at the places that are filled in already: all rows from I on, and row I - 1 from J on. -/
def doneF (a b : List ByteArray) (I J x y : Nat) : Nat := if I ≤ x ∨ (x + 1 = I ∧ J ≤ y) then tab a b x y else 0
theorem doneF_le (a b : List ByteArray) (I J x y : Nat) : doneF a b I J x y ≤ a.length := by
  unfold doneF
  split
  · exact tab_le a b x y
  · omega
theorem doneF_next (a b : List ByteArray) (i j : Nat) (hi : i < a.length) (hj : j < b.length) {s t : ByteArray} (hs : a.getD i ByteArray.empty = s) (ht : b.getD j ByteArray.empty = t) :
    (s = t → tab a b i j = doneF a b (i + 1) (j + 1) (i + 1) (j + 1) + 1) ∧ (¬ s = t → tab a b i j = max (doneF a b (i + 1) (j + 1) (i + 1) j) (doneF a b (i + 1) (j + 1) i (j + 1))) := by
  have e1 : a[i] = s := by rw [← hs]; simp [List.getD, hi]
  have e2 : b[j] = t := by rw [← ht]; simp [List.getD, hj]
  have d1 : doneF a b (i + 1) (j + 1) (i + 1) (j + 1) = tab a b (i + 1) (j + 1) := by unfold doneF; rw [if_pos (.inl (Nat.le_refl _))]
  have d2 : doneF a b (i + 1) (j + 1) (i + 1) j = tab a b (i + 1) j := by unfold doneF; rw [if_pos (.inl (Nat.le_refl _))]
  have d3 : doneF a b (i + 1) (j + 1) i (j + 1) = tab a b i (j + 1) := by unfold doneF; rw [if_pos (.inr ⟨rfl, Nat.le_refl _⟩)]
  rw [d1, d2, d3, tab_step a b i j hi hj, e1, e2]
  exact ⟨fun h => by rw [if_pos h], fun h => by rw [if_neg h]⟩
/-- The flat table in block A. -/
def Grid (w : World) (A n m : Nat) (G : Nat → Nat → Nat) : Prop := Arr w A 3 ((n + 1) * (m + 1)) (fun p => .int .i64 (G (p / (m + 1)) (p % (m + 1))))
theorem grid_lt {n m x y : Nat} (hx : x ≤ n) (hy : y ≤ m) : x * (m + 1) + y < (n + 1) * (m + 1) := by
  have : x * (m + 1) ≤ n * (m + 1) := Nat.mul_le_mul_right _ hx
  rw [Nat.succ_mul n (m + 1)]; omega
theorem grid_div {m x y : Nat} (hy : y ≤ m) : (x * (m + 1) + y) / (m + 1) = x := by
  rw [Nat.mul_comm, Nat.mul_add_div (by omega), Nat.div_eq_of_lt (by omega), Nat.add_zero]
theorem grid_mod {m x y : Nat} (hy : y ≤ m) : (x * (m + 1) + y) % (m + 1) = y := by
  rw [Nat.mul_comm, Nat.mul_add_mod, Nat.mod_eq_of_lt (by omega)]
theorem Grid.cell {w : World} {A n m : Nat} {G : Nat → Nat → Nat} (h : Grid w A n m G) {x y : Nat} (hx : x ≤ n) (hy : y ≤ m) : w.cell? ⟨A, x * (m + 1) + y, none⟩ = some (.int .i64 (G x y)) := by
  rw [Arr.cell h (grid_lt hx hy), grid_div hy, grid_mod hy]
theorem Grid.set {w : World} {A n m : Nat} {G G' : Nat → Nat → Nat} (h : Grid w A n m G) {x y : Nat} (hy : y ≤ m) (v : Nat) (hv : G' x y = v)
    (hs : ∀ x' y', x' ≤ n → y' ≤ m → ¬ (x' = x ∧ y' = y) → G' x' y' = G x' y') : Grid (w.setCell ⟨A, x * (m + 1) + y, none⟩ (.int .i64 v)) A n m G' := by
  refine (Arr.set h (x * (m + 1) + y) (.int .i64 v)).congr (fun p hp => ?_)
  have hd := Nat.div_add_mod p (m + 1)
  have hm : p % (m + 1) < m + 1 := Nat.mod_lt _ (by omega)
  have hx' : p / (m + 1) < n + 1 := Nat.div_lt_of_lt_mul (by rw [Nat.mul_comm]; exact hp)
  by_cases e : p = x * (m + 1) + y
  · rw [if_pos e]
    subst e
    rw [grid_div hy, grid_mod hy, hv]
  · rw [if_neg e, hs _ _ (by omega) (by omega) (fun ⟨e1, e2⟩ => e (by rw [← hd, ← e1, ← e2, Nat.mul_comm]))]

theorem doneF_here (a b : List ByteArray) (i j : Nat) : doneF a b (i + 1) j i j = tab a b i j := by unfold doneF; rw [if_pos (.inr ⟨rfl, Nat.le_refl _⟩)]
theorem doneF_other (a b : List ByteArray) (i j x y : Nat) (h : ¬ (x = i ∧ y = j)) : doneF a b (i + 1) j x y = doneF a b (i + 1) (j + 1) x y := by
  unfold doneF
  by_cases h1 : i + 1 ≤ x ∨ (x + 1 = i + 1 ∧ j ≤ y)
  · rw [if_pos h1, if_pos (by omega)]
  · rw [if_neg h1, if_neg (by omega)]
theorem doneF_row (a b : List ByteArray) (i m x y : Nat) (hm : b.length = m) : doneF a b (i + 1) 0 x y = doneF a b i m x y := by
  unfold doneF
  by_cases h1 : i + 1 ≤ x ∨ (x + 1 = i + 1 ∧ 0 ≤ y)
  · rw [if_pos h1, if_pos (by omega)]
  · rw [if_neg h1]
    split
    · exact (tab_end_right _ _ _ _ (by omega)).symm
    · rfl
theorem grid_round {w : World} {A n m i j L v : Nat} {a b : List ByteArray} (hG : Grid w A n m (doneF a b (i + 1) (j + 1))) (hL : i * (m + 1) = L) (hj : j ≤ m) (hv : tab a b i j = v) (k : Nat) :
    Grid ((w.drewN k).setCell ⟨A, L + j, none⟩ (.int .i64 v)) A n m (doneF a b (i + 1) j) := by
  subst hL
  exact Grid.set (w := w.drewN k) (Arr.drewN hG k) hj v ((doneF_here a b i j).trans hv) (fun x y _ _ h => doneF_other a b i j x y h)
theorem grid_end {w : World} {A n m i : Nat} {a b : List ByteArray} (hm : b.length = m) (hG : Grid w A n m (doneF a b (i + 1) 0)) : Grid w A n m (doneF a b i m) :=
  Arr.congr hG (fun p _ => by rw [doneF_row a b i m _ _ hm])
/-- A value that reads as the whole table. -/
def TabAt (w : World) (v : Value) (n m : Nat) (T : Nat → Nat → Nat) : Prop :=
  ∃ R, v = .slice (some ⟨R, 0, none⟩) (n + 1) (n + 1) ∧ R < w.heap.size ∧ ∀ x, x ≤ n → ∃ A off cap, w.cell? ⟨R, x, none⟩ = some (.slice (some ⟨A, off, none⟩) (m + 1) cap) ∧ A < w.heap.size ∧ ∀ y, y ≤ m → w.cell? ⟨A, off + y, none⟩ = some (.int .i64 (T x y))
theorem TabAt.below {w w' : World} {v : Value} {n m : Nat} {T : Nat → Nat → Nat} (h : TabAt w v n m T) (hb : Below w.heap.size w w') : TabAt w' v n m T := by
  obtain ⟨R, h1, h2, h3⟩ := h
  refine ⟨R, h1, by have := hb.size; omega, fun x hx => ?_⟩
  obtain ⟨A, off, cap, k1, k2, k3⟩ := h3 x hx
  exact ⟨A, off, cap, (hb.cell (p := ⟨R, x, none⟩) h2).trans k1, by have := hb.size; omega, fun y hy => (hb.cell (p := ⟨A, off + y, none⟩) k2).trans (k3 y hy)⟩
def RowsOk (w : World) (A R n m : Nat) : Prop := R < w.heap.size ∧ ∀ x, x ≤ n → w.cell? ⟨R, x, none⟩ = some (.slice (some ⟨A, x * (m + 1), none⟩) (m + 1) (m + 1))
theorem RowsOk.set {w : World} {A R n m : Nat} (h : RowsOk w A R n m) (hRA : ¬ R = A) (o : Nat) (v : Value) : RowsOk (w.setCell ⟨A, o, none⟩ v) A R n m :=
  ⟨by simpa using h.1, fun x hx => (World.cell?_of_block (w := w) (Below.heap_setCell _ _ _ _ hRA)).trans (h.2 x hx)⟩
/-- Where the strings lie, if there is one. -/
def SAt (w : World) (ao : Option Addr) (n : Nat) (a : List ByteArray) : Prop := 0 < n → ∃ b off, ao = some ⟨b, off, none⟩ ∧ b < w.heap.size ∧ ∀ i, i < n → w.cell? ⟨b, off + i, none⟩ = some (.string (a.getD i ByteArray.empty))

set_option maxHeartbeats 2000000 in
theorem lengths_walk (ao bo : Option Addr) (ca cb n m : Nat) (a b : List ByteArray) (w : World) (Hn : Hid (a.length = n)) (Hm : Hid (b.length = m)) (ha : n ≤ 1000) (hb : m ≤ 1000) (Sa : SAt w ao n a) (Sb : SAt w bo m b) :
    Calls Try.prog 26 #[.slice ao n ca, .slice bo m cb] w fun e w' => ∃ v, e = .returned v ∧ TabAt w' v n m (tab a b) ∧ Below w.heap.size w w' := by
  obtain ⟨i0, hi, hz0, hz1, hz2⟩ := info_parts Try.infoInt
  obtain ⟨j0, hj, kz0, kz1, kz2⟩ := info_parts Try.infoInts
  have hp : (n + 1) * (m + 1) ≤ 1100000 := Nat.le_trans (Nat.mul_le_mul (show n + 1 ≤ 1001 by omega) (show m + 1 ≤ 1001 by omega)) (by omega)
  obtain ⟨N, hN⟩ : ∃ N, (n + 1) * (m + 1) = N := ⟨_, rfl⟩
  rw [hN] at hp
  have hp1 : wrap64 (((n : Int) + 1) * ((m : Int) + 1)) = (N : Int) := mulWrap' n m N hN (by omega)
  have HN := Lib.hid hN
  clear hN
  go_enter Try.func26, Try.ntmps26
  go_wp2_with (first
    | (at_make; (refine wpList_make_full w rfl (.tmp 18) (.tmp 18) 52 rfl w.heap.size 3 i0 (.int .i64 0) 1 Try.underlying52 hi hz0 hz1 .i64 .i64 _ _ N rfl rfl (by first | rfl | exact hp1) (by first | rfl | exact hp1) (by rw [hz2]; omega) (by unfold maxLen; omega) (Nat.le_refl _) ?_); intro w1 hown1 hgrow1)
    | (at_make; refine wpList_make_full _ rfl (.tmp 22) (.tmp 22) 50 rfl w.heap.size 52 j0 (.slice none 0 0) 1 Try.underlying50 hj kz0 kz1 .i64 .i64 _ _ (n + 1) rfl rfl rfl rfl (by rw [kz2]; omega) (by unfold maxLen; omega) hgrow1.size ?_; intro w2 hown2 hgrow2))
  have hz := toList_madeCells_one (.int .i64 0) N
  have hz' := toList_madeCells_one (.slice none 0 0) (n + 1)
  obtain ⟨_, hA1⟩ := Arr.of_own hown1 rfl
  obtain ⟨hR0, hR1⟩ := Arr.of_own hown2 rfl
  have hAR : w.heap.size < w1.heap.size := hA1.lt
  have hA2 : Arr w2 w.heap.size 3 N (fun _ => .int .i64 0) :=
    (hA1.grown hgrow2 (by simp)).congr (fun i hi => by simp [Value.cells, hz, List.getD, hi])
  have hR2 : Arr w2 w1.heap.size 52 (n + 1) (rowsF w.heap.size m 0) :=
    hR1.congr (fun i hi => by simp [Value.cells, hz', List.getD, hi, rowsF])
  have hB2 : Below w.heap.size w w2 := ((Below.refl _ _).grown hgrow1 (Nat.le_refl _) (by simp)).grown hgrow2 hgrow1.size (by simp)
  clear hz hz' hA1 hR1 hown1 hown2 hgrow1 hgrow2 hR0
  obtain ⟨A, hA⟩ : ∃ A, A = w.heap.size := ⟨_, rfl⟩
  rw [← hA] at hA2 hR2 hB2 hAR ⊢
  obtain ⟨R, hR⟩ : ∃ R, R = w1.heap.size := ⟨_, rfl⟩
  rw [← hR] at hR2 hAR ⊢
  have HA := Lib.hid hA
  have HR := Lib.hid hR
  clear hA hR
  go_loopw [26] (fun i wr => ∃ k : Nat, k ≤ n + 1 ∧ i = .int .i64 k ∧ Arr wr A 3 N (fun _ => .int .i64 0) ∧ Arr wr R 52 (n + 1) (rowsF A m k) ∧ Below A w wr) (fun i _ => n + 1 - (intOf i).toNat)
  case atStart => exact ⟨0, by omega, rfl, hA2, hR2, hB2⟩
  case round =>
    obtain ⟨k, hk, rfl, hAr, hRr, hBr⟩ := hrel
    clear hA2 hR2 hB2
    by_cases hlt : k < n + 1
    · have hc := hRr.cell hlt
      have hf := hRr.frozen k
      obtain ⟨L, hL⟩ : ∃ L, k * (m + 1) = L := ⟨_, rfl⟩
      obtain ⟨L', hL'⟩ : ∃ L', (k + 1) * (m + 1) = L' := ⟨_, rfl⟩
      have f1 : L' ≤ N := by rw [← hL', ← HN.out]; exact Nat.mul_le_mul_right _ (by omega)
      have f2 : L + (m + 1) ≤ L' := by rw [← hL', ← hL, Nat.succ_mul]; omega
      have f3 : L' ≤ L + (m + 1) := by rw [← hL', ← hL, Nat.succ_mul]; omega
      have f4 : L ≤ L' := by omega
      have f5 : ¬ L' = L := by omega
      have g1 : wrap64 ((k : Int) * ((m : Int) + 1)) = (L : Int) := mulWrap k m L hL (by omega)
      have g2 : wrap64 (((k : Int) + 1) * ((m : Int) + 1)) = (L' : Int) := mulWrap' k m L' hL' (by omega)
      have HL := Lib.hid hL
      have HL' := Lib.hid hL'
      clear hL hL'
      go_wp2_with (first | (rw [g1]) | (rw [g2]))
      clear g1 g2 hp1
      go_roundw
      case rel =>
        refine ⟨k + 1, by omega, by go_num, hAr.other (by simp; omega) _, ((hRr.set k _).congr fun x hx => ?_), hBr.setCell (by simp; omega) _⟩
        have e1 : L' - L = m + 1 := by omega
        unfold rowsF rowv
        by_cases hxk : x = k
        · subst hxk
          rw [if_pos rfl, if_pos (by omega), e1, HL.out]
        · rw [if_neg hxk]
          by_cases hxk' : x < k
          · rw [if_pos hxk', if_pos (by omega)]
          · rw [if_neg hxk', if_neg (by omega)]
      case measure => simp [intOf]; omega
    · clear hp1
      have hk' : k = n + 1 := by omega
      subst hk'
      have hG0 : Grid wr A n m (doneF a b n m) := by
        have e := HN.out
        subst e
        refine hAr.congr (fun p hp => ?_)
        have hx' : p / (m + 1) < n + 1 := Nat.div_lt_of_lt_mul (by rw [Nat.mul_comm]; exact hp)
        have hm : p % (m + 1) < m + 1 := Nat.mod_lt _ (by omega)
        unfold doneF
        split
        · rw [show tab a b (p / (m + 1)) (p % (m + 1)) = 0 from ?_]
          · rfl
          · by_cases hh : n ≤ p / (m + 1)
            · exact tab_end_left _ _ _ _ (by have := Hn.out; omega)
            · exact tab_end_right _ _ _ _ (by have := Hm.out; omega)
        · rfl
      have hrows : RowsOk wr A R n m := ⟨hRr.lt, fun x hx => by rw [hRr.cell (by omega)]; unfold rowsF rowv; rw [if_pos (by omega)]⟩
      have hRA : ¬ R = A := by omega
      clear hRr hAr hlt hk
      go_wp2_with fail
      obtain ⟨wo, rfl⟩ : ∃ wo : World, wo = wr := ⟨_, rfl⟩
      go_loopw [9] (fun t wx => ∃ (z : Int) (I : Nat), t = .int .i64 z ∧ Hid (z = (I : Int) - 1) ∧ I ≤ n ∧ Grid wx A n m (doneF a b I m) ∧ RowsOk wx A R n m ∧ Below A w wx) (fun t _ => (intOf t + 1).toNat)
      case atStart => exact ⟨_, n, rfl, rfl, Nat.le_refl _, hG0, hrows, hBr⟩
      case round =>
        obtain ⟨z, I, rfl, HI, hIn, hG, hrw, hBw⟩ := hrel
        clear hG0 hrows hBr
        obtain ⟨wp, rfl⟩ : ∃ wp : World, wp = wr := ⟨_, rfl⟩
        by_cases hz : 0 ≤ z
        · obtain ⟨i, rfl⟩ : ∃ i : Nat, z = (i : Int) := ⟨z.toNat, by omega⟩
          obtain rfl : I = i + 1 := by have := HI.out; omega
          clear HI
          go_wp2_with fail
          go_loopw [10] (fun t wx => ∃ (z : Int) (J : Nat), t = .int .i64 z ∧ Hid (z = (J : Int) - 1) ∧ J ≤ m ∧ Grid wx A n m (doneF a b (i + 1) J) ∧ RowsOk wx A R n m ∧ Below A w wx) (fun t _ => (intOf t + 1).toNat)
          case atStart => exact ⟨_, m, rfl, rfl, Nat.le_refl _, hG, hrw, hBw⟩
          case round =>
            obtain ⟨z, J, rfl, HJ, hJm, hGr, hrr, hBr⟩ := hrel
            clear hG hrw hBw
            by_cases hz' : 0 ≤ z
            · obtain ⟨j, rfl⟩ : ∃ j : Nat, z = (j : Int) := ⟨z.toNat, by omega⟩
              obtain rfl : J = j + 1 := by have := HJ.out; omega
              clear HJ
              obtain ⟨ba, oa, hao, hba, hca⟩ := Sa (by omega)
              obtain ⟨bb, ob, hbo, hbb, hcb⟩ := Sb (by omega)
              have ca1 := (hBr.cell (p := ⟨ba, oa + i, none⟩) (by rw [HA.out]; exact hba)).trans (hca i (by omega))
              have cb1 := (hBr.cell (p := ⟨bb, ob + j, none⟩) (by rw [HA.out]; exact hbb)).trans (hcb j (by omega))
              have q1 : (i : Int) < (n : Int) := by omega
              have q2 : (j : Int) < (m : Int) := by omega
              obtain ⟨L, hL⟩ : ∃ L, i * (m + 1) = L := ⟨_, rfl⟩
              obtain ⟨L', hL'⟩ : ∃ L', (i + 1) * (m + 1) = L' := ⟨_, rfl⟩
              have r0 := hrr.2 i (by omega)
              have r1 := hrr.2 (i + 1) (by omega)
              have c00 := hGr.cell (x := i) (y := j) (by omega) (by omega)
              have c01 := hGr.cell (x := i) (y := j + 1) (by omega) (by omega)
              have c10 := hGr.cell (x := i + 1) (y := j) (by omega) (by omega)
              have c11 := hGr.cell (x := i + 1) (y := j + 1) (by omega) (by omega)
              have fr := Arr.frozen hGr (L + j)
              rw [hL] at r0 c00 c01
              rw [hL'] at r1 c10 c11
              obtain ⟨v00, e00⟩ : ∃ v, doneF a b (i + 1) (j + 1) i j = v := ⟨_, rfl⟩
              obtain ⟨v01, e01⟩ : ∃ v, doneF a b (i + 1) (j + 1) i (j + 1) = v := ⟨_, rfl⟩
              obtain ⟨v10, e10⟩ : ∃ v, doneF a b (i + 1) (j + 1) (i + 1) j = v := ⟨_, rfl⟩
              obtain ⟨v11, e11⟩ : ∃ v, doneF a b (i + 1) (j + 1) (i + 1) (j + 1) = v := ⟨_, rfl⟩
              rw [e00] at c00
              rw [e01] at c01
              rw [e10] at c10
              rw [e11] at c11
              have b11 : v11 ≤ 1000 := by rw [← e11]; have := doneF_le a b (i + 1) (j + 1) (i + 1) (j + 1); have := Hn.out; omega
              obtain ⟨s, hs⟩ : ∃ s, a.getD i ByteArray.empty = s := ⟨_, rfl⟩
              obtain ⟨t, ht⟩ : ∃ t, b.getD j ByteArray.empty = t := ⟨_, rfl⟩
              rw [hs] at ca1
              rw [ht] at cb1
              have hnext := doneF_next a b i j (by have := Hn.out; omega) (by have := Hm.out; omega) hs ht
              rw [e01, e10, e11] at hnext
              have HN2 := Lib.hid hnext
              have HL := Lib.hid hL
              have E0 := Lib.hid e00
              have HG := Lib.hid hGr
              have HR' := Lib.hid hrr
              clear hca hcb hGr hrr e00 e01 e10 e11 hs ht hL hL' hnext
              subst hao hbo
              by_cases hst : s = t
              · have hst' := str_true hst
                have HS := Lib.hid hst
                clear hst
                go_wp2_with fail
                go_quiet (fail)
                go_wp2_with fail
                go_region
                go_wp2_with fail
                go_roundw
                case rel =>
                  exact ⟨_, j, rfl, rfl, by omega, grid_round HG.out HL.out (by omega) (HN2.out.1 HS.out) _, RowsOk.set (w := wr.drewN _) HR'.out hRA _ _, (below_drewN hBr _).setCell (Nat.le_refl _) _⟩
                case measure => simp [intOf]
              · have hst' := str_false hst
                have HS := Lib.hid hst
                clear hst
                go_wp2_with fail
                go_quiet (fail)
                go_wp2_with fail
                go_region
                go_wp2_with fail
                go_roundw
                case rel =>
                  have hv : (if v10 < v01 then (v01 : Int) else (v10 : Int)) = ((max v10 v01 : Nat) : Int) := by split <;> omega
                  exact ⟨_, j, rfl, rfl, by omega, by rw [hv]; exact grid_round HG.out HL.out (by omega) (HN2.out.2 HS.out) _, RowsOk.set (w := wr.drewN _) HR'.out hRA _ _, (below_drewN hBr _).setCell (Nat.le_refl _) _⟩
                case measure => simp [intOf]
            · obtain rfl : J = 0 := by have := HJ.out; omega
              have HG := Lib.hid (grid_end Hm.out hGr)
              have HR' := Lib.hid hrr
              clear HJ hGr hrr
              go_wp2_with fail
              go_roundw
              case rel => exact ⟨_, i, rfl, rfl, by omega, HG.out, HR'.out, hBr⟩
              case measure => simp [intOf]
        · obtain rfl : I = 0 := by have := HI.out; omega
          have HT : Hid (TabAt wp (.slice (some ⟨R, 0, none⟩) (n + 1) (n + 1)) n m (tab a b)) := ⟨R, rfl, hrw.1, fun x hx => ⟨A, x * (m + 1), m + 1, hrw.2 x hx, by have := hrw.1; omega, fun y hy => by
            rw [hG.cell hx hy]; unfold doneF; rw [if_pos (.inl (Nat.zero_le _))]⟩⟩
          clear HI hG hrw
          go_wp2_with fail
          go_ret
          exact ⟨_, rfl, HT.out, by rw [← HA.out]; exact hBw⟩

/-- diff.lengths hands back the table of the longest common subsequences. -/
theorem lengths_any {w : World} {va vb : Value} {a b : List ByteArray} (ha : Strs w va a) (hb : Strs w vb b) (la : a.length ≤ 1000) (lb : b.length ≤ 1000) :
    Calls Try.prog 26 #[va, vb] w fun e w' => ∃ v, e = .returned v ∧ TabAt w' v a.length b.length (tab a b) ∧ Below w.heap.size w w' := by
  obtain ⟨ao, ca, rfl, _, _, _, hca⟩ := ha.open
  obtain ⟨bo, cb, rfl, _, _, _, hcb⟩ := hb.open
  exact lengths_walk ao bo ca cb a.length b.length a b w rfl rfl la lb hca hcb
end Go.Proofs.Ytfcibaiiobihnaa
