/- The walk of the reference's table: calqueref05.longest. -/
import Derived.Test.YtfcibaiiobihnaaSmall
import Derived.Deep.RegionHeld3
namespace Go.Proofs.Ytfcibaiiobihnaa
open Go.RowKit

def rowsF27 (m : Nat) (g : Nat → Nat) (I x : Nat) : Value := if I ≤ x then .slice (some ⟨g x, 0, none⟩) (m + 1) (m + 1) else .slice none 0 0
/-- The rows from I on are there and filled. -/
def Rows27 (w : World) (R n m : Nat) (a b : List ByteArray) (I : Nat) : Prop :=
  ∃ g : Nat → Nat, Arr w R 52 (n + 1) (rowsF27 m g I) ∧ ∀ x, I ≤ x → x ≤ n → R < g x ∧ Arr w (g x) 3 (m + 1) (fun y => .int .i64 (tab a b x y))
/-- Row i is being filled, from J on it is. -/
def In27 (w : World) (R n m : Nat) (a b : List ByteArray) (g : Nat → Nat) (i J : Nat) : Prop :=
  Arr w R 52 (n + 1) (rowsF27 m g i) ∧ (∀ x, i + 1 ≤ x → x ≤ n → R < g x ∧ ¬ g x = g i ∧ Arr w (g x) 3 (m + 1) (fun y => .int .i64 (tab a b x y))) ∧ R < g i ∧ ∃ f : Nat → Value, Arr w (g i) 3 (m + 1) f ∧ (∀ y, J ≤ y → y ≤ m → f y = .int .i64 (tab a b i y)) ∧ (a.length ≤ i → ∀ y, y ≤ m → f y = .int .i64 (tab a b i y))

theorem In27.start {w : World} {R n m : Nat} {a b : List ByteArray} {i : Nat} (h : Rows27 w R n m a b (i + 1)) (hi : i ≤ n) (hb : b.length = m) (_ha : a.length = n) {w2 : World} {G : Nat} (hG : G = w.heap.size) (hm : Arr w2 G 3 (m + 1) (fun _ => .int .i64 0)) (hgr : w.grownBy w2 none) :
    ∃ g : Nat → Nat, g i = G ∧ In27 (w2.setCell ⟨R, i, none⟩ (.slice (some ⟨G, 0, none⟩) (m + 1) (m + 1))) R n m a b g i m := by
  obtain ⟨g, h1, h2⟩ := h
  refine ⟨fun x => if x = i then G else g x, by simp, ?_⟩
  have hR := h1.lt
  have hRG : ¬ G = R := by omega
  refine ⟨((h1.grown hgr (by simp)).set i _).congr (fun x hx => ?_), fun x hx hxn => ?_, by simp; omega, ?_⟩
  · unfold rowsF27
    by_cases hxi : x = i
    · subst hxi; simp
    · rw [if_neg hxi]
      by_cases h3 : i + 1 ≤ x
      · rw [if_pos h3, if_pos (by omega)]
        simp only [hxi, if_false]
      · rw [if_neg h3, if_neg (by omega)]
  · obtain ⟨k1, k2⟩ := h2 x hx hxn
    have hxi : ¬ x = i := by omega
    have hl := k2.lt
    simp only [hxi, if_false, if_true]
    exact ⟨k1, by omega, (k2.grown hgr (by simp)).other (by simp; omega) _⟩
  · simp only [if_true]
    refine ⟨_, hm.other (fun e => hRG e.symm) _, fun y hy hym => ?_, fun h y hy => ?_⟩
    · rw [tab_end_right _ _ _ _ (by omega)]; rfl
    · rw [tab_end_left _ _ _ _ h]; rfl
theorem In27.stop {w : World} {R n m : Nat} {a b : List ByteArray} {g : Nat → Nat} {i J : Nat} (h : In27 w R n m a b g i J) (hJ : J = 0 ∨ (a.length ≤ i ∧ b.length = m)) : Rows27 w R n m a b i := by
  obtain ⟨h1, h2, h3, f, h4, h5, h6⟩ := h
  refine ⟨g, h1, fun x hx hxn => ?_⟩
  by_cases hxi : x = i
  · subst hxi
    refine ⟨h3, h4.congr (fun y hy => ?_)⟩
    rcases hJ with rfl | ⟨hJ, _⟩
    · exact h5 y (by omega) (by omega)
    · exact h6 hJ y (by omega)
  · obtain ⟨k1, _, k3⟩ := h2 x (by omega) hxn
    exact ⟨k1, k3⟩
/-- A store into row i ahead of what is filled. -/
theorem In27.store {w : World} {R n m : Nat} {a b : List ByteArray} {g : Nat → Nat} {i j : Nat} (h : In27 w R n m a b g i (j + 1)) (hi : i < a.length) (u : Value) : In27 (w.setCell ⟨g i, j, none⟩ u) R n m a b g i (j + 1) := by
  obtain ⟨h1, h2, h3, f, h4, h5, h6⟩ := h
  refine ⟨h1.other (by simp; omega) _, fun x hx hxn => ?_, h3, _, h4.set j u, fun y hy hym => ?_, fun h => by omega⟩
  · obtain ⟨k1, k2, k3⟩ := h2 x hx hxn
    exact ⟨k1, k2, k3.other (fun e => k2 e.symm) _⟩
  · have : ¬ y = j := by omega
    simp only [this, if_false]
    exact h5 y hy hym
/-- The store that fills place j. -/
theorem In27.fill {w : World} {R n m : Nat} {a b : List ByteArray} {g : Nat → Nat} {i j : Nat} (h : In27 w R n m a b g i (j + 1)) (hi : i < a.length) (v : Int) (hv : v = tab a b i j) : In27 (w.setCell ⟨g i, j, none⟩ (.int .i64 v)) R n m a b g i j := by
  obtain ⟨h1, h2, h3, f, h4, h5, h6⟩ := h
  refine ⟨h1.other (by simp; omega) _, fun x hx hxn => ?_, h3, _, h4.set j (.int .i64 v), fun y hy hym => ?_, fun h => by omega⟩
  · obtain ⟨k1, k2, k3⟩ := h2 x hx hxn
    exact ⟨k1, k2, k3.other (fun e => k2 e.symm) _⟩
  · by_cases hyj : y = j
    · subst hyj
      simp [hv]
    · simp only [hyj, if_false]
      exact h5 y (by omega) hym
theorem In27.drewN {w : World} {R n m : Nat} {a b : List ByteArray} {g : Nat → Nat} {i J : Nat} (h : In27 w R n m a b g i J) (k : Nat) : In27 (w.drewN k) R n m a b g i J := h
theorem In27.drew {w : World} {R n m : Nat} {a b : List ByteArray} {g : Nat → Nat} {i J : Nat} (h : In27 w R n m a b g i J) : In27 w.drew R n m a b g i J := h

theorem In27.fill2 {w : World} {R n m : Nat} {a b : List ByteArray} {g : Nat → Nat} {i j G X : Nat} (h : In27 w R n m a b g i (j + 1)) (hi : i < a.length) (hG : g i = G) (hX : tab a b i j = X) (k : Nat) : In27 ((w.drewN k).setCell ⟨G, j, none⟩ (.int .i64 (X : Int))) R n m a b g i j := by
  subst hG hX
  exact (h.drewN k).fill hi _ rfl

/-- A table of new memory. -/
def TabNew (k : Nat) (w : World) (v : Value) (n m : Nat) (T : Nat → Nat → Nat) : Prop :=
  ∃ R, v = .slice (some ⟨R, 0, none⟩) (n + 1) (n + 1) ∧ k ≤ R ∧ R < w.heap.size ∧ ∀ x, x ≤ n → ∃ A, w.cell? ⟨R, x, none⟩ = some (.slice (some ⟨A, 0, none⟩) (m + 1) (m + 1)) ∧ k ≤ A ∧ A < w.heap.size ∧ ∀ y, y ≤ m → w.cell? ⟨A, y, none⟩ = some (.int .i64 (T x y))

set_option maxRecDepth 100000 in
set_option maxHeartbeats 2000000 in
theorem longest_walk27 (ao bo : Option Addr) (ca cb n m : Nat) (a b : List ByteArray) (w : World) (Hn : Hid (a.length = n)) (Hm : Hid (b.length = m)) (ha : n ≤ 1000) (hb : m ≤ 1000) (Sa : SAt w ao n a) (Sb : SAt w bo m b) :
    Calls Try.prog 27 #[.slice ao n ca, .slice bo m cb] w fun e w' => ∃ v, e = .returned v ∧ TabNew w.heap.size w' v n m (tab a b) ∧ Below w.heap.size w w' := by
  obtain ⟨i0, hi, hz0, hz1, hz2⟩ := info_parts Try.infoInt
  obtain ⟨j0, hj, kz0, kz1, kz2⟩ := info_parts Try.infoInts
  go_enter Try.func27, Try.ntmps27
  go_wp2_with (at_make; refine wpList_make_full _ rfl (.tmp 10) (.tmp 10) 50 rfl w.heap.size 52 j0 (.slice none 0 0) 1 Try.underlying50 hj kz0 kz1 .i64 .i64 _ _ (n + 1) rfl rfl rfl rfl (by rw [kz2]; omega) (by unfold maxLen; omega) (Nat.le_refl _) ?_; intro w1 hown1 hgrow1)
  have hz' := toList_madeCells_one (.slice none 0 0) (n + 1)
  obtain ⟨_, hR1⟩ := Arr.of_own hown1 rfl
  have hR2 : Rows27 w1 w.heap.size n m a b (n + 1) := ⟨fun _ => 0, hR1.congr (fun i hi => by simp [Value.cells, hz', List.getD, hi, rowsF27]), fun x hx hxn => by omega⟩
  have hB1 : Below w.heap.size w w1 := (Below.refl _ _).grown hgrow1 (Nat.le_refl _) (by simp)
  clear hz' hR1 hown1 hgrow1
  obtain ⟨R, hR⟩ : ∃ R, R = w.heap.size := ⟨_, rfl⟩
  rw [← hR] at hR2 hB1 ⊢
  have HR := Lib.hid hR
  clear hR
  go_loopw [6] (fun t wx => ∃ (z : Int) (I : Nat), t = .int .i64 z ∧ Hid (z = (I : Int) - 1) ∧ I ≤ n + 1 ∧ Rows27 wx R n m a b I ∧ R < wx.heap.size ∧ Below R w wx) (fun t _ => (intOf t + 1).toNat)
  case atStart => exact ⟨_, n + 1, rfl, by show (n : Int) = _; omega, Nat.le_refl _, hR2, by obtain ⟨g, h, _⟩ := hR2; exact h.lt, hB1⟩
  case round =>
    obtain ⟨z, I, rfl, HI, hIn, hrows, hRl, hbr⟩ := hrel
    clear hR2 hB1
    obtain ⟨wp, rfl⟩ : ∃ wp : World, wp = wr := ⟨_, rfl⟩
    by_cases hz : 0 ≤ z
    · obtain ⟨i, rfl⟩ : ∃ i : Nat, z = (i : Int) := ⟨z.toNat, by omega⟩
      obtain rfl : I = i + 1 := by have := HI.out; omega
      clear HI
      have hrows' := hrows
      obtain ⟨g0, hA0, _⟩ := hrows
      have cR := hA0.cell (i := i) (by omega)
      have fR := hA0.frozen i
      have HRows := Lib.hid hrows'
      clear hrows' hA0
      go_wp2_with (at_make; go_loud (refine wpList_make_full wp rfl (.tmp 22) (.tmp 22) 52 rfl R 3 i0 (.int .i64 0) 1 Try.underlying52 hi hz0 hz1 .i64 .i64 _ _ (m + 1) rfl rfl rfl rfl (by rw [hz2]; omega) (by unfold maxLen; omega) (by omega) ?_); intro w3 hown3 hgrow3; have cR3 := hgrow3.cell cR (by simp); have fR3 : w3.frozen? ⟨R, i, none⟩ = false := (World.frozen?_of_block (hgrow3.block R hRl (by simp))).trans fR)
      have hz' := toList_madeCells_one (.int .i64 0) (m + 1)
      obtain ⟨_, hG1⟩ := Arr.of_own hown3 rfl
      have hG2 : Arr w3 wp.heap.size 3 (m + 1) (fun _ => .int .i64 0) := hG1.congr (fun y hy => by simp [Value.cells, hz', List.getD, hy])
      obtain ⟨g, hgi, hin⟩ := In27.start HRows.out (by omega) Hm.out Hn.out rfl hG2 hgrow3
      have hbw : Below R w (w3.setCell ⟨R, i, none⟩ (.slice (some ⟨wp.heap.size, 0, none⟩) (m + 1) (m + 1))) := ((hbr.grown hgrow3 (by omega) (by simp))).setCell (Nat.le_refl _) _
      have hRl2 : R < (w3.setCell ⟨R, i, none⟩ (.slice (some ⟨wp.heap.size, 0, none⟩) (m + 1) (m + 1))).heap.size := by have := hgrow3.size; simp; omega
      clear hz' hG1 hG2 hown3 hgrow3 HRows cR fR cR3 fR3
      go_loopw [7] (fun t wx => ∃ (z : Int) (J : Nat), t = .int .i64 z ∧ Hid (z = (J : Int) - 1) ∧ J ≤ m ∧ In27 wx R n m a b g i J ∧ R < wx.heap.size ∧ Below R w wx) (fun t _ => (intOf t + 1).toNat)
      case atStart => exact ⟨_, m, rfl, rfl, Nat.le_refl _, hin, hRl2, hbw⟩
      case round =>
        obtain ⟨z, J, rfl, HJ, hJm, hinr, hRl3, hbr3⟩ := hrel
        clear hin hbw hRl2 hbr
        by_cases hz' : 0 ≤ z
        · obtain ⟨j, rfl⟩ : ∃ j : Nat, z = (j : Int) := ⟨z.toNat, by omega⟩
          obtain rfl : J = j + 1 := by have := HJ.out; omega
          clear HJ
          by_cases hin' : i < n
          · have HIN := Lib.hid hinr
            obtain ⟨hA, hrs, hgR, f, hgi', hf, _⟩ := hinr
            obtain ⟨n1, n2, n3⟩ := hrs (i + 1) (Nat.le_refl _) (by omega)
            have r0 : wr.cell? ⟨R, i, none⟩ = some (.slice (some ⟨g i, 0, none⟩) (m + 1) (m + 1)) := by rw [hA.cell (by omega)]; simp [rowsF27]
            have r1 : wr.cell? ⟨R, i + 1, none⟩ = some (.slice (some ⟨g (i + 1), 0, none⟩) (m + 1) (m + 1)) := by rw [hA.cell (by omega)]; simp [rowsF27]
            have c00 : wr.cell? ⟨g i, j, none⟩ = some (f j) := hgi'.cell (by omega)
            have c01 : wr.cell? ⟨g i, j + 1, none⟩ = some (.int .i64 (tab a b i (j + 1))) := by rw [hgi'.cell (by omega), hf _ (Nat.le_refl _) (by omega)]
            have c10 : wr.cell? ⟨g (i + 1), j, none⟩ = some (.int .i64 (tab a b (i + 1) j)) := n3.cell (by omega)
            have c11 : wr.cell? ⟨g (i + 1), j + 1, none⟩ = some (.int .i64 (tab a b (i + 1) (j + 1))) := n3.cell (by omega)
            have fr := hgi'.frozen j
            obtain ⟨ba, oa, hao, hba, hca⟩ := Sa (by omega)
            obtain ⟨bb, ob, hbo, hbb, hcb⟩ := Sb (by omega)
            have ca1 := (hbr3.cell (p := ⟨ba, oa + i, none⟩) (by rw [HR.out]; exact hba)).trans (hca i (by omega))
            have cb1 := (hbr3.cell (p := ⟨bb, ob + j, none⟩) (by rw [HR.out]; exact hbb)).trans (hcb j (by omega))
            have bnd := tab_le a b (i + 1) (j + 1)
            obtain ⟨v01, e01⟩ : ∃ v, tab a b i (j + 1) = v := ⟨_, rfl⟩
            obtain ⟨v10, e10⟩ : ∃ v, tab a b (i + 1) j = v := ⟨_, rfl⟩
            obtain ⟨v11, e11⟩ : ∃ v, tab a b (i + 1) (j + 1) = v := ⟨_, rfl⟩
            rw [e01] at c01
            rw [e10] at c10
            rw [e11] at c11 bnd
            rw [Hn.out] at bnd
            obtain ⟨s, hs⟩ : ∃ s, a.getD i ByteArray.empty = s := ⟨_, rfl⟩
            obtain ⟨t, ht⟩ : ∃ t, b.getD j ByteArray.empty = t := ⟨_, rfl⟩
            rw [hs] at ca1
            rw [ht] at cb1
            have hst0 := tab_step' a b i j (by have := Hn.out; omega) (by have := Hm.out; omega)
            rw [getD_of _ hs, getD_of _ ht, e01, e10, e11] at hst0
            have q1 : (i : Int) < (n : Int) := by omega
            have q2 : (j : Int) < (m : Int) := by omega
            have HS := Lib.hid hs
            have HT := Lib.hid ht
            obtain ⟨G, hG⟩ : ∃ G, g i = G := ⟨_, rfl⟩
            obtain ⟨G1, hG1⟩ : ∃ G, g (i + 1) = G := ⟨_, rfl⟩
            rw [hG] at r0 c00 c01 fr hgR n2
            rw [hG1] at r1 c10 c11 n1 n2
            have HG := Lib.hid hG
            have HG1 := Lib.hid hG1
            obtain ⟨u0, hu0⟩ : ∃ u, f j = u := ⟨_, rfl⟩
            rw [hu0] at c00
            have hia : i < a.length := by have := Hn.out; omega
            have HIA := Lib.hid hia
            have hdiag : s = t → tab a b i j = v11 + 1 := by
              intro h
              rw [tab_step a b i j hia (by have := Hm.out; omega), getD_of _ hs, getD_of _ ht, if_pos h, e11]
            have HDI := Lib.hid hdiag
            have bnd2 : v01 ≤ 1000 := by rw [← e01]; have := tab_le a b i (j + 1); have := Hn.out; omega
            have bnd3 : v10 ≤ 1000 := by rw [← e10]; have := tab_le a b (i + 1) j; have := Hn.out; omega
            obtain ⟨M, hM⟩ : ∃ M, max v10 v01 = M := ⟨_, rfl⟩
            rw [hM] at hst0
            have HST0 := Lib.hid hst0
            have bM : M ≤ 1000 := by omega
            have hcase : (v10 < v01 ∧ M = v01) ∨ (¬ v10 < v01 ∧ M = v10) := by omega
            clear hA hrs hgi' n3 hca hcb hs ht hst0 e01 e10 e11 hG hG1 hgi hu0 hf hM hia hdiag
            subst hao hbo
            rcases hcase with ⟨hd, rfl⟩ | ⟨hd, rfl⟩
            all_goals
              go_wp2_with fail
              go_region
              go_wp2_with fail
              obtain ⟨wy, hwy⟩ : ∃ wy, wy = (wr.setCell ⟨G, j, none⟩ (.int .i64 (M : Int))).drew := ⟨_, rfl⟩
              rw [← hwy]
              have hny : ∀ p : Addr, ¬ p.block = G → wy.cell? p = wr.cell? p := fun p hp => by rw [hwy]; exact World.cell?_of_block (w := wr) (Below.heap_setCell _ _ _ _ hp)
              have y0 := (hny ⟨R, i, none⟩ (by simp; omega)).trans r0
              have y1 := (hny ⟨R, i + 1, none⟩ (by simp; omega)).trans r1
              have y11 := (hny ⟨G1, j + 1, none⟩ n2).trans c11
              have ya := (hny ⟨ba, oa + i, none⟩ (by have := HR.out; simp; omega)).trans ca1
              have yb := (hny ⟨bb, ob + j, none⟩ (by have := HR.out; simp; omega)).trans cb1
              have hA2 := HIN.out
              have hfl : ∀ p : Addr, wy.frozen? p = wr.frozen? p := fun p => by rw [hwy]; simp
              have yM : wy.cell? ⟨G, j, none⟩ = some (.int .i64 (M : Int)) := by
                obtain ⟨_, _, _, f', hgi2, _, _⟩ := hA2
                rw [HG.out] at hgi2
                have := (hgi2.set j (.int .i64 (M : Int))).cell (i := j) (by omega)
                rw [hwy]
                simpa using this
              have yf := (hfl ⟨G, j, none⟩).trans fr
              have HIN2 : Hid (In27 wy R n m a b g i (j + 1)) := by
                have := (hA2.store HIA.out (.int .i64 (M : Int))).drew
                rw [HG.out] at this
                rw [hwy]; exact this
              have yB : Below R w wy := by rw [hwy]; exact (hbr3.setCell (by simp; omega) _).drew
              have yl : R < wy.heap.size := by rw [hwy]; simpa using hRl3
              have HWY := Lib.hid hwy
              clear hwy hny hfl hA2 r0 r1 c00 c01 c10 c11 ca1 cb1 fr
              by_cases hst : s = t
              · have hst' := str_true hst
                have HS2 := Lib.hid hst
                clear hst
                go_wp2_with fail
                go_quiet (fail)
                go_wp2_with fail
                have hd2 := HDI.out HS2.out
                have hsx := HST0.out
                rw [if_pos HS2.out] at hsx
                have hsum : tab a b i j = 1 + v11 := by omega
                have HSUM := Lib.hid hsum
                have HTM : Hid (M ≤ 1 + v11) := by show M ≤ 1 + v11; omega
                clear hd2 hsx hsum
                obtain ⟨X, hX⟩ : ∃ X, 1 + v11 = X := ⟨_, rfl⟩
                have b12 : IntKind.i64.wrap (1 + (v11 : Int)) = (X : Int) := by rw [IntWalk.i64_in _ (by omega)]; omega
                have bX : X ≤ 1001 := by omega
                have hMX : M < X ∨ M = X := by have := HTM.out; omega
                have HTX : Hid (tab a b i j = X) := by show tab a b i j = X; have := HSUM.out; omega
                clear hX
                rcases hMX with hd4 | rfl
                · go_wp2_with fail
                  go_region
                  go_wp2_with fail
                  refine ⟨⟨_, j, rfl, rfl, by omega, HIN2.out.fill2 HIA.out HG.out HTX.out _, by simpa using yl, (below_drewN yB _).setCell (by simp; omega) _⟩, ?_⟩
                  simp [intOf]
                · go_wp2_with fail
                  go_region
                  go_wp2_with fail
                  refine ⟨⟨_, j, rfl, rfl, by omega, HIN2.out.fill2 HIA.out HG.out HTX.out _, by simpa using yl, (below_drewN yB _).setCell (by simp; omega) _⟩, ?_⟩
                  simp [intOf]
              · have hst' := str_false hst
                have HS2 := Lib.hid hst
                clear hst
                go_wp2_with fail
                go_quiet (fail)
                go_wp2_with fail
                go_roundw
                case rel =>
                  refine ⟨_, j, rfl, rfl, by omega, ?_, by simpa using yl, below_drewN yB _⟩
                  have hsx := HST0.out
                  rw [if_neg HS2.out] at hsx
                  have := ((HIN.out.fill HIA.out (M : Int) (by omega)).drew)
                  rw [HG.out] at this
                  rw [← HWY.out] at this
                  exact this.drewN _
                case measure => simp [intOf]
          · have hd : decide ((i : Int) < (n : Int)) = false := by simp; omega
            have HT := Lib.hid (hinr.stop (.inr ⟨by have := Hn.out; omega, Hm.out⟩))
            clear hinr
            go_wp2_with fail
            go_roundw
            case rel => exact ⟨_, i, rfl, rfl, by omega, HT.out, hRl3, hbr3⟩
            case measure => simp [intOf]
        · obtain rfl : J = 0 := by have := HJ.out; omega
          have hd : decide ((0 : Int) ≤ z) = false := by simp; omega
          have HT := Lib.hid (hinr.stop (.inl rfl))
          clear hinr HJ
          go_wp2_with fail
          go_roundw
          case rel => exact ⟨_, i, rfl, rfl, by omega, HT.out, hRl3, hbr3⟩
          case measure => simp [intOf]
    · obtain rfl : I = 0 := by have := HI.out; omega
      obtain ⟨g, hA, hg⟩ := hrows
      have HT : Hid (TabNew w.heap.size wp (.slice (some ⟨R, 0, none⟩) (n + 1) (n + 1)) n m (tab a b)) := ⟨R, rfl, Nat.le_of_eq HR.out.symm, hRl, fun x hx => ⟨g x, by rw [hA.cell (by omega)]; simp [rowsF27], by have := (hg x (by omega) hx).1; have := HR.out; omega, (hg x (by omega) hx).2.lt, fun y hy => by
        rw [(hg x (by omega) hx).2.cell (by omega)]⟩⟩
      clear HI hA hg
      go_wp2_with fail
      go_ret
      exact ⟨_, rfl, HT.out, by rw [← HR.out]; exact hbr⟩
end Go.Proofs.Ytfcibaiiobihnaa
