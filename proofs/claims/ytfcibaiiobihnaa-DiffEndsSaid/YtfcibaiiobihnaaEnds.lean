/- DiffEnds: the law's walk and the statement. -/
import Derived.Test.YtfcibaiiobihnaaMetric
import Derived.Test.YtfcibaiiobihnaaApp
namespace Go.Proofs.Ytfcibaiiobihnaa
open Go.RowKit Go.ChangeShapes Go.WideShapes Go.ChangeAt

theorem Try.infoStr : (Try.prog.info? 9).map (fun i => (i.zero, i.size, i.bytes)) = some (some (.string ByteArray.empty), 1, 16) := by kernel_rfl
theorem dist_ends (p q a b : List ByteArray) : dist (p ++ a ++ q) (p ++ b ++ q) = dist a b := by
  unfold dist
  rw [lcs_ends]
  simp only [List.length_append]
  omega

set_option maxHeartbeats 1000000 in
theorem ends_walk {w : World} {va vb vp vq : Value} {a b p q : List ByteArray} (ha : Strs w va a) (hb : Strs w vb b) (hp : Strs w vp p) (hq : Strs w vq q) :
    Calls Try.prog 6 #[va, vb, .agg #[vp, vq]] w fun e w' => e = .returned (.bool true) ∧ Below w.heap.size w w' := by
  obtain ⟨i0, hi, hz0, hz1, hz2⟩ := info_parts Try.infoStr
  obtain ⟨ao, ca, rfl, _, _, _, _⟩ := ha.open
  obtain ⟨bo, cb, rfl, _, _, _, _⟩ := hb.open
  obtain ⟨po, cp, rfl, _, _, _, _⟩ := hp.open
  obtain ⟨qo, cq, rfl, _, _, _, _⟩ := hq.open
  have HA := Lib.hid ha
  have HB := Lib.hid hb
  have HP := Lib.hid hp
  have HQ := Lib.hid hq
  clear ha hb hp hq
  by_cases fa : fewB a = true
  · by_cases fb : fewB b = true
    · by_cases fp : fewB p = true
      · by_cases fq : fewB q = true
        · go_enter Try.func6, Try.ntmps6
          go_wp2_with fail
          refine (awake_any _).mono ?_
          rintro e w1 ⟨rfl, hb1⟩
          have hb0 : Below w.heap.size w w1 := ((Below.refl _ _).alloc (Nat.le_refl _) _).trans (hb1.mono (by simp))
          have x0 : w1.cell? ⟨w.heap.size, 0, none⟩ = some (.slice po p.length cp) := (hb1.cell (p := ⟨w.heap.size, 0, none⟩) (by simp)).trans (by simp)
          have x1 : w1.cell? ⟨w.heap.size, 1, none⟩ = some (.slice qo q.length cq) := (hb1.cell (p := ⟨w.heap.size, 1, none⟩) (by simp)).trans (by simp)
          have hB1 : w.heap.size < w1.heap.size := by have := hb1.size; simp at this; omega
          have HA1 := Lib.hid (HA.out.below hb0)
          have HB1 := Lib.hid (HB.out.below hb0)
          have HP1 := Lib.hid (HP.out.below hb0)
          have HQ1 := Lib.hid (HQ.out.below hb0)
          clear HA HB HP HQ hb1
          obtain ⟨B, hB⟩ : ∃ B, w.heap.size = B := ⟨_, rfl⟩
          rw [hB] at x0 x1 hB1 hb0 ⊢
          have HB0 := Lib.hid hB
          clear hB
          go_wp2_with fail
          refine (few_any HA1.out).mono ?_
          rintro e w' ⟨rfl, rfl⟩
          go_wp2_with fail
          refine (few_any HB1.out).mono ?_
          rintro e w' ⟨rfl, rfl⟩
          go_wp2_with fail
          refine (few_any HP1.out).mono ?_
          rintro e w' ⟨rfl, rfl⟩
          go_wp2_with fail
          refine (few_any HQ1.out).mono ?_
          rintro e w' ⟨rfl, rfl⟩
          have la := fewB_len fa
          have lb := fewB_len fb
          have lp := fewB_len fp
          have lq := fewB_len fq
          go_wp2_with fail
          have Hx0 := Lib.hid x0
          have Hx1 := Lib.hid x1
          have hBlX := hB1
          have lowX : Below w1.heap.size w1 ((w1.alloc (.cells #[] 9)).drew) := ((Below.refl _ _).alloc (Nat.le_refl _) _).drew
          have ownX : ((w1.alloc (.cells #[] 9)).drew).ownsRow w1.heap.size 9 1 (.slice (some ⟨w1.heap.size, 0, none⟩) 0 0) 0 [] := World.ownsRow_lit w1 #[] 0 (Nat.le_refl _) (by unfold maxLen; omega) rfl
          go_region_held3 (fun w' => w'.cell? ⟨B, 0, none⟩ = some (.slice po p.length cp) ∧ w'.cell? ⟨B, 1, none⟩ = some (.slice qo q.length cq))
            (first | go_keep | exact ⟨(hcX.cell (p := ⟨B, 0, none⟩) hBlX).trans Hx0.out, (hcX.cell (p := ⟨B, 1, none⟩) hBlX).trans Hx1.out⟩ | exact ⟨(hbX.cell (p := ⟨B, 0, none⟩) hBlX).trans Hx0.out, (hbX.cell (p := ⟨B, 1, none⟩) hBlX).trans Hx1.out⟩ | exact ⟨(haX.cell (p := ⟨B, 0, none⟩) hBlX).trans Hx0.out, (haX.cell (p := ⟨B, 1, none⟩) hBlX).trans Hx1.out⟩)
            (first
              | (refine step_append_any _ (by rfl) (.tmp 31) (.tmp 33) 22 (by rfl) w1.heap.size 9 i0 (.string ByteArray.empty) 1 16 Try.underlying22 hi hz0 hz1 hz2 rfl (by omega) _ 0 [] (by rfl) ownX po p.length cp (p.map Value.string) (by rfl) (by simp) (strs_src (HP1.out.below lowX)) (strings_oneCell p) (by unfold maxLen; omega) (by omega) lowX.size ?_; intro vaX waX ownaX growaX _; have haX := lowX.grown growaX lowX.size (fun k hk => (ownX.lt k hk).1))
              | (refine step_append_any _ (by rfl) (.tmp 34) (.tmp 35) 22 (by rfl) w1.heap.size 9 i0 (.string ByteArray.empty) 1 16 Try.underlying22 hi hz0 hz1 hz2 rfl (by omega) vaX (0 + p.length) ([] ++ p.map Value.string) (by rfl) ownaX ao a.length ca (a.map Value.string) (by rfl) (by simp) (strs_src (HA1.out.below haX)) (strings_oneCell a) (by unfold maxLen; omega) (by omega) haX.size ?_; intro vbX wbX ownbX growbX _; have hbX := haX.grown growbX haX.size (fun k hk => (ownaX.lt k hk).1))
              | (refine step_append_any _ (by rfl) (.tmp 36) (.tmp 38) 22 (by rfl) w1.heap.size 9 i0 (.string ByteArray.empty) 1 16 Try.underlying22 hi hz0 hz1 hz2 rfl (by omega) vbX (0 + p.length + a.length) ([] ++ p.map Value.string ++ a.map Value.string) (by rfl) ownbX qo q.length cq (q.map Value.string) (by rfl) (by simp) (strs_src (HQ1.out.below hbX)) (strings_oneCell q) (by unfold maxLen; omega) (by omega) hbX.size ?_; intro vcX wcX owncX growcX _; have hcX := hbX.grown growcX hbX.size (fun k hk => (ownbX.lt k hk).1)))
          have sX : Strs wcX vcX (p ++ a ++ q) := strs_of_own (base := w1.heap.size) (e := 9) (by rw [List.length_append, List.length_append, List.map_append, List.map_append]; simpa using owncX)
          have y0 := Lib.hid ((hcX.cell (p := ⟨B, 0, none⟩) hB1).trans Hx0.out)
          have y1 := Lib.hid ((hcX.cell (p := ⟨B, 1, none⟩) hB1).trans Hx1.out)
          have hBlY : B < wcX.heap.size := by have := hcX.size; omega
          have HX := Lib.hid sX
          have HA2 := Lib.hid (HA1.out.below hcX)
          have HB2 := Lib.hid (HB1.out.below hcX)
          have HP2 := Lib.hid (HP1.out.below hcX)
          have HQ2 := Lib.hid (HQ1.out.below hcX)
          have hX : Below B w wcX := hb0.trans (hcX.mono (by omega))
          clear sX owncX growcX ownbX growbX ownaX growaX lowX ownX haX hbX hcX x0 x1 hb0 Hx0 Hx1 HA1 HB1 HP1 HQ1
          go_wp2_with fail
          have z0 := y0.out
          have z1 := y1.out
          have lowY : Below wcX.heap.size wcX ((wcX.alloc (.cells #[] 9)).drew) := ((Below.refl _ _).alloc (Nat.le_refl _) _).drew
          have ownY : ((wcX.alloc (.cells #[] 9)).drew).ownsRow wcX.heap.size 9 1 (.slice (some ⟨wcX.heap.size, 0, none⟩) 0 0) 0 [] := World.ownsRow_lit wcX #[] 0 (Nat.le_refl _) (by unfold maxLen; omega) rfl
          go_region_held3 (fun w' => w'.cell? ⟨B, 0, none⟩ = some (.slice po p.length cp) ∧ w'.cell? ⟨B, 1, none⟩ = some (.slice qo q.length cq))
            (first | go_keep | exact ⟨(hcY.cell (p := ⟨B, 0, none⟩) hBlY).trans y0.out, (hcY.cell (p := ⟨B, 1, none⟩) hBlY).trans y1.out⟩ | exact ⟨(hbY.cell (p := ⟨B, 0, none⟩) hBlY).trans y0.out, (hbY.cell (p := ⟨B, 1, none⟩) hBlY).trans y1.out⟩ | exact ⟨(haY.cell (p := ⟨B, 0, none⟩) hBlY).trans y0.out, (haY.cell (p := ⟨B, 1, none⟩) hBlY).trans y1.out⟩)
            (first
              | (refine step_append_any _ (by rfl) (.tmp 40) (.tmp 42) 22 (by rfl) wcX.heap.size 9 i0 (.string ByteArray.empty) 1 16 Try.underlying22 hi hz0 hz1 hz2 rfl (by omega) _ 0 [] (by rfl) ownY po p.length cp (p.map Value.string) (by rfl) (by simp) (strs_src (HP2.out.below lowY)) (strings_oneCell p) (by unfold maxLen; omega) (by omega) lowY.size ?_; intro vaY waY ownaY growaY _; have haY := lowY.grown growaY lowY.size (fun k hk => (ownY.lt k hk).1))
              | (refine step_append_any _ (by rfl) (.tmp 43) (.tmp 44) 22 (by rfl) wcX.heap.size 9 i0 (.string ByteArray.empty) 1 16 Try.underlying22 hi hz0 hz1 hz2 rfl (by omega) vaY (0 + p.length) ([] ++ p.map Value.string) (by rfl) ownaY bo b.length cb (b.map Value.string) (by rfl) (by simp) (strs_src (HB2.out.below haY)) (strings_oneCell b) (by unfold maxLen; omega) (by omega) haY.size ?_; intro vbY wbY ownbY growbY _; have hbY := haY.grown growbY haY.size (fun k hk => (ownaY.lt k hk).1))
              | (refine step_append_any _ (by rfl) (.tmp 45) (.tmp 47) 22 (by rfl) wcX.heap.size 9 i0 (.string ByteArray.empty) 1 16 Try.underlying22 hi hz0 hz1 hz2 rfl (by omega) vbY (0 + p.length + b.length) ([] ++ p.map Value.string ++ b.map Value.string) (by rfl) ownbY qo q.length cq (q.map Value.string) (by rfl) (by simp) (strs_src (HQ2.out.below hbY)) (strings_oneCell q) (by unfold maxLen; omega) (by omega) hbY.size ?_; intro vcY wcY owncY growcY _; have hcY := hbY.grown growcY hbY.size (fun k hk => (ownbY.lt k hk).1)))
          have sY : Strs wcY vcY (p ++ b ++ q) := strs_of_own (base := wcX.heap.size) (e := 9) (by rw [List.length_append, List.length_append, List.map_append, List.map_append]; simpa using owncY)
          have HY := Lib.hid sY
          have HX3 := Lib.hid (HX.out.below hcY)
          have HA3 := Lib.hid (HA2.out.below hcY)
          have HB3 := Lib.hid (HB2.out.below hcY)
          have hY : Below B w wcY := hX.trans (hcY.mono (by omega))
          clear sY owncY growcY ownbY growbY ownaY growaY lowY ownY haY hbY hcY z0 z1 y0 y1 HX HA2 HB2 HP2 HQ2 hX
          go_wp2_with fail
          refine (distance_any HX3.out HY.out (by simp; omega) (by simp; omega)).mono ?_
          rintro e w5 ⟨rfl, hb5⟩
          have HA5 := Lib.hid (HA3.out.below hb5)
          have HB5 := Lib.hid (HB3.out.below hb5)
          rw [dist_ends]
          go_wp2_with fail
          refine (distance_any HA5.out HB5.out (by omega) (by omega)).mono ?_
          rintro e w6 ⟨rfl, hb6⟩
          go_wp2_with fail
          go_ret
          have hs := hY.size
          rw [← HB0.out] at hY ⊢
          exact ⟨rfl, hY.trans ((hb5.mono hY.size).trans (hb6.mono (Nat.le_trans hY.size hb5.size)))⟩
        · simp only [Bool.not_eq_true] at fq
          go_enter Try.func6, Try.ntmps6
          go_wp2_with fail
          refine (awake_any _).mono ?_
          rintro e w1 ⟨rfl, hb1⟩
          have hb0 : Below w.heap.size w w1 := ((Below.refl _ _).alloc (Nat.le_refl _) _).trans (hb1.mono (by simp))
          have x0 : w1.cell? ⟨w.heap.size, 0, none⟩ = some (.slice po p.length cp) := (hb1.cell (p := ⟨w.heap.size, 0, none⟩) (by simp)).trans (by simp)
          have x1 : w1.cell? ⟨w.heap.size, 1, none⟩ = some (.slice qo q.length cq) := (hb1.cell (p := ⟨w.heap.size, 1, none⟩) (by simp)).trans (by simp)
          have HA1 := Lib.hid (HA.out.below hb0)
          have HB1 := Lib.hid (HB.out.below hb0)
          have HP1 := Lib.hid (HP.out.below hb0)
          have HQ1 := Lib.hid (HQ.out.below hb0)
          go_wp2_with fail
          refine (few_any HA1.out).mono ?_
          rintro e w' ⟨rfl, rfl⟩
          go_wp2_with fail
          refine (few_any HB1.out).mono ?_
          rintro e w' ⟨rfl, rfl⟩
          go_wp2_with fail
          refine (few_any HP1.out).mono ?_
          rintro e w' ⟨rfl, rfl⟩
          go_wp2_with fail
          refine (few_any HQ1.out).mono ?_
          rintro e w' ⟨rfl, rfl⟩
          go_wp2_with fail
          go_ret
          exact ⟨rfl, hb0⟩
      · simp only [Bool.not_eq_true] at fp
        go_enter Try.func6, Try.ntmps6
        go_wp2_with fail
        refine (awake_any _).mono ?_
        rintro e w1 ⟨rfl, hb1⟩
        have hb0 : Below w.heap.size w w1 := ((Below.refl _ _).alloc (Nat.le_refl _) _).trans (hb1.mono (by simp))
        have x0 : w1.cell? ⟨w.heap.size, 0, none⟩ = some (.slice po p.length cp) := (hb1.cell (p := ⟨w.heap.size, 0, none⟩) (by simp)).trans (by simp)
        have x1 : w1.cell? ⟨w.heap.size, 1, none⟩ = some (.slice qo q.length cq) := (hb1.cell (p := ⟨w.heap.size, 1, none⟩) (by simp)).trans (by simp)
        have HA1 := Lib.hid (HA.out.below hb0)
        have HB1 := Lib.hid (HB.out.below hb0)
        have HP1 := Lib.hid (HP.out.below hb0)
        have HQ1 := Lib.hid (HQ.out.below hb0)
        go_wp2_with fail
        refine (few_any HA1.out).mono ?_
        rintro e w' ⟨rfl, rfl⟩
        go_wp2_with fail
        refine (few_any HB1.out).mono ?_
        rintro e w' ⟨rfl, rfl⟩
        go_wp2_with fail
        refine (few_any HP1.out).mono ?_
        rintro e w' ⟨rfl, rfl⟩
        go_wp2_with fail
        go_ret
        exact ⟨rfl, hb0⟩
    · simp only [Bool.not_eq_true] at fb
      go_enter Try.func6, Try.ntmps6
      go_wp2_with fail
      refine (awake_any _).mono ?_
      rintro e w1 ⟨rfl, hb1⟩
      have hb0 : Below w.heap.size w w1 := ((Below.refl _ _).alloc (Nat.le_refl _) _).trans (hb1.mono (by simp))
      have x0 : w1.cell? ⟨w.heap.size, 0, none⟩ = some (.slice po p.length cp) := (hb1.cell (p := ⟨w.heap.size, 0, none⟩) (by simp)).trans (by simp)
      have x1 : w1.cell? ⟨w.heap.size, 1, none⟩ = some (.slice qo q.length cq) := (hb1.cell (p := ⟨w.heap.size, 1, none⟩) (by simp)).trans (by simp)
      have HA1 := Lib.hid (HA.out.below hb0)
      have HB1 := Lib.hid (HB.out.below hb0)
      have HP1 := Lib.hid (HP.out.below hb0)
      have HQ1 := Lib.hid (HQ.out.below hb0)
      go_wp2_with fail
      refine (few_any HA1.out).mono ?_
      rintro e w' ⟨rfl, rfl⟩
      go_wp2_with fail
      refine (few_any HB1.out).mono ?_
      rintro e w' ⟨rfl, rfl⟩
      go_wp2_with fail
      go_ret
      exact ⟨rfl, hb0⟩
  · simp only [Bool.not_eq_true] at fa
    go_enter Try.func6, Try.ntmps6
    go_wp2_with fail
    refine (awake_any _).mono ?_
    rintro e w1 ⟨rfl, hb1⟩
    have hb0 : Below w.heap.size w w1 := ((Below.refl _ _).alloc (Nat.le_refl _) _).trans (hb1.mono (by simp))
    have x0 : w1.cell? ⟨w.heap.size, 0, none⟩ = some (.slice po p.length cp) := (hb1.cell (p := ⟨w.heap.size, 0, none⟩) (by simp)).trans (by simp)
    have x1 : w1.cell? ⟨w.heap.size, 1, none⟩ = some (.slice qo q.length cq) := (hb1.cell (p := ⟨w.heap.size, 1, none⟩) (by simp)).trans (by simp)
    have HA1 := Lib.hid (HA.out.below hb0)
    have HB1 := Lib.hid (HB.out.below hb0)
    have HP1 := Lib.hid (HP.out.below hb0)
    have HQ1 := Lib.hid (HQ.out.below hb0)
    go_wp2_with fail
    refine (few_any HA1.out).mono ?_
    rintro e w' ⟨rfl, rfl⟩
    go_wp2_with fail
    go_ret
    exact ⟨rfl, hb0⟩

namespace ends
theorem cells2 : Try.prog.cellsOf 33 = 2 := by kernel_rfl
theorem cells1 : Try.prog.cellsOf 22 = 1 := by kernel_rfl
theorem readE : Try.prog.readableRec 33 = true := by kernel_rfl
theorem ltE : 33 < Try.prog.types.size := of_decide_eq_true (by kernel_rfl)

set_option maxRecDepth 100000 in
theorem lifted (os : Os) (started : os.Started) (H : Type) (enc : TypeId × Value → H) :
    ReturnsInHanded {} Try.checked os 6 .any (Rows.diffEndsSpec.pre6 enc Try.prog Try.f6 Rows.diffEndsRow.domain false) (Rows.diffEndsSpec.post enc Try.prog Try.f6 false true false false) := by
  refine law_lifted (C := Try.checked) (tb := 4) metric.own started (by kernel_rfl) Try.func6 metric.laid ?_ rfl rfl Try.underlying4 ?_
    (ChangeSpec.witness6 (enc := enc) (C := Try.checked) false ⟨#[], #[.slice none 0 0, .slice none 0 0, .agg #[.slice none 0 0, .slice none 0 0]], []⟩ 8 (by kernel_rfl) (by kernel_rfl) (by kernel_rfl) (by kernel_rfl)) ?_
  · intro t ht
    rw [Try.params6] at ht
    simp only [List.mem_cons, List.not_mem_nil, or_false] at ht
    rcases ht with rfl | rfl | rfl
    · exact ⟨metric.readS, metric.ltS⟩
    · exact ⟨metric.readS, metric.ltS⟩
    · exact ⟨readE, ltE⟩
  · intro ds W args ps h
    have h' : DataW.TrodAll enc Try.prog W 0 (fun _ => true) true Try.f6.params.toList args.toList ds ps := h
    rw [Try.params6] at h'
    obtain ⟨v0, v1, v2, d0, d1, d2, p0, p1, p2, rfl, rfl, rfl, h0, h1, h2⟩ := trodAll_three h'
    rfl
  · intro W base args ds ps hval0 hA0 hlt _
    have hval : ∀ (j : Nat) t v, Try.f6.params[j]? = some t → args[j]? = some v → Value.okWide Try.prog W .any base t v := hval0
    have hA : DataW.TrodAll enc Try.prog W 0 (fun _ => true) true Try.f6.params.toList args.toList ds ps := hA0
    rw [Try.params6] at hA hval
    obtain ⟨v0, v1, v2, d0, d1, d2, p0, p1, p2, rfl, rfl, rfl, h0, h1, h2⟩ := trodAll_three hA
    obtain ⟨a, ha⟩ := strs_of_trod Try.underlying22 Try.underlying9 metric.cellsS (hval 0 22 v0 rfl rfl) h0 (fun x hx => hlt x (by simp [hx]))
    obtain ⟨b, hb⟩ := strs_of_trod Try.underlying22 Try.underlying9 metric.cellsS (hval 1 22 v1 rfl rfl) h1 (fun x hx => hlt x (by simp [hx]))
    obtain ⟨c0, c1, m, y0, y1, rfl, k0, k1, l0, l1⟩ := pair_of_trod Try.underlying33 cells1 cells2 (hval 2 33 v2 rfl rfl) h2 (fun x hx => hlt x (by simp [hx]))
    obtain ⟨p, hp⟩ := strs_of_cell Try.underlying22 Try.underlying9 metric.cellsS k0 l0
    obtain ⟨q, hq⟩ := strs_of_cell Try.underlying22 Try.underlying9 metric.cellsS k1 l1
    exact ends_walk ha hb hp hq
end ends
/-- THE STATEMENT. -/
theorem diffEnds_holds : Rows.DiffEndsSaid :=
  OpenClaim.holds_of_wide 6 Try.f6 rfl rfl rfl rfl rfl rfl rfl ⟨rfl, rfl, rfl, rfl, rfl⟩ rfl rfl rfl rfl rfl (by kernel_rfl) Try.func6 (by kernel_rfl)
    (of_decide_eq_true (by kernel_rfl)) (by unfold Func.isWrapper; first | (rw [if_pos (by decide +kernel)]; kernel_rfl) | (rw [if_neg (by decide +kernel)]; exact ⟨rfl, rfl⟩))
    (fun os started H enc _ => ends.lifted os started H enc)
#print axioms diffEnds_holds
end Go.Proofs.Ytfcibaiiobihnaa
