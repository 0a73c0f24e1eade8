/- DiffMetric: the law's walk and the statement. -/
import Derived.Test.YtfcibaiiobihnaaSmall
import Derived.Test.YtfcibaiiobihnaaLaw
namespace Go.Proofs.Ytfcibaiiobihnaa
open Go.RowKit Go.ChangeShapes Go.WideShapes Go.ChangeAt

theorem dist_nonneg (a b : List ByteArray) : 0 ≤ dist a b := by
  unfold dist
  have := lcs_le_left a b
  have := lcs_le_right a b
  omega
theorem dist_le (a b : List ByteArray) : dist a b ≤ a.length + b.length := by unfold dist; omega
theorem dist_zero (a b : List ByteArray) : (dist a b == 0) = decide (a = b) := by
  by_cases h : a = b
  · subst h
    have : dist a a = 0 := by unfold dist; rw [lcs_self]; omega
    simp [this]
  · have : ¬ dist a b = 0 := by
      intro k
      unfold dist at k
      exact h (lcs_full (by omega))
    simp [h, this]
theorem dist_symm (a b : List ByteArray) : dist a b = dist b a := by unfold dist; rw [lcs_symm]; omega
theorem dist_triangle (a b c : List ByteArray) : dist a c ≤ dist a b + dist b c := by
  unfold dist
  have := lcs_triangle a b c
  omega

set_option maxHeartbeats 1000000 in
theorem metric_walk {w : World} {va vb vc : Value} {a b c : List ByteArray} (ha : Strs w va a) (hb : Strs w vb b) (hc : Strs w vc c) :
    Calls Try.prog 5 #[va, vb, vc] w fun e w' => e = .returned (.bool true) ∧ Below w.heap.size w w' := by
  have HA := Lib.hid ha
  have HB := Lib.hid hb
  have HC := Lib.hid hc
  clear ha hb hc
  by_cases fa : fewB a = true
  · by_cases fb : fewB b = true
    · by_cases fc : fewB c = true
      · go_enter Try.func5, Try.ntmps5
        go_wp2_with fail
        refine (awake_any w).mono ?_
        rintro e w1 ⟨rfl, hb1⟩
        have HA1 := Lib.hid (HA.out.below hb1)
        have HB1 := Lib.hid (HB.out.below hb1)
        have HC1 := Lib.hid (HC.out.below hb1)
        go_wp2_with fail
        refine (few_any HA1.out).mono ?_
        rintro e w' ⟨rfl, rfl⟩
        go_wp2_with fail
        refine (few_any HB1.out).mono ?_
        rintro e w' ⟨rfl, rfl⟩
        go_wp2_with fail
        refine (few_any HC1.out).mono ?_
        rintro e w' ⟨rfl, rfl⟩
        have la := fewB_len fa
        have lb := fewB_len fb
        have lc := fewB_len fc
        go_wp2_with fail
        refine (distance_any HA1.out HB1.out (by omega) (by omega)).mono ?_
        rintro e w2 ⟨rfl, hb2⟩
        have HA2 := Lib.hid (HA1.out.below hb2)
        have HB2 := Lib.hid (HB1.out.below hb2)
        have HC2 := Lib.hid (HC1.out.below hb2)
        go_wp2_with fail
        refine (distance_any HB2.out HC2.out (by omega) (by omega)).mono ?_
        rintro e w3 ⟨rfl, hb3⟩
        have HA3 := Lib.hid (HA2.out.below hb3)
        have HC3 := Lib.hid (HC2.out.below hb3)
        have HB3 := Lib.hid (HB2.out.below hb3)
        go_wp2_with fail
        refine (distance_any HA3.out HC3.out (by omega) (by omega)).mono ?_
        rintro e w4 ⟨rfl, hb4⟩
        have HA4 := Lib.hid (HA3.out.below hb4)
        have HB4 := Lib.hid (HB3.out.below hb4)
        go_wp2_with fail
        refine (same_any HA4.out HB4.out).mono ?_
        rintro e w' ⟨rfl, d, rfl⟩
        have hz := dist_zero a b
        have hs := dist_symm b a
        have hbd1 := dist_le a b
        have hbd2 := dist_le b c
        have hn1 := dist_nonneg a b
        have hn2 := dist_nonneg b c
        have ht := dist_triangle a b c
        have HS := Lib.hid hs
        clear hs
        go_wp2_with fail
        refine (distance_any (w := w4.drewN d) HB4.out HA4.out (by omega) (by omega)).mono ?_
        rintro e w5 ⟨rfl, hb5⟩
        rw [HS.out]
        go_wp2_with fail
        go_ret
        exact ⟨rfl, hb1.trans ((hb2.mono hb1.size).trans ((hb3.mono (Nat.le_trans hb1.size hb2.size)).trans ((hb4.mono (Nat.le_trans hb1.size (Nat.le_trans hb2.size hb3.size))).trans ((below_drewN (Below.refl _ _) d).trans (hb5.mono (by have := hb1.size; have := hb2.size; have := hb3.size; have := hb4.size; simp; omega))))))⟩
      · simp only [Bool.not_eq_true] at fc
        go_enter Try.func5, Try.ntmps5
        go_wp2_with fail
        refine (awake_any w).mono ?_
        rintro e w1 ⟨rfl, hb1⟩
        have HA1 := Lib.hid (HA.out.below hb1)
        have HB1 := Lib.hid (HB.out.below hb1)
        have HC1 := Lib.hid (HC.out.below hb1)
        go_wp2_with fail
        refine (few_any HA1.out).mono ?_
        rintro e w' ⟨rfl, rfl⟩
        go_wp2_with fail
        refine (few_any HB1.out).mono ?_
        rintro e w' ⟨rfl, rfl⟩
        go_wp2_with fail
        refine (few_any HC1.out).mono ?_
        rintro e w' ⟨rfl, rfl⟩
        go_wp2_with fail
        go_ret
        exact ⟨rfl, hb1⟩
    · simp only [Bool.not_eq_true] at fb
      go_enter Try.func5, Try.ntmps5
      go_wp2_with fail
      refine (awake_any w).mono ?_
      rintro e w1 ⟨rfl, hb1⟩
      have HA1 := Lib.hid (HA.out.below hb1)
      have HB1 := Lib.hid (HB.out.below hb1)
      go_wp2_with fail
      refine (few_any HA1.out).mono ?_
      rintro e w' ⟨rfl, rfl⟩
      go_wp2_with fail
      refine (few_any HB1.out).mono ?_
      rintro e w' ⟨rfl, rfl⟩
      go_wp2_with fail
      go_ret
      exact ⟨rfl, hb1⟩
  · simp only [Bool.not_eq_true] at fa
    go_enter Try.func5, Try.ntmps5
    go_wp2_with fail
    refine (awake_any w).mono ?_
    rintro e w1 ⟨rfl, hb1⟩
    have HA1 := Lib.hid (HA.out.below hb1)
    go_wp2_with fail
    refine (few_any HA1.out).mono ?_
    rintro e w' ⟨rfl, rfl⟩
    go_wp2_with fail
    go_ret
    exact ⟨rfl, hb1⟩

namespace metric
theorem own : ownKnob Try.prog.godebug = none := by kernel_rfl
theorem laid : laidOutB Try.prog = true := by kernel_rfl
theorem cellsS : Try.prog.cellsOf 9 = 1 := by kernel_rfl
theorem readS : Try.prog.readableRec 22 = true := by kernel_rfl
theorem ltS : 22 < Try.prog.types.size := of_decide_eq_true (by kernel_rfl)

set_option maxRecDepth 100000 in
theorem lifted (os : Os) (started : os.Started) (H : Type) (enc : TypeId × Value → H) :
    ReturnsInHanded {} Try.checked os 5 .any (Rows.diffMetricSpec.pre6 enc Try.prog Try.f5 Rows.diffMetricRow.domain false) (Rows.diffMetricSpec.post enc Try.prog Try.f5 false true false false) := by
  refine law_lifted (C := Try.checked) (tb := 4) own started (by kernel_rfl) Try.func5 laid ?_ rfl rfl Try.underlying4 ?_
    (ChangeSpec.witness6 (enc := enc) (C := Try.checked) false ⟨#[], #[.slice none 0 0, .slice none 0 0, .slice none 0 0], []⟩ 8 (by kernel_rfl) (by kernel_rfl) (by kernel_rfl) (by kernel_rfl)) ?_
  · intro t ht
    rw [Try.params5] at ht
    simp only [List.mem_cons, List.not_mem_nil, or_false, or_self] at ht
    subst ht
    exact ⟨readS, ltS⟩
  · intro ds W args ps h
    have h' : DataW.TrodAll enc Try.prog W 0 (fun _ => true) true Try.f5.params.toList args.toList ds ps := h
    rw [Try.params5] at h'
    obtain ⟨v0, v1, v2, d0, d1, d2, p0, p1, p2, rfl, rfl, rfl, h0, h1, h2⟩ := trodAll_three h'
    rfl
  · intro W base args ds ps hval0 hA0 hlt _
    have hval : ∀ (j : Nat) t v, Try.f5.params[j]? = some t → args[j]? = some v → Value.okWide Try.prog W .any base t v := hval0
    have hA : DataW.TrodAll enc Try.prog W 0 (fun _ => true) true Try.f5.params.toList args.toList ds ps := hA0
    rw [Try.params5] at hA hval
    obtain ⟨v0, v1, v2, d0, d1, d2, p0, p1, p2, rfl, rfl, rfl, h0, h1, h2⟩ := trodAll_three hA
    obtain ⟨a, ha⟩ := strs_of_trod Try.underlying22 Try.underlying9 cellsS (hval 0 22 v0 rfl rfl) h0 (fun x hx => hlt x (by simp [hx]))
    obtain ⟨b, hb⟩ := strs_of_trod Try.underlying22 Try.underlying9 cellsS (hval 1 22 v1 rfl rfl) h1 (fun x hx => hlt x (by simp [hx]))
    obtain ⟨c, hc⟩ := strs_of_trod Try.underlying22 Try.underlying9 cellsS (hval 2 22 v2 rfl rfl) h2 (fun x hx => hlt x (by simp [hx]))
    exact metric_walk ha hb hc
end metric
/-- THE STATEMENT. -/
theorem diffMetric_holds : Rows.DiffMetricSaid :=
  OpenClaim.holds_of_wide 5 Try.f5 rfl rfl rfl rfl rfl rfl rfl ⟨rfl, rfl, rfl, rfl, rfl⟩ rfl rfl rfl rfl rfl (by kernel_rfl) Try.func5 (by kernel_rfl)
    (of_decide_eq_true (by kernel_rfl)) (by unfold Func.isWrapper; first | (rw [if_pos (by decide +kernel)]; kernel_rfl) | (rw [if_neg (by decide +kernel)]; exact ⟨rfl, rfl⟩))
    (fun os started H enc _ => metric.lifted os started H enc)
#print axioms diffMetric_holds
end Go.Proofs.Ytfcibaiiobihnaa
