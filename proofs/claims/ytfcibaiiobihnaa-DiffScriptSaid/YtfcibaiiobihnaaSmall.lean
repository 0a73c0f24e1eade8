/- The walks of Few, Same, Distance and the law's example. -/
import Derived.Test.YtfcibaiiobihnaaCommon
namespace Go.Proofs.Ytfcibaiiobihnaa
open Go.RowKit

def fewB (ss : List ByteArray) : Bool := ss.all (fun s => decide (s.size ≤ 100)) && decide (ss.length ≤ 30)
theorem fewB_len {ss : List ByteArray} (h : fewB ss = true) : ss.length ≤ 30 := by
  unfold fewB at h
  simp only [Bool.and_eq_true, decide_eq_true_eq] at h
  exact h.2

theorem few_any {w : World} {v : Value} {ss : List ByteArray} (hv : Strs w v ss) :
    Calls Try.prog 11 #[v] w fun e w' => e = .returned (.bool (fewB ss)) ∧ w = w' := by
  obtain ⟨ao, cap, rfl, hm, _, _, hc⟩ := hv.open
  clear hv
  obtain ⟨n, hn⟩ : ∃ n, ss.length = n := ⟨_, rfl⟩
  rw [hn] at hm hc ⊢
  have Hn := Lib.hid hn
  clear hn
  go_enter Try.func11, Try.ntmps11
  go_wp2
  go_loop [3] (fun i => ∃ k : Nat, k ≤ n ∧ i = .int .i64 k ∧ ((ss.take k).all (fun s => decide (s.size ≤ 100)) = true)) (fun i => n - (intOf i).toNat)
  case atStart => exact ⟨0, Nat.zero_le _, rfl, by simp⟩
  case round =>
    obtain ⟨k, hk, rfl, hall⟩ := hrel
    have H := Lib.hid hall
    clear hall
    by_cases hlt : k < n
    · obtain ⟨b, off, hao, hb, hc⟩ := hc (by omega)
      have hcell := hc k hlt
      obtain ⟨s, hs⟩ : ∃ s, ss.getD k ByteArray.empty = s := ⟨_, rfl⟩
      rw [hs] at hcell
      have HS := Lib.hid hs
      clear hc hs
      subst hao
      have es : (ss.take (k + 1)) = ss.take k ++ [s] := by
        have hl : k < ss.length := by have := Hn.out; omega
        rw [List.take_succ_eq_append_getElem hl, ← HS.out]
        simp [List.getD, hl]
      have ES := Lib.hid es
      clear es
      by_cases h100 : s.size ≤ 100
      · go_wp2_with fail
        go_round
        case rel =>
          refine ⟨k + 1, by omega, by go_num, ?_⟩
          rw [ES.out, List.all_append, H.out]
          simp; omega
        case measure => simp [intOf]; omega
      · go_wp2_with fail
        go_ret
        refine ⟨ret_bool ?_, rfl⟩
        have hl : k < ss.length := by have := Hn.out; omega
        have : fewB ss = false := by
          unfold fewB
          simp only [Bool.and_eq_false_iff]
          left
          rw [List.all_eq_false]
          exact ⟨ss[k], List.getElem_mem _, by
            have := HS.out
            simp [List.getD, hl] at this
            rw [this]
            simp; omega⟩
        rw [this]
    · go_wp2_with fail
      go_ret
      refine ⟨ret_bool ?_, rfl⟩
      have hall := H.out
      rw [List.take_of_length_le (by have := Hn.out; omega)] at hall
      unfold fewB
      rw [hall, Bool.true_and]
      exact decide_eq_decide.2 (by have := Hn.out; omega)

theorem same_any {w : World} {va vb : Value} {a b : List ByteArray} (hA : Strs w va a) (hB : Strs w vb b) :
    Calls Try.prog 16 #[va, vb] w fun e w' => e = .returned (.bool (decide (a = b))) ∧ ∃ n, w' = w.drewN n := by
  obtain ⟨ao, ca, rfl, la, _, _, hca⟩ := hA.open
  obtain ⟨bo, cb, rfl, lb, _, _, hcb⟩ := hB.open
  clear hA hB
  obtain ⟨n, hn⟩ : ∃ n, a.length = n := ⟨_, rfl⟩
  obtain ⟨m, hm⟩ : ∃ n, b.length = n := ⟨_, rfl⟩
  rw [hn] at la hca ⊢
  rw [hm] at lb hcb ⊢
  have Hn := Lib.hid hn
  have Hm := Lib.hid hm
  clear hn hm
  by_cases hnm : n = m
  · subst hnm
    go_enter Try.func16, Try.ntmps16
    go_wp2_with fail
    go_loopw [5] (fun i wx => ∃ k : Nat, k ≤ n ∧ i = .int .i64 k ∧ a.take k = b.take k ∧ ∃ d, wx = w.drewN d) (fun i _ => n - (intOf i).toNat)
    case atStart => exact ⟨0, Nat.zero_le _, rfl, by simp, 0, rfl⟩
    case round =>
      obtain ⟨k, hk, rfl, heq, d, rfl⟩ := hrel
      have H := Lib.hid heq
      clear heq
      by_cases hlt : k < n
      · obtain ⟨ba, oa, hao, hba, hca⟩ := hca (by omega)
        obtain ⟨bb, ob, hbo, hbb, hcb⟩ := hcb (by omega)
        have c1 := hca k hlt
        have c2 := hcb k hlt
        obtain ⟨s, hs⟩ : ∃ s, a.getD k ByteArray.empty = s := ⟨_, rfl⟩
        obtain ⟨t, ht⟩ : ∃ s, b.getD k ByteArray.empty = s := ⟨_, rfl⟩
        rw [hs] at c1
        rw [ht] at c2
        have e1 := getD_of (by have := Hn.out; omega) hs
        have e2 := getD_of (by have := Hm.out; omega) ht
        have E1 := Lib.hid e1
        have E2 := Lib.hid e2
        clear hca hcb hs ht e1 e2
        subst hao hbo
        by_cases hst : s = t
        · have hst' := str_true hst
          have HS := Lib.hid hst
          clear hst
          go_wp2_with fail
          go_quiet (fail)
          go_wp2_with fail
          go_roundw
          case rel =>
            refine ⟨k + 1, by omega, by go_num, ?_, _, rfl⟩
            rw [List.take_succ_eq_append_getElem (by have := Hn.out; omega), List.take_succ_eq_append_getElem (by have := Hm.out; omega), H.out, E1.out, E2.out, HS.out]
          case measure => simp [intOf]; omega
        · have hst' := str_false hst
          have HS := Lib.hid hst
          clear hst
          go_wp2_with fail
          go_quiet (fail)
          go_wp2_with fail
          go_ret
          refine ⟨ret_bool ?_, d + nq, by simp⟩
          symm
          rw [decide_eq_false_iff_not]
          intro e
          subst e
          exact HS.out (E1.out.symm.trans E2.out)
      · go_wp2_with fail
        go_ret
        refine ⟨ret_bool ?_, _, rfl⟩
        symm
        rw [decide_eq_true_eq]
        have := H.out
        rwa [List.take_of_length_le (by have := Hn.out; omega), List.take_of_length_le (by have := Hm.out; omega)] at this
  · have hne : ((n : Int) != (m : Int)) = true := by simp; omega
    go_enter Try.func16, Try.ntmps16
    go_wp2_with fail
    go_ret
    refine ⟨ret_bool ?_, 0, rfl⟩
    symm
    rw [decide_eq_false_iff_not]
    intro e
    exact hnm (by rw [← Hn.out, ← Hm.out, e])

/-- The distance. -/
def dist (a b : List ByteArray) : Int := a.length + b.length - 2 * lcs a b
theorem distance_any {w : World} {va vb : Value} {a b : List ByteArray} (hA : Strs w va a) (hB : Strs w vb b) (la : a.length ≤ 1000) (lb : b.length ≤ 1000) :
    Calls Try.prog 14 #[va, vb] w fun e w' => e = .returned (.int .i64 (dist a b)) ∧ Below w.heap.size w w' := by
  obtain ⟨ao, ca, rfl, _, _, _, _⟩ := hA.open
  obtain ⟨bo, cb, rfl, _, _, _, _⟩ := hB.open
  have HA := Lib.hid hA
  have HB := Lib.hid hB
  have ht := tab_le a b 0 0
  clear hA hB
  go_enter Try.func14, Try.ntmps14
  go_wp2_with (go_at_call 26; refine (lengths_any HA.out HB.out la lb).mono ?_; rintro e w1 ⟨v, rfl, ⟨R, rfl, hR, hT⟩, hb1⟩; obtain ⟨A, off, cap, c1, hAl, hT⟩ := hT 0 (Nat.zero_le _); have c2 := hT 0 (Nat.zero_le _); rw [Nat.add_zero] at c2; clear hT)
  go_ret
  exact ⟨ret_int rfl, hb1⟩

/-- The law's example. -/
theorem pairs_awake : pairs [(⟨#[120]⟩ : ByteArray), ⟨#[97]⟩, ⟨#[98]⟩] 0 [⟨#[97]⟩, ⟨#[120]⟩, ⟨#[98]⟩] 0 = [(0, 1), (2, 2)] := by decide
theorem strs_new (w : World) (l : List ByteArray) (e : TypeId) (hl : l.length ≤ 9223372036854775807) : Strs (w.alloc (.cells (l.map Value.string).toArray e)) (.slice (some ⟨w.heap.size, 0, none⟩) l.length l.length) l :=
  .inr ⟨w.heap.size, 0, l.length, rfl, Nat.le_refl _, hl, by simp, fun i hi => by
    rw [cell_of_row _ w.heap.size _ (l.map Value.string).toArray e (0, 0) (heap_alloc_new w _)]
    simp [hi]⟩
theorem awake_call (w : World) : Calls Try.prog 12 #[.slice (some ⟨w.heap.size, 0, none⟩) 3 3, .slice (some ⟨w.heap.size + 1, 0, none⟩) 3 3]
    ((w.alloc (.cells #[.string ⟨#[120]⟩, .string ⟨#[97]⟩, .string ⟨#[98]⟩] 9)).alloc (.cells #[.string ⟨#[97]⟩, .string ⟨#[120]⟩, .string ⟨#[98]⟩] 9))
    fun e w' => ∃ v, e = .returned v ∧ PairsAt w' v [(0, 1), (2, 2)] ∧ Below w.heap.size w w' := by
  have s1 : Strs (w.alloc (.cells #[.string ⟨#[120]⟩, .string ⟨#[97]⟩, .string ⟨#[98]⟩] 9)) (.slice (some ⟨w.heap.size, 0, none⟩) 3 3) [⟨#[120]⟩, ⟨#[97]⟩, ⟨#[98]⟩] := strs_new w [⟨#[120]⟩, ⟨#[97]⟩, ⟨#[98]⟩] 9 (by simp)
  have hz : (w.alloc (.cells #[.string ⟨#[120]⟩, .string ⟨#[97]⟩, .string ⟨#[98]⟩] 9)).heap.size = w.heap.size + 1 := by simp
  have s2 := strs_new (w.alloc (.cells #[.string ⟨#[120]⟩, .string ⟨#[97]⟩, .string ⟨#[98]⟩] 9)) [⟨#[97]⟩, ⟨#[120]⟩, ⟨#[98]⟩] 9 (by simp)
  rw [hz] at s2
  have s2' : Strs ((w.alloc (.cells #[.string ⟨#[120]⟩, .string ⟨#[97]⟩, .string ⟨#[98]⟩] 9)).alloc (.cells #[.string ⟨#[97]⟩, .string ⟨#[120]⟩, .string ⟨#[98]⟩] 9)) (.slice (some ⟨w.heap.size + 1, 0, none⟩) 3 3) [⟨#[97]⟩, ⟨#[120]⟩, ⟨#[98]⟩] := s2
  have s3 := s1.below (w' := (w.alloc (.cells #[.string ⟨#[120]⟩, .string ⟨#[97]⟩, .string ⟨#[98]⟩] 9)).alloc (.cells #[.string ⟨#[97]⟩, .string ⟨#[120]⟩, .string ⟨#[98]⟩] 9)) ((Below.refl _ _).alloc (Nat.le_refl _) _)
  refine (common_any s3 s2' (by simp) (by simp)).mono ?_
  rintro e w1 ⟨v, rfl, hp, hb⟩
  rw [pairs_awake] at hp
  exact ⟨v, rfl, hp, (((Below.refl _ _).alloc (Nat.le_refl _) _).alloc (by simp) _).trans (hb.mono (by simp; omega))⟩

theorem pairs_two {w : World} {v : Value} {p q : Nat × Nat} (h : PairsAt w v [p, q]) : ∃ b off cap, v = .slice (some ⟨b, off, none⟩) 2 cap ∧ b < w.heap.size ∧ w.cell? ⟨b, off, none⟩ = some (.int .i64 p.1) ∧ w.cell? ⟨b, off + 1, none⟩ = some (.int .i64 p.2) ∧
    w.cell? ⟨b, off + 2, none⟩ = some (.int .i64 q.1) ∧ w.cell? ⟨b, off + 2 + 1, none⟩ = some (.int .i64 q.2) := by
  rcases h with ⟨h, _⟩ | ⟨b, off, cap, h1, h2, h3, h4, h5⟩
  · cases h
  · exact ⟨b, off, cap, h1, h4, by simpa using h5 0 p rfl 0 _ rfl, by simpa using h5 0 p rfl 1 _ rfl, by simpa using h5 1 q rfl 0 _ rfl, by simpa using h5 1 q rfl 1 _ rfl⟩
theorem part_pair0 (x y : Int) (w : World) : (Go.part 3 #[.int .i64 x, .int .i64 y] 0).run Try.prog w = .ok (.int .i64 x) w := by kernel_rfl
theorem part_pair1 (x y : Int) (w : World) : (Go.part 3 #[.int .i64 x, .int .i64 y] 1).run Try.prog w = .ok (.int .i64 y) w := by kernel_rfl
theorem size_int (w : World) : (sizeOf 3).run Try.prog w = .ok 1 w := by kernel_rfl
theorem eqi (x y : Int) (w : World) : (Op.equalIn 9999 3 (.int .i64 x) (.int .i64 y)).run Try.prog w = .ok (x == y) w := run_equalIn_int w 9998 3 .i64 .i64 x y Try.underlying3
theorem eq_pair (x y x' y' : Int) (w : World) : (Op.equalIn 10000 28 (.agg #[.int .i64 x, .int .i64 y]) (.agg #[.int .i64 x', .int .i64 y'])).run Try.prog w = .ok (x == x' && y == y') w := by
  show (Op.equalIn (9999 + 1) 28 (.agg #[.int .i64 x, .int .i64 y]) (.agg #[.int .i64 x', .int .i64 y'])).run Try.prog w = _
  unfold Op.equalIn
  simp only [Sem.run_bind, run_underlying Try.underlying28, Result.andThen_ok, size_int, Std.Legacy.Range.forIn_eq_forIn_range']
  simp only [List.range', Std.Legacy.Range.size]
  simp only [part_pair0, part_pair1, eqi, Result.andThen_ok, List.forIn_cons, List.forIn_nil, Sem.run_bind, Nat.reduceMul, Nat.reduceAdd, Nat.reduceDiv, Nat.reduceSub, List.range', Sem.run_ite, Sem.run_pure]
  cases h1 : (x == x') <;> cases h2 : (y == y') <;> simp [part_pair0, part_pair1, eqi, h1, h2]
theorem awake_any (w : World) : Calls Try.prog 10 #[] w fun e w' => e = .returned (.bool true) ∧ Below w.heap.size w w' := by
  go_enter Try.func10, Try.ntmps10
  have he := eq_pair
  go_wp2_with (go_at_call 12; refine (awake_call w).mono ?_; rintro e w1 ⟨v, rfl, hp, hb1⟩; obtain ⟨b, off, cap, rfl, hb, c1, c2, c3, c4⟩ := pairs_two hp)
  go_ret
  exact ⟨rfl, hb1⟩
end Go.Proofs.Ytfcibaiiobihnaa
