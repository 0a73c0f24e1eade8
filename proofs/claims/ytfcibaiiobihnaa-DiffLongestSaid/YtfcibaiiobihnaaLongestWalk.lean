/- DiffLongest: the law's walk and the statement. -/
import Derived.Test.YtfcibaiiobihnaaMetric
namespace Go.Proofs.Ytfcibaiiobihnaa
open Go.RowKit Go.ChangeShapes Go.WideShapes Go.ChangeAt

/-- What the greedy loop has found: a common subsequence of the parts that it has passed. -/
def Found (a b : List ByteArray) (i j n : Nat) : Prop := ∃ s : List ByteArray, s.Sublist (a.take i) ∧ s.Sublist (b.take j) ∧ s.length = n
theorem Found.skip {a b : List ByteArray} {i j n : Nat} (h : Found a b i j n) : Found a b (i + 1) j n := by
  obtain ⟨s, h1, h2, h3⟩ := h
  exact ⟨s, h1.trans (List.take_sublist_take_left (by omega)), h2, h3⟩
theorem Found.take {a b : List ByteArray} {i j k n : Nat} (h : Found a b i j n) (hi : i < a.length) (hk : k < b.length) (hjk : j ≤ k) (he : a.getD i ByteArray.empty = b.getD k ByteArray.empty) : Found a b (i + 1) (k + 1) (n + 1) := by
  obtain ⟨s, h1, h2, h3⟩ := h
  refine ⟨s ++ [a[i]], ?_, ?_, by simp [h3]⟩
  · rw [List.take_succ_eq_append_getElem hi]
    exact h1.append (List.Sublist.refl _)
  · rw [List.take_succ_eq_append_getElem hk, getD_of hi rfl, he, ← getD_of hk rfl]
    exact (h2.trans (List.take_sublist_take_left hjk)).append (List.Sublist.refl _)
theorem Found.le {a b : List ByteArray} {i j n : Nat} (h : Found a b i j n) : n ≤ (pairs a 0 b 0).length := by
  obtain ⟨s, h1, h2, h3⟩ := h
  rw [pairs_length, ← h3]
  exact le_lcs a b s (h1.trans (List.take_sublist _ _)) (h2.trans (List.take_sublist _ _))
theorem Found.bound {a b : List ByteArray} {i j n : Nat} (h : Found a b i j n) : n ≤ a.length := by
  obtain ⟨s, h1, h2, h3⟩ := h
  rw [← h3]
  exact (h1.trans (List.take_sublist _ _)).length_le

theorem chain_get {a b : List ByteArray} : ∀ {ps : List (Nat × Nat)} {i j : Nat}, Chain a b i j ps → ∀ (k : Nat) (p : Nat × Nat), ps[k]? = some p → i ≤ p.1 ∧ j ≤ p.2 ∧ ∃ hx : p.1 < a.length, ∃ hy : p.2 < b.length, a[p.1] = b[p.2]
  | (x, y) :: ps, i, j, ⟨h1, h2, h3, h4⟩, 0, p, hp => by
    simp at hp
    subst hp
    exact ⟨h1, h2, h3⟩
  | (x, y) :: ps, i, j, ⟨h1, h2, h3, h4⟩, k + 1, p, hp => by
    have := chain_get h4 k p (by simpa using hp)
    exact ⟨by omega, by omega, this.2.2⟩
theorem chain_next {a b : List ByteArray} : ∀ {ps : List (Nat × Nat)} {i j : Nat}, Chain a b i j ps → ∀ (k : Nat) (p q : Nat × Nat), ps[k]? = some p → ps[k + 1]? = some q → p.1 < q.1 ∧ p.2 < q.2
  | (x, y) :: ps, i, j, ⟨h1, h2, h3, h4⟩, 0, p, q, hp, hq => by
    simp at hp
    subst hp
    have := chain_get h4 0 q (by simpa using hq)
    exact ⟨by have := this.1; simp; omega, by have := this.2.1; simp; omega⟩
  | (x, y) :: ps, i, j, ⟨h1, h2, h3, h4⟩, k + 1, p, q, hp, hq => chain_next h4 k p q (by simpa using hp) (by simpa using hq)

set_option maxRecDepth 100000 in
set_option maxHeartbeats 2000000 in
theorem longest_walk {w : World} {va vb : Value} {a b : List ByteArray} {bits : Int} (hbits : 0 ≤ bits ∧ bits ≤ 4294967295) (ha : Strs w va a) (hb : Strs w vb b) :
    Calls Try.prog 3 #[va, vb, .int .u32 bits] w fun e w' => e = .returned (.bool true) ∧ Below w.heap.size w w' := by
  have HBits := Lib.hid hbits
  clear hbits
  have ha' := ha
  have hb' := hb
  obtain ⟨ao, ca, rfl, _, _, _, Sa⟩ := ha.open
  obtain ⟨bo, cb, rfl, _, _, _, Sb⟩ := hb.open
  have HA := Lib.hid ha'
  have HB := Lib.hid hb'
  clear ha hb ha' hb'
  have HSa := Lib.hid Sa
  have HSb := Lib.hid Sb
  clear Sa Sb
  obtain ⟨n, hn⟩ : ∃ n, a.length = n := ⟨_, rfl⟩
  obtain ⟨m, hm⟩ : ∃ n, b.length = n := ⟨_, rfl⟩
  rw [hn] at HA HSa ⊢
  rw [hm] at HB HSb ⊢
  have Hn := Lib.hid hn
  have Hm := Lib.hid hm
  clear hn hm
  by_cases fa : fewB a = true
  · by_cases fb : fewB b = true
    · have la := fewB_len fa
      have lb := fewB_len fb
      rw [Hn.out] at la
      rw [Hm.out] at lb
      go_enter Try.func3, Try.ntmps3
      go_wp2_with fail
      refine (awake_any _).mono ?_
      rintro e w1 ⟨rfl, hb1⟩
      have HA1 := Lib.hid (HA.out.below hb1)
      have HB1 := Lib.hid (HB.out.below hb1)
      go_wp2_with fail
      refine (few_any HA1.out).mono ?_
      rintro e w' ⟨rfl, rfl⟩
      go_wp2_with fail
      refine (few_any HB1.out).mono ?_
      rintro e w' ⟨rfl, rfl⟩
      go_wp2_with fail
      go_loopw [7, 8, 9] (fun tn tj ti wx => ∃ c j i : Nat, tn = .int .i64 c ∧ tj = .int .i64 j ∧ ti = .int .i64 i ∧ i ≤ n ∧ j ≤ m ∧ Found a b i j c ∧ ∃ d, wx = w1.drewN d) (fun _ _ t _ => n - (intOf t).toNat)
      case atStart => exact ⟨0, 0, 0, rfl, rfl, rfl, by omega, by omega, ⟨[], by simp, by simp, rfl⟩, 0, rfl⟩
      case round =>
        obtain ⟨c, j, i, rfl, rfl, rfl, hin, hjm, hF, d, rfl⟩ := hrel
        have hcb : c ≤ 30 := by have := hF.bound; have := Hn.out; omega
        have HF := Lib.hid hF
        clear hF
        by_cases hlt : i < n
        · go_wp2_with fail
          · go_roundw
            case rel => exact ⟨c, j, i + 1, rfl, rfl, by go_num, by omega, hjm, HF.out.skip, d, rfl⟩
            case measure => simp [intOf]; omega
          · obtain ⟨wo, hwo⟩ : ∃ wo, wo = w1.drewN d := ⟨_, rfl⟩
            rw [← hwo]
            have HWO := Lib.hid hwo
            clear hwo
            go_loopw [10] (fun tk wx => ∃ k : Nat, tk = .int .i64 k ∧ j ≤ k ∧ k ≤ m ∧ ∃ d, wx = w1.drewN d) (fun t _ => m - (intOf t).toNat)
            case atStart => exact ⟨j, rfl, by omega, hjm, d, HWO.out⟩
            case round =>
              obtain ⟨k, rfl, hjk, hkm, d', rfl⟩ := hrel
              by_cases hkl : k < m
              · obtain ⟨ba, oa, hao, hba, hca⟩ := HSa.out (by omega)
                obtain ⟨bb, ob, hbo, hbb, hcb'⟩ := HSb.out (by omega)
                have c1 := (hb1.cell (p := ⟨ba, oa + i, none⟩) hba).trans (hca i hlt)
                have c2 := (hb1.cell (p := ⟨bb, ob + k, none⟩) hbb).trans (hcb' k hkl)
                obtain ⟨s, hs⟩ : ∃ s, a.getD i ByteArray.empty = s := ⟨_, rfl⟩
                obtain ⟨t, ht⟩ : ∃ s, b.getD k ByteArray.empty = s := ⟨_, rfl⟩
                rw [hs] at c1
                rw [ht] at c2
                have HS := Lib.hid hs
                have HT := Lib.hid ht
                clear hca hcb' hs ht
                subst hao hbo
                by_cases hst : t = s
                · have hst' := str_true hst
                  have HST := Lib.hid hst
                  clear hst
                  go_wp2_with fail
                  go_quiet (fail)
                  go_wp2_with fail
                  go_roundw
                  case rel =>
                    exact ⟨c + 1, k + 1, i + 1, by go_num, by go_num, by go_num, by omega, by omega, HF.out.take (by have := Hn.out; omega) (by have := Hm.out; omega) hjk (by rw [HS.out, HT.out, HST.out]), _, rfl⟩
                  case measure => simp [intOf]; omega
                · have hst' := str_false hst
                  clear hst
                  go_wp2_with fail
                  go_quiet (fail)
                  go_wp2_with fail
                  go_roundw
                  case rel => exact ⟨k + 1, by go_num, by omega, by omega, _, rfl⟩
                  case measure => simp [intOf]; omega
              · have hd : decide ((k : Int) < (m : Int)) = false := by simp; omega
                go_wp2_with fail
                go_quiet (fail)
                go_wp2_with fail
                go_roundw
                case rel => exact ⟨c, j, i + 1, rfl, rfl, by go_num, by omega, hjm, HF.out.skip, _, rfl⟩
                case measure => simp [intOf]; omega
        · go_wp2_with fail
          refine (common_any (w := w1.drewN d) HA1.out HB1.out (by have := Hn.out; omega) (by have := Hm.out; omega)).mono ?_
          rintro e w2 ⟨v, rfl, hp, hb2⟩
          have hle := HF.out.le
          have hch := pairs_chain a b a 0 b 0 rfl rfl
          obtain ⟨ps, hps⟩ : ∃ ps, pairs a 0 b 0 = ps := ⟨_, rfl⟩
          rw [hps] at hp hle hch
          have HCH := Lib.hid hch
          clear hch hps
          obtain ⟨po, cp, rfl, hrl, _, _, hpc⟩ := hp.open
          obtain ⟨r, hr⟩ : ∃ r, ps.length = r := ⟨_, rfl⟩
          rw [hr] at hle hpc hrl ⊢
          have HR := Lib.hid hr
          have HPC := Lib.hid hpc
          clear hr hpc hp
          go_wp2_with fail
          go_loopw [12] (fun tk wx => ∃ k : Nat, tk = .int .i64 k ∧ k ≤ r ∧ ∃ d, wx = w2.drewN d) (fun t _ => r - (intOf t).toNat)
          case atStart => exact ⟨0, rfl, by omega, 0, rfl⟩
          case round =>
            obtain ⟨k, rfl, hkr, d', rfl⟩ := hrel
            by_cases hkl : k < r
            · obtain ⟨bp, op, hpo, hbp, hcp⟩ := HPC.out (by omega)
              obtain ⟨pr, hpr⟩ : ∃ p, ps[k]? = some p := ⟨ps[k]'(by have := HR.out; omega), by simp⟩
              have p1 := hcp k pr hpr 0 _ rfl
              have p2 := hcp k pr hpr 1 _ rfl
              rw [Nat.add_zero] at p1
              obtain ⟨_, _, hx, hy, hxy⟩ := chain_get HCH.out k pr hpr
              obtain ⟨x, y⟩ := pr
              dsimp only at hx hy hxy p1 p2
              rw [Hn.out] at hx
              rw [Hm.out] at hy
              obtain ⟨ba, oa, hao, hba, hca⟩ := HSa.out (by omega)
              obtain ⟨bb, ob, hbo, hbb, hcb'⟩ := HSb.out (by omega)
              have hw1 := hb1.size
              have c1 := (hb2.cell (p := ⟨ba, oa + x, none⟩) (by simp; omega)).trans ((hb1.cell (p := ⟨ba, oa + x, none⟩) hba).trans (hca x hx))
              have c2 := (hb2.cell (p := ⟨bb, ob + y, none⟩) (by simp; omega)).trans ((hb1.cell (p := ⟨bb, ob + y, none⟩) hbb).trans (hcb' y hy))
              have hst : a.getD x ByteArray.empty = b.getD y ByteArray.empty := by
                rw [← getD_of (by have := Hn.out; omega) rfl, ← getD_of (by have := Hm.out; omega) rfl] at *
                exact hxy
              obtain ⟨s, hs⟩ : ∃ s, a.getD x ByteArray.empty = s := ⟨_, rfl⟩
              rw [hs] at c1 hst
              rw [← hst] at c2
              have HPR := Lib.hid hpr
              have HCP := Lib.hid hcp
              clear hca hcb' hs hst hpr hcp hxy
              subst hao hbo hpo
              have g1 : decide (n ≤ x) = false := by simp; omega
              have g2 : decide (m ≤ y) = false := by simp; omega
              have g3 : decide ((n : Int) ≤ (x : Int)) = false := by simp; omega
              have g4 : decide ((m : Int) ≤ (y : Int)) = false := by simp; omega
              have g5 : decide ((x : Int) < 0) = false := by simp
              have g6 : decide ((y : Int) < 0) = false := by simp
              cases k with
              | zero =>
                rw [Nat.zero_mul, Nat.add_zero] at p1 p2
                go_wp2_with fail
                go_big_quiet (fail)
                go_wp2_with fail
                go_roundw
                case rel => exact ⟨1, rfl, by omega, _, rfl⟩
                case measure => simp [intOf]; omega
              | succ k' =>
                obtain ⟨qr, hqr⟩ : ∃ p, ps[k']? = some p := ⟨ps[k']'(by have := HR.out; omega), by simp⟩
                have q1 := HCP.out k' qr hqr 0 _ rfl
                have q2 := HCP.out k' qr hqr 1 _ rfl
                rw [Nat.add_zero] at q1
                have hlt2 := chain_next HCH.out k' qr _ hqr HPR.out
                obtain ⟨x', y'⟩ := qr
                dsimp only at hlt2 q1 q2
                have l1 : decide (x ≤ x') = false := by simp; omega
                have l2 : decide (y ≤ y') = false := by simp; omega
                have l3 : decide ((x : Int) ≤ (x' : Int)) = false := by simp; omega
                have l4 : decide ((y : Int) ≤ (y' : Int)) = false := by simp; omega
                clear hqr hlt2
                go_wp2_with fail
                go_big_quiet (fail)
                go_wp2_with fail
                go_roundw
                case rel => exact ⟨k' + 1 + 1, by go_num, by omega, _, rfl⟩
                case measure => simp [intOf]; omega
            · have hle' : c ≤ r := hle
              have hle2 : decide (c ≤ r) = true := by simpa using hle
              go_wp2_with fail
              go_ret
              exact ⟨rfl, below_drewN (hb1.trans ((below_drewN (Below.refl _ _) d).trans (hb2.mono (by have := hb1.size; simp; omega)))) _⟩
    · simp only [Bool.not_eq_true] at fb
      go_enter Try.func3, Try.ntmps3
      go_wp2_with fail
      refine (awake_any _).mono ?_
      rintro e w1 ⟨rfl, hb1⟩
      have HA1 := Lib.hid (HA.out.below hb1)
      have HB1 := Lib.hid (HB.out.below hb1)
      go_wp2_with fail
      refine (few_any HA1.out).mono ?_
      rintro e w' ⟨rfl, rfl⟩
      go_wp2_with fail
      refine (few_any HB1.out).mono ?_
      rintro e w' ⟨rfl, rfl⟩
      go_wp2_with fail
      go_ret
      exact ⟨rfl, hb1⟩
  · simp only [Bool.not_eq_true] at fa
    go_enter Try.func3, Try.ntmps3
    go_wp2_with fail
    refine (awake_any _).mono ?_
    rintro e w1 ⟨rfl, hb1⟩
    have HA1 := Lib.hid (HA.out.below hb1)
    go_wp2_with fail
    refine (few_any HA1.out).mono ?_
    rintro e w' ⟨rfl, rfl⟩
    go_wp2_with fail
    go_ret
    exact ⟨rfl, hb1⟩
end Go.Proofs.Ytfcibaiiobihnaa
