/- The walk of diff.Common. -/
import Derived.Test.YtfcibaiiobihnaaTable
import Derived.Test.YtfcibaiiobihnaaPairs
namespace Go.Proofs.Ytfcibaiiobihnaa
open Go.RowKit

theorem Try.infoPair : (Try.prog.info? 28).map (fun i => (i.zero, i.size, i.bytes)) = some (some (.agg #[.int .i64 0, .int .i64 0]), 2, 16) := by kernel_rfl
def encPair (p : Nat × Nat) : List Value := [.int .i64 p.1, .int .i64 p.2]
def PairsAt (w : World) (v : Value) (ps : List (Nat × Nat)) : Prop := Flat w v 2 encPair ps

def CRel (wx : World) (B : Nat) (a b : List ByteArray) (v : Value) (i j : Nat) : Prop :=
  ∃ done : List (Nat × Nat), pairs a 0 b 0 = done ++ pairs (a.drop i) i (b.drop j) j ∧ wx.ownsRow B 28 2 v done.length (done.flatMap encPair) ∧ done.length ≤ i
def HRel (a b : List ByteArray) (i j k : Nat) : Prop :=
  ∀ hi : i < a.length, hit a[i] (a.drop (i + 1)) (tab a b i j) (b.drop j) = (hit a[i] (a.drop (i + 1)) (tab a b i j) (b.drop k)).map (· + (k - j))

theorem getD_of {a : List ByteArray} {i : Nat} (hi : i < a.length) {s : ByteArray} (h : a.getD i ByteArray.empty = s) : a[i] = s := by rw [← h]; simp [List.getD, hi]
theorem pairs_hit {a b : List ByteArray} {done : List (Nat × Nat)} {i j k rest nx : Nat} (hd : pairs a 0 b 0 = done ++ pairs (a.drop i) i (b.drop j) j) (hi : i < a.length) (hk : k < b.length) (hjk : j ≤ k) (hH : HRel a b i j k)
    (he : a.getD i ByteArray.empty = b.getD k ByteArray.empty) (hn : tab a b (i + 1) (k + 1) = nx) (hr : tab a b i j = rest) (hnr : nx + 1 = rest) :
    pairs a 0 b 0 = (done ++ [(i, k)]) ++ pairs (a.drop (i + 1)) (i + 1) (b.drop (k + 1)) (k + 1) := by
  have h1 := hH hi
  have he' : a[i] = b[k] := by rw [getD_of hi rfl, getD_of hk rfl, he]
  rw [hit_here hk ⟨he', by show tab a b (i + 1) (k + 1) + 1 = _; omega⟩] at h1
  rw [hd, pairs_step hi, h1]
  simp only [Option.map_some, Nat.zero_add]
  rw [show j + (k - j) = k by omega, List.append_assoc]
  rfl
theorem pairs_miss {a b : List ByteArray} {done : List (Nat × Nat)} {i j k : Nat} (hd : pairs a 0 b 0 = done ++ pairs (a.drop i) i (b.drop j) j) (hi : i < a.length) (hH : HRel a b i j k) (hz : tab a b i j = 0 ∨ b.length ≤ k) :
    pairs a 0 b 0 = done ++ pairs (a.drop (i + 1)) (i + 1) (b.drop j) j := by
  have h1 := hH hi
  have h2 : hit a[i] (a.drop (i + 1)) (tab a b i j) (b.drop k) = none := by
    rcases hz with hz | hz
    · rw [hz]; exact hit_zero
    · exact hit_end hz
  rw [h2] at h1
  rw [hd, pairs_step hi, h1]
  rfl
theorem hrel_next {a b : List ByteArray} {i j k rest nx : Nat} (hH : HRel a b i j k) (hk : k < b.length) (hjk : j ≤ k) (hn : tab a b (i + 1) (k + 1) = nx) (hr : tab a b i j = rest)
    (h : ¬ a.getD i ByteArray.empty = b.getD k ByteArray.empty ∨ ¬ nx + 1 = rest) : HRel a b i j (k + 1) := by
  intro hi
  rw [hH hi, hit_skip hk]
  · rw [Option.map_map]
    congr 1
    funext x
    simp
    omega
  · rintro ⟨h1, h2⟩
    rcases h with h | h
    · exact h (by rw [← getD_of hi rfl, ← getD_of hk rfl, h1])
    · exact h (by rw [← hn, ← hr]; exact h2)
theorem encPair_length (p : Nat × Nat) : (encPair p).length = 2 := rfl

set_option maxHeartbeats 1000000 in
theorem common_walk (ao bo : Option Addr) (ca cb n m : Nat) (a b : List ByteArray) (w : World) (hA : Strs w (.slice ao n ca) a) (hB : Strs w (.slice bo m cb) b) (Hn : Hid (a.length = n)) (Hm : Hid (b.length = m)) (ha : n ≤ 1000) (hb : m ≤ 1000) (Sa : SAt w ao n a) (Sb : SAt w bo m b) :
    Calls Try.prog 12 #[.slice ao n ca, .slice bo m cb] w fun e w' => ∃ v, e = .returned v ∧ PairsAt w' v (pairs a 0 b 0) ∧ Below w.heap.size w w' ∧ w'.ownsRow w.heap.size 28 2 v (pairs a 0 b 0).length ((pairs a 0 b 0).flatMap encPair) := by
  obtain ⟨i0, hi, hz0, hz1, hz2⟩ := info_parts Try.infoPair
  have HA := Lib.hid hA
  have HB := Lib.hid hB
  clear hA hB
  go_enter Try.func12, Try.ntmps12
  go_wp2_with (go_at_call 26; refine (lengths_any HA.out HB.out (by have := Hn.out; omega) (by have := Hm.out; omega)).mono ?_; rintro e w1 ⟨v, rfl, hT, hb1⟩)
  rw [Hn.out, Hm.out] at hT
  obtain ⟨R, hv, hR, hT⟩ := hT
  subst hv
  have HT := Lib.hid hT
  clear hT
  have h0 : CRel w1 w1.heap.size a b (.slice none 0 0) 0 0 := ⟨[], by simp, World.ownsRow_nil _ _ _ _, Nat.le_refl _⟩
  go_loopw [6, 7, 8] (fun v tj ti wx => ∃ i j : Nat, i ≤ n ∧ j ≤ m ∧ tj = .int .i64 j ∧ ti = .int .i64 i ∧ CRel wx w1.heap.size a b v i j ∧ Below w1.heap.size w1 wx) (fun _ _ t _ => n - (intOf t).toNat)
  case atStart => exact ⟨0, 0, by omega, by omega, rfl, rfl, h0, Below.refl _ _⟩
  case round =>
    obtain ⟨i, j, hin, hjm, rfl, rfl, hC, hbr⟩ := hrel
    clear h0
    by_cases hlt : i < n
    · obtain ⟨A, off, cap, hr, hAl, hcell⟩ := HT.out i (by omega)
      have c1 := (hbr.cell (p := ⟨R, i, none⟩) hR).trans hr
      have c2 := (hbr.cell (p := ⟨A, off + j, none⟩) hAl).trans (hcell j hjm)
      have HC := Lib.hid hC
      clear hC hr hcell
      obtain ⟨rest, hrest⟩ : ∃ r, tab a b i j = r := ⟨_, rfl⟩
      rw [hrest] at c2
      have HRest := Lib.hid hrest
      clear hrest
      go_wp2_with fail
      obtain ⟨wo, rfl⟩ : ∃ wo : World, wo = wr := ⟨_, rfl⟩
      obtain ⟨ov, rfl⟩ : ∃ x, x = u6 := ⟨_, rfl⟩
      go_loopw [6, 7, 10] (fun v6 v7 tk wx => v6 = ov ∧ v7 = .int .i64 j ∧ ∃ k : Nat, j ≤ k ∧ k ≤ m ∧ tk = .int .i64 k ∧ HRel a b i j k ∧ ∃ d, wx = wo.drewN d) (fun _ _ t _ => m - (intOf t).toNat)
      case atStart => exact ⟨rfl, rfl, j, by omega, hjm, rfl, fun _ => by rw [Nat.sub_self]; simp, 0, rfl⟩
      case round =>
        obtain ⟨h6, rfl, k, hjk, hkm, rfl, hH, d, rfl⟩ := hrel
        obtain rfl : ov = _ := h6.symm
        by_cases hk : k < m
        · by_cases hr : 0 < rest
          · obtain ⟨ba, oa, hao, hba, hca⟩ := Sa (by omega)
            obtain ⟨bb, ob, hbo, hbb, hcb⟩ := Sb (by omega)
            have hw1 := hb1.size
            have ca1 := (hbr.cell (p := ⟨ba, oa + i, none⟩) (by show ba < _; omega)).trans ((hb1.cell (p := ⟨ba, oa + i, none⟩) hba).trans (hca i hlt))
            have cb1 := (hbr.cell (p := ⟨bb, ob + k, none⟩) (by show bb < _; omega)).trans ((hb1.cell (p := ⟨bb, ob + k, none⟩) hbb).trans (hcb k hk))
            obtain ⟨A', off', cap', hr', hAl', hcell'⟩ := HT.out (i + 1) (by omega)
            have c3 := (hbr.cell (p := ⟨R, i + 1, none⟩) hR).trans hr'
            have c4 := (hbr.cell (p := ⟨A', off' + (k + 1), none⟩) hAl').trans (hcell' (k + 1) (by omega))
            obtain ⟨nx, hnx⟩ : ∃ r, tab a b (i + 1) (k + 1) = r := ⟨_, rfl⟩
            rw [hnx] at c4
            obtain ⟨s, hs⟩ : ∃ s, a.getD i ByteArray.empty = s := ⟨_, rfl⟩
            obtain ⟨t, ht⟩ : ∃ t, b.getD k ByteArray.empty = t := ⟨_, rfl⟩
            rw [hs] at ca1
            rw [ht] at cb1
            have bnx : nx ≤ 1000 := by rw [← hnx]; have := tab_le a b (i + 1) (k + 1); have := Hn.out; omega
            have HS := Lib.hid hs
            have HU := Lib.hid ht
            have HN := Lib.hid hnx
            have HH := Lib.hid hH
            clear hca hcb hcell' hr' hs ht hnx hH
            subst hao hbo
            by_cases hst : s = t
            · have hst' := str_true hst
              have HST := Lib.hid hst
              clear hst
              by_cases hrn : nx + 1 = rest
              · have HRN := Lib.hid hrn
                have hrn' : ((nx : Int) + 1 == (rest : Int)) = true := by simp; omega
                clear hrn
                obtain ⟨done, hd1, hown, hdl⟩ := HC.out
                have HD1 := Lib.hid hd1
                clear hd1
                go_wp2_with fail
                go_quiet (fail)
                go_wp2_with (at_builtin; go_loud (refine wpList_append_own _ rfl (.tmp 61) (.tmp 65) 26 rfl w1.heap.size 28 i0 (.agg #[.int .i64 0, .int .i64 0]) 2 16 Try.underlying26 hi hz0 hz1 hz2 rfl (by decide) _ done.length (done.flatMap encPair) rfl ((ownsRow_drewN hown _).alloc _) ⟨wo.heap.size, 0, none⟩ 1 1 [.int .i64 i, .int .i64 k] rfl rfl (cell_two_new _ _ _ _) (two_cells rfl rfl) (by unfold maxLen; omega) (by omega) (by have := hbr.size; simp; omega) ?_); intro v' w2 hown2 hgrow2 _)
                have hown0 := hown
                clear hown
                go_roundw
                case rel =>
                  refine ⟨i + 1, k + 1, by omega, by omega, by go_num, by go_num, ⟨done ++ [(i, k)], pairs_hit HD1.out (by have := Hn.out; omega) (by have := Hm.out; omega) hjk HH.out (by rw [HS.out, HU.out, HST.out]) HN.out HRest.out HRN.out, ?_, by simp; omega⟩, ?_⟩
                  · rw [List.length_append, List.flatMap_append]
                    exact hown2
                  · exact ((below_drewN hbr _).alloc hbr.size _).grown hgrow2 (by have := hbr.size; simp; omega) (fun q hq => (hown0.lt q hq).1)
                case measure => simp [intOf]; omega
              · have HRN := Lib.hid hrn
                have hrn' : ((nx : Int) + 1 == (rest : Int)) = false := by simp; omega
                clear hrn
                go_wp2_with fail
                go_quiet (fail)
                go_wp2_with fail
                go_roundw
                case rel => exact ⟨rfl, rfl, k + 1, by omega, by omega, by go_num, hrel_next HH.out (by have := Hm.out; omega) hjk HN.out HRest.out (.inr HRN.out), _, rfl⟩
                case measure => simp [intOf]; omega
            · have hst' := str_false hst
              have HST := Lib.hid hst
              clear hst
              go_wp2_with fail
              go_quiet (fail)
              go_wp2_with fail
              go_roundw
              case rel => exact ⟨rfl, rfl, k + 1, by omega, by omega, by go_num, hrel_next HH.out (by have := Hm.out; omega) hjk HN.out HRest.out (.inl (by rw [HS.out, HU.out]; exact HST.out)), _, rfl⟩
              case measure => simp [intOf]; omega
          · have hr' : decide ((0 : Int) < (rest : Int)) = false := by simp; omega
            have HH := Lib.hid hH
            clear hH
            go_wp2_with fail
            go_roundw
            case rel =>
              obtain ⟨done, hd1, hown, hdl⟩ := HC.out
              exact ⟨i + 1, j, by omega, by omega, rfl, by go_num, ⟨done, pairs_miss hd1 (by have := Hn.out; omega) HH.out (.inl (by rw [HRest.out]; omega)), ownsRow_drewN hown _, by omega⟩, below_drewN hbr _⟩
            case measure => simp [intOf]; omega
        · have HH := Lib.hid hH
          clear hH
          go_wp2_with fail
          go_roundw
          case rel =>
            obtain ⟨done, hd1, hown, hdl⟩ := HC.out
            exact ⟨i + 1, j, by omega, by omega, rfl, by go_num, ⟨done, pairs_miss hd1 (by have := Hn.out; omega) HH.out (.inr (by have := Hm.out; omega)), ownsRow_drewN hown _, by omega⟩, below_drewN hbr _⟩
          case measure => simp [intOf]; omega
    · have HC := Lib.hid hC
      clear hC
      go_wp2_with fail
      go_ret
      obtain ⟨done, hd1, hown, hdl⟩ := HC.out
      have e : a.drop i = [] := List.drop_eq_nil_of_le (by have := Hn.out; omega)
      rw [e] at hd1
      simp only [pairs, List.append_nil] at hd1
      subst hd1
      exact ⟨_, rfl, Flat.of_own encPair_length hown, hb1.trans (hbr.mono hb1.size), ⟨hown.1, hown.2.imp id fun ⟨g, cap, cur, k1, k2, k3⟩ => ⟨g, cap, cur, k1, Nat.le_trans hb1.size k2, k3⟩⟩⟩

theorem common_any {w : World} {va vb : Value} {a b : List ByteArray} (ha : Strs w va a) (hb : Strs w vb b) (la : a.length ≤ 1000) (lb : b.length ≤ 1000) :
    Calls Try.prog 12 #[va, vb] w fun e w' => ∃ v, e = .returned v ∧ PairsAt w' v (pairs a 0 b 0) ∧ Below w.heap.size w w' := by
  have ha' := ha
  have hb' := hb
  obtain ⟨ao, ca, rfl, _, _, _, hca⟩ := ha.open
  obtain ⟨bo, cb, rfl, _, _, _, hcb⟩ := hb.open
  exact (common_walk ao bo ca cb a.length b.length a b w ha' hb' rfl rfl la lb hca hcb).mono fun e w' ⟨v, h1, h2, h3, _⟩ => ⟨v, h1, h2, h3⟩
/-- The same with the row owned. -/
theorem common_own {w : World} {va vb : Value} {a b : List ByteArray} (ha : Strs w va a) (hb : Strs w vb b) (la : a.length ≤ 1000) (lb : b.length ≤ 1000) :
    Calls Try.prog 12 #[va, vb] w fun e w' => ∃ v, e = .returned v ∧ Below w.heap.size w w' ∧ w'.ownsRow w.heap.size 28 2 v (pairs a 0 b 0).length ((pairs a 0 b 0).flatMap encPair) := by
  have ha' := ha
  have hb' := hb
  obtain ⟨ao, ca, rfl, _, _, _, hca⟩ := ha.open
  obtain ⟨bo, cb, rfl, _, _, _, hcb⟩ := hb.open
  exact (common_walk ao bo ca cb a.length b.length a b w ha' hb' rfl rfl la lb hca hcb).mono fun e w' ⟨v, h1, _, h3, h4⟩ => ⟨v, h1, h3, h4⟩
end Go.Proofs.Ytfcibaiiobihnaa
