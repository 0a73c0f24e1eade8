/- DiffCommon: THE PLAIN LAW, done. -/
import Derived.Test.YtfcibaiiobihnaaE09
import Derived.Test.YtfcibaiiobihnaaECp
namespace Go.Proofs.Ytfcibaiiobihnaa
open Vc
set_option linter.unusedSimpArgs false
set_option linter.unusedVariables false
namespace Comm
theorem few_is (a : List Sb) (ha : a.length ≤ 9223372036854775807) : ∃ b, r05_Few a = some b ∧ (b = true → a.length ≤ 30) := by
  obtain ⟨r, h1, h2⟩ := loopM_inv (f := r05_Few_step1 a) (fun i => 0 ≤ i ∧ i ≤ a.length) (fun i => (a.length - i).toNat) (fun r => match r with | .inl _ => True | .inr b => b = false) (fun i ⟨h0, h1⟩ => by
    unfold r05_Few_step1
    simp only [decide_eq_true_eq]
    by_cases hl : i < a.length
    · rw [if_pos hl, if_pos ⟨h0, hl⟩]
      by_cases hk : (100 : Int) < (List.length (nth .str a i) : Int)
      · exact .inr ⟨_, if_pos hk, rfl⟩
      · rw [if_neg hk, if_pos (by omega)]
        exact .inl ⟨_, rfl, ⟨by omega, by omega⟩, by omega⟩
    · rw [if_neg hl]
      exact .inr ⟨_, rfl, trivial⟩) 0 ⟨by omega, by omega⟩
  unfold r05_Few
  rw [h1]
  cases r with
  | inl u => exact ⟨_, rfl, fun h => by have := of_decide_eq_true h; omega⟩
  | inr b => exact ⟨b, rfl, fun h => by rw [show b = false from h2] at h; cases h⟩

theorem same_pairs (a b : List Sb) (hl : (pairsD a b).length ≤ 1000) : loopM (l05_DiffCommon_step1 a b (pairsD a b)) 0 = some (.inl ()) := by
  obtain ⟨r, h1, h2⟩ := loopM_inv (f := l05_DiffCommon_step1 a b (pairsD a b)) (fun i => 0 ≤ i ∧ i ≤ (pairsD a b).length) (fun i => ((pairsD a b).length - i).toNat) (fun r => r = .inl ()) (fun i ⟨h0, h1⟩ => by
    unfold l05_DiffCommon_step1
    by_cases hi : i < (pairsD a b).length
    · refine .inl ⟨i + 1, ?_, ⟨by omega, by omega⟩, by omega⟩
      rw [if_pos (decide_eq_true hi), if_pos ⟨h0, hi⟩, if_pos ⟨h0, hi⟩]
      simp only [decide_true, Bool.and_self, Bool.not_true, Bool.false_eq_true, reduceIte]
      rw [if_pos (by omega)]
    · rw [if_neg (fun h => hi (of_decide_eq_true h))]
      exact .inr ⟨_, rfl, rfl⟩) 0 ⟨by omega, by omega⟩
  rw [h1, h2]

theorem law_is (a b : List Sb) (ha : a.length ≤ 9223372036854775807) (hb : b.length ≤ 9223372036854775807) : l05_DiffCommon a b = some true := by
  obtain ⟨fa, h1, h1'⟩ := few_is a ha
  obtain ⟨fb, h2, h2'⟩ := few_is b hb
  unfold l05_DiffCommon
  rw [if_neg (by decide), h1, h2]
  simp only [Option.bind_some, val_some, Option.isSome_some, implies_true, if_true]
  by_cases hall : fa = true ∧ fb = true
  · obtain ⟨rfl, rfl⟩ := hall
    simp only [Bool.not_true, Bool.or_self, Bool.false_eq_true, reduceIte]
    have la := h1' rfl
    have lb := h2' rfl
    have hlen := pairsD_len a b
    have hbd := lcs_bd a b
    rw [if_pos (by omega), if_pos (by omega), common_is a b (by omega) (by omega)]
    simp only [Option.bind_some]
    rw [distance_is a b (by omega) (by omega)]
    rw [if_pos (fun _ => by omega), if_pos (fun _ => by omega)]
    simp only [val_some, Option.isSome_some, implies_true, if_true, decide_true, Bool.not_true, Bool.or_self, Bool.false_eq_true, reduceIte]
    rw [same_pairs a b (by omega)]
    rfl
  · revert hall
    clear h1 h1' h2 h2'
    cases fa <;> cases fb <;> intro hall <;> first | rfl | exact absurd ⟨rfl, rfl⟩ hall
end Comm
end Go.Proofs.Ytfcibaiiobihnaa
