/- DiffLeads: THE PLAIN LAW, done. -/
import Derived.Test.YtfcibaiiobihnaaD04
import Derived.Test.YtfcibaiiobihnaaDLq
namespace Go.Proofs.Ytfcibaiiobihnaa
open Vc
set_option linter.unusedSimpArgs false
set_option linter.unusedVariables false
namespace Leads

theorem leads_is (a b : List Sb) (s : List Ed) (ha : a.length ≤ 9223372036854775807) (hb : b.length ≤ 9223372036854775807) (hs : s.length ≤ 9223372036854775807) : l05_DiffLeads a b s = some true := by
  obtain ⟨fa, h1, h1'⟩ := few_is a ha
  obtain ⟨fb, h2, h2'⟩ := few_is b hb
  obtain ⟨sh, h3, h3'⟩ := short_is s hs
  unfold l05_DiffLeads
  rw [if_neg (by decide), h1, h2, h3]
  simp only [Option.bind_some, val_some, Option.isSome_some, implies_true, if_true]
  by_cases hall : fa = true ∧ fb = true ∧ sh = true
  · obtain ⟨rfl, rfl, rfl⟩ := hall
    simp only [Bool.not_true, Bool.or_self, Bool.false_eq_true, reduceIte]
    have la := h1' rfl
    have lb := h2' rfl
    have ls := h3' rfl
    obtain ⟨es, k1, k2, k3, k4⟩ := script_is a b (by omega) (by omega)
    have hrev := go_rev a es [] 0 b a.length k2 k3 (Nat.zero_le _)
    rw [List.take_zero, List.take_length, List.length_nil] at hrev
    rw [k1]
    simp only [Option.bind_some]
    rw [apply_is a es (by omega) (by omega), res_go k3 k2]
    simp only [Option.bind_some]
    rw [reverse_is es (by omega)]
    simp only [Option.bind_some]
    rw [apply_is b (es.map rv) (by omega) (by rw [List.length_map]; omega), res_go (ok_rev k3) hrev]
    simp only [Option.bind_some]
    rw [same_self b (by omega), same_self a (by omega)]
    simp only [val_some, Option.isSome_some, implies_true, if_true]
    simp only [decide_true, Bool.not_true, Bool.or_self, Bool.false_eq_true, reduceIte]
    rw [own_is s (by omega)]
    simp only [Option.bind_some]
    rw [apply_is a s (by omega) (by omega)]
    simp only [Option.bind_some]
    rcases res_cases a s with ⟨o, r1, r2, r3⟩ | ⟨r1, r2⟩
    · have hrev := go_rev a s [] 0 o a.length r3 r2 (Nat.zero_le _)
      rw [List.take_zero, List.take_length, List.length_nil] at hrev
      obtain ⟨-, -, -, lo⟩ := go_ext a s [] 0 o _ r3
      rw [List.length_nil] at lo
      rw [r1]
      simp only [decide_true, Bool.not_true, Bool.or_self, Bool.false_eq_true, reduceIte]
      rw [reverse_is s (by omega)]
      simp only [Option.bind_some]
      rw [apply_is o (s.map rv) (by omega) (by rw [List.length_map]; omega), res_go (ok_rev r2) hrev]
      simp only [Option.bind_some]
      rw [same_self a (by omega)]
      simp only [val_some, Option.isSome_some, implies_true, if_true]
      rfl
    · simp only [decide_eq_false r2, Bool.not_false, reduceIte, r1]
      rfl
  · revert hall
    clear h1 h1' h2 h2' h3 h3'
    cases fa <;> cases fb <;> cases sh <;> intro hall <;> first | rfl | exact absurd ⟨rfl, rfl, rfl⟩ hall
end Leads
end Go.Proofs.Ytfcibaiiobihnaa
