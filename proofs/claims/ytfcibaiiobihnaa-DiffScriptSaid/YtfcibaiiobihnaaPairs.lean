/- The common part of two lists as a list of pairs of places, in plain Lean. -/
import Derived.Test.YtfcibaiiobihnaaLcs
namespace Go.Proofs.Ytfcibaiiobihnaa
section
variable {α : Type} [DecidableEq α]

/-- The first place of ys that may follow: the element, and the rest of a longest common subsequence behind it. -/
def hit (x : α) (xs : List α) (rest : Nat) : List α → Option Nat
  | [] => none
  | y :: ys => if x = y ∧ lcs xs ys + 1 = rest then some 0 else (hit x xs rest ys).map (· + 1)
def pairs : List α → Nat → List α → Nat → List (Nat × Nat)
  | [], _, _, _ => []
  | x :: xs, i, ys, j => match hit x xs (lcs (x :: xs) ys) ys with
    | none => pairs xs (i + 1) ys j
    | some k => (i, j + k) :: pairs xs (i + 1) (ys.drop (k + 1)) (j + k + 1)

theorem hit_spec {x : α} {xs : List α} {rest : Nat} : ∀ {ys : List α} {k : Nat}, hit x xs rest ys = some k → ∃ h : k < ys.length, x = ys[k] ∧ lcs xs (ys.drop (k + 1)) + 1 = rest
  | [], k, h => by simp [hit] at h
  | y :: ys, k, h => by
    unfold hit at h
    split at h
    · rename_i hc
      obtain rfl := (Option.some.inj h).symm
      exact ⟨by simp, hc.1, by simpa using hc.2⟩
    · obtain ⟨k', hk, rfl⟩ := Option.map_eq_some_iff.1 h
      obtain ⟨h1, h2, h3⟩ := hit_spec hk
      exact ⟨by simpa using h1, by simpa using h2, by simpa using h3⟩

theorem row_cases (x : α) (xs : List α) : ∀ (ys : List α), lcsRow x (lcs xs) ys = lcs xs ys ∨ ∃ k, ∃ h : k < ys.length, x = ys[k] ∧ lcs xs (ys.drop (k + 1)) + 1 = lcsRow x (lcs xs) ys
  | [] => .inl (by rw [lcs_nil_right]; rfl)
  | y :: ys => by
    by_cases hxy : x = y
    · right
      exact ⟨0, by simp, hxy, by simp [lcsRow, hxy]⟩
    · have e : lcsRow x (lcs xs) (y :: ys) = max (lcs xs (y :: ys)) (lcsRow x (lcs xs) ys) := by simp [lcsRow, hxy]
      have mono : lcs xs ys ≤ lcs xs (y :: ys) := by
        obtain ⟨s, h, k, e⟩ := lcs_common xs ys
        rw [← e]; exact le_lcs _ _ _ h (k.cons y)
      rcases row_cases x xs ys with h | ⟨k, h1, h2, h3⟩
      · left; omega
      · by_cases hm : lcsRow x (lcs xs) ys ≤ lcs xs (y :: ys)
        · left; omega
        · right
          exact ⟨k + 1, by simpa using h1, by simpa using h2, by simp; omega⟩

theorem hit_of {x : α} {xs : List α} {rest : Nat} : ∀ {ys : List α} {k : Nat} (h : k < ys.length), x = ys[k] → lcs xs (ys.drop (k + 1)) + 1 = rest → hit x xs rest ys ≠ none
  | [], k, h, _, _ => by simp at h
  | y :: ys, k, h, h2, h3 => by
    unfold hit
    split
    · simp
    · rename_i hn
      cases k with
      | zero => exact absurd ⟨h2, by simpa using h3⟩ hn
      | succ k => simpa using hit_of (ys := ys) (by simpa using h) (by simpa using h2) (by simpa using h3)

/-- Without a hit the first element is of no use. -/
theorem hit_none {x : α} {xs ys : List α} (h : hit x xs (lcs (x :: xs) ys) ys = none) : lcs (x :: xs) ys = lcs xs ys := by
  rcases row_cases x xs ys with h1 | ⟨k, h1, h2, h3⟩
  · exact h1
  · exact absurd h (hit_of h1 h2 h3)

theorem pairs_length : ∀ (xs : List α) (i : Nat) (ys : List α) (j : Nat), (pairs xs i ys j).length = lcs xs ys
  | [], _, _, _ => rfl
  | x :: xs, i, ys, j => by
    unfold pairs
    split
    · rename_i h
      rw [pairs_length xs, hit_none h]
    · rename_i k h
      obtain ⟨_, _, h3⟩ := hit_spec h
      rw [List.length_cons, pairs_length xs, h3]

/-- Pairs strictly increasing in both places, from (i, j) on, each of equal elements. -/
def Chain (a b : List α) : Nat → Nat → List (Nat × Nat) → Prop
  | _, _, [] => True
  | i, j, (x, y) :: ps => i ≤ x ∧ j ≤ y ∧ (∃ hx : x < a.length, ∃ hy : y < b.length, a[x] = b[y]) ∧ Chain a b (x + 1) (y + 1) ps
omit [DecidableEq α] in
theorem Chain.weaken {a b : List α} {i j i' j' : Nat} (hi : i' ≤ i) (hj : j' ≤ j) : ∀ {ps : List (Nat × Nat)}, Chain a b i j ps → Chain a b i' j' ps
  | [], _ => trivial
  | (x, y) :: ps, ⟨h1, h2, h3, h4⟩ => ⟨Nat.le_trans hi h1, Nat.le_trans hj h2, h3, h4⟩
theorem pairs_chain (a b : List α) : ∀ (xs : List α) (i : Nat) (ys : List α) (j : Nat), a.drop i = xs → b.drop j = ys → Chain a b i j (pairs xs i ys j)
  | [], _, _, _, _, _ => trivial
  | x :: xs, i, ys, j, hx, hy => by
    have hi : i < a.length := by
      rcases Nat.lt_or_ge i a.length with h | h
      · exact h
      · rw [List.drop_eq_nil_of_le h] at hx; cases hx
    rw [List.drop_eq_getElem_cons hi] at hx
    obtain ⟨e1, e2⟩ := List.cons.inj hx
    unfold pairs
    split
    · exact (pairs_chain a b xs (i + 1) ys j e2 hy).weaken (Nat.le_succ i) (Nat.le_refl j)
    · rename_i k h
      obtain ⟨h1, h2, h3⟩ := hit_spec h
      subst hy
      rw [List.length_drop] at h1
      refine ⟨Nat.le_refl _, Nat.le_add_right _ _, ⟨hi, by omega, by rw [e1, h2, List.getElem_drop]⟩, pairs_chain a b xs (i + 1) _ (j + k + 1) e2 (by rw [List.drop_drop]; rfl)⟩

/-- A step of the loop over the first list. -/
theorem pairs_step {a b : List α} {i j : Nat} (hi : i < a.length) : pairs (a.drop i) i (b.drop j) j = match hit a[i] (a.drop (i + 1)) (tab a b i j) (b.drop j) with
    | none => pairs (a.drop (i + 1)) (i + 1) (b.drop j) j
    | some k => (i, j + k) :: pairs (a.drop (i + 1)) (i + 1) (b.drop (j + k + 1)) (j + k + 1) := by
  have e : a.drop i = a[i] :: a.drop (i + 1) := List.drop_eq_getElem_cons hi
  rw [e]
  conv => lhs; unfold pairs
  unfold tab
  rw [e]
  cases hit a[i] (a.drop (i + 1)) (lcs (a[i] :: a.drop (i + 1)) (b.drop j)) (b.drop j) with
  | none => rfl
  | some k => simp only [List.drop_drop]; rw [← Nat.add_assoc]
/-- No hit up to place k (the inner loop so far). -/
theorem hit_skip {x : α} {xs : List α} {rest : Nat} {b : List α} {k : Nat} (hk : k < b.length) (h : ¬ (x = b[k] ∧ lcs xs (b.drop (k + 1)) + 1 = rest)) : hit x xs rest (b.drop k) = (hit x xs rest (b.drop (k + 1))).map (· + 1) := by
  rw [List.drop_eq_getElem_cons hk]
  conv => lhs; unfold hit
  rw [if_neg h]
theorem hit_here {x : α} {xs : List α} {rest : Nat} {b : List α} {k : Nat} (hk : k < b.length) (h : x = b[k] ∧ lcs xs (b.drop (k + 1)) + 1 = rest) : hit x xs rest (b.drop k) = some 0 := by
  rw [List.drop_eq_getElem_cons hk]
  unfold hit
  rw [if_pos h]
theorem hit_zero {x : α} {xs : List α} : ∀ {ys : List α}, hit x xs 0 ys = none
  | [] => rfl
  | y :: ys => by unfold hit; rw [if_neg (by omega), hit_zero]; rfl
theorem hit_end {x : α} {xs : List α} {rest : Nat} {b : List α} {k : Nat} (hk : b.length ≤ k) : hit x xs rest (b.drop k) = none := by
  rw [List.drop_eq_nil_of_le hk]; rfl
end
end Go.Proofs.Ytfcibaiiobihnaa
