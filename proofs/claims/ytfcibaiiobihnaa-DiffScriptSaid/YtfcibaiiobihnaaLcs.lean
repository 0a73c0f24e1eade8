/- Longest common subsequences of lists, in plain Lean: the table's recursion, its meaning by sublists, and the laws of the distance. -/
namespace Go.Proofs.Ytfcibaiiobihnaa
section
variable {α : Type}
theorem sublist_cons_or {s xs : List α} {x : α} (h : s.Sublist (x :: xs)) : s.Sublist xs ∨ ∃ t, s = x :: t ∧ t.Sublist xs := by
  cases h with
  | cons _ h => exact .inl h
  | cons_cons _ h => exact .inr ⟨_, rfl, h⟩
theorem sublist_tail {s xs : List α} {x : α} (h : s.Sublist (x :: xs)) : s.tail.Sublist xs := by
  rcases sublist_cons_or h with h | ⟨t, rfl, h⟩
  · exact (List.tail_sublist s).trans h
  · simpa using h

/-- Two sublists of one list have a common sublist that is not shorter than what the list forces. -/
theorem sublist_meet : ∀ (b s t : List α), s.Sublist b → t.Sublist b → ∃ u : List α, u.Sublist s ∧ u.Sublist t ∧ s.length + t.length ≤ u.length + b.length
  | [], s, t, h, k => ⟨[], List.nil_sublist _, List.nil_sublist _, by rw [List.sublist_nil.1 h, List.sublist_nil.1 k]; simp⟩
  | y :: ys, s, t, h, k => by
    rcases sublist_cons_or h with h' | ⟨s', rfl, h'⟩
    · rcases sublist_cons_or k with k' | ⟨t', rfl, k'⟩
      · obtain ⟨u, a1, a2, a3⟩ := sublist_meet ys s t h' k'
        exact ⟨u, a1, a2, by simp; omega⟩
      · obtain ⟨u, a1, a2, a3⟩ := sublist_meet ys s t' h' k'
        exact ⟨u, a1, a2.cons y, by simp; omega⟩
    · rcases sublist_cons_or k with k' | ⟨t', rfl, k'⟩
      · obtain ⟨u, a1, a2, a3⟩ := sublist_meet ys s' t h' k'
        exact ⟨u, a1.cons y, a2, by simp; omega⟩
      · obtain ⟨u, a1, a2, a3⟩ := sublist_meet ys s' t' h' k'
        exact ⟨y :: u, a1.cons_cons y, a2.cons_cons y, by simp; omega⟩

end
section
variable {α : Type} [DecidableEq α]

def lcsRow (x : α) (f : List α → Nat) : List α → Nat
  | [] => 0
  | y :: ys => if x = y then f ys + 1 else max (f (y :: ys)) (lcsRow x f ys)
def lcs : List α → List α → Nat
  | [] => fun _ => 0
  | x :: xs => lcsRow x (lcs xs)

theorem lcs_nil (b : List α) : lcs [] b = 0 := rfl
theorem lcs_nil_right (a : List α) : lcs a [] = 0 := by cases a <;> rfl
theorem lcs_cons (x : α) (xs : List α) (y : α) (ys : List α) : lcs (x :: xs) (y :: ys) = if x = y then lcs xs ys + 1 else max (lcs xs (y :: ys)) (lcs (x :: xs) ys) := rfl

theorem lcs_common : ∀ (a b : List α), ∃ s : List α, s.Sublist a ∧ s.Sublist b ∧ s.length = lcs a b
  | [], b => ⟨[], List.Sublist.refl _, List.nil_sublist _, rfl⟩
  | x :: xs, [] => ⟨[], List.nil_sublist _, List.nil_sublist _, rfl⟩
  | x :: xs, y :: ys => by
    rw [lcs_cons]
    split
    · rename_i h
      obtain ⟨s, h1, h2, h3⟩ := lcs_common xs ys
      exact ⟨x :: s, h1.cons_cons x, by subst h; exact h2.cons_cons x, by simp [h3]⟩
    · obtain ⟨s, h1, h2, h3⟩ := lcs_common xs (y :: ys)
      obtain ⟨t, k1, k2, k3⟩ := lcs_common (x :: xs) ys
      rcases Nat.le_total (lcs xs (y :: ys)) (lcs (x :: xs) ys) with h | h
      · exact ⟨t, k1, k2.cons y, by omega⟩
      · exact ⟨s, h1.cons x, h2, by omega⟩

theorem le_lcs : ∀ (a b s : List α), s.Sublist a → s.Sublist b → s.length ≤ lcs a b
  | [], b, s, h, _ => by rw [List.sublist_nil.1 h]; simp
  | x :: xs, [], s, _, h => by rw [List.sublist_nil.1 h]; simp
  | x :: xs, y :: ys, s, h, k => by
    rw [lcs_cons]
    split
    · rename_i e
      have := le_lcs xs ys s.tail (sublist_tail h) (sublist_tail k)
      rw [List.length_tail] at this
      omega
    · rename_i e
      rcases sublist_cons_or h with h' | ⟨t, rfl, h'⟩
      · have := le_lcs xs (y :: ys) s h' k
        omega
      · rcases sublist_cons_or k with k' | ⟨u, hu, k'⟩
        · have := le_lcs (x :: xs) ys (x :: t) h k'
          omega
        · simp only [List.cons.injEq] at hu
          exact absurd hu.1 e

theorem lcs_le_left (a b : List α) : lcs a b ≤ a.length := by
  obtain ⟨s, h, _, e⟩ := lcs_common a b
  rw [← e]; exact h.length_le
theorem lcs_le_right (a b : List α) : lcs a b ≤ b.length := by
  obtain ⟨s, _, h, e⟩ := lcs_common a b
  rw [← e]; exact h.length_le
theorem lcs_symm_le (a b : List α) : lcs a b ≤ lcs b a := by
  obtain ⟨s, h, k, e⟩ := lcs_common a b
  rw [← e]; exact le_lcs _ _ _ k h
theorem lcs_symm (a b : List α) : lcs a b = lcs b a := Nat.le_antisymm (lcs_symm_le a b) (lcs_symm_le b a)
theorem lcs_self (a : List α) : lcs a a = a.length :=
  Nat.le_antisymm (lcs_le_left a a) (le_lcs a a a (List.Sublist.refl _) (List.Sublist.refl _))
theorem lcs_full {a b : List α} (h : a.length + b.length = 2 * lcs a b) : a = b := by
  obtain ⟨s, h1, h2, e⟩ := lcs_common a b
  have l1 := h1.length_le
  have l2 := h2.length_le
  have e1 := h1.eq_of_length_le (by omega)
  have e2 := h2.eq_of_length_le (by omega)
  exact e1.symm.trans e2

theorem lcs_triangle (a b c : List α) : lcs a b + lcs b c ≤ lcs a c + b.length := by
  obtain ⟨s, h1, h2, e⟩ := lcs_common a b
  obtain ⟨t, k1, k2, f⟩ := lcs_common b c
  obtain ⟨u, a1, a2, a3⟩ := sublist_meet b s t h2 k1
  have := le_lcs a c u (a1.trans h1) (a2.trans k2)
  omega

theorem lcs_prefix (p a b : List α) : lcs (p ++ a) (p ++ b) = p.length + lcs a b := by
  induction p with
  | nil => simp
  | cons x p ih => simp only [List.cons_append, lcs_cons, if_true, ih, List.length_cons]; omega
theorem lcs_reverse_le (a b : List α) : lcs a b ≤ lcs a.reverse b.reverse := by
  obtain ⟨s, h, k, e⟩ := lcs_common a b
  rw [← e, ← List.length_reverse]
  exact le_lcs _ _ _ h.reverse k.reverse
theorem lcs_reverse (a b : List α) : lcs a.reverse b.reverse = lcs a b :=
  Nat.le_antisymm (by have := lcs_reverse_le a.reverse b.reverse; simpa using this) (lcs_reverse_le a b)
theorem lcs_suffix (q a b : List α) : lcs (a ++ q) (b ++ q) = lcs a b + q.length := by
  rw [← lcs_reverse, List.reverse_append, List.reverse_append, lcs_prefix, lcs_reverse, List.length_reverse]; omega
theorem lcs_ends (p q a b : List α) : lcs (p ++ a ++ q) (p ++ b ++ q) = p.length + lcs a b + q.length := by
  rw [lcs_suffix, lcs_prefix]

/-- The table at places i, j. -/
def tab (a b : List α) (i j : Nat) : Nat := lcs (a.drop i) (b.drop j)
theorem tab_end_left (a b : List α) (j : Nat) (i : Nat) (h : a.length ≤ i) : tab a b i j = 0 := by
  unfold tab; rw [List.drop_eq_nil_of_le h]; rfl
theorem tab_end_right (a b : List α) (i j : Nat) (h : b.length ≤ j) : tab a b i j = 0 := by
  unfold tab; rw [List.drop_eq_nil_of_le h]; exact lcs_nil_right _
theorem tab_step (a b : List α) (i j : Nat) (hi : i < a.length) (hj : j < b.length) :
    tab a b i j = if a[i] = b[j] then tab a b (i + 1) (j + 1) + 1 else max (tab a b (i + 1) j) (tab a b i (j + 1)) := by
  unfold tab
  rw [List.drop_eq_getElem_cons hi, List.drop_eq_getElem_cons hj, lcs_cons]
theorem tab_le (a b : List α) (i j : Nat) : tab a b i j ≤ a.length := by
  unfold tab
  have := lcs_le_left (a.drop i) (b.drop j)
  rw [List.length_drop] at this
  omega
theorem tab_ge_right (a b : List α) (i j : Nat) : tab a b i (j + 1) ≤ tab a b i j := by
  unfold tab
  obtain ⟨s, h, k, e⟩ := lcs_common (a.drop i) (b.drop (j + 1))
  rw [← e]
  exact le_lcs _ _ _ h (k.trans (by rw [← List.drop_drop]; exact List.drop_sublist 1 _))
theorem tab_ge_left (a b : List α) (i j : Nat) : tab a b (i + 1) j ≤ tab a b i j := by
  unfold tab
  obtain ⟨s, h, k, e⟩ := lcs_common (a.drop (i + 1)) (b.drop j)
  rw [← e]
  exact le_lcs _ _ _ (h.trans (by rw [← List.drop_drop]; exact List.drop_sublist 1 _)) k
/-- The reference's rule: the diagonal may be taken besides. -/
theorem tab_step' (a b : List α) (i j : Nat) (hi : i < a.length) (hj : j < b.length) :
    tab a b i j = if a[i] = b[j] then max (max (tab a b (i + 1) j) (tab a b i (j + 1))) (1 + tab a b (i + 1) (j + 1)) else max (tab a b (i + 1) j) (tab a b i (j + 1)) := by
  rw [tab_step a b i j hi hj]
  split
  · rename_i h
    have h1 := tab_ge_left a b i j
    have h2 := tab_ge_right a b i j
    rw [tab_step a b i j hi hj, if_pos h] at h1 h2
    omega
  · rfl
end
end Go.Proofs.Ytfcibaiiobihnaa
