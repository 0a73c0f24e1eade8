/- DiffLeads: THE PLAIN LAW. Scripts applied and turned round. -/
import Derived.Test.YtfcibaiiobihnaaD01
import Derived.Test.YtfcibaiiobihnaaD02
namespace Go.Proofs.Ytfcibaiiobihnaa
open Vc
set_option linter.unusedSimpArgs false
set_option linter.unusedVariables false

abbrev Sb := List UInt8
abbrev Ed := Int × (Sb × Unit)

namespace Leads

/-- What a script makes of a list, from the place i on, behind what is out. -/
def go (a : List Sb) : List Ed → List Sb → Nat → Option (List Sb × Nat)
  | [], out, i => some (out, i)
  | e :: es, out, i =>
    if e.1 = 3 then go a es (out ++ [e.2.1]) i
    else if i < a.length ∧ a.getD i [] = e.2.1 then
      (if e.1 = 2 then go a es out (i + 1) else go a es (out ++ [e.2.1]) (i + 1))
    else none

theorem go_nil (a : List Sb) (out : List Sb) (i : Nat) : go a [] out i = some (out, i) := rfl
theorem go_cons (a : List Sb) (e : Ed) (es : List Ed) (out : List Sb) (i : Nat) : go a (e :: es) out i = if e.1 = 3 then go a es (out ++ [e.2.1]) i
    else if i < a.length ∧ a.getD i [] = e.2.1 then (if e.1 = 2 then go a es out (i + 1) else go a es (out ++ [e.2.1]) (i + 1)) else none := rfl
theorem go_append (a : List Sb) : ∀ (es fs : List Ed) (out : List Sb) (i : Nat), go a (es ++ fs) out i = (go a es out i).bind fun p => go a fs p.1 p.2
  | [], fs, out, i => rfl
  | e :: es, fs, out, i => by
    rw [List.cons_append, go_cons, go_cons]
    split
    · exact go_append a es fs _ _
    · split
      · split
        · exact go_append a es fs _ _
        · exact go_append a es fs _ _
      · rfl

def ok (s : List Ed) : Prop := ∀ e ∈ s, 1 ≤ e.1 ∧ e.1 ≤ 3
/-- An edit turned round. -/
def rv (e : Ed) : Ed := if e.1 = 2 then (3, e.2) else if e.1 = 3 then (2, e.2) else e

theorem go_ext (a : List Sb) : ∀ (s : List Ed) (out : List Sb) (i : Nat) (o : List Sb) (n : Nat), go a s out i = some (o, n) → (∃ t, o = out ++ t) ∧ i ≤ n ∧ (i ≤ a.length → n ≤ a.length) ∧ o.length ≤ out.length + s.length
  | [], out, i, o, n, h => by
    rw [go_nil] at h
    cases h
    exact ⟨⟨[], by simp⟩, Nat.le_refl _, id, by simp⟩
  | e :: es, out, i, o, n, h => by
    rw [go_cons] at h
    split at h
    · obtain ⟨⟨t, h1⟩, h2, h3, h4⟩ := go_ext a es _ _ o n h
      exact ⟨⟨[e.2.1] ++ t, by rw [h1, List.append_assoc]⟩, h2, h3, by simp only [List.length_append, List.length_cons, List.length_nil] at h4 ⊢; omega⟩
    · split at h
      · rename_i hi
        split at h
        · obtain ⟨h1, h2, h3, h4⟩ := go_ext a es _ _ o n h
          exact ⟨h1, by omega, fun _ => h3 (by omega), by simp only [List.length_cons]; omega⟩
        · obtain ⟨⟨t, h1⟩, h2, h3, h4⟩ := go_ext a es _ _ o n h
          exact ⟨⟨[e.2.1] ++ t, by rw [h1, List.append_assoc]⟩, by omega, fun _ => h3 (by omega), by simp only [List.length_append, List.length_cons, List.length_nil] at h4 ⊢; omega⟩
      · cases h

theorem getD_lt {α : Type} {l : List α} {i : Nat} {d : α} (h : i < l.length) : l.getD i d = l[i] := by
  rw [List.getD_eq_getElem?_getD, List.getElem?_eq_getElem h]; rfl
theorem take_snoc {α : Type} {l : List α} {i : Nat} {d : α} (h : i < l.length) : l.take i ++ [l.getD i d] = l.take (i + 1) := by
  rw [getD_lt h, List.take_add_one, List.getElem?_eq_getElem h]; rfl

theorem go_rev (a : List Sb) : ∀ (s : List Ed) (out : List Sb) (i : Nat) (o : List Sb) (n : Nat), go a s out i = some (o, n) → ok s → i ≤ a.length → go o (s.map rv) (a.take i) out.length = some (a.take n, o.length)
  | [], out, i, o, n, h, _, _ => by
    rw [go_nil] at h
    cases h
    rfl
  | e :: es, out, i, o, n, h, hk, hi => by
    have hk' : ok es := fun x hx => hk x (List.mem_cons_of_mem _ hx)
    obtain ⟨k1, k2⟩ := hk e (List.mem_cons_self)
    rw [go_cons] at h
    rw [List.map_cons]
    split at h
    · rename_i h3
      obtain ⟨⟨t, h1⟩, -, -, -⟩ := go_ext a es _ _ o n h
      have ih := go_rev a es _ _ o n h hk' hi
      rw [show rv e = (2, e.2) by unfold rv; rw [if_neg (by omega), if_pos h3]]
      rw [go_cons]
      have hl : out.length < o.length := by rw [h1]; simp only [List.length_append, List.length_cons, List.length_nil]; omega
      rw [if_neg (show ¬ ((2 : Int) = 3) by decide), if_pos ⟨hl, by rw [getD_lt hl]; simp only [h1]; simp⟩, if_pos rfl]
      rw [List.length_append] at ih
      exact ih
    · rename_i h3
      split at h
      · rename_i hc
        obtain ⟨hc1, hc2⟩ := hc
        split at h
        · rename_i h2
          have ih := go_rev a es _ _ o n h hk' (by omega)
          rw [show rv e = (3, e.2) by unfold rv; rw [if_pos h2]]
          rw [go_cons]
          rw [if_pos rfl]
          simp only []
          rw [← hc2, take_snoc hc1]
          exact ih
        · rename_i h2
          obtain ⟨⟨t, h1⟩, -, -, -⟩ := go_ext a es _ _ o n h
          have ih := go_rev a es _ _ o n h hk' (by omega)
          rw [show rv e = e by unfold rv; rw [if_neg h2, if_neg h3]]
          rw [go_cons]
          have hl : out.length < o.length := by rw [h1]; simp only [List.length_append, List.length_cons, List.length_nil]; omega
          rw [if_neg h3, if_pos ⟨hl, by rw [getD_lt hl]; simp only [h1]; simp⟩, if_neg h2]
          rw [← hc2, take_snoc hc1]
          rw [List.length_append] at ih
          exact ih
      · cases h

theorem ok_rev {s : List Ed} (h : ok s) : ok (s.map rv) := by
  intro e he
  obtain ⟨x, hx, rfl⟩ := List.mem_map.1 he
  have := h x hx
  unfold rv
  split
  · exact ⟨by simp only []; omega, by simp only []; omega⟩
  · split
    · exact ⟨by simp only []; omega, by simp only []; omega⟩
    · exact this

/-! ### What the code's forms come to -/
theorem nthS (l : List Sb) (i : Int) : nth .str l i = l.getD i.toNat [] := rfl
theorem nthE (l : List Ed) (i : Int) : nth (.pair (.int .i64) (.pair .str .unit)) l i = l.getD i.toNat ((0 : Int), ([] : Sb), ()) := rfl

def bad (e : Ed) : Bool := ((decide (e.1 < (1 : Int))) || (decide ((3 : Int) < e.1)))

theorem index_is (s : List Ed) (hs : s.length ≤ 1000000) : ∃ r, slices_IndexFunc_diff_Edit_diff_ApplyF1 s = some r ∧ (0 ≤ r ↔ s.any bad = true) := by
  obtain ⟨r, h1, h2⟩ := loopM_inv (f := slices_IndexFunc_diff_Edit_diff_ApplyF1_step1 s) (fun i => 0 ≤ i ∧ i ≤ s.length ∧ ∀ k, k < i.toNat → bad (s.getD k (0, [], ())) = false) (fun i => (s.length - i).toNat)
    (fun r => match r with | .inl _ => ∀ k, k < s.length → bad (s.getD k (0, [], ())) = false | .inr i => 0 ≤ i ∧ s.any bad = true) (fun i ⟨h0, h1, h2⟩ => by
      unfold slices_IndexFunc_diff_Edit_diff_ApplyF1_step1
      by_cases hl : i < s.length
      · rw [if_pos (decide_eq_true hl), if_pos ⟨h0, hl⟩, nthE]
        have hl' : i.toNat < s.length := by omega
        by_cases hb : bad (s.getD i.toNat (0, [], ())) = true
        · refine .inr ⟨_, if_pos hb, h0, ?_⟩
          rw [getD_lt hl'] at hb
          exact List.any_eq_true.2 ⟨_, List.getElem_mem hl', hb⟩
        · refine .inl ⟨i + 1, ?_, ⟨by omega, by omega, fun k hk => ?_⟩, by omega⟩
          · rw [if_neg (show ¬ diff_ApplyF1 _ = true from hb), if_pos (by omega)]
          · rcases Nat.lt_or_ge k i.toNat with h | h
            · exact h2 k h
            · rw [show k = i.toNat by omega]; exact Bool.eq_false_iff.2 hb
      · rw [if_neg (by simpa using hl)]
        exact .inr ⟨_, rfl, fun k hk => h2 k (by omega)⟩) 0 ⟨by omega, by omega, fun k hk => by omega⟩
  unfold slices_IndexFunc_diff_Edit_diff_ApplyF1
  cases r with
  | inl u =>
    refine ⟨-1, by rw [h1]; rfl, fun h => absurd h (by decide), fun h => ?_⟩
    obtain ⟨x, hx, hb⟩ := List.any_eq_true.1 h
    obtain ⟨k, hk, rfl⟩ := List.getElem_of_mem hx
    have := h2 k hk
    rw [getD_lt hk] at this
    rw [this] at hb
    cases hb
  | inr i => exact ⟨i, by rw [h1]; rfl, fun _ => h2.2, fun _ => h2.1⟩

theorem contains_is (s : List Ed) (hs : s.length ≤ 1000000) : slices_ContainsFunc_diff_Edit_diff_ApplyF1 s = some (s.any bad) := by
  obtain ⟨r, h1, h2⟩ := index_is s hs
  unfold slices_ContainsFunc_diff_Edit_diff_ApplyF1
  rw [h1]
  show some (decide (0 ≤ r)) = _
  congr 1
  rw [Bool.eq_iff_iff, decide_eq_true_iff]
  exact h2

def res (a : List Sb) (s : List Ed) : List Sb × Int :=
  if s.any bad = true then ([], 1) else match go a s [] 0 with
    | some (o, i) => if i < a.length then ([], 14) else (o, 0)
    | none => ([], 14)

theorem drop_cons' {l : List Ed} {x : Int} (h0 : 0 ≤ x) (h : x < l.length) : l.drop x.toNat = nth (.pair (.int .i64) (.pair .str .unit)) l x :: l.drop (x.toNat + 1) := by
  have h' : x.toNat < l.length := by omega
  rw [nthE, getD_lt h']; exact List.drop_eq_getElem_cons h'

theorem d3 {e : Ed} : ((!decide (e.1 = (3 : Int))) = true) ↔ ¬ e.1 = 3 := by simp
theorem d2 {e : Ed} : ((!decide (e.1 = (2 : Int))) = true) ↔ ¬ e.1 = 2 := by simp

theorem apply_is (a : List Sb) (s : List Ed) (ha : a.length ≤ 1000000) (hs : s.length ≤ 1000000) : diff_Apply a s = some (res a s) := by
  unfold diff_Apply res
  rw [contains_is s hs]
  show (if s.any bad = true then _ else _) = _
  by_cases hb : s.any bad = true
  · rw [if_pos hb, if_pos hb]
  rw [if_neg hb, if_neg hb]
  obtain ⟨r, h1, h2⟩ := loopM_inv (f := diff_Apply_step1 a s) (fun x => 0 ≤ x.2.2 ∧ x.2.2 ≤ s.length ∧ 0 ≤ x.2.1 ∧ x.2.1 ≤ a.length ∧ go a s [] 0 = go a (s.drop x.2.2.toNat) x.1 x.2.1.toNat ∧ x.1.length ≤ x.2.2.toNat) (fun x => (s.length - x.2.2).toNat)
    (fun r => match r with | .inl (o, i) => go a s [] 0 = some (o, i.toNat) ∧ 0 ≤ i ∧ i ≤ a.length | .inr (o, c) => o = [] ∧ c = 14 ∧ go a s [] 0 = none) (fun x ⟨h0, h1, h2, h3, h4, h5⟩ => by
      obtain ⟨out, i, x⟩ := x
      simp only [] at h0 h1 h2 h3 h4 h5
      unfold diff_Apply_step1
      simp only [Bool.or_eq_true, decide_eq_true_eq, Bool.not_eq_true', decide_eq_false_iff_not, beq_iff_eq]
      by_cases hl : x < s.length
      · rw [if_pos hl, if_pos ⟨h0, hl⟩]
        have hl' : x.toNat < s.length := by omega
        rw [drop_cons' h0 hl] at h4
        simp only [nthS]
        generalize he : nth (.pair (.int .i64) (.pair .str .unit)) s x = e at h4 ⊢
        rw [go_cons] at h4
        have hx : (x + 1).toNat = x.toNat + 1 := by omega
        by_cases h3' : e.1 = 3
        · rw [if_pos h3'] at h4
          rw [if_neg (show ¬ ¬ e.1 = 3 from fun h => h h3')]
          refine .inl ⟨(out ++ [e.2.1], i, x + 1), ?_, ⟨by simp only []; omega, by simp only []; omega, h2, h3, by simp only [hx]; exact h4, by simp only [List.length_append, List.length_cons, List.length_nil]; omega⟩, by simp only []; omega⟩
          show thn (some (Sum.inl i)) _ = _
          unfold thn
          simp only [Option.bind_some]
          rw [if_pos (show ¬ e.1 = 2 by rw [h3']; decide), if_pos (show (out.length + [e.2.1].length) * 16 ≤ 140737488355328 by simp only [List.length_cons, List.length_nil]; omega), if_pos (show -9223372036854775808 ≤ (x + 1) ∧ (x + 1) ≤ 9223372036854775807 by omega)]
        · rw [if_neg h3'] at h4
          rw [if_pos (show ¬ e.1 = 3 from h3')]
          by_cases hc : i.toNat < a.length ∧ a.getD i.toNat [] = e.2.1
          · rw [if_pos hc] at h4
            have hia : i < a.length := by omega
            rw [if_pos (show ¬ (a.length : Int) ≤ i → 0 ≤ i ∧ i < (a.length : Int) from fun _ => ⟨h2, hia⟩)]
            erw [if_neg (show ¬ ((a.length : Int) ≤ i ∨ ¬ a.getD i.toNat [] = e.2.1) from fun h => h.elim (fun h => absurd h (by omega)) (fun h => h hc.2)), if_pos (show -9223372036854775808 ≤ (i + 1) ∧ (i + 1) ≤ 9223372036854775807 by omega)]
            have hi : (i + 1).toNat = i.toNat + 1 := by omega
            by_cases h2' : e.1 = 2
            · rw [if_pos h2'] at h4
              refine .inl ⟨(out, i + 1, x + 1), ?_, ⟨by simp only []; omega, by simp only []; omega, by simp only []; omega, by simp only []; omega, by simp only [hx, hi]; exact h4, by simp only []; omega⟩, by simp only []; omega⟩
              unfold thn
              simp only [Option.bind_some]
              rw [if_neg (show ¬ ¬ e.1 = 2 from fun h => h h2'), if_pos (show -9223372036854775808 ≤ (x + 1) ∧ (x + 1) ≤ 9223372036854775807 by omega)]
            · rw [if_neg h2'] at h4
              refine .inl ⟨(out ++ [e.2.1], i + 1, x + 1), ?_, ⟨by simp only []; omega, by simp only []; omega, by simp only []; omega, by simp only []; omega, by simp only [hx, hi]; exact h4, by simp only [List.length_append, List.length_cons, List.length_nil]; omega⟩, by simp only []; omega⟩
              unfold thn
              simp only [Option.bind_some]
              rw [if_pos (show ¬ e.1 = 2 from h2'), if_pos (show (out.length + [e.2.1].length) * 16 ≤ 140737488355328 by simp only [List.length_cons, List.length_nil]; omega), if_pos (show -9223372036854775808 ≤ (x + 1) ∧ (x + 1) ≤ 9223372036854775807 by omega)]
          · rw [if_neg hc] at h4
            refine .inr ⟨.inr ([], 14), ?_, rfl, rfl, h4⟩
            rw [if_pos (show ¬ (a.length : Int) ≤ i → 0 ≤ i ∧ i < (a.length : Int) from fun h => ⟨h2, by omega⟩)]
            erw [if_pos (show (a.length : Int) ≤ i ∨ ¬ a.getD i.toNat [] = e.2.1 by
              rcases Nat.lt_or_ge i.toNat a.length with h | h
              · exact .inr fun h' => hc ⟨h, h'⟩
              · exact .inl (by omega))]
            rfl
      · rw [if_neg hl]
        refine .inr ⟨_, rfl, ?_, h2, h3⟩
        rw [h4, List.drop_eq_nil_of_le (by omega)]
        rfl) ([], 0, 0) ⟨by decide, by simp only []; omega, by decide, by simp only []; omega, rfl, Nat.le_refl _⟩
  rw [h1]
  cases r with
  | inl p =>
    obtain ⟨o, i⟩ := p
    obtain ⟨h3, h4, h5⟩ := h2
    rw [h3]
    show (if decide (i < (a.length : Int)) = true then some (([] : List Sb), (14 : Int)) else some (o, 0)) = _
    by_cases hi : i < a.length
    · rw [if_pos (decide_eq_true hi)]
      show _ = some (if i.toNat < a.length then _ else _)
      rw [if_pos (by omega)]
    · rw [if_neg (by simpa using hi)]
      show _ = some (if i.toNat < a.length then _ else _)
      rw [if_neg (by omega)]
  | inr p =>
    obtain ⟨o, c⟩ := p
    obtain ⟨rfl, rfl, h3⟩ := h2
    rw [h3]
    rfl

theorem reverse_is (s : List Ed) (hs : s.length ≤ 1000000) : diff_Reverse s = some (s.map rv) := by
  unfold diff_Reverse slices_Clone_diff_Edit
  rw [if_pos (by omega)]
  simp only [Option.bind_some, Nat.zero_add, List.nil_append]
  obtain ⟨r, h1, h2⟩ := loopM_inv (f := diff_Reverse_step1 (s, s.length)) (fun x => 0 ≤ x.1 ∧ x.1 ≤ s.length ∧ x.2 = (s.take x.1.toNat).map rv ++ s.drop x.1.toNat) (fun x => (s.length - x.1).toNat)
    (fun r => r = s.map rv) (fun x ⟨h0, h1, h2⟩ => by
      obtain ⟨x, out⟩ := x
      simp only [] at h0 h1 h2
      unfold diff_Reverse_step1
      simp only [decide_eq_true_eq]
      by_cases hl : x < s.length
      · have hl' : x.toNat < s.length := by omega
        have hx : (x + 1).toNat = x.toNat + 1 := by omega
        have hlen : ((s.take x.toNat).map rv).length = x.toNat := by rw [List.length_map, List.length_take]; omega
        have hg : nth (.pair (.int .i64) (.pair .str .unit)) out x = nth (.pair (.int .i64) (.pair .str .unit)) s x := by
          rw [nthE, nthE, h2, List.getD_eq_getElem?_getD, List.getElem?_append_right (by omega), hlen, Nat.sub_self, List.getElem?_drop, Nat.add_zero, ← List.getD_eq_getElem?_getD]
        have hset : ∀ y, List.set out x.toNat y = (s.take x.toNat).map rv ++ (y :: s.drop (x.toNat + 1)) := fun y => by
          rw [h2, List.set_append, if_neg (by omega), hlen, Nat.sub_self, drop_cons' h0 hl]; rfl
        have hmap : (s.take (x.toNat + 1)).map rv = (s.take x.toNat).map rv ++ [rv (nth (.pair (.int .i64) (.pair .str .unit)) s x)] := by
          rw [← take_snoc (d := (0, [], ())) hl', List.map_append]; rfl
        simp only [hg]
        have hd := drop_cons' h0 hl
        clear hg
        generalize he : nth (.pair (.int .i64) (.pair .str .unit)) s x = e at hmap hd ⊢
        rw [if_pos hl, if_pos ⟨h0, hl⟩]
        by_cases e2 : e.1 = 2
        · rw [if_pos e2, if_pos ⟨h0, hl⟩, if_pos (by omega)]
          refine .inl ⟨_, rfl, ⟨by simp only []; omega, by simp only []; omega, ?_⟩, by simp only []; omega⟩
          simp only []
          rw [hset, hx, hmap, show rv e = (3, e.2) by unfold rv; rw [if_pos e2], List.append_assoc]; rfl
        · rw [if_neg e2]
          by_cases e3 : e.1 = 3
          · rw [if_pos e3, if_pos ⟨h0, hl⟩, if_pos (by omega)]
            refine .inl ⟨_, rfl, ⟨by simp only []; omega, by simp only []; omega, ?_⟩, by simp only []; omega⟩
            simp only []
            rw [hset, hx, hmap, show rv e = (2, e.2) by unfold rv; rw [if_neg e2, if_pos e3], List.append_assoc]; rfl
          · rw [if_neg e3, if_pos (by omega)]
            refine .inl ⟨_, rfl, ⟨by simp only []; omega, by simp only []; omega, ?_⟩, by simp only []; omega⟩
            simp only []
            rw [hx, hmap, show rv e = e by unfold rv; rw [if_neg e2, if_neg e3], List.append_assoc, h2, hd]; rfl
      · rw [if_neg hl]
        refine .inr ⟨_, rfl, ?_⟩
        rw [h2, List.take_of_length_le (by omega), List.drop_eq_nil_of_le (by omega), List.append_nil]) (0, s) ⟨Int.le_refl 0, by simp only []; omega, by simp⟩
  unfold bnd
  rw [h1, h2]
  rfl
end Leads
end Go.Proofs.Ytfcibaiiobihnaa
