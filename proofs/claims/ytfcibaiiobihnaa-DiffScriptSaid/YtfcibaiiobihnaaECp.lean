/- DiffCommon: THE PLAIN LAW. The reference's common part is the program's. -/
import Derived.Test.YtfcibaiiobihnaaE04
import Derived.Test.YtfcibaiiobihnaaE07
import Derived.Test.YtfcibaiiobihnaaVt
namespace Go.Proofs.Ytfcibaiiobihnaa
open Vc
set_option linter.unusedSimpArgs false
set_option linter.unusedVariables false
namespace Comm
abbrev Sb := List UInt8

theorem bas_len (l : List Sb) : (bas l).length = l.length := by unfold bas; rw [List.length_map]
theorem bas_get {l : List Sb} {x : Nat} (h : x < (bas l).length) : (bas l)[x] = ⟨(l.getD x []).toArray⟩ := by
  unfold bas at h ⊢
  rw [List.length_map] at h
  rw [List.getElem_map, List.getD_eq_getElem?_getD, List.getElem?_eq_getElem h]
  rfl
theorem ba_inj {s t : Sb} : ((⟨s.toArray⟩ : ByteArray) = ⟨t.toArray⟩) ↔ s = t := by
  constructor
  · intro h
    have := congrArg (fun z : ByteArray => z.data.toList) h
    simpa using this
  · intro h; rw [h]

theorem tabD_len (a b : List Sb) : (tabD a b).length = a.length + 1 := by unfold tabD tabL; rw [List.length_map, List.length_range]
theorem tabD_row {a b : List Sb} {x : Int} (h0 : 0 ≤ x) (h : x ≤ a.length) : nth (.list (.int .i64)) (tabD a b) x = (List.range (b.length + 1)).map fun y => (tab (bas a) (bas b) x.toNat y : Int) := by
  unfold nth tabD tabL
  rw [List.getD_eq_getElem?_getD, List.getElem?_map, List.getElem?_range (by omega)]
  rfl
theorem tabD_rowlen {a b : List Sb} {x : Int} (h0 : 0 ≤ x) (h : x ≤ a.length) : (nth (.list (.int .i64)) (tabD a b) x).length = b.length + 1 := by
  rw [tabD_row h0 h]
  show ((List.range (b.length + 1)).map _).length = _
  rw [List.length_map, List.length_range]
theorem tabD_get {a b : List Sb} {x y : Int} (h0 : 0 ≤ x) (h : x ≤ a.length) (k0 : 0 ≤ y) (k : y ≤ b.length) : @Eq Int (nth (.int .i64) (nth (.list (.int .i64)) (tabD a b) x) y) ((tab (bas a) (bas b) x.toNat y.toNat : Nat) : Int) := by
  rw [tabD_row h0 h]
  unfold nth
  rw [List.getD_eq_getElem?_getD, List.getElem?_map, List.getElem?_range (by omega)]
  rfl

def fst' : List (Nat × Nat) → Int × Int
  | [] => (-1, -1)
  | p :: _ => (p.1, p.2)

theorem hit_cons {α : Type} [DecidableEq α] {x y : α} {xs ys : List α} {rest : Nat} : hit x xs rest (y :: ys) = if x = y ∧ lcs xs ys + 1 = rest then some 0 else (hit x xs rest ys).map (· + 1) := rfl
theorem hit_nil {α : Type} [DecidableEq α] {x : α} {xs : List α} {rest : Nat} : hit x xs rest ([] : List α) = none := rfl
theorem omap0 (o : Option Nat) : o = o.map (· + 0) := by cases o <;> rfl
/-- Along a row. -/
theorem row_is {a b : List Sb} (la : a.length ≤ 1000) (lb : b.length ≤ 1000) {i j x : Nat} (hi : i ≤ a.length) (hj : j ≤ b.length) (hx : x < a.length) (hxA : x < (bas a).length) :
    ∃ r, loopM (r05_next_step2 a b (tabD a b) i j x) (j : Int) = some r ∧ (match r with
      | .inl _ => hit ((bas a)[x]) ((bas a).drop (x + 1)) (tab (bas a) (bas b) i j) ((bas b).drop j) = none
      | .inr (.inl _) => False
      | .inr (.inr (.inl _)) => False
      | .inr (.inr (.inr p)) => ∃ k : Nat, hit ((bas a)[x]) ((bas a).drop (x + 1)) (tab (bas a) (bas b) i j) ((bas b).drop j) = some k ∧ p = ((x : Int), ((j + k : Nat) : Int))) := by
  refine loopM_inv (fun y => (j : Int) ≤ y ∧ y ≤ b.length ∧ hit ((bas a)[x]) ((bas a).drop (x + 1)) (tab (bas a) (bas b) i j) ((bas b).drop j) = (hit ((bas a)[x]) ((bas a).drop (x + 1)) (tab (bas a) (bas b) i j) ((bas b).drop y.toNat)).map (· + (y.toNat - j))) (fun y => (b.length - y).toNat) _ (fun y hy => ?_) _ ⟨Int.le_refl _, by omega, ?_⟩
  · obtain ⟨h0, h1, h2⟩ := hy
    by_cases hl : y < b.length
    · have hyB : y.toNat < (bas b).length := by rw [bas_len]; omega
      have hd : (bas b).drop y.toNat = (bas b)[y.toNat] :: (bas b).drop (y.toNat + 1) := List.drop_eq_getElem_cons hyB
      rw [hd] at h2
      have eq1 : ((bas a)[x] = (bas b)[y.toNat]) ↔ a.getD x [] = b.getD y.toNat [] := by rw [bas_get, bas_get, ba_inj]
      have t1 := tabD_get (a := a) (b := b) (x := (x : Int) + 1) (y := y + 1) (by omega) (by omega) (by omega) (by omega)
      have t2 := tabD_get (a := a) (b := b) (x := (i : Int)) (y := (j : Int)) (by omega) (by omega) (by omega) (by omega)
      have l1 := tabD_rowlen (a := a) (b := b) (x := (x : Int) + 1) (by omega) (by omega)
      have l2 := tabD_rowlen (a := a) (b := b) (x := (i : Int)) (by omega) (by omega)
      have l0 := tabD_len a b
      have bd := tab_le (bas a) (bas b) (x + 1) (y.toNat + 1)
      rw [bas_len] at bd
      rw [show ((x : Int) + 1).toNat = x + 1 by omega, show (y + 1).toNat = y.toNat + 1 by omega] at t1
      rw [show ((i : Int)).toNat = i by omega, show ((j : Int)).toNat = j by omega] at t2
      by_cases hc : a.getD x [] = b.getD y.toNat [] ∧ tab (bas a) (bas b) (x + 1) (y.toNat + 1) + 1 = tab (bas a) (bas b) i j
      · refine .inr ⟨.inr (.inr (.inr ((x : Int), y))), ?_, ?_⟩
        · unfold r05_next_step2
          refine (if_pos (decide_eq_true hl)).trans ((if_pos ⟨by omega, by omega⟩).trans ((if_pos ⟨by omega, hl⟩).trans ((if_pos (fun _ => ⟨by omega, by omega⟩)).trans ((if_pos (fun _ => ⟨by omega, by omega⟩)).trans ((if_pos (fun _ => ⟨by omega, by omega⟩)).trans ((if_pos (fun _ => ⟨by omega, by omega⟩)).trans ((if_pos (fun _ => ⟨by omega, by omega⟩)).trans ((if_pos (fun _ => ⟨by omega, by omega⟩)).trans ((if_pos (fun _ => ⟨by omega, by omega⟩)).trans (if_pos ?_))))))))))
          rw [Bool.and_eq_true]
          exact ⟨decide_eq_true hc.1, decide_eq_true (by omega)⟩
        · refine ⟨y.toNat - j, ?_, by rw [show j + (y.toNat - j) = y.toNat by omega, show ((y.toNat : Nat) : Int) = y by omega]⟩
          rw [h2, hit_cons, if_pos ⟨eq1.2 hc.1, by have := hc.2; unfold tab at this ⊢; exact this⟩]
          simp
      · refine .inl ⟨y + 1, ?_, ⟨by omega, by omega, ?_⟩, by omega⟩
        · unfold r05_next_step2
          refine (if_pos (decide_eq_true hl)).trans ((if_pos ⟨by omega, by omega⟩).trans ((if_pos ⟨by omega, hl⟩).trans ((if_pos (fun _ => ⟨by omega, by omega⟩)).trans ((if_pos (fun _ => ⟨by omega, by omega⟩)).trans ((if_pos (fun _ => ⟨by omega, by omega⟩)).trans ((if_pos (fun _ => ⟨by omega, by omega⟩)).trans ((if_pos (fun _ => ⟨by omega, by omega⟩)).trans ((if_pos (fun _ => ⟨by omega, by omega⟩)).trans ((if_pos (fun _ => ⟨by omega, by omega⟩)).trans ((if_neg ?_).trans (if_pos ⟨by omega, by omega⟩)))))))))))
          rw [Bool.and_eq_true]
          rintro ⟨g1, g2⟩
          exact hc ⟨of_decide_eq_true g1, by have := of_decide_eq_true g2; omega⟩
        · rw [h2, hit_cons, if_neg (fun g => hc ⟨eq1.1 g.1, by have := g.2; unfold tab; unfold tab at this; exact this⟩)]
          rw [show (y + 1).toNat = y.toNat + 1 by omega, Option.map_map]
          congr 1
          funext k
          show k + 1 + (y.toNat - j) = k + (y.toNat + 1 - j)
          omega
    · refine .inr ⟨.inl (), ?_, ?_⟩
      · unfold r05_next_step2
        rw [if_neg (fun h => hl (of_decide_eq_true h))]
      · rw [h2, show (bas b).drop y.toNat = [] from List.drop_eq_nil_of_le (by rw [bas_len]; omega)]
        rw [hit_nil (α := ByteArray)]
        rfl
  · rw [show ((j : Int)).toNat = j by omega, Nat.sub_self]
    exact omap0 _

theorem step_l {a b : List Sb} {l : List (List Int)} {i j x : Int} {u : Unit} (hl : x < a.length) (h0 : 0 ≤ x) (la : a.length ≤ 1000) (k : loopM (r05_next_step2 a b l i j x) j = some (.inl u)) : r05_next_step1 a b l i j x = some (.inl (x + 1)) := by
  unfold r05_next_step1
  refine (if_pos (decide_eq_true hl)).trans ?_
  rw [k]
  unfold thn
  simp only [Option.bind_some]
  have hb : -9223372036854775808 ≤ x + 1 ∧ x + 1 ≤ 9223372036854775807 := by omega
  rw [if_pos hb]
theorem step_r {a b : List Sb} {l : List (List Int)} {i j x : Int} {p : Int × Int} (hl : x < a.length) (k : loopM (r05_next_step2 a b l i j x) j = some (.inr (.inr (.inr p)))) : r05_next_step1 a b l i j x = some (.inr (.inr p)) := by
  unfold r05_next_step1
  refine (if_pos (decide_eq_true hl)).trans ?_
  rw [k]
  unfold thn
  simp only [Option.bind_some]
theorem next_is {a b : List Sb} (la : a.length ≤ 1000) (lb : b.length ≤ 1000) {i j : Nat} (hi : i ≤ a.length) (hj : j ≤ b.length) :
    r05_next a b (tabD a b) i j = some (fst' (pairs ((bas a).drop i) i ((bas b).drop j) j)) := by
  obtain ⟨r, h1, h2⟩ := loopM_inv (f := r05_next_step1 a b (tabD a b) i j) (fun x => (i : Int) ≤ x ∧ x ≤ a.length ∧ pairs ((bas a).drop i) i ((bas b).drop j) j = pairs ((bas a).drop x.toNat) x.toNat ((bas b).drop j) j ∧ tab (bas a) (bas b) i j = tab (bas a) (bas b) x.toNat j) (fun x => (a.length - x).toNat)
    (fun r => match r with | .inl _ => pairs ((bas a).drop i) i ((bas b).drop j) j = [] | .inr p => p = fst' (pairs ((bas a).drop i) i ((bas b).drop j) j)) (fun x ⟨h0, h1, h2, h3⟩ => by
      by_cases hl : x < a.length
      · obtain ⟨x, rfl⟩ : ∃ n : Nat, x = n := ⟨x.toNat, by omega⟩
        rw [show ((x : Int)).toNat = x by omega] at h2 h3
        have hxA : x < (bas a).length := by rw [bas_len]; omega
        obtain ⟨r, k1, k2⟩ := row_is la lb hi hj (x := x) (by omega) hxA
        have hs := pairs_step (a := bas a) (b := bas b) (i := x) (j := j) hxA
        rw [← h3] at hs
        match r, k2 with
        | .inl _, k2 =>
          rw [k2] at hs
          refine .inl ⟨(x : Int) + 1, ?_, ⟨by omega, by omega, ?_, ?_⟩, by omega⟩
          · exact step_l hl (by omega) la k1
          · rw [show ((x : Int) + 1).toNat = x + 1 by omega, h2, hs]
          · rw [show ((x : Int) + 1).toNat = x + 1 by omega, h3]
            rw [h3] at k2
            unfold tab at k2 ⊢
            rw [List.drop_eq_getElem_cons hxA] at k2 ⊢
            exact hit_none k2
        | .inr (.inr (.inr p)), ⟨k, k3, k4⟩ =>
          rw [k3] at hs
          refine .inr ⟨.inr p, ?_, ?_⟩
          · exact step_r hl k1
          · rw [h2, hs, k4]
            rfl
      · refine .inr ⟨.inl (), ?_, ?_⟩
        · unfold r05_next_step1
          rw [if_neg (fun h => hl (of_decide_eq_true h))]
        · rw [h2, show (bas a).drop x.toNat = [] from List.drop_eq_nil_of_le (by rw [bas_len]; omega)]
          rfl) (i : Int) ⟨Int.le_refl _, by omega, by rw [show ((i : Int)).toNat = i by omega], by rw [show ((i : Int)).toNat = i by omega]⟩
  unfold r05_next
  rw [h1]
  cases r with
  | inl u => rw [h2]; rfl
  | inr p => rw [show p = _ from h2]; rfl

theorem pairs_tail {α : Type} [DecidableEq α] {A B : List α} {u v : Nat} {ps : List (Nat × Nat)} : ∀ (xs : List α) (i : Nat) (ys : List α) (j : Nat), A.drop i = xs → B.drop j = ys → pairs xs i ys j = (u, v) :: ps → ps = pairs (A.drop (u + 1)) (u + 1) (B.drop (v + 1)) (v + 1)
  | [], _, _, _, _, _, h => by cases h
  | x :: xs, i, ys, j, hx, hy, h => by
    have hi : i < A.length := by
      rcases Nat.lt_or_ge i A.length with h | h
      · exact h
      · rw [List.drop_eq_nil_of_le h] at hx; cases hx
    rw [List.drop_eq_getElem_cons hi] at hx
    obtain ⟨e1, e2⟩ := List.cons.inj hx
    unfold pairs at h
    split at h
    · exact pairs_tail xs (i + 1) ys j e2 hy h
    · rename_i k hk
      obtain ⟨g1, g2⟩ := List.cons.inj h
      obtain ⟨rfl, rfl⟩ := Prod.mk.inj g1
      rw [← g2, e2, ← hy, List.drop_drop]
      rfl

def emb (p : Nat × Nat) : Int × (Int × Unit) := ((p.1 : Int), (p.2 : Int), ())

theorem common_is (a b : List Sb) (la : a.length ≤ 1000) (lb : b.length ≤ 1000) : r05_Common a b = some (pairsD a b) := by
  have hch := pairs_chain (bas a) (bas b) (bas a) 0 (bas b) 0 rfl rfl
  obtain ⟨r, h1, h2⟩ := loopM_inv (f := r05_Common_step1 a b) (fun x => ∃ (i j : Nat) (o : List (Nat × Nat)), x = (o.map emb, (i : Int), (j : Int)) ∧ i ≤ a.length ∧ j ≤ b.length ∧ o.length ≤ i ∧ pairs (bas a) 0 (bas b) 0 = o ++ pairs ((bas a).drop i) i ((bas b).drop j) j) (fun x => (a.length - x.2.1).toNat)
    (fun r => r = pairsD a b) (fun x ⟨i, j, o, hx, hi, hj, hol, hp⟩ => by
      subst hx
      have hn := next_is la lb hi hj
      have hc := pairs_chain (bas a) (bas b) ((bas a).drop i) i ((bas b).drop j) j rfl rfl
      cases hq : pairs ((bas a).drop i) i ((bas b).drop j) j with
      | nil =>
        rw [hq] at hn hp
        refine .inr ⟨o.map emb, ?_, ?_⟩
        · unfold r05_Common_step1
          simp only []
          rw [hn]
          simp only [Option.bind_some]
          rw [show (decide ((fst' []).1 < (0 : Int))) = true from rfl]
          try rfl
        · unfold pairsD
          rw [hp, List.append_nil]; rfl
      | cons p ps =>
        obtain ⟨u, v⟩ := p
        rw [hq] at hn hc
        obtain ⟨c1, c2, ⟨hu, hv, _⟩, _⟩ := hc
        rw [bas_len] at hu hv
        have hs : ps = pairs ((bas a).drop (u + 1)) (u + 1) ((bas b).drop (v + 1)) (v + 1) := pairs_tail _ _ _ _ rfl rfl hq
        refine .inl ⟨((o ++ [(u, v)]).map emb, ((u + 1 : Nat) : Int), ((v + 1 : Nat) : Int)), ?_, ⟨u + 1, v + 1, o ++ [(u, v)], rfl, by omega, by omega, by rw [List.length_append]; simp only [List.length_cons, List.length_nil]; omega, ?_⟩, by simp only []; omega⟩
        · unfold r05_Common_step1
          simp only []
          rw [hn]
          simp only [Option.bind_some, fst']
          refine (if_neg ?_).trans ((if_pos ?_).trans ((if_pos ?_).trans ((if_pos ?_).trans ?_)))
          · show ¬ (decide ((u : Int) < 0)) = true
            simp
          · simp only [List.length_map, List.length_cons, List.length_nil]; omega
          · show -9223372036854775808 ≤ (u : Int) + 1 ∧ (u : Int) + 1 ≤ 9223372036854775807
            omega
          · show -9223372036854775808 ≤ (v : Int) + 1 ∧ (v : Int) + 1 ≤ 9223372036854775807
            omega
          · rw [List.map_append]; rfl
        · rw [hp, hq, List.append_assoc, ← hs]; rfl) ([], 0, 0) ⟨0, 0, [], rfl, Nat.zero_le _, Nat.zero_le _, Nat.le_refl _, rfl⟩
  unfold r05_Common
  rw [if_pos (by omega), if_pos (by omega), h1, h2]
theorem pairsD_len (a b : List Sb) : (pairsD a b).length = lcs (bas a) (bas b) := by unfold pairsD; rw [List.length_map, pairs_length]
theorem lcs_bd (a b : List Sb) : lcs (bas a) (bas b) ≤ a.length := by
  obtain ⟨s, h1, h2, h3⟩ := lcs_common (bas a) (bas b)
  have := h1.length_le
  rw [bas_len] at this
  omega
theorem distance_is (a b : List Sb) (la : a.length ≤ 1000) (lb : b.length ≤ 1000) : r05_Distance a b = some (distD a b) := by
  have hl := pairsD_len a b
  have hb := lcs_bd a b
  unfold r05_Distance
  rw [if_pos (by omega), common_is a b la lb]
  simp only [Option.bind_some]
  rw [if_pos (by omega), if_pos (by omega)]
  unfold distD dist
  rw [bas_len, bas_len, hl]
end Comm
end Go.Proofs.Ytfcibaiiobihnaa
