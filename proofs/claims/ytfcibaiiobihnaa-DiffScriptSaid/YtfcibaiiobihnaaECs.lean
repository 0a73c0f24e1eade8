/- DiffScript: THE PLAIN LAW. Both scripts are the script of the pairs; both turned scripts are the script turned edit by edit. -/
import Derived.Test.YtfcibaiiobihnaaE10
import Derived.Test.YtfcibaiiobihnaaECr
namespace Go.Proofs.Ytfcibaiiobihnaa
open Vc
set_option linter.unusedSimpArgs false
set_option linter.unusedVariables false
namespace Scr
open Comm
abbrev Ed := Int × (Sb × Unit)
theorem nthS (l : List Sb) (i : Int) : nth .str l i = l.getD i.toNat [] := rfl
theorem nthE (l : List Ed) (i : Int) : nth (.pair (.int .i64) (.pair .str .unit)) l i = l.getD i.toNat ((0 : Int), ([] : Sb), ()) := rfl
theorem getD_lt {α : Type} {l : List α} {i : Nat} {d : α} (h : i < l.length) : l.getD i d = l[i] := by
  rw [List.getD_eq_getElem?_getD, List.getElem?_eq_getElem h]; rfl
theorem take_snoc {α : Type} {l : List α} {i : Nat} {d : α} (h : i < l.length) : l.take i ++ [l.getD i d] = l.take (i + 1) := by
  rw [getD_lt h, List.take_add_one, List.getElem?_eq_getElem h]; rfl

/-- An edit turned round. -/
def rv (e : Ed) : Ed := if e.1 = 2 then (3, e.2) else if e.1 = 3 then (2, e.2) else e

theorem drop_cons' {l : List Ed} {x : Int} (h0 : 0 ≤ x) (h : x < l.length) : l.drop x.toNat = nth (.pair (.int .i64) (.pair .str .unit)) l x :: l.drop (x.toNat + 1) := by
  have h' : x.toNat < l.length := by omega
  rw [nthE, getD_lt h']; exact List.drop_eq_getElem_cons h'

theorem short_is (a : List Ed) (ha : a.length ≤ 9223372036854775807) : ∃ b, l05_short a = some b ∧ (b = true → a.length ≤ 60) := by
  obtain ⟨r, h1, h2⟩ := loopM_inv (f := l05_short_step1 a) (fun i => 0 ≤ i ∧ i ≤ a.length) (fun i => (a.length - i).toNat) (fun r => match r with | .inl _ => True | .inr b => b = false) (fun i ⟨h0, h1⟩ => by
    unfold l05_short_step1
    simp only [decide_eq_true_eq]
    by_cases hl : i < a.length
    · rw [if_pos hl, if_pos ⟨h0, hl⟩]
      by_cases hk : (100 : Int) < (List.length ((nth (.pair (.int .i64) (.pair .str .unit)) a i).2.1) : Int)
      · exact .inr ⟨_, if_pos hk, rfl⟩
      · rw [if_neg hk, if_pos (by omega)]
        exact .inl ⟨_, rfl, ⟨by omega, by omega⟩, by omega⟩
    · rw [if_neg hl]
      exact .inr ⟨_, rfl, trivial⟩) 0 ⟨by omega, by omega⟩
  unfold l05_short
  rw [h1]
  cases r with
  | inl u => exact ⟨_, rfl, fun h => by have := of_decide_eq_true h; omega⟩
  | inr b => exact ⟨b, rfl, fun h => by rw [show b = false from h2] at h; cases h⟩

theorem own_is (s : List Ed) (hs : s.length ≤ 1000000) : l05_own s = some s := by
  obtain ⟨r, h1, h2⟩ := loopM_inv (f := l05_own_step1 s) (fun x => 0 ≤ x.2 ∧ x.2 ≤ s.length ∧ x.1 = s.take x.2.toNat) (fun x => (s.length - x.2).toNat) (fun r => r = s) (fun x ⟨h0, h1, h2⟩ => by
    obtain ⟨out, i⟩ := x
    simp only [] at h0 h1 h2
    unfold l05_own_step1
    simp only [decide_eq_true_eq]
    by_cases hl : i < s.length
    · have hl' : i.toNat < s.length := by omega
      have hi : (i + 1).toNat = i.toNat + 1 := by omega
      have ho : out.length ≤ s.length := by rw [h2, List.length_take]; omega
      rw [if_pos hl, if_pos ⟨h0, hl⟩, if_pos (by simp only [List.length_cons, List.length_nil]; omega), if_pos (by omega)]
      refine .inl ⟨_, rfl, ⟨by simp only []; omega, by simp only []; omega, ?_⟩, by simp only []; omega⟩
      simp only []
      rw [hi, h2, nthE, take_snoc hl']
    · rw [if_neg hl]
      exact .inr ⟨_, rfl, by rw [h2, List.take_of_length_le (by omega)]⟩) ([], 0) ⟨Int.le_refl 0, by simp only []; omega, rfl⟩
  unfold l05_own bnd
  rw [h1, h2]
  rfl

theorem reverse_is (s : List Ed) (hs : s.length ≤ 1000000) : diff_Reverse s = some (s.map rv) := by
  unfold diff_Reverse slices_Clone_diff_Edit
  rw [if_pos (by omega)]
  simp only [Option.bind_some, Nat.zero_add, List.nil_append]
  obtain ⟨r, h1, h2⟩ := loopM_inv (f := diff_Reverse_step1 (s, s.length)) (fun x => 0 ≤ x.1 ∧ x.1 ≤ s.length ∧ x.2 = (s.take x.1.toNat).map rv ++ s.drop x.1.toNat) (fun x => (s.length - x.1).toNat)
    (fun r => r = s.map rv) (fun x ⟨h0, h1, h2⟩ => by
      obtain ⟨x, out⟩ := x
      simp only [] at h0 h1 h2
      unfold diff_Reverse_step1
      simp only [decide_eq_true_eq]
      by_cases hl : x < s.length
      · have hl' : x.toNat < s.length := by omega
        have hx : (x + 1).toNat = x.toNat + 1 := by omega
        have hlen : ((s.take x.toNat).map rv).length = x.toNat := by rw [List.length_map, List.length_take]; omega
        have hg : nth (.pair (.int .i64) (.pair .str .unit)) out x = nth (.pair (.int .i64) (.pair .str .unit)) s x := by
          rw [nthE, nthE, h2, List.getD_eq_getElem?_getD, List.getElem?_append_right (by omega), hlen, Nat.sub_self, List.getElem?_drop, Nat.add_zero, ← List.getD_eq_getElem?_getD]
        have hset : ∀ y, List.set out x.toNat y = (s.take x.toNat).map rv ++ (y :: s.drop (x.toNat + 1)) := fun y => by
          rw [h2, List.set_append, if_neg (by omega), hlen, Nat.sub_self, drop_cons' h0 hl]; rfl
        have hmap : (s.take (x.toNat + 1)).map rv = (s.take x.toNat).map rv ++ [rv (nth (.pair (.int .i64) (.pair .str .unit)) s x)] := by
          rw [← take_snoc (d := (0, [], ())) hl', List.map_append]; rfl
        simp only [hg]
        have hd := drop_cons' h0 hl
        clear hg
        generalize he : nth (.pair (.int .i64) (.pair .str .unit)) s x = e at hmap hd ⊢
        rw [if_pos hl, if_pos ⟨h0, hl⟩]
        by_cases e2 : e.1 = 2
        · rw [if_pos e2, if_pos ⟨h0, hl⟩, if_pos (by omega)]
          refine .inl ⟨_, rfl, ⟨by simp only []; omega, by simp only []; omega, ?_⟩, by simp only []; omega⟩
          simp only []
          rw [hset, hx, hmap, show rv e = (3, e.2) by unfold rv; rw [if_pos e2], List.append_assoc]; rfl
        · rw [if_neg e2]
          by_cases e3 : e.1 = 3
          · rw [if_pos e3, if_pos ⟨h0, hl⟩, if_pos (by omega)]
            refine .inl ⟨_, rfl, ⟨by simp only []; omega, by simp only []; omega, ?_⟩, by simp only []; omega⟩
            simp only []
            rw [hset, hx, hmap, show rv e = (2, e.2) by unfold rv; rw [if_neg e2, if_pos e3], List.append_assoc]; rfl
          · rw [if_neg e3, if_pos (by omega)]
            refine .inl ⟨_, rfl, ⟨by simp only []; omega, by simp only []; omega, ?_⟩, by simp only []; omega⟩
            simp only []
            rw [hx, hmap, show rv e = e by unfold rv; rw [if_neg e2, if_neg e3], List.append_assoc, h2, hd]; rfl
      · rw [if_neg hl]
        refine .inr ⟨_, rfl, ?_⟩
        rw [h2, List.take_of_length_le (by omega), List.drop_eq_nil_of_le (by omega), List.append_nil]) (0, s) ⟨Int.le_refl 0, by simp only []; omega, by simp⟩
  unfold bnd
  rw [h1, h2]
  rfl

theorem r05_reverse_is (s : List Ed) (hs : s.length ≤ 1000000) : r05_Reverse s = some (s.map rv) := by
  obtain ⟨r, h1, h2⟩ := loopM_inv (f := r05_Reverse_step1 s) (fun x => 0 ≤ x.2 ∧ x.2 ≤ s.length ∧ x.1 = (s.take x.2.toNat).map rv) (fun x => (s.length - x.2).toNat)
    (fun r => r = s.map rv) (fun x ⟨h0, h1, h2⟩ => by
      obtain ⟨out, x⟩ := x
      simp only [] at h0 h1 h2
      unfold r05_Reverse_step1
      simp only [decide_eq_true_eq]
      by_cases hl : x < s.length
      · have hl' : x.toNat < s.length := by omega
        have hx : (x + 1).toNat = x.toNat + 1 := by omega
        have hlen : out.length ≤ s.length := by rw [h2, List.length_map, List.length_take]; omega
        have hmap : (s.take (x.toNat + 1)).map rv = (s.take x.toNat).map rv ++ [rv (nth (.pair (.int .i64) (.pair .str .unit)) s x)] := by
          rw [← take_snoc (d := (0, [], ())) hl', List.map_append]; rfl
        generalize he : nth (.pair (.int .i64) (.pair .str .unit)) s x = e at hmap ⊢
        rw [if_pos hl, if_pos ⟨h0, hl⟩, if_pos ⟨h0, hl⟩]
        by_cases e2 : e.1 = 2
        · rw [if_pos e2, if_pos (by simp only [List.length_cons, List.length_nil]; omega), if_pos (by omega)]
          refine .inl ⟨_, rfl, ⟨by simp only []; omega, by simp only []; omega, ?_⟩, by simp only []; omega⟩
          simp only []
          rw [hx, hmap, show rv e = (3, e.2) by unfold rv; rw [if_pos e2], h2]
        · rw [if_neg e2]
          by_cases e3 : e.1 = 3
          · rw [if_pos e3, if_pos (by simp only [List.length_cons, List.length_nil]; omega), if_pos (by omega)]
            refine .inl ⟨_, rfl, ⟨by simp only []; omega, by simp only []; omega, ?_⟩, by simp only []; omega⟩
            simp only []
            rw [hx, hmap, show rv e = (2, e.2) by unfold rv; rw [if_neg e2, if_pos e3], h2]
          · rw [if_neg e3, if_pos (by simp only [List.length_cons, List.length_nil]; omega), if_pos (by omega)]
            refine .inl ⟨_, rfl, ⟨by simp only []; omega, by simp only []; omega, ?_⟩, by simp only []; omega⟩
            simp only []
            rw [hx, hmap, show rv e = e by unfold rv; rw [if_neg e2, if_neg e3], h2]
      · rw [if_neg hl]
        refine .inr ⟨_, rfl, ?_⟩
        rw [h2, List.take_of_length_le (by omega)]) ([], 0) ⟨Int.le_refl 0, by simp only []; omega, by simp⟩
  unfold r05_Reverse bnd
  rw [h1, h2]
  rfl

theorem same_self (s : List Ed) (hs : s.length ≤ 1000000) : l05_same s s = some true := by
  obtain ⟨r, h1, h2⟩ := loopM_inv (f := l05_same_step1 s s) (fun i => 0 ≤ i ∧ i ≤ s.length) (fun i => (s.length - i).toNat) (fun r => r = .inl ()) (fun i ⟨h0, h1⟩ => by
    unfold l05_same_step1
    by_cases hl : i < s.length
    · refine .inl ⟨i + 1, ?_, ⟨by omega, by omega⟩, by omega⟩
      rw [if_pos (decide_eq_true hl), if_pos ⟨h0, hl⟩, if_pos ⟨h0, hl⟩]
      simp only [decide_true, Bool.and_self, Bool.not_true, Bool.false_eq_true, reduceIte]
      rw [if_pos (by omega)]
    · rw [if_neg (fun h => hl (of_decide_eq_true h))]
      exact .inr ⟨_, rfl, rfl⟩) 0 ⟨by omega, by omega⟩
  unfold l05_same
  rw [h1, h2]
  simp only [decide_true, Bool.not_true, Bool.false_eq_true, reduceIte]
  rfl

def ed (k : Int) (l : List Sb) : List Ed := l.map fun s => (k, (s, ()))
theorem ed_len (k : Int) (l : List Sb) : (ed k l).length = l.length := by unfold ed; rw [List.length_map]
theorem cut_cons {l : List Sb} {i p : Int} (h0 : 0 ≤ i) (h : i < p) (hp : p ≤ l.length) : cutL l i p = nth .str l i :: cutL l (i + 1) p := by
  unfold cutL
  have h' : i.toNat < l.length := by omega
  rw [nthS, getD_lt h', List.drop_eq_getElem_cons h', show p.toNat - i.toNat = (p.toNat - (i + 1).toNat) + 1 by omega, List.take_succ_cons, show (i + 1).toNat = i.toNat + 1 by omega]
theorem cut_nil {l : List Sb} {i : Int} : cutL l i i = [] := by unfold cutL; rw [Nat.sub_self, List.take_zero]
theorem cut_len {l : List Sb} {i p : Int} : (cutL l i p).length ≤ p.toNat - i.toNat := by unfold cutL; exact List.length_take_le _ _

theorem f1_is {a b : List Sb} {i j p q : Int} {es : List Ed} (la : a.length ≤ 1000) (lb : b.length ≤ 1000) (h0 : 0 ≤ i) (hp : i ≤ p) (hp' : p ≤ a.length) (k0 : 0 ≤ j) (hq : j ≤ q) (hq' : q ≤ b.length) (he : es.length ≤ i.toNat + j.toNat) :
    diff_ScriptF1 (p, (q, ())) i es a j b = some (p, (es ++ ed 2 (cutL a i p)) ++ ed 3 (cutL b j q), q) := by
  obtain ⟨r, h1, h2⟩ := loopM_inv (f := diff_ScriptF1_step1 (p, (q, ())) a) (fun x => 0 ≤ x.1 ∧ x.1 ≤ p ∧ x.2.length ≤ x.1.toNat + j.toNat ∧ x.2 ++ ed 2 (cutL a x.1 p) = es ++ ed 2 (cutL a i p)) (fun x => (p - x.1).toNat) (fun r => r = (p, es ++ ed 2 (cutL a i p))) (fun x ⟨k1, k2, k3, k4⟩ => by
    obtain ⟨i, es⟩ := x
    simp only [] at k1 k2 k3 k4
    unfold diff_ScriptF1_step1
    simp only [decide_eq_true_eq]
    by_cases hi : i < p
    · rw [if_pos hi, if_pos ⟨k1, by omega⟩, if_pos (by simp only [List.length_cons, List.length_nil]; omega), if_pos (by omega)]
      refine .inl ⟨_, rfl, ⟨by simp only []; omega, by simp only []; omega, by simp only [List.length_append, List.length_cons, List.length_nil]; omega, ?_⟩, by simp only []; omega⟩
      simp only []
      rw [← k4, cut_cons k1 hi hp', List.append_assoc]
      rfl
    · rw [if_neg hi]
      have : i = p := by omega
      subst this
      refine .inr ⟨_, rfl, ?_⟩
      rw [← k4, cut_nil]
      show _ = (i, es ++ [])
      rw [List.append_nil]) (i, es) ⟨h0, hp, he, rfl⟩
  subst h2
  generalize hes : es ++ ed 2 (cutL a i p) = es1 at h1
  have hl1 : es1.length ≤ p.toNat + j.toNat := by
    rw [← hes, List.length_append, ed_len]
    have := cut_len (l := a) (i := i) (p := p)
    omega
  obtain ⟨r, h3, h4⟩ := loopM_inv (f := diff_ScriptF1_step2 (p, (q, ())) b) (fun x => 0 ≤ x.2 ∧ x.2 ≤ q ∧ x.1.length ≤ p.toNat + x.2.toNat ∧ x.1 ++ ed 3 (cutL b x.2 q) = es1 ++ ed 3 (cutL b j q)) (fun x => (q - x.2).toNat) (fun r => r = (es1 ++ ed 3 (cutL b j q), q)) (fun x ⟨k1, k2, k3, k4⟩ => by
    obtain ⟨es, j⟩ := x
    simp only [] at k1 k2 k3 k4
    unfold diff_ScriptF1_step2
    simp only [decide_eq_true_eq]
    by_cases hj : j < q
    · rw [if_pos hj, if_pos ⟨k1, by omega⟩, if_pos (by simp only [List.length_cons, List.length_nil]; omega), if_pos (by omega)]
      refine .inl ⟨_, rfl, ⟨by simp only []; omega, by simp only []; omega, by simp only [List.length_append, List.length_cons, List.length_nil]; omega, ?_⟩, by simp only []; omega⟩
      simp only []
      rw [← k4, cut_cons k1 hj hq', List.append_assoc]
      rfl
    · rw [if_neg hj]
      have : j = q := by omega
      subst this
      refine .inr ⟨_, rfl, ?_⟩
      rw [← k4, cut_nil]
      show _ = (es ++ [], j)
      rw [List.append_nil]) (es1, j) ⟨k0, hq, hl1, rfl⟩
  subst h4
  unfold diff_ScriptF1 bnd
  rw [h1]
  simp only [Option.bind_some]
  rw [h3]
  rfl

theorem app_loop (k : Int) (g : List Sb) (out : List Ed) (f : List Ed × Int → Option ((List Ed × Int) ⊕ List Ed)) (ho : out.length ≤ 200000) (hg : g.length ≤ 100000)
    (hf : ∀ (es : List Ed) (x : Int), 0 ≤ x → x ≤ g.length → es.length ≤ 300000 → f (es, x) = if x < g.length then some (.inl (es ++ [(k, (nth .str g x, ()))], x + 1)) else some (.inr es)) : loopM f (out, 0) = some (out ++ ed k g) := by
  obtain ⟨r, h1, h2⟩ := loopM_inv (f := f) (fun x => 0 ≤ x.2 ∧ x.2 ≤ g.length ∧ x.1 = out ++ ed k (g.take x.2.toNat)) (fun x => (g.length - x.2).toNat) (fun r => r = out ++ ed k g) (fun x ⟨k1, k2, k3⟩ => by
    obtain ⟨es, x⟩ := x
    simp only [] at k1 k2 k3
    have hl : es.length ≤ 300000 := by rw [k3, List.length_append, ed_len, List.length_take]; omega
    rw [hf es x k1 k2 hl]
    by_cases h : x < g.length
    · rw [if_pos h]
      refine .inl ⟨_, rfl, ⟨by simp only []; omega, by simp only []; omega, ?_⟩, by simp only []; omega⟩
      simp only []
      have h' : x.toNat < g.length := by omega
      rw [k3, show (x + 1).toNat = x.toNat + 1 by omega, ← take_snoc (d := []) h', List.append_assoc]
      unfold ed
      rw [List.map_append]
      rfl
    · rw [if_neg h]
      exact .inr ⟨_, rfl, by rw [k3, List.take_of_length_le (by omega)]⟩) (out, 0) ⟨Int.le_refl 0, by simp only []; omega, by simp [ed]⟩
  rw [h1, h2]

theorem parts_is {out : List Ed} {g d : List Sb} (ho : out.length ≤ 100000) (hg : g.length ≤ 100000) (hd : d.length ≤ 100000) : r05_parts out g d = some ((out ++ ed 2 g) ++ ed 3 d) := by
  unfold r05_parts bnd
  rw [app_loop 2 g out (r05_parts_step1 g) (by omega) hg (fun es x h0 h1 h2 => by
    unfold r05_parts_step1
    simp only [decide_eq_true_eq]
    by_cases h : x < g.length
    · rw [if_pos h, if_pos ⟨h0, h⟩, if_pos (by simp only [List.length_cons, List.length_nil]; omega), if_pos (by omega), if_pos h]
    · rw [if_neg h, if_neg h])]
  simp only [Option.bind_some]
  rw [app_loop 3 d (out ++ ed 2 g) (r05_parts_step2 d) (by rw [List.length_append, ed_len]; omega) hd (fun es x h0 h1 h2 => by
    unfold r05_parts_step2
    simp only [decide_eq_true_eq]
    by_cases h : x < d.length
    · rw [if_pos h, if_pos ⟨h0, h⟩, if_pos (by simp only [List.length_cons, List.length_nil]; omega), if_pos (by omega), if_pos h]
    · rw [if_neg h, if_neg h])]
  rfl

/-- The script of some pairs, from two places on. -/
def scr (a b : List Sb) : List (Nat × Nat) → Int → Int → List Ed
  | [], i, j => ed 2 (cutL a i a.length) ++ ed 3 (cutL b j b.length)
  | (u, v) :: ps, i, j => ed 2 (cutL a i u) ++ (ed 3 (cutL b j v) ++ (((1 : Int), (nth .str a u, ())) :: scr a b ps ((u : Int) + 1) ((v : Int) + 1)))

structure Inv (a b : List Sb) (ps : List (Nat × Nat)) (es : List Ed) (i j x : Int) : Prop where
  x0 : 0 ≤ x
  x1 : x ≤ ps.length
  i0 : 0 ≤ i
  i1 : i ≤ a.length
  j0 : 0 ≤ j
  j1 : j ≤ b.length
  le : es.length ≤ i.toNat + j.toNat
  ch : Chain (bas a) (bas b) i.toNat j.toNat (ps.drop x.toNat)
  eq : es ++ scr a b (ps.drop x.toNat) i j = scr a b ps 0 0

theorem inv_next {a b : List Sb} {ps : List (Nat × Nat)} {es : List Ed} {i j x : Int} (h : Inv a b ps es i j x) (hl : x < ps.length) (la : a.length ≤ 1000) (lb : b.length ≤ 1000) :
    ∃ u v : Nat, nth (.pair (.int .i64) (.pair (.int .i64) .unit)) (ps.map fun p => ((p.1 : Int), ((p.2 : Int), ()))) x = ((u : Int), (v : Int), ()) ∧ i ≤ u ∧ u < a.length ∧ j ≤ v ∧ v < b.length ∧
      Inv a b ps (((es ++ ed 2 (cutL a i u)) ++ ed 3 (cutL b j v)) ++ [((1 : Int), (nth .str a u, ()))]) ((u : Int) + 1) ((v : Int) + 1) (x + 1) := by
  obtain ⟨x0, x1, i0, i1, j0, j1, le, ch, eq⟩ := h
  have h1' : x.toNat < ps.length := by omega
  have hd := List.drop_eq_getElem_cons h1'
  rw [hd] at ch eq
  generalize hp : ps[x.toNat] = p at ch eq hd
  obtain ⟨u, v⟩ := p
  obtain ⟨c1, c2, ⟨hx, hy, he⟩, c4⟩ := ch
  rw [bas_len] at hx hy
  have l1 := cut_len (l := a) (i := i) (p := (u : Int))
  have l2 := cut_len (l := b) (i := j) (p := (v : Int))
  refine ⟨u, v, ?_, by omega, hx, by omega, hy, by omega, by omega, by omega, by omega, by omega, by omega, ?_, ?_, ?_⟩
  · unfold nth
    rw [List.getD_eq_getElem?_getD, List.getElem?_map, List.getElem?_eq_getElem h1', hp]
    rfl
  · rw [List.length_append, List.length_append, List.length_append, ed_len, ed_len]
    simp only [List.length_cons, List.length_nil]
    omega
  · rw [show (x + 1).toNat = x.toNat + 1 by omega, show ((u : Int) + 1).toNat = u + 1 by omega, show ((v : Int) + 1).toNat = v + 1 by omega]
    exact c4
  · rw [← eq, show (x + 1).toNat = x.toNat + 1 by omega]
    show _ = es ++ (ed 2 (cutL a i u) ++ (ed 3 (cutL b j v) ++ (((1 : Int), (nth .str a u, ())) :: scr a b _ ((u : Int) + 1) ((v : Int) + 1))))
    simp only [List.append_assoc]
    rfl

theorem pairs_le (a b : List Sb) (la : a.length ≤ 1000) : (pairs (bas a) 0 (bas b) 0).length ≤ 1000 := by
  rw [pairs_length]
  have := lcs_bd a b
  omega
theorem pairsD_map (a b : List Sb) : pairsD a b = (pairs (bas a) 0 (bas b) 0).map fun p => ((p.1 : Int), ((p.2 : Int), ())) := rfl

theorem inv0 (a b : List Sb) : Inv a b (pairs (bas a) 0 (bas b) 0) [] 0 0 0 :=
  ⟨Int.le_refl _, by omega, Int.le_refl _, by omega, Int.le_refl _, by omega, Nat.zero_le _, pairs_chain (bas a) (bas b) (bas a) 0 (bas b) 0 rfl rfl, rfl⟩

def theScr (a b : List Sb) : List Ed := scr a b (pairs (bas a) 0 (bas b) 0) 0 0

theorem done {a b : List Sb} {ps : List (Nat × Nat)} {es : List Ed} {i j x : Int} (h : Inv a b ps es i j x) (hl : ¬ x < ps.length) : (es ++ ed 2 (cutL a i a.length)) ++ ed 3 (cutL b j b.length) = scr a b ps 0 0 := by
  have e := h.eq
  rw [List.drop_eq_nil_of_le (by have := h.x0; omega)] at e
  rw [← e]
  show _ = es ++ (_ ++ _)
  rw [List.append_assoc]

theorem script_is (a b : List Sb) (la : a.length ≤ 1000) (lb : b.length ≤ 1000) : diff_Script a b = some (theScr a b) ∧ (theScr a b).length ≤ 2000 := by
  have hPl := pairs_le a b la
  unfold theScr
  have hinv := inv0 a b
  unfold diff_Script bnd
  generalize hps : pairs (bas a) 0 (bas b) 0 = ps at hPl hinv ⊢
  have hP : pairsD a b = ps.map fun p => ((p.1 : Int), ((p.2 : Int), ())) := by rw [pairsD_map, hps]
  have hlen : (pairsD a b).length = ps.length := by rw [hP, List.length_map]
  obtain ⟨r, h1, h2⟩ := loopM_inv (f := diff_Script_step1 a b) (fun x => Inv a b ps x.2.1 x.2.2.1 x.2.2.2 x.1) (fun x => (ps.length - x.1).toNat) (fun r => 0 ≤ r.2.1 ∧ r.2.1 ≤ a.length ∧ 0 ≤ r.2.2 ∧ r.2.2 ≤ b.length ∧ r.1.length ≤ r.2.1.toNat + r.2.2.toNat ∧ (r.1 ++ ed 2 (cutL a r.2.1 a.length)) ++ ed 3 (cutL b r.2.2 b.length) = scr a b ps 0 0) (fun x hI => by
    obtain ⟨x, es, i, j⟩ := x
    simp only [] at hI
    unfold diff_Script_step1
    simp only [decide_eq_true_eq, hlen]
    by_cases hl : x < ps.length
    · rw [if_pos hl, if_pos ⟨hI.x0, hl⟩]
      obtain ⟨u, v, hn, g1, g2, g3, g4, hI'⟩ := inv_next hI hl la lb
      rw [hP, hn, f1_is la lb hI.i0 g1 (by omega) hI.j0 g3 (by omega) hI.le]
      have l0 := hI.le
      have x0 := hI.x0
      have l1 := cut_len (l := a) (i := i) (p := (u : Int))
      have l2 := cut_len (l := b) (i := j) (p := (v : Int))
      simp only [Option.bind_some]
      rw [if_pos (by omega), if_pos (by simp only [List.length_append, ed_len, List.length_cons, List.length_nil]; omega), if_pos (by omega), if_pos (by omega), if_pos (by omega)]
      exact .inl ⟨_, rfl, hI', by simp only []; omega⟩
    · rw [if_neg hl]
      exact .inr ⟨_, rfl, hI.i0, hI.i1, hI.j0, hI.j1, hI.le, done hI hl⟩) (0, [], 0, 0) hinv
  rw [if_pos (by omega), if_pos (by omega), h1]
  simp only [Option.bind_some]
  obtain ⟨es, i, j⟩ := r
  obtain ⟨k1, k2, k3, k4, k5, k6⟩ := h2
  simp only [] at k1 k2 k3 k4 k5 k6
  have l1 := cut_len (l := a) (i := i) (p := (a.length : Int))
  have l2 := cut_len (l := b) (i := j) (p := (b.length : Int))
  refine ⟨?_, ?_⟩
  · rw [f1_is la lb k1 k2 (by omega) k3 k4 (by omega) k5, ← k6]
    rfl
  · rw [← k6, List.length_append, List.length_append, ed_len, ed_len]
    omega

theorem r05_script_is (a b : List Sb) (la : a.length ≤ 1000) (lb : b.length ≤ 1000) : r05_Script a b = some (theScr a b) := by
  have hPl := pairs_le a b la
  unfold theScr
  have hinv := inv0 a b
  unfold r05_Script bnd
  rw [common_is a b la lb]
  simp only [Option.bind_some]
  generalize hps : pairs (bas a) 0 (bas b) 0 = ps at hPl hinv ⊢
  have hP : pairsD a b = ps.map fun p => ((p.1 : Int), ((p.2 : Int), ())) := by rw [pairsD_map, hps]
  have hlen : (pairsD a b).length = ps.length := by rw [hP, List.length_map]
  obtain ⟨r, h1, h2⟩ := loopM_inv (f := r05_Script_step1 a b (pairsD a b)) (fun x => Inv a b ps x.1 x.2.1 x.2.2.1 x.2.2.2) (fun x => (ps.length - x.2.2.2).toNat) (fun r => 0 ≤ r.2.1 ∧ r.2.1 ≤ a.length ∧ 0 ≤ r.2.2 ∧ r.2.2 ≤ b.length ∧ r.1.length ≤ r.2.1.toNat + r.2.2.toNat ∧ (r.1 ++ ed 2 (cutL a r.2.1 a.length)) ++ ed 3 (cutL b r.2.2 b.length) = scr a b ps 0 0) (fun x hI => by
    obtain ⟨es, i, j, x⟩ := x
    simp only [] at hI
    unfold r05_Script_step1
    simp only [decide_eq_true_eq, hlen]
    by_cases hl : x < ps.length
    · obtain ⟨u, v, hn, g1, g2, g3, g4, hI'⟩ := inv_next hI hl la lb
      rw [← hP] at hn
      have l0 := hI.le
      have l1 := cut_len (l := a) (i := i) (p := (u : Int))
      have l2 := cut_len (l := b) (i := j) (p := (v : Int))
      have i0 := hI.i0
      have j0 := hI.j0
      have x0 := hI.x0
      rw [hn]
      simp only []
      have q1 : (u : Int) ≤ (a.length : Int) := by omega
      have q2 : (v : Int) ≤ (b.length : Int) := by omega
      have q3 : (u : Int) < (a.length : Int) := by omega
      have q0 : (0 : Int) ≤ (u : Int) := by omega
      have r1 : -9223372036854775808 ≤ ((u : Int) + 1) ∧ ((u : Int) + 1) ≤ 9223372036854775807 := by omega
      have r2 : -9223372036854775808 ≤ ((v : Int) + 1) ∧ ((v : Int) + 1) ≤ 9223372036854775807 := by omega
      rw [if_pos hl, if_pos ⟨x0, hl⟩, if_pos ⟨i0, g1, q1⟩, if_pos ⟨x0, hl⟩, if_pos ⟨j0, g3, q2⟩, parts_is (by omega) (by omega) (by omega)]
      simp only [Option.bind_some]
      rw [if_pos ⟨x0, hl⟩, if_pos ⟨q0, q3⟩, if_pos (by simp only [List.length_append, ed_len, List.length_cons, List.length_nil]; omega), if_pos ⟨x0, hl⟩, if_pos r1, if_pos ⟨x0, hl⟩, if_pos r2, if_pos (by omega)]
      exact .inl ⟨_, rfl, hI', by simp only []; omega⟩
    · rw [if_neg hl]
      exact .inr ⟨_, rfl, hI.i0, hI.i1, hI.j0, hI.j1, hI.le, done hI hl⟩) ([], 0, 0, 0) hinv
  rw [h1]
  simp only [Option.bind_some]
  obtain ⟨es, i, j⟩ := r
  obtain ⟨k1, k2, k3, k4, k5, k6⟩ := h2
  simp only [] at k1 k2 k3 k4 k5 k6
  have l1 := cut_len (l := a) (i := i) (p := (a.length : Int))
  have l2 := cut_len (l := b) (i := j) (p := (b.length : Int))
  simp only []
  rw [if_pos (by omega), if_pos (by omega), parts_is (by omega) (by omega) (by omega), ← k6]
  rfl

theorem law_is (a b : List Sb) (s : List Ed) (ha : a.length ≤ 9223372036854775807) (hb : b.length ≤ 9223372036854775807) (hs : s.length ≤ 9223372036854775807) : l05_DiffScript a b s = some true := by
  obtain ⟨fa, h1, h1'⟩ := few_is a ha
  obtain ⟨fb, h2, h2'⟩ := few_is b hb
  obtain ⟨fs, h3, h3'⟩ := short_is s hs
  unfold l05_DiffScript
  rw [if_neg (by decide), h1, h2, h3]
  simp only [Option.bind_some, val_some, Option.isSome_some, implies_true, if_true]
  by_cases hall : fa = true ∧ fb = true ∧ fs = true
  · obtain ⟨rfl, rfl, rfl⟩ := hall
    simp only [Bool.not_true, Bool.or_self, Bool.false_eq_true, reduceIte]
    have la := h1' rfl
    have lb := h2' rfl
    have ls := h3' rfl
    obtain ⟨e1, e2⟩ := script_is a b (by omega) (by omega)
    have e3 := same_self (theScr a b) (by omega)
    have e4 := own_is s (by omega)
    have e5 := reverse_is s (by omega)
    have e6 := r05_reverse_is s (by omega)
    have e7 := same_self (s.map rv) (by rw [List.length_map]; omega)
    simp only [e1, r05_script_is a b (by omega) (by omega), Option.bind_some, e3, e4, val_some, e5, e6, e7, Option.isSome_some, implies_true, if_true, beq_self_eq_true, Bool.and_self]
  · revert hall
    clear h1 h1' h2 h2' h3 h3'
    cases fa <;> cases fb <;> cases fs <;> intro hall <;> first | rfl | exact absurd ⟨rfl, rfl, rfl⟩ hall
end Scr
end Go.Proofs.Ytfcibaiiobihnaa
