/- DiffLeads: THE PLAIN LAW, on. -/
import Derived.Test.YtfcibaiiobihnaaD03
import Derived.Test.YtfcibaiiobihnaaDLp
namespace Go.Proofs.Ytfcibaiiobihnaa
open Vc
set_option linter.unusedSimpArgs false
set_option linter.unusedVariables false
namespace Leads

theorem few_is (a : List Sb) (ha : a.length ≤ 9223372036854775807) : ∃ b, r05_Few a = some b ∧ (b = true → a.length ≤ 30) := by
  obtain ⟨r, h1, h2⟩ := loopM_inv (f := r05_Few_step1 a) (fun i => 0 ≤ i ∧ i ≤ a.length) (fun i => (a.length - i).toNat) (fun r => match r with | .inl _ => True | .inr b => b = false) (fun i ⟨h0, h1⟩ => by
    unfold r05_Few_step1
    simp only [decide_eq_true_eq]
    by_cases hl : i < a.length
    · rw [if_pos hl, if_pos ⟨h0, hl⟩]
      by_cases hk : (100 : Int) < (List.length (nth .str a i) : Int)
      · exact .inr ⟨_, if_pos hk, rfl⟩
      · rw [if_neg hk, if_pos (by omega)]
        exact .inl ⟨_, rfl, ⟨by omega, by omega⟩, by omega⟩
    · rw [if_neg hl]
      exact .inr ⟨_, rfl, trivial⟩) 0 ⟨by omega, by omega⟩
  unfold r05_Few
  rw [h1]
  cases r with
  | inl u => exact ⟨_, rfl, fun h => by have := of_decide_eq_true h; omega⟩
  | inr b => exact ⟨b, rfl, fun h => by rw [show b = false from h2] at h; cases h⟩

theorem short_is (a : List Ed) (ha : a.length ≤ 9223372036854775807) : ∃ b, l05_short a = some b ∧ (b = true → a.length ≤ 60) := by
  obtain ⟨r, h1, h2⟩ := loopM_inv (f := l05_short_step1 a) (fun i => 0 ≤ i ∧ i ≤ a.length) (fun i => (a.length - i).toNat) (fun r => match r with | .inl _ => True | .inr b => b = false) (fun i ⟨h0, h1⟩ => by
    unfold l05_short_step1
    simp only [decide_eq_true_eq]
    by_cases hl : i < a.length
    · rw [if_pos hl, if_pos ⟨h0, hl⟩]
      by_cases hk : (100 : Int) < (List.length ((nth (.pair (.int .i64) (.pair .str .unit)) a i).2.1) : Int)
      · exact .inr ⟨_, if_pos hk, rfl⟩
      · rw [if_neg hk, if_pos (by omega)]
        exact .inl ⟨_, rfl, ⟨by omega, by omega⟩, by omega⟩
    · rw [if_neg hl]
      exact .inr ⟨_, rfl, trivial⟩) 0 ⟨by omega, by omega⟩
  unfold l05_short
  rw [h1]
  cases r with
  | inl u => exact ⟨_, rfl, fun h => by have := of_decide_eq_true h; omega⟩
  | inr b => exact ⟨b, rfl, fun h => by rw [show b = false from h2] at h; cases h⟩

theorem own_is (s : List Ed) (hs : s.length ≤ 1000000) : l05_own s = some s := by
  obtain ⟨r, h1, h2⟩ := loopM_inv (f := l05_own_step1 s) (fun x => 0 ≤ x.2 ∧ x.2 ≤ s.length ∧ x.1 = s.take x.2.toNat) (fun x => (s.length - x.2).toNat) (fun r => r = s) (fun x ⟨h0, h1, h2⟩ => by
    obtain ⟨out, i⟩ := x
    simp only [] at h0 h1 h2
    unfold l05_own_step1
    simp only [decide_eq_true_eq]
    by_cases hl : i < s.length
    · have hl' : i.toNat < s.length := by omega
      have hi : (i + 1).toNat = i.toNat + 1 := by omega
      have ho : out.length ≤ s.length := by rw [h2, List.length_take]; omega
      rw [if_pos hl, if_pos ⟨h0, hl⟩, if_pos (by simp only [List.length_cons, List.length_nil]; omega), if_pos (by omega)]
      refine .inl ⟨_, rfl, ⟨by simp only []; omega, by simp only []; omega, ?_⟩, by simp only []; omega⟩
      simp only []
      rw [hi, h2, nthE, take_snoc hl']
    · rw [if_neg hl]
      exact .inr ⟨_, rfl, by rw [h2, List.take_of_length_le (by omega)]⟩) ([], 0) ⟨Int.le_refl 0, by simp only []; omega, rfl⟩
  unfold l05_own bnd
  rw [h1, h2]
  rfl

theorem same_self (a : List Sb) (ha : a.length ≤ 1000000) : r05_Same a a = some true := by
  obtain ⟨r, h1, h2⟩ := loopM_inv (f := r05_Same_step1 a a) (fun i => 0 ≤ i ∧ i ≤ a.length) (fun i => (a.length - i).toNat) (fun r => r = .inl ()) (fun i ⟨h0, h1⟩ => by
    unfold r05_Same_step1
    simp only [decide_eq_true_eq]
    by_cases hl : i < a.length
    · rw [if_pos hl, if_pos ⟨h0, hl⟩, if_pos ⟨h0, hl⟩, if_neg (by simp), if_pos (by omega)]
      exact .inl ⟨_, rfl, ⟨by omega, by omega⟩, by omega⟩
    · rw [if_neg hl]
      exact .inr ⟨_, rfl, rfl⟩) 0 ⟨by omega, by omega⟩
  unfold r05_Same
  rw [h1, h2, if_neg (by simp)]
  rfl

/-- The script so far. -/
def Gd (a b : List Sb) (i j : Int) (es : List Ed) : Prop := 0 ≤ i ∧ i ≤ a.length ∧ 0 ≤ j ∧ j ≤ b.length ∧ go a es [] 0 = some (b.take j.toNat, i.toNat) ∧ es.length ≤ i.toNat + j.toNat ∧ ok es

theorem ok_snoc {es : List Ed} {e : Ed} (h : ok es) (h1 : 1 ≤ e.1 ∧ e.1 ≤ 3) : ok (es ++ [e]) := by
  intro x hx
  rcases List.mem_append.1 hx with h' | h'
  · exact h x h'
  · rw [List.mem_singleton.1 h']; exact h1

theorem gd_del {a b : List Sb} {i j : Int} {es : List Ed} (h : Gd a b i j es) (hi : i < a.length) : Gd a b (i + 1) j (es ++ [((2 : Int), ((nth .str a i), ()))]) := by
  obtain ⟨h0, h1, h2, h3, h4, h5, h6⟩ := h
  have e : (i + 1).toNat = i.toNat + 1 := by omega
  refine ⟨by omega, by omega, h2, h3, ?_, by rw [List.length_append, e]; simp only [List.length_cons, List.length_nil]; omega, ok_snoc h6 (by simp)⟩
  rw [go_append, h4, e]
  show go a [_] (b.take j.toNat) i.toNat = _
  rw [go_cons, if_neg (show ¬ ((2 : Int) = 3) by decide), if_pos ⟨by omega, rfl⟩, if_pos rfl, go_nil]

theorem gd_add {a b : List Sb} {i j : Int} {es : List Ed} (h : Gd a b i j es) (hj : j < b.length) : Gd a b i (j + 1) (es ++ [((3 : Int), ((nth .str b j), ()))]) := by
  obtain ⟨h0, h1, h2, h3, h4, h5, h6⟩ := h
  have e : (j + 1).toNat = j.toNat + 1 := by omega
  refine ⟨h0, h1, by omega, by omega, ?_, by rw [List.length_append, e]; simp only [List.length_cons, List.length_nil]; omega, ok_snoc h6 (by simp)⟩
  rw [go_append, h4, e]
  show go a [_] (b.take j.toNat) i.toNat = _
  rw [go_cons, if_pos rfl, go_nil]
  show some (b.take j.toNat ++ [b.getD j.toNat []], _) = _
  rw [take_snoc (by omega)]

theorem gd_keep {a b : List Sb} {i j : Int} {es : List Ed} (h : Gd a b i j es) (hi : i < a.length) (hj : j < b.length) (he : a.getD i.toNat [] = b.getD j.toNat []) : Gd a b (i + 1) (j + 1) (es ++ [((1 : Int), ((nth .str a i), ()))]) := by
  obtain ⟨h0, h1, h2, h3, h4, h5, h6⟩ := h
  have e : (i + 1).toNat = i.toNat + 1 := by omega
  have e' : (j + 1).toNat = j.toNat + 1 := by omega
  refine ⟨by omega, by omega, by omega, by omega, ?_, by rw [List.length_append, e, e']; simp only [List.length_cons, List.length_nil]; omega, ok_snoc h6 (by simp)⟩
  rw [go_append, h4, e, e']
  show go a [_] (b.take j.toNat) i.toNat = _
  rw [go_cons, if_neg (show ¬ ((1 : Int) = 3) by decide), if_pos ⟨by omega, rfl⟩, if_neg (show ¬ ((1 : Int) = 2) by decide), go_nil]
  show some (b.take j.toNat ++ [a.getD i.toNat []], _) = _
  rw [he, take_snoc (by omega)]

theorem f1_is {a b : List Sb} {i j p q : Int} {es : List Ed} (la : a.length ≤ 1000) (lb : b.length ≤ 1000) (h : Gd a b i j es) (hp : i ≤ p) (hp' : p ≤ a.length) (hq : j ≤ q) (hq' : q ≤ b.length) :
    ∃ es', diff_ScriptF1 (p, (q, ())) i es a j b = some (p, es', q) ∧ Gd a b p q es' := by
  obtain ⟨r, h1, h2⟩ := loopM_inv (f := diff_ScriptF1_step1 (p, (q, ())) a) (fun x => x.1 ≤ p ∧ Gd a b x.1 j x.2) (fun x => (p - x.1).toNat) (fun r => r.1 = p ∧ Gd a b p j r.2) (fun x ⟨k0, k1⟩ => by
    obtain ⟨i, es⟩ := x
    simp only [] at k0 k1
    unfold diff_ScriptF1_step1
    simp only [decide_eq_true_eq]
    have hl : es.length ≤ 2000 := by obtain ⟨a0, a1, a2, a3, a4, a5, a6⟩ := k1; omega
    have h0 := k1.1
    by_cases hi : i < p
    · rw [if_pos hi, if_pos ⟨h0, by omega⟩, if_pos (by simp only [List.length_cons, List.length_nil]; omega), if_pos (by omega)]
      exact .inl ⟨_, rfl, ⟨by simp only []; omega, gd_del k1 (by omega)⟩, by simp only []; omega⟩
    · rw [if_neg hi]
      have : i = p := by omega
      exact .inr ⟨_, rfl, this, this ▸ k1⟩) (i, es) ⟨hp, h⟩
  obtain ⟨i1, es1⟩ := r
  obtain ⟨rfl, g1⟩ := h2
  simp only [] at g1 h1
  obtain ⟨r, h3, h4⟩ := loopM_inv (f := diff_ScriptF1_step2 (i1, (q, ())) b) (fun x => x.2 ≤ q ∧ Gd a b i1 x.2 x.1) (fun x => (q - x.2).toNat) (fun r => r.2 = q ∧ Gd a b i1 q r.1) (fun x ⟨k0, k1⟩ => by
    obtain ⟨es, j⟩ := x
    simp only [] at k0 k1
    unfold diff_ScriptF1_step2
    simp only [decide_eq_true_eq]
    have hl : es.length ≤ 2000 := by obtain ⟨a0, a1, a2, a3, a4, a5, a6⟩ := k1; omega
    have h0 := k1.2.2.1
    by_cases hj : j < q
    · rw [if_pos hj, if_pos ⟨h0, by omega⟩, if_pos (by simp only [List.length_cons, List.length_nil]; omega), if_pos (by omega)]
      exact .inl ⟨_, rfl, ⟨by simp only []; omega, gd_add k1 (by omega)⟩, by simp only []; omega⟩
    · rw [if_neg hj]
      have : j = q := by omega
      exact .inr ⟨_, rfl, this, this ▸ k1⟩) (es1, j) ⟨hq, g1⟩
  obtain ⟨es2, j2⟩ := r
  obtain ⟨rfl, g2⟩ := h4
  refine ⟨es2, ?_, g2⟩
  unfold diff_ScriptF1 bnd
  rw [h1]
  simp only [Option.bind_some]
  rw [h3]
  rfl

theorem bas_eq {a b : List Sb} {x y : Nat} (hx : x < (bas a).length) (hy : y < (bas b).length) (h : (bas a)[x] = (bas b)[y]) : a.getD x [] = b.getD y [] := by
  unfold bas at hx hy h
  rw [List.length_map] at hx hy
  rw [List.getElem_map, List.getElem_map] at h
  rw [getD_lt hx, getD_lt hy]
  have h' := congrArg (fun z : ByteArray => z.data.toList) h
  simpa using h'

theorem script_is (a b : List Sb) (la : a.length ≤ 1000) (lb : b.length ≤ 1000) : ∃ es, diff_Script a b = some es ∧ go a es [] 0 = some (b, a.length) ∧ ok es ∧ es.length ≤ 2000 := by
  have hP : (pairsD a b).length = (pairs (bas a) 0 (bas b) 0).length := by unfold pairsD; rw [List.length_map]
  have hch := pairs_chain (bas a) (bas b) (bas a) 0 (bas b) 0 rfl rfl
  have hPl : (pairs (bas a) 0 (bas b) 0).length ≤ 1000 := by
    rw [pairs_length]
    obtain ⟨s, h1, h2, h3⟩ := lcs_common (bas a) (bas b)
    have := h1.length_le
    unfold bas at this h3 ⊢
    rw [List.length_map] at this
    omega
  generalize hps : pairs (bas a) 0 (bas b) 0 = ps at hP hch hPl
  have hnth : ∀ x : Int, 0 ≤ x → x < ps.length → ∃ u v : Nat, nth (.pair (.int .i64) (.pair (.int .i64) .unit)) (pairsD a b) x = ((u : Int), (v : Int), ()) ∧ ps.drop x.toNat = (u, v) :: ps.drop (x.toNat + 1) := fun x h0 h1 => by
    have h1' : x.toNat < ps.length := by omega
    refine ⟨ps[x.toNat].1, ps[x.toNat].2, ?_, List.drop_eq_getElem_cons h1'⟩
    unfold nth pairsD
    rw [hps, List.getD_eq_getElem?_getD, List.getElem?_map, List.getElem?_eq_getElem h1']
    rfl
  have hba : ∀ l : List Sb, (bas l).length = l.length := fun l => by unfold bas; rw [List.length_map]
  obtain ⟨r, h1, h2⟩ := loopM_inv (f := diff_Script_step1 a b) (fun x => 0 ≤ x.1 ∧ x.1 ≤ ps.length ∧ Gd a b x.2.2.1 x.2.2.2 x.2.1 ∧ Chain (bas a) (bas b) x.2.2.1.toNat x.2.2.2.toNat (ps.drop x.1.toNat)) (fun x => (ps.length - x.1).toNat) (fun r => Gd a b r.2.1 r.2.2 r.1) (fun x ⟨k0, k1, k2, k3⟩ => by
    obtain ⟨x, es, i, j⟩ := x
    simp only [] at k0 k1 k2 k3
    unfold diff_Script_step1
    simp only [decide_eq_true_eq, hP]
    by_cases hl : x < ps.length
    · rw [if_pos hl, if_pos ⟨k0, hl⟩]
      obtain ⟨u, v, hn, hd⟩ := hnth x k0 hl
      rw [hd] at k3
      obtain ⟨c1, c2, ⟨hx, hy, he⟩, c4⟩ := k3
      have he' := bas_eq hx hy he
      rw [hba] at hx hy
      have g0 := k2.1
      have g2 := k2.2.2.1
      obtain ⟨es', f1, f2⟩ := f1_is la lb k2 (p := (u : Int)) (q := (v : Int)) (by omega) (by omega) (by omega) (by omega)
      rw [hn, f1]
      simp only [Option.bind_some]
      have hl' : es'.length ≤ 2000 := by obtain ⟨a0, a1, a2, a3, a4, a5, a6⟩ := f2; omega
      have g4 := gd_keep f2 (by omega) (by omega) he'
      rw [if_pos (by omega), if_pos (by simp only [List.length_cons, List.length_nil]; omega), if_pos (by omega), if_pos (by omega), if_pos (by omega)]
      refine .inl ⟨_, rfl, ⟨by simp only []; omega, by simp only []; omega, g4, ?_⟩, by simp only []; omega⟩
      simp only []
      rw [show (x + 1).toNat = x.toNat + 1 by omega, show ((u : Int) + 1).toNat = u + 1 by omega, show ((v : Int) + 1).toNat = v + 1 by omega]
      exact c4
    · rw [if_neg hl]
      exact .inr ⟨_, rfl, k2⟩) (0, [], 0, 0) ⟨Int.le_refl 0, by simp only []; omega, ⟨Int.le_refl 0, by simp only []; omega, Int.le_refl 0, by simp only []; omega, rfl, Nat.zero_le _, fun _ h => by cases h⟩, hch⟩
  obtain ⟨es, i, j⟩ := r
  simp only [] at h2
  obtain ⟨es', f1, f2⟩ := f1_is la lb h2 (p := (a.length : Int)) (q := (b.length : Int)) h2.2.1 (Int.le_refl _) h2.2.2.2.1 (Int.le_refl _)
  obtain ⟨a0, a1, a2, a3, a4, a5, a6⟩ := f2
  refine ⟨es', ?_, ?_, a6, by omega⟩
  · unfold diff_Script bnd
    rw [if_pos (by omega), if_pos (by omega), h1]
    simp only [Option.bind_some]
    rw [f1]
    rfl
  · rw [a4, show ((b.length : Int)).toNat = b.length by omega, List.take_length, show ((a.length : Int)).toNat = a.length by omega]

theorem res_go {a o : List Sb} {s : List Ed} (hk : ok s) (h : go a s [] 0 = some (o, a.length)) : res a s = (o, 0) := by
  unfold res
  rw [if_neg (fun hb => by
    obtain ⟨x, hx, h2⟩ := List.any_eq_true.1 hb
    obtain ⟨h3, h4⟩ := hk x hx
    unfold bad at h2
    rw [Bool.or_eq_true, decide_eq_true_iff, decide_eq_true_iff] at h2
    omega), h]
  simp

theorem res_cases (a : List Sb) (s : List Ed) : (∃ o, res a s = (o, 0) ∧ ok s ∧ go a s [] 0 = some (o, a.length)) ∨ ((res a s).1 = [] ∧ ¬ (res a s).2 = 0) := by
  unfold res
  by_cases hb : s.any bad = true
  · rw [if_pos hb]; exact .inr ⟨rfl, (by decide : ¬ ((1 : Int) = 0))⟩
  · rw [if_neg hb]
    have hk : ok s := fun e he => by
      have : bad e = false := by
        cases hq : bad e with
        | false => rfl
        | true => exact absurd (List.any_eq_true.2 ⟨e, he, hq⟩) hb
      unfold bad at this
      rw [Bool.or_eq_false_iff, decide_eq_false_iff_not, decide_eq_false_iff_not] at this
      omega
    cases hg : go a s [] 0 with
    | none => exact .inr ⟨rfl, (by decide : ¬ ((14 : Int) = 0))⟩
    | some p =>
      obtain ⟨o, n⟩ := p
      obtain ⟨-, h2, h3, h4⟩ := go_ext a s [] 0 o n hg
      by_cases hn : n < a.length
      · simp only [if_pos hn]; exact .inr ⟨trivial, by decide⟩
      · simp only [if_neg hn]; exact .inl ⟨o, rfl, hk, by rw [show n = a.length by have := h3 (Nat.zero_le _); omega]⟩
end Leads
end Go.Proofs.Ytfcibaiiobihnaa
