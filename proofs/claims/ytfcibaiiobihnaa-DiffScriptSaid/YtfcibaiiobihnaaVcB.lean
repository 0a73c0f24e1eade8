/- WHAT AN ABSTRACT STATE SAYS OF THE MODEL's WORLD, and how it is kept. -/
import Derived.Test.YtfcibaiiobihnaaVcA
import Derived.Deep.MidRow
import Derived.Laws.OwnMore
import Derived.Below
namespace Go.Proofs.Ytfcibaiiobihnaa.Vc
open Go.RowKit

abbrev Heap := List (Nat × Blk)

/-- What is chosen besides: the cells that will never change; where a variable lies; the slice that a right was for when it had n elements. -/
structure Gh where
  S : Nat → Nat → Prop
  J : Nat → Option (Nat × Nat)
  cur : Nat → Nat → Option Value

/-- A row of elements. -/
def RdL {α : Type} (R : α → List Value → Prop) (w : World) (S : Nat → Nat → Prop) (c b : Nat) : Nat → List α → Prop
  | _, [] => True
  | o, x :: xs => (∃ cs, cs.length = c ∧ w.rangeAt b o cs ∧ (∀ j, j < c → S b (o + j)) ∧ R x cs) ∧ RdL R w S c b (o + c) xs

def capVals (g : Gh) : List (Nat × Nat) → List Value → Prop
  | [], vs => vs = []
  | (i, o) :: l, vs => ∃ p vs', g.J i = some p ∧ vs = .pointer (some ⟨p.1, p.2 + o, none⟩) :: vs' ∧ capVals g l vs'

def RdRef (g : Gh) : Option (Nat × Nat) → List Value → Prop
  | none, cs => cs = [.pointer none]
  | some (i, o), cs => ∃ p, g.J i = some p ∧ cs = [.pointer (some ⟨p.1, p.2 + o, none⟩)]

def RdClo (g : Gh) : Option (Nat × List (Nat × Nat)) → List Value → Prop
  | none, cs => cs = [.nilFunc]
  | some (f, l), cs => ∃ vs, capVals g l vs ∧ cs = [.func (.func f) #[] vs.toArray]

/-- These cells read as x. -/
def Rd (g : Gh) (w : World) : (t : Ty) → t.den → List Value → Prop
  | .bool, x, cs => cs = [.bool x]
  | .int k, n, cs => cs = [.int k n]
  | .str, l, cs => cs = [.string ⟨List.toArray l⟩]
  | .list t, l, cs => ∃ a cap, cs = [.slice a (List.length l) cap] ∧ List.length l ≤ cap ∧ (l = [] ∨ ∃ b o, a = some ⟨b, o, none⟩ ∧ RdL (Rd g w t) w g.S t.cells b o l)
  | .unit, _, cs => cs = []
  | .pair s t, x, cs => ∃ c1 c2, cs = c1 ++ c2 ∧ Rd g w s x.1 c1 ∧ Rd g w t x.2 c2
  | .ref, x, cs => RdRef g x cs
  | .clo, x, cs => RdClo g x cs

/-- This value reads as x. -/
def RdV (g : Gh) (w : World) (t : Ty) (x : t.den) (v : Value) : Prop :=
  (t.isRow = true ∧ ∃ cs : List Value, v = .agg cs.toArray ∧ Rd g w t x cs) ∨ (t.isRow = false ∧ Rd g w t x [v])

/-- The right to append k is of this value. -/
def RdK (g : Gh) (t : Ty) (x : t.den) (v : Value) : Option Nat → Prop
  | none => True
  | some k => match t, x with
    | .list _, l => g.cur k (List.length l) = some v
    | _, _ => False

def RdT (g : Gh) (w : World) : List ((Σ t : Ty, t.den) × Option Nat) → List Value → Prop
  | [], vs => vs = []
  | (⟨t, x⟩, k) :: l, vs => ∃ v vs', vs = v :: vs' ∧ RdV g w t x v ∧ RdK g t x v k ∧ RdT g w l vs'

def RdD (g : Gh) (w : World) : DV → Value → Prop
  | .any, _ => True
  | .nilS, v => v = .slice none 0 0
  | .val t x, v => RdV g w t x v
  | .at t x, v => ∃ b o cs, v = .pointer (some ⟨b, o, none⟩) ∧ w.rangeAt b o cs ∧ (∀ j, j < t.cells → g.S b (o + j)) ∧ Rd g w t x cs
  | .tup l, v => ∃ vs : List Value, v = .tuple vs.toArray ∧ RdT g w l vs
  | .cond p d, v => (p = true → RdD g w d v) ∧ (p = false → v = undef)
  | .flag p q, v => ∃ b, v = .bool b ∧ (b = true → p) ∧ (b = false → q)
  | .own k n, v => g.cur k n = some v ∧ ((v = .slice none 0 0 ∧ n = 0) ∨ ∃ b cap, v = .slice (some ⟨b, 0, none⟩) n cap ∧ n ≤ cap)
  | .elt k n c i o, v => ∃ b cap, g.cur k n = some (.slice (some ⟨b, 0, none⟩) n cap) ∧ 0 ≤ i ∧ i < (n : Int) ∧ v = .pointer (some ⟨b, i.toNat * c + o, none⟩)

def RdS (g : Gh) (w : World) (s : Slot) (v : Value) : Prop :=
  RdD g w s.1 v ∧ match s with
    | (_, none) => True
    | (.val t x, some k) => RdK g t x v (some k)
    | (_, some _) => False

/-- What is known stays known. -/
structure Le (g : Gh) (w : World) (g' : Gh) (w' : World) : Prop where
  S : ∀ b o, g.S b o → g'.S b o
  cell : ∀ b o, g.S b o → w'.cell? ⟨b, o, none⟩ = w.cell? ⟨b, o, none⟩
  J : ∀ i p, g.J i = some p → g'.J i = some p
  cur : ∀ k n v, g.cur k n = some v → g'.cur k n = some v

theorem Le.refl (g : Gh) (w : World) : Le g w g w := ⟨fun _ _ h => h, fun _ _ _ => rfl, fun _ _ h => h, fun _ _ _ h => h⟩
theorem Le.trans {g g' g'' : Gh} {w w' w'' : World} (h : Le g w g' w') (k : Le g' w' g'' w'') : Le g w g'' w'' :=
  ⟨fun b o x => k.S b o (h.S b o x), fun b o x => (k.cell b o (h.S b o x)).trans (h.cell b o x), fun i p x => k.J i p (h.J i p x), fun i n v x => k.cur i n v (h.cur i n v x)⟩

theorem capVals_mono {g g' : Gh} (hJ : ∀ i p, g.J i = some p → g'.J i = some p) : ∀ {l : List (Nat × Nat)} {vs : List Value}, capVals g l vs → capVals g' l vs
  | [], _, h => h
  | (_, _) :: _, _, ⟨p, vs', h1, h2, h3⟩ => ⟨p, vs', hJ _ _ h1, h2, capVals_mono hJ h3⟩

theorem RdRef_mono {g g' : Gh} (hJ : ∀ i p, g.J i = some p → g'.J i = some p) : ∀ {x : Option (Nat × Nat)} {cs : List Value}, RdRef g x cs → RdRef g' x cs
  | none, _, h => h
  | some (_, _), _, ⟨p, h1, h2⟩ => ⟨p, hJ _ _ h1, h2⟩

theorem RdClo_mono {g g' : Gh} (hJ : ∀ i p, g.J i = some p → g'.J i = some p) : ∀ {x : Option (Nat × List (Nat × Nat))} {cs : List Value}, RdClo g x cs → RdClo g' x cs
  | none, _, h => h
  | some (_, _), _, ⟨vs, h1, h2⟩ => ⟨vs, capVals_mono hJ h1, h2⟩

theorem RdL_mono {α : Type} {R R' : α → List Value → Prop} {w w' : World} {S S' : Nat → Nat → Prop} {c b : Nat} (hR : ∀ x cs, R x cs → R' x cs) (hS : ∀ o, S b o → S' b o)
    (hc : ∀ o, S b o → w'.cell? ⟨b, o, none⟩ = w.cell? ⟨b, o, none⟩) : ∀ {l : List α} {o : Nat}, RdL R w S c b o l → RdL R' w' S' c b o l
  | [], _, _ => trivial
  | _ :: _, o, ⟨⟨cs, h1, h2, h3, h4⟩, h5⟩ => ⟨⟨cs, h1, fun j v hv => by
      have hj : j < c := h1 ▸ (List.getElem?_eq_some_iff.1 hv).1
      rw [hc _ (h3 j hj)]; exact h2 j v hv, fun j hj => hS _ (h3 j hj), hR _ _ h4⟩, RdL_mono hR hS hc h5⟩

theorem Rd_mono {g g' : Gh} {w w' : World} (h : Le g w g' w') : ∀ {t : Ty} {x : t.den} {cs : List Value}, Rd g w t x cs → Rd g' w' t x cs
  | .bool, _, _, r => r
  | .int _, _, _, r => r
  | .str, _, _, r => r
  | .unit, _, _, r => r
  | .ref, _, _, r => RdRef_mono h.J r
  | .clo, _, _, r => RdClo_mono h.J r
  | .pair _ _, _, _, ⟨c1, c2, e, r1, r2⟩ => ⟨c1, c2, e, Rd_mono h r1, Rd_mono h r2⟩
  | .list _, _, _, ⟨a, cap, e, hle, hl⟩ => ⟨a, cap, e, hle, hl.imp id fun ⟨b, o, ea, hr⟩ => ⟨b, o, ea, RdL_mono (fun _ _ => Rd_mono h) (fun _ => h.S _ _) (fun _ => h.cell _ _) hr⟩⟩

theorem Rd_length {g : Gh} {w : World} : ∀ {t : Ty} {x : t.den} {cs : List Value}, Rd g w t x cs → cs.length = t.cells
  | .bool, _, _, r => by cases r; rfl
  | .int _, _, _, r => by cases r; rfl
  | .str, _, _, r => by cases r; rfl
  | .unit, _, _, r => by cases r; rfl
  | .ref, none, _, r => by cases r; rfl
  | .ref, some (_, _), _, ⟨_, _, e⟩ => by cases e; rfl
  | .clo, none, _, r => by cases r; rfl
  | .clo, some (_, _), _, ⟨_, _, e⟩ => by cases e; rfl
  | .pair _ _, _, _, ⟨c1, c2, e, r1, r2⟩ => by rw [e, List.length_append, Rd_length r1, Rd_length r2]; rfl
  | .list _, _, _, ⟨_, _, e, _, _⟩ => by cases e; rfl

theorem RdV_mono {g g' : Gh} {w w' : World} (h : Le g w g' w') {t : Ty} {x : t.den} {v : Value} (r : RdV g w t x v) : RdV g' w' t x v :=
  r.imp (fun ⟨a, cs, e, q⟩ => ⟨a, cs, e, Rd_mono h q⟩) (fun ⟨a, q⟩ => ⟨a, Rd_mono h q⟩)

theorem RdK_mono {g g' : Gh} {w w' : World} (h : Le g w g' w') {t : Ty} {x : t.den} {v : Value} {k : Option Nat} (r : RdK g t x v k) : RdK g' t x v k := by
  cases k with
  | none => trivial
  | some k =>
    cases t with
    | list u => exact h.cur _ _ _ r
    | _ => exact r.elim

theorem RdT_mono {g g' : Gh} {w w' : World} (h : Le g w g' w') : ∀ {l : List ((Σ t : Ty, t.den) × Option Nat)} {vs : List Value}, RdT g w l vs → RdT g' w' l vs
  | [], _, r => r
  | (⟨_, _⟩, _) :: _, _, ⟨v, vs', e, r1, r2, r3⟩ => ⟨v, vs', e, RdV_mono h r1, RdK_mono h r2, RdT_mono h r3⟩

theorem RdD_mono {g g' : Gh} {w w' : World} (h : Le g w g' w') : ∀ {d : DV} {v : Value}, RdD g w d v → RdD g' w' d v
  | .any, _, r => r
  | .nilS, _, r => r
  | .val _ _, _, r => RdV_mono h r
  | .at t _, _, ⟨b, o, cs, e, h1, h2, h3⟩ => ⟨b, o, cs, e, fun j v hv => by
      by_cases hj : j < t.cells
      · rw [h.cell _ _ (h2 j hj)]; exact h1 j v hv
      · exact absurd (List.getElem?_eq_some_iff.1 hv).1 (by rw [Rd_length h3]; exact hj), fun j hj => h.S _ _ (h2 j hj), Rd_mono h h3⟩
  | .tup _, _, ⟨vs, e, r⟩ => ⟨vs, e, RdT_mono h r⟩
  | .cond _ _, _, ⟨r1, r2⟩ => ⟨fun p => RdD_mono h (r1 p), r2⟩
  | .flag _ _, _, r => r
  | .own _ _, _, ⟨h1, h2⟩ => ⟨h.cur _ _ _ h1, h2⟩
  | .elt _ _ _ _ _, _, ⟨b, cap, h1, h2⟩ => ⟨b, cap, h.cur _ _ _ h1, h2⟩

theorem RdS_mono {g g' : Gh} {w w' : World} (h : Le g w g' w') {s : Slot} {v : Value} (r : RdS g w s v) : RdS g' w' s v := by
  obtain ⟨d, k⟩ := s
  refine ⟨RdD_mono h r.1, ?_⟩
  have r2 := r.2
  cases k with
  | none => trivial
  | some k =>
    cases d with
    | val t x => exact RdK_mono h r2
    | _ => exact r2.elim

theorem Rd_one {g : Gh} {w : World} : ∀ {t : Ty} {x : t.den} {cs : List Value}, Rd g w t x cs → ∀ v ∈ cs, v.oneCell' = true
  | .bool, _, _, r => by cases r; intro v hv; simp at hv; subst hv; rfl
  | .int _, _, _, r => by cases r; intro v hv; simp at hv; subst hv; rfl
  | .str, _, _, r => by cases r; intro v hv; simp at hv; subst hv; rfl
  | .unit, _, _, r => by cases r; intro v hv; simp at hv
  | .ref, none, _, r => by cases r; intro v hv; simp at hv; subst hv; rfl
  | .ref, some (_, _), _, ⟨_, _, e⟩ => by cases e; intro v hv; simp at hv; subst hv; rfl
  | .clo, none, _, r => by cases r; intro v hv; simp at hv; subst hv; rfl
  | .clo, some (_, _), _, ⟨_, _, e⟩ => by cases e; intro v hv; simp at hv; subst hv; rfl
  | .pair _ _, _, _, ⟨c1, c2, e, r1, r2⟩ => by
    subst e
    intro v hv
    rcases List.mem_append.1 hv with h | h
    · exact Rd_one r1 v h
    · exact Rd_one r2 v h
  | .list _, _, _, ⟨_, _, e, _, _⟩ => by cases e; intro v hv; simp at hv; subst hv; rfl

/-- Without references, the variables' places do not matter. -/
theorem Rd_pure {g g' : Gh} {w : World} (hS : g'.S = g.S) : ∀ {t : Ty} {x : t.den} {cs : List Value}, t.pure = true → Rd g w t x cs → Rd g' w t x cs
  | .bool, _, _, _, r => r
  | .int _, _, _, _, r => r
  | .str, _, _, _, r => r
  | .unit, _, _, _, r => r
  | .ref, _, _, h, _ => by simp [Ty.pure] at h
  | .clo, _, _, h, _ => by simp [Ty.pure] at h
  | .pair _ _, _, _, h, ⟨c1, c2, e, r1, r2⟩ => by
    simp only [Ty.pure, Bool.and_eq_true] at h
    exact ⟨c1, c2, e, Rd_pure hS h.1 r1, Rd_pure hS h.2 r2⟩
  | .list _, _, _, h, ⟨a, cap, e, hle, hl⟩ => by
    simp only [Ty.pure] at h
    exact ⟨a, cap, e, hle, hl.imp id fun ⟨b, o, ea, hr⟩ => ⟨b, o, ea, RdL_mono (fun _ _ r => Rd_pure hS h r) (fun _ q => by rw [hS]; exact q) (fun _ _ => rfl) hr⟩⟩

/-! ### Rows of elements, flat -/
def RdF {α : Type} (R : α → List Value → Prop) (c : Nat) : List α → List Value → Prop
  | [], cs => cs = []
  | x :: xs, cs => ∃ c1 c2, cs = c1 ++ c2 ∧ c1.length = c ∧ R x c1 ∧ RdF R c xs c2

theorem RdF_length {α : Type} {R : α → List Value → Prop} {c : Nat} : ∀ {l : List α} {cs : List Value}, RdF R c l cs → cs.length = l.length * c
  | [], _, h => by rw [h]; simp
  | _ :: l, _, ⟨c1, c2, e, h1, _, h3⟩ => by rw [e, List.length_append, h1, RdF_length h3, List.length_cons, Nat.succ_mul]; omega

theorem RdF_append {α : Type} {R : α → List Value → Prop} {c : Nat} : ∀ {l m : List α} {cs ds : List Value}, RdF R c l cs → RdF R c m ds → RdF R c (l ++ m) (cs ++ ds)
  | [], _, _, _, h, k => by rw [h]; exact k
  | _ :: _, _, _, _, ⟨c1, c2, e, h1, h2, h3⟩, k => ⟨c1, c2 ++ _, by rw [e, List.append_assoc], h1, h2, RdF_append h3 k⟩

theorem RdF_mono {α : Type} {R R' : α → List Value → Prop} {c : Nat} (hR : ∀ x cs, R x cs → R' x cs) : ∀ {l : List α} {cs : List Value}, RdF R c l cs → RdF R' c l cs
  | [], _, h => h
  | _ :: _, _, ⟨c1, c2, e, h1, h2, h3⟩ => ⟨c1, c2, e, h1, hR _ _ h2, RdF_mono hR h3⟩


/-! ### Parts of a struct -/
theorem getAt_Rd {g : Gh} {w : World} {u : Ty} : ∀ {t : Ty} {x : t.den} {cs : List Value} {o : Nat} {y : u.den}, Rd g w t x cs → getAt u t x o = some y →
    ∃ c1 c2 c3, cs = c1 ++ c2 ++ c3 ∧ c1.length = o ∧ Rd g w u y c2 := by
  intro t
  induction t with
  | pair a b iha ihb =>
    intro x cs o y r h
    obtain ⟨c1, c2, e, r1, r2⟩ := r
    have key : ∀ o, (if o < a.cells then getAt u a x.1 o else getAt u b x.2 (o - a.cells)) = some y → ∃ d1 d2 d3, cs = d1 ++ d2 ++ d3 ∧ d1.length = o ∧ Rd g w u y d2 := by
      intro o h
      by_cases ho : o < a.cells
      · rw [if_pos ho] at h
        obtain ⟨d1, d2, d3, e', hl, hr⟩ := iha r1 h
        exact ⟨d1, d2, d3 ++ c2, by rw [e, e']; simp, hl, hr⟩
      · rw [if_neg ho] at h
        obtain ⟨d1, d2, d3, e', hl, hr⟩ := ihb r2 h
        refine ⟨c1 ++ d1, d2, d3, by rw [e, e']; simp, ?_, hr⟩
        rw [List.length_append, hl, Rd_length r1]; omega
    cases o with
    | zero =>
      unfold getAt at h
      by_cases hu : Ty.pair a b = u
      · rw [dif_pos hu] at h
        subst hu
        simp only [castD, Option.some.injEq] at h
        subst h
        exact ⟨[], cs, [], by simp, rfl, ⟨c1, c2, e, r1, r2⟩⟩
      · rw [dif_neg hu] at h
        refine key 0 ?_
        simpa using h
    | succ o => exact key (o + 1) (by simpa [getAt] using h)
  | _ =>
    intro x cs o y r h
    cases o with
    | zero =>
      unfold getAt at h
      split at h
      · rename_i hu
        subst hu
        simp only [castD, Option.some.injEq] at h
        try subst h
        exact ⟨[], cs, [], by simp, rfl, r⟩
      · simp at h
    | succ o => simp [getAt] at h

theorem setAt_Rd {g : Gh} {w : World} {u : Ty} {y : u.den} {cy : List Value} (hy : Rd g w u y cy) : ∀ {t : Ty} {x z : t.den} {cs : List Value} {o : Nat}, Rd g w t x cs → setAt u y t x o = some z →
    ∃ c1 c2 c3, cs = c1 ++ c2 ++ c3 ∧ c1.length = o ∧ c2.length = u.cells ∧ Rd g w t z (c1 ++ cy ++ c3) := by
  intro t
  induction t with
  | pair a b iha ihb =>
    intro x z cs o r h
    obtain ⟨c1, c2, e, r1, r2⟩ := r
    have key : ∀ o, (if o < a.cells then (setAt u y a x.1 o).map (fun q => (q, x.2)) else (setAt u y b x.2 (o - a.cells)).map (fun q => (x.1, q))) = some z →
        ∃ d1 d2 d3, cs = d1 ++ d2 ++ d3 ∧ d1.length = o ∧ d2.length = u.cells ∧ Rd g w (.pair a b) z (d1 ++ cy ++ d3) := by
      intro o h
      by_cases ho : o < a.cells
      · rw [if_pos ho] at h
        obtain ⟨q, hq, rfl⟩ := Option.map_eq_some_iff.1 h
        obtain ⟨d1, d2, d3, e', hl, hl2, hr⟩ := iha r1 hq
        exact ⟨d1, d2, d3 ++ c2, by rw [e, e']; simp, hl, hl2, ⟨d1 ++ cy ++ d3, c2, by simp, hr, r2⟩⟩
      · rw [if_neg ho] at h
        obtain ⟨q, hq, rfl⟩ := Option.map_eq_some_iff.1 h
        obtain ⟨d1, d2, d3, e', hl, hl2, hr⟩ := ihb r2 hq
        refine ⟨c1 ++ d1, d2, d3, by rw [e, e']; simp, ?_, hl2, ⟨c1, d1 ++ cy ++ d3, by simp, r1, hr⟩⟩
        rw [List.length_append, hl, Rd_length r1]; omega
    cases o with
    | zero =>
      unfold setAt at h
      by_cases hu : u = Ty.pair a b
      · rw [dif_pos hu] at h
        subst hu
        simp only [castD, Option.some.injEq] at h
        subst h
        exact ⟨[], cs, [], by simp, rfl, Rd_length (t := .pair a b) (x := x) ⟨c1, c2, e, r1, r2⟩, by simpa using hy⟩
      · rw [dif_neg hu] at h
        refine key 0 ?_
        simpa using h
    | succ o => exact key (o + 1) (by simpa [setAt] using h)
  | _ =>
    intro x z cs o r h
    cases o with
    | zero =>
      unfold setAt at h
      split at h
      · rename_i hu
        subst hu
        simp only [castD, Option.some.injEq] at h
        try subst h
        exact ⟨[], cs, [], by simp, rfl, Rd_length r, by simpa using hy⟩
      · simp at h
    | succ o => simp [setAt] at h

end Go.Proofs.Ytfcibaiiobihnaa.Vc
