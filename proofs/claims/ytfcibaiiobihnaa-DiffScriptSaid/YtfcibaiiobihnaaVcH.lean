/- WHAT MAKES OR WRITES AN OBJECT: the effect. -/
import Derived.Test.YtfcibaiiobihnaaVcG
import Derived.Laws.AppendOwn
import Derived.Deep.Upon
namespace Go.Proofs.Ytfcibaiiobihnaa.Vc
open Go.RowKit
set_option linter.unusedSectionVars false

theorem RdF_one {α : Type} {R : α → List Value → Prop} {c : Nat} (hR : ∀ x cs, R x cs → ∀ v ∈ cs, v.oneCell' = true) : ∀ {l : List α} {cs : List Value}, RdF R c l cs → ∀ v ∈ cs, v.oneCell' = true
  | [], _, h => by rw [h]; simp
  | _ :: _, _, ⟨c1, c2, e, _, h2, h3⟩ => by
    subst e
    intro v hv
    rcases List.mem_append.1 hv with h | h
    · exact hR _ _ h2 v h
    · exact RdF_one hR h3 v h

theorem RdF_set {α : Type} {R : α → List Value → Prop} {c : Nat} : ∀ {l : List α} {cs cy : List Value} {i : Nat} {y : α}, RdF R c l cs → R y cy → cy.length = c → i < l.length →
    ∃ c1 c2 c3, cs = c1 ++ c2 ++ c3 ∧ c1.length = i * c ∧ c2.length = c ∧ RdF R c (l.set i y) (c1 ++ cy ++ c3)
  | [], _, _, _, _, _, _, _, h => by simp at h
  | _ :: l, _, cy, 0, y, ⟨c1, c2, e, h1, _, h3⟩, hy, hc, _ => ⟨[], c1, c2, by simpa using e, by simp, h1, ⟨cy, c2, by simp, hc, hy, h3⟩⟩
  | x :: l, _, cy, i + 1, y, ⟨c1, c2, e, h1, h2, h3⟩, hy, hc, hi => by
    obtain ⟨d1, d2, d3, e1, e2, e3, e4⟩ := RdF_set h3 hy hc (by simpa using hi)
    refine ⟨c1 ++ d1, d2, d3, by rw [e, e1]; simp, by rw [List.length_append, h1, e2, Nat.succ_mul]; omega, e3, ⟨c1, d1 ++ cy ++ d3, by simp, h1, h2, e4⟩⟩

theorem RdL_toF {α : Type} {R : α → List Value → Prop} {w : World} {S : Nat → Nat → Prop} {c b : Nat} : ∀ {l : List α} {o : Nat}, RdL R w S c b o l → ∃ cs, RdF R c l cs ∧ w.rangeAt b o cs ∧ ∀ j, j < l.length * c → S b (o + j)
  | [], o, _ => ⟨[], rfl, fun j v h => by simp at h, fun j h => by simp at h⟩
  | x :: l, o, ⟨⟨c1, h1, h2, h3, h4⟩, h5⟩ => by
    obtain ⟨c2, k1, k2, k3⟩ := RdL_toF h5
    refine ⟨c1 ++ c2, ⟨c1, c2, rfl, h1, h4, k1⟩, fun j v hv => ?_, fun j hj => ?_⟩
    · by_cases hj : j < c
      · exact h2 j v (by rwa [List.getElem?_append_left (by omega)] at hv)
      · have := k2 (j - c) v (by rw [List.getElem?_append_right (by omega), h1] at hv; exact hv)
        rwa [show o + c + (j - c) = o + j from by omega] at this
    · by_cases hj' : j < c
      · exact h3 j hj'
      · have := k3 (j - c) (by rw [List.length_cons, Nat.succ_mul] at hj; omega)
        rwa [show o + c + (j - c) = o + j from by omega] at this

theorem RdL_ofF {α : Type} {R : α → List Value → Prop} {w : World} {S : Nat → Nat → Prop} {c b : Nat} : ∀ {l : List α} {o : Nat} {cs : List Value}, RdF R c l cs → w.rangeAt b o cs → (∀ j, j < l.length * c → S b (o + j)) → RdL R w S c b o l
  | [], _, _, _, _, _ => trivial
  | x :: l, o, cs, ⟨c1, c2, e, h1, h2, h3⟩, hr, hS => by
    subst e
    refine ⟨⟨c1, h1, fun j v hv => hr j v (by rw [List.getElem?_append_left (List.getElem?_eq_some_iff.1 hv).1]; exact hv), fun j hj => hS j (by rw [List.length_cons, Nat.succ_mul]; omega), h2⟩, RdL_ofF h3 (fun j v hv => ?_) (fun j hj => ?_)⟩
    · have := hr (c + j) v (by rw [List.getElem?_append_right (by omega), h1, Nat.add_sub_cancel_left]; exact hv)
      rwa [← Nat.add_assoc] at this
    · have := hS (c + j) (by rw [List.length_cons, Nat.succ_mul]; omega)
      rwa [← Nat.add_assoc] at this

theorem RdF_rep {g : Gh} {w : World} {t : Ty} : ∀ n, RdF (Rd g w t) t.cells (repL t n) (List.flatten (List.replicate n (zeroCells t)))
  | 0 => rfl
  | n + 1 => ⟨zeroCells t, _, rfl, Rd_length (zeroCells_Rd g w t), zeroCells_Rd g w t, RdF_rep n⟩

theorem repL_length (t : Ty) : ∀ n, (repL t n).length = n
  | 0 => rfl
  | n + 1 => by simp [repL, repL_length t n]

/-! ### New rights, new variables -/
def Gh.tok (g : Gh) (k n : Nat) (v : Value) : Gh := { g with cur := fun k' n' => if k' = k ∧ n' = n then some v else g.cur k' n' }
def Gh.var (g : Gh) (i b : Nat) : Gh := { g with J := fun i' => if i' = i then some (b, 0) else g.J i' }
def Gh.shut (g : Gh) (b m : Nat) : Gh := { g with S := fun b' o => g.S b' o ∨ (b' = b ∧ o < m) }

section
variable {g : Gh} {w : World} {H : Heap} (hH : HeapOk g w H)
include hH

/-- The right to append to a nil slice. -/
theorem EffOk.nilTok {side : List Prop} {d : DV} {rds : List Nat} {base e c : Nat} {u : Ty} (hd : d = .val (.list u) []) (hf : ∀ n, g.cur base n = none) :
    EffOk g w H ⟨side, (d, some base), [(base, .grow e c 0)], rds⟩ (g.tok base 0 (.slice none 0 0)) w (.slice none 0 0) := by
  have le : Le g w (g.tok base 0 (.slice none 0 0)) w := ⟨fun _ _ h => h, fun _ _ _ => rfl, fun _ _ h => h, fun k n v h => by
    show (if k = base ∧ n = 0 then _ else _) = _
    rw [if_neg (fun ⟨e1, _⟩ => by rw [e1, hf] at h; cases h)]; exact h⟩
  have fr : Fr (ownsIn g H (idsOf [(base, Blk.grow e c 0)])) w w g.S (g.tok base 0 (.slice none 0 0)).S := .refl _ _ _
  have gho : ∀ i, i ∉ idsOf [(base, Blk.grow e c 0)] → (g.tok base 0 (.slice none 0 0)).J i = g.J i ∧ (g.tok base 0 (.slice none 0 0)).cur i = g.cur i := fun i hi => ⟨rfl, by
    funext n
    show (if i = base ∧ n = 0 then _ else _) = _
    rw [if_neg (fun ⟨e1, _⟩ => hi (by simp [idsOf, e1]))]⟩
  have cur0 : (g.tok base 0 (.slice none 0 0)).cur base 0 = some (.slice none 0 0) := by simp [Gh.tok]
  have own : ∀ i blk b o, i ∈ idsOf [(base, Blk.grow e c 0)] → getH (app [(base, Blk.grow e c 0)] H) i = some blk → ¬ owns (g.tok base 0 (.slice none 0 0)) i blk b o := by
    intro i blk b o hi hg ho
    simp only [idsOf, List.mem_singleton] at hi
    subst hi
    simp only [app, getH, if_true, Option.some.injEq] at hg
    subst hg
    obtain ⟨v, hv, hb⟩ := ho
    rw [cur0] at hv
    obtain rfl := Option.some.inj hv
    cases hb
  subst hd
  refine ⟨le, ⟨.inr ⟨rfl, none, 0, rfl, Nat.le_refl _, .inl rfl⟩, cur0⟩, hH.upd le fr (fun i blk b o h1 h2 h3 => absurd h3 (own i blk b o h1 h2)) gho (fun i blk hi hg => ?_) (fun i j bi bj b o hi hj hij hgi hgj hoi hoj => own i bi b o hi hgi hoi) hH.sl, fr, fun i blk b o h1 h2 h3 => absurd h3 (own i blk b o h1 h2), gho, fun i u' y us h => by
    simp only [app, getH] at h
    split at h
    · cases h
    · exact .inl ⟨y, us, h⟩⟩
  simp only [idsOf, List.mem_singleton] at hi
  subst hi
  simp only [app, getH, if_true, Option.some.injEq] at hg
  subst hg
  refine ⟨.slice none 0 0, [], cur0, World.ownsRow_nil w 0 e c, fun m hm => ?_, fun b hb => by cases hb⟩
  show (if i = i ∧ m = 0 then _ else _) = _
  rw [if_neg (by omega)]
  exact hf m

/-- A row of the function's own, afterwards. -/
theorem EffOk.row {side : List Prop} {rds : List Nat} {s : Slot} {val : Value} {k : Nat} {e : TypeId} {t : Ty} {l : List t.den} {n : Nat} {v : Value} {xs : List Value} {w' : World}
    (hl : l.length = n) (hown : w'.ownsRow 0 e t.cells v n xs) (hF : RdF (Rd g w t) t.cells l xs) (hnone : ∀ m, n < m → g.cur k m = none) (hcur : ∀ u, g.cur k n = some u → u = v)
    (hg : w.grownBy w' (v.ownBlock)  ∨ ∃ q, w.grownBy w' q ∧ ∀ b, q = some b → ∀ o, ownsIn g H [k] b o)
    (hcell : ∀ b o, g.S b o → w'.cell? ⟨b, o, none⟩ = w.cell? ⟨b, o, none⟩)
    (hseal : ∀ b, v.ownBlock = some b → ∀ o, ¬ g.S b o)
    (hperm : ∀ b, v.ownBlock = some b → w.heap.size ≤ b ∨ ∀ o, ownsIn g H [k] b o)
    (hslot : RdS (g.tok k n v) w' s val) : EffOk g w H ⟨side, s, [(k, .row e t l n)], rds⟩ (g.tok k n v) w' val := by
  have le : Le g w (g.tok k n v) w' := ⟨fun _ _ h => h, fun b o h => hcell b o h, fun _ _ h => h, fun k' n' v' h => by
    show (if k' = k ∧ n' = n then _ else _) = _
    by_cases hk : k' = k ∧ n' = n
    · obtain ⟨rfl, rfl⟩ := hk
      rw [if_pos ⟨rfl, rfl⟩, hcur _ h]
    · rw [if_neg hk]; exact h⟩
  have cur1 : (g.tok k n v).cur k n = some v := by simp [Gh.tok]
  have hblk : ∀ b, b < w.heap.size → (∀ o, ¬ ownsIn g H (idsOf [(k, Blk.row e t l n)]) b o) → w'.heap[b]? = w.heap[b]? := by
    intro b hb hno
    rcases hg with hg | ⟨q, hg, hq⟩
    · refine hg.block b hb (fun e1 => ?_)
      rcases hperm b e1.symm with h | h
      · omega
      · exact hno 0 (h 0)
    · exact hg.block b hb (fun e1 => hno 0 (hq b e1.symm 0))
  have hgo : w'.os = w.os ∧ w'.tape = w.tape ∧ w'.output = w.output ∧ w.heap.size ≤ w'.heap.size := by
    rcases hg with hg | ⟨q, hg, _⟩
    · exact ⟨hg.os, hg.tape, hg.output, hg.size⟩
    · exact ⟨hg.os, hg.tape, hg.output, hg.size⟩
  have hall : ∀ b o, ownsIn g H (idsOf [(k, Blk.row e t l n)]) b o → True := fun _ _ _ => trivial
  have hcell2 : ∀ b o, b < w.heap.size → ¬ ownsIn g H (idsOf [(k, Blk.row e t l n)]) b o → (w'.cell? ⟨b, o, none⟩ = w.cell? ⟨b, o, none⟩ ∧ w'.frozen? ⟨b, o, none⟩ = w.frozen? ⟨b, o, none⟩) := by
    intro b o hb hno
    have : w'.heap[b]? = w.heap[b]? := by
      rcases hg with hg | ⟨q, hg, hq⟩
      · refine hg.block b hb (fun e1 => ?_)
        rcases hperm b e1.symm with h | h
        · omega
        · exact hno (h o)
      · exact hg.block b hb (fun e1 => hno (hq b e1.symm o))
    exact ⟨World.cell?_of_block (a := ⟨b, o, none⟩) this, World.frozen?_of_block (a := ⟨b, o, none⟩) this⟩
  have fr : Fr (ownsIn g H (idsOf [(k, Blk.row e t l n)])) w w' g.S (g.tok k n v).S := ⟨hgo.1, hgo.2.1, hgo.2.2.1, hgo.2.2.2, hblk, hcell2, fun b o h => .inl h⟩
  have gho : ∀ i, i ∉ idsOf [(k, Blk.row e t l n)] → (g.tok k n v).J i = g.J i ∧ (g.tok k n v).cur i = g.cur i := fun i hi => ⟨rfl, by
    funext n'
    show (if i = k ∧ n' = n then _ else _) = _
    rw [if_neg (fun ⟨e1, _⟩ => hi (by simp [idsOf, e1]))]⟩
  have get : ∀ i blk, i ∈ idsOf [(k, Blk.row e t l n)] → getH (app [(k, Blk.row e t l n)] H) i = some blk → i = k ∧ blk = .row e t l n := by
    intro i blk hi hg
    simp only [idsOf, List.mem_singleton] at hi
    subst hi
    simp only [app, getH, if_true, Option.some.injEq] at hg
    exact ⟨rfl, hg.symm⟩
  have perm : ∀ i blk b o, i ∈ idsOf [(k, Blk.row e t l n)] → getH (app [(k, Blk.row e t l n)] H) i = some blk → owns (g.tok k n v) i blk b o → w.heap.size ≤ b ∨ ownsIn g H (idsOf [(k, Blk.row e t l n)]) b o := by
    intro i blk b o hi hgt ho
    obtain ⟨rfl, rfl⟩ := get i blk hi hgt
    obtain ⟨v', hv', hb⟩ := ho
    rw [cur1] at hv'
    obtain rfl := Option.some.inj hv'
    exact (hperm b hb).imp id (fun h => h o)
  refine ⟨le, hslot, hH.upd le fr perm gho (fun i blk hi hgt => ?_) (fun i j bi bj b o hi hj hij hgi hgj _ _ => hij ((get i bi hi hgi).1.trans (get j bj hj hgj).1.symm)) (fun b o h => Nat.lt_of_lt_of_le (hH.sl b o h) hgo.2.2.2), fr, perm, gho, fun i u' y us h => by
    simp only [app, getH] at h
    split at h
    · cases h
    · exact .inl ⟨y, us, h⟩⟩
  obtain ⟨rfl, rfl⟩ := get i blk hi hgt
  refine ⟨hl, v, xs, cur1, hown, RdF_mono (fun _ _ h => Rd_mono le h) hF, fun m hm => ?_, hseal⟩
  show (if i = i ∧ m = n then _ else _) = _
  rw [if_neg (by omega)]
  exact hnone m hm

/-- A new variable. -/
theorem EffOk.newVar {side : List Prop} {rds : List Nat} {base : Nat} {t : Ty} {x : t.den} {toks : List (Nat × Nat)} {cs : List Value} {e : TypeId} (hR : Rd g w t x cs) (htk : ToksOk g t x cs toks) (hf : g.J base = none) (hc : g.cur base = fun _ => none) :
    EffOk g w H ⟨side, (.val .ref (some (base, 0)), none), [(base, .cells t x toks)], rds⟩ (g.var base w.heap.size) (w.alloc (.cells cs.toArray e)) (.pointer (some ⟨w.heap.size, 0, none⟩)) := by
  have hJ : (g.var base w.heap.size).J base = some (w.heap.size, 0) := by simp [Gh.var]
  have le : Le g w (g.var base w.heap.size) (w.alloc (.cells cs.toArray e)) := ⟨fun _ _ h => h, fun b o h => World.cell?_of_block (a := ⟨b, o, none⟩) (Below.heap_alloc _ _ _ (hH.sl b o h)), fun i p h => by
    show (if i = base then _ else _) = _
    rw [if_neg (fun e1 => by rw [e1, hf] at h; cases h)]; exact h, fun _ _ _ h => h⟩
  have fr : Fr (ownsIn g H (idsOf [(base, Blk.cells t x toks)])) w (w.alloc (.cells cs.toArray e)) g.S (g.var base w.heap.size).S :=
    ⟨rfl, rfl, rfl, by simp, fun b hb _ => Below.heap_alloc _ _ _ hb, fun b o hb _ => ⟨World.cell?_of_block (a := ⟨b, o, none⟩) (Below.heap_alloc _ _ _ hb), World.frozen?_of_block (a := ⟨b, o, none⟩) (Below.heap_alloc _ _ _ hb)⟩, fun b o h => .inl h⟩
  have gho : ∀ i, i ∉ idsOf [(base, Blk.cells t x toks)] → (g.var base w.heap.size).J i = g.J i ∧ (g.var base w.heap.size).cur i = g.cur i := fun i hi => ⟨by
    show (if i = base then _ else _) = _
    rw [if_neg (fun e1 => hi (by simp [idsOf, e1]))], rfl⟩
  have get : ∀ i blk, i ∈ idsOf [(base, Blk.cells t x toks)] → getH (app [(base, Blk.cells t x toks)] H) i = some blk → i = base ∧ blk = .cells t x toks := by
    intro i blk hi hg
    simp only [idsOf, List.mem_singleton] at hi
    subst hi
    simp only [app, getH, if_true, Option.some.injEq] at hg
    exact ⟨rfl, hg.symm⟩
  have perm : ∀ i blk b o, i ∈ idsOf [(base, Blk.cells t x toks)] → getH (app [(base, Blk.cells t x toks)] H) i = some blk → owns (g.var base w.heap.size) i blk b o → w.heap.size ≤ b ∨ ownsIn g H (idsOf [(base, Blk.cells t x toks)]) b o := by
    intro i blk b o hi hg ho
    obtain ⟨rfl, rfl⟩ := get i blk hi hg
    obtain ⟨p, hp, h1, _⟩ := ho
    rw [hJ] at hp
    obtain rfl := Option.some.inj hp
    exact .inl (Nat.le_of_eq h1.symm)
  have hl := Rd_length hR
  refine ⟨le, ⟨.inr ⟨rfl, (w.heap.size, 0), hJ, rfl⟩, trivial⟩, hH.upd le fr perm gho (fun i blk hi hg => ?_) (fun i j bi bj b o hi hj hij hgi hgj _ _ => hij ((get i bi hi hgi).1.trans (get j bj hj hgj).1.symm)) (fun b o h => Nat.lt_of_lt_of_le (hH.sl b o h) (by simp)), fr, perm, gho, fun i u' y us h => by
    simp only [app, getH] at h
    split at h
    · rename_i e1; subst e1; exact .inr ⟨hf, fun n => by rw [hc]⟩
    · exact .inl ⟨y, us, h⟩⟩
  obtain ⟨rfl, rfl⟩ := get i blk hi hg
  refine ⟨(w.heap.size, 0), cs, hJ, Rd_mono le hR, fun j v hv => ?_, fun j hj => ?_, fun j _ hs => Nat.lt_irrefl _ (hH.sl _ _ hs), ToksOk_mono le.cur htk⟩
  · simp only [Nat.zero_add]
    rw [World.cell?_alloc_new]; simpa using hv
  · simp only [Nat.zero_add]
    rw [World.cell?_alloc_new, World.frozen?_alloc_new]
    exact ⟨by simp; omega, rfl⟩

end

end Go.Proofs.Ytfcibaiiobihnaa.Vc
