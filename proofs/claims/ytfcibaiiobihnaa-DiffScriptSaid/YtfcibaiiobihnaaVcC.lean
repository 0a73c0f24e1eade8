/- THE OBJECTS of an abstract state, and what an operation may do to them. -/
import Derived.Test.YtfcibaiiobihnaaVcB
namespace Go.Proofs.Ytfcibaiiobihnaa.Vc
open Go.RowKit

def ToksOk (g : Gh) (t : Ty) (x : t.den) (cs : List Value) (toks : List (Nat × Nat)) : Prop :=
  ∀ o k, (o, k) ∈ toks → ∃ (u : Ty) (l : List u.den) (v : Value), getAt (.list u) t x o = some l ∧ cs[o]? = some v ∧ g.cur k l.length = some v

def BlkOk (g : Gh) (w : World) (i : Nat) : Blk → Prop
  | .cells t x toks => ∃ p cs, g.J i = some p ∧ Rd g w t x cs ∧ w.rangeAt p.1 p.2 cs ∧ w.there p.1 p.2 t.cells ∧ (∀ j, j < t.cells → ¬ g.S p.1 (p.2 + j)) ∧ ToksOk g t x cs toks
  | .grow e c n => ∃ v xs, g.cur i n = some v ∧ w.ownsRow 0 e c v n xs ∧ (∀ m, n < m → g.cur i m = none) ∧ ∀ b, v.ownBlock = some b → ∀ o, g.S b o → o < n * c
  | .row e t l n => l.length = n ∧ ∃ v xs, g.cur i n = some v ∧ w.ownsRow 0 e t.cells v n xs ∧ RdF (Rd g w t) t.cells l xs ∧ (∀ m, n < m → g.cur i m = none) ∧ ∀ b, v.ownBlock = some b → ∀ o, ¬ g.S b o
  | .dead => True

/-- The places that an object takes up. -/
def owns (g : Gh) (i : Nat) : Blk → Nat → Nat → Prop
  | .cells t _ _, b, o => ∃ p, g.J i = some p ∧ b = p.1 ∧ p.2 ≤ o ∧ o < p.2 + t.cells
  | .grow _ _ n, b, _ => ∃ v, g.cur i n = some v ∧ v.ownBlock = some b
  | .row _ _ _ n, b, _ => ∃ v, g.cur i n = some v ∧ v.ownBlock = some b
  | .dead, _, _ => False

structure HeapOk (g : Gh) (w : World) (H : Heap) : Prop where
  blk : ∀ i b, getH H i = some b → BlkOk g w i b
  dis : ∀ i j bi bj b o, i ≠ j → getH H i = some bi → getH H j = some bj → owns g i bi b o → owns g j bj b o → False
  sl : ∀ b o, g.S b o → b < w.heap.size

def ownsIn (g : Gh) (H : Heap) (ids : List Nat) (b o : Nat) : Prop := ∃ i blk, i ∈ ids ∧ getH H i = some blk ∧ owns g i blk b o

/-- Besides the places A, old memory stays; what is sealed anew is new or in A. -/
structure Fr (A : Nat → Nat → Prop) (w w' : World) (S S' : Nat → Nat → Prop) : Prop where
  os : w'.os = w.os
  tape : w'.tape = w.tape
  output : w'.output = w.output
  size : w.heap.size ≤ w'.heap.size
  blk : ∀ b, b < w.heap.size → (∀ o, ¬ A b o) → w'.heap[b]? = w.heap[b]?
  cell : ∀ b o, b < w.heap.size → ¬ A b o → w'.cell? ⟨b, o, none⟩ = w.cell? ⟨b, o, none⟩ ∧ w'.frozen? ⟨b, o, none⟩ = w.frozen? ⟨b, o, none⟩
  new : ∀ b o, S' b o → S b o ∨ w.heap.size ≤ b ∨ A b o

theorem Fr.refl (A : Nat → Nat → Prop) (w : World) (S : Nat → Nat → Prop) : Fr A w w S S :=
  ⟨rfl, rfl, rfl, Nat.le_refl _, fun _ _ _ => rfl, fun _ _ _ _ => ⟨rfl, rfl⟩, fun _ _ h => .inl h⟩

theorem Fr.trans {A B : Nat → Nat → Prop} {w w' w'' : World} {S S' S'' : Nat → Nat → Prop} (h : Fr A w w' S S') (k : Fr B w' w'' S' S'') (hB : ∀ b o, B b o → w.heap.size ≤ b ∨ A b o) : Fr A w w'' S S'' := by
  refine ⟨k.os.trans h.os, k.tape.trans h.tape, k.output.trans h.output, Nat.le_trans h.size k.size, fun b hb hA => ?_, fun b o hb hA => ?_, fun b o hs => ?_⟩
  · refine (k.blk b (Nat.lt_of_lt_of_le hb h.size) fun o ho => ?_).trans (h.blk b hb hA)
    rcases hB b o ho with h1 | h1
    · omega
    · exact hA o h1
  · have h1 := h.cell b o hb hA
    have h2 := k.cell b o (Nat.lt_of_lt_of_le hb h.size) (fun ho => by
      rcases hB b o ho with h1 | h1
      · omega
      · exact hA h1)
    exact ⟨h2.1.trans h1.1, h2.2.trans h1.2⟩
  · rcases k.new b o hs with h1 | h1 | h1
    · exact h.new b o h1
    · exact .inr (.inl (Nat.le_trans h.size h1))
    · exact .inr (hB b o h1)

/-- What an operation has done. -/
structure EffOk (g : Gh) (w : World) (H : Heap) (e : Eff) (g' : Gh) (w' : World) (v : Value) : Prop where
  le : Le g w g' w'
  slot : RdS g' w' e.slot v
  heap : HeapOk g' w' (app e.upd H)
  fr : Fr (ownsIn g H (idsOf e.upd)) w w' g.S g'.S
  perm : ∀ i blk b o, i ∈ idsOf e.upd → getH (app e.upd H) i = some blk → owns g' i blk b o → w.heap.size ≤ b ∨ ownsIn g H (idsOf e.upd) b o
  gho : ∀ i, i ∉ idsOf e.upd → g'.J i = g.J i ∧ g'.cur i = g.cur i
  ty : ∀ i u y us, getH (app e.upd H) i = some (.cells u y us) → (∃ x ts, getH H i = some (.cells u x ts)) ∨ (g.J i = none ∧ ∀ n, g.cur i n = none)

theorem block_of_ownsRow {w : World} {B : Nat} {e : TypeId} {c n : Nat} {v : Value} {xs : List Value} (h : w.ownsRow B e c v n xs) {b : Nat} (hb : v.ownBlock = some b) : b < w.heap.size := (h.lt b hb).2

theorem lt_of_cell {w : World} {b o : Nat} {v : Value} (h : w.cell? ⟨b, o, none⟩ = some v) : b < w.heap.size := by
  have := World.block_lt_of_cell? w ⟨b, o, none⟩ h
  exact this

theorem owns_lt {g : Gh} {w : World} {i : Nat} {blk : Blk} (h : BlkOk g w i blk) {b o : Nat} (ho : owns g i blk b o) : b < w.heap.size := by
  cases blk with
  | cells t x toks =>
    obtain ⟨p, cs, hp, _, _, ht, _⟩ := h
    obtain ⟨q, hq, rfl, h1, h2⟩ := ho
    rw [hp] at hq
    obtain rfl := Option.some.inj hq
    have := (ht (o - p.2) (by omega)).1
    obtain ⟨v, hv⟩ := Option.isSome_iff_exists.1 this
    exact lt_of_cell hv
  | grow e c n =>
    obtain ⟨v, xs, hv, hr, _⟩ := h
    obtain ⟨v', hv', hb⟩ := ho
    rw [hv] at hv'
    obtain rfl := Option.some.inj hv'
    exact block_of_ownsRow hr hb
  | row e t l n =>
    obtain ⟨_, v, xs, hv, hr, _⟩ := h
    obtain ⟨v', hv', hb⟩ := ho
    rw [hv] at hv'
    obtain rfl := Option.some.inj hv'
    exact block_of_ownsRow hr hb
  | dead => exact ho.elim

theorem ToksOk_mono {g g' : Gh} (hc : ∀ k n v, g.cur k n = some v → g'.cur k n = some v) {t : Ty} {x : t.den} {cs : List Value} {toks : List (Nat × Nat)} (h : ToksOk g t x cs toks) : ToksOk g' t x cs toks :=
  fun o k hm => let ⟨u, l, v, h1, h2, h3⟩ := h o k hm; ⟨u, l, v, h1, h2, hc _ _ _ h3⟩

/-- An object that is not touched stays. -/
theorem BlkOk_keep {g g' : Gh} {w w' : World} {i : Nat} {blk : Blk} (h : BlkOk g w i blk) (le : Le g w g' w') (hJ : g'.J i = g.J i) (hcur : g'.cur i = g.cur i)
    (hc : ∀ b o, owns g i blk b o → w'.cell? ⟨b, o, none⟩ = w.cell? ⟨b, o, none⟩ ∧ w'.frozen? ⟨b, o, none⟩ = w.frozen? ⟨b, o, none⟩)
    (hb : ∀ b, (∀ o, owns g i blk b o) → w'.heap[b]? = w.heap[b]?) (hS : ∀ b o, owns g i blk b o → g'.S b o → g.S b o) : BlkOk g' w' i blk := by
  cases blk with
  | cells t x toks =>
    obtain ⟨p, cs, hp, hr, hra, ht, hs, htk⟩ := h
    have ho : ∀ j, j < t.cells → owns g i (.cells t x toks) p.1 (p.2 + j) := fun j hj => ⟨p, hp, rfl, by omega, by omega⟩
    refine ⟨p, cs, hJ.trans hp, Rd_mono le hr, fun j v hv => ?_, fun j hj => ?_, fun j hj hs' => hs j hj (hS _ _ (ho j hj) hs'), ToksOk_mono le.cur htk⟩
    · have hj : j < t.cells := Rd_length hr ▸ (List.getElem?_eq_some_iff.1 hv).1
      rw [(hc _ _ (ho j hj)).1]; exact hra j v hv
    · rw [(hc _ _ (ho j hj)).1, (hc _ _ (ho j hj)).2]; exact ht j hj
  | grow e c n =>
    obtain ⟨v, xs, hv, hr, hn, hs⟩ := h
    have hbl : ∀ b, v.ownBlock = some b → ∀ o, owns g i (.grow e c n) b o := fun b hb o => ⟨v, hv, hb⟩
    refine ⟨v, xs, by rw [hcur]; exact hv, ⟨hr.1, ?_⟩, fun m hm => by rw [hcur]; exact hn m hm, fun b hvb o hs' => hs b hvb o (hS _ _ (hbl b hvb o) hs')⟩
    rcases hr.2 with h0 | ⟨q, cap, cur, e1, e2, e3, e4⟩
    · exact .inl h0
    · subst e1
      exact .inr ⟨q, cap, cur, rfl, e2, by rw [hb q (hbl q rfl)]; exact e3, e4⟩
  | row e t l n =>
    obtain ⟨hl, v, xs, hv, hr, hF, hn, hs⟩ := h
    have hbl : ∀ b, v.ownBlock = some b → ∀ o, owns g i (.row e t l n) b o := fun b hb o => ⟨v, hv, hb⟩
    refine ⟨hl, v, xs, by rw [hcur]; exact hv, ⟨hr.1, ?_⟩, RdF_mono (fun _ _ h => Rd_mono le h) hF, fun m hm => by rw [hcur]; exact hn m hm, fun b hvb o hs' => hs b hvb o (hS _ _ (hbl b hvb o) hs')⟩
    rcases hr.2 with h0 | ⟨q, cap, cur, e1, e2, e3, e4⟩
    · exact .inl h0
    · subst e1
      exact .inr ⟨q, cap, cur, rfl, e2, by rw [hb q (hbl q rfl)]; exact e3, e4⟩
  | dead => trivial

theorem owns_same {g g' : Gh} {i : Nat} {blk : Blk} (hJ : g'.J i = g.J i) (hcur : g'.cur i = g.cur i) {b o : Nat} : owns g' i blk b o ↔ owns g i blk b o := by
  cases blk <;> simp [owns, hJ, hcur]

theorem getH_app {i : Nat} : ∀ {u : List (Nat × Blk)} {H : Heap}, i ∉ idsOf u → getH (app u H) i = getH H i
  | [], _, _ => rfl
  | (k, b) :: r, H, h => by
    simp only [idsOf, List.mem_cons, not_or] at h
    simp only [app, getH]
    rw [if_neg (Ne.symm h.1)]
    exact getH_app h.2

/-- The objects afterwards. -/
theorem HeapOk.upd {g g' : Gh} {w w' : World} {H : Heap} {u : List (Nat × Blk)} (h : HeapOk g w H) (le : Le g w g' w') (fr : Fr (ownsIn g H (idsOf u)) w w' g.S g'.S)
    (perm : ∀ i blk b o, i ∈ idsOf u → getH (app u H) i = some blk → owns g' i blk b o → w.heap.size ≤ b ∨ ownsIn g H (idsOf u) b o)
    (gho : ∀ i, i ∉ idsOf u → g'.J i = g.J i ∧ g'.cur i = g.cur i)
    (hb : ∀ i blk, i ∈ idsOf u → getH (app u H) i = some blk → BlkOk g' w' i blk)
    (hd : ∀ i j bi bj b o, i ∈ idsOf u → j ∈ idsOf u → i ≠ j → getH (app u H) i = some bi → getH (app u H) j = some bj → owns g' i bi b o → owns g' j bj b o → False)
    (sl : ∀ b o, g'.S b o → b < w'.heap.size) : HeapOk g' w' (app u H) := by
  have out : ∀ i blk, i ∉ idsOf u → getH H i = some blk → ∀ b o, owns g i blk b o → b < w.heap.size ∧ ¬ ownsIn g H (idsOf u) b o := fun i blk hi hg b o ho =>
    ⟨owns_lt (h.blk i blk hg) ho, fun ⟨j, bj, hj, hgj, hoj⟩ => h.dis i j blk bj b o (fun e => hi (e ▸ hj)) hg hgj ho hoj⟩
  refine ⟨fun i blk hg => ?_, fun i j bi bj b o hij hgi hgj hoi hoj => ?_, sl⟩
  · by_cases hi : i ∈ idsOf u
    · exact hb i blk hi hg
    · have hg0 := (getH_app hi).symm.trans hg
      have hk := gho i hi
      refine BlkOk_keep (h.blk i blk hg0) le hk.1 hk.2 (fun b o ho => ?_) (fun b ho => ?_) (fun b o ho hs => ?_)
      · exact fr.cell b o (out i blk hi hg0 b o ho).1 (out i blk hi hg0 b o ho).2
      · exact fr.blk b (out i blk hi hg0 b 0 (ho 0)).1 (fun o => (out i blk hi hg0 b o (ho o)).2)
      · rcases fr.new b o hs with h1 | h1 | h1
        · exact h1
        · have := (out i blk hi hg0 b o ho).1; omega
        · exact absurd h1 (out i blk hi hg0 b o ho).2
  · by_cases hi : i ∈ idsOf u <;> by_cases hj : j ∈ idsOf u
    · exact hd i j bi bj b o hi hj hij hgi hgj hoi hoj
    · have hg0 := (getH_app hj).symm.trans hgj
      have ho0 := (owns_same (gho j hj).1 (gho j hj).2).1 hoj
      rcases perm i bi b o hi hgi hoi with h1 | h1
      · have := (out j bj hj hg0 b o ho0).1; omega
      · exact (out j bj hj hg0 b o ho0).2 h1
    · have hg0 := (getH_app hi).symm.trans hgi
      have ho0 := (owns_same (gho i hi).1 (gho i hi).2).1 hoi
      rcases perm j bj b o hj hgj hoj with h1 | h1
      · have := (out i bi hi hg0 b o ho0).1; omega
      · exact (out i bi hi hg0 b o ho0).2 h1
    · exact h.dis i j bi bj b o hij ((getH_app hi).symm.trans hgi) ((getH_app hj).symm.trans hgj) ((owns_same (gho i hi).1 (gho i hi).2).1 hoi) ((owns_same (gho j hj).1 (gho j hj).2).1 hoj)

/-- An operation that makes nothing. -/
theorem EffOk.pure {g : Gh} {w : World} {H : Heap} {side : List Prop} {s : Slot} {rds : List Nat} {v : Value} (h : HeapOk g w H) (hs : RdS g w s v) : EffOk g w H ⟨side, s, [], rds⟩ g w v :=
  ⟨.refl _ _, hs, h, .refl _ _ _, fun _ _ _ _ hi => (by cases hi), fun _ _ => ⟨rfl, rfl⟩, fun _ _ y us h => .inl ⟨y, us, h⟩⟩

end Go.Proofs.Ytfcibaiiobihnaa.Vc
