/- Memory words: a block of cells known whole, as a function of the place; a slice that reads as a list of strings; small lemmas for walks. -/
import Derived.Test.YtfcibaiiobihnaaRows
import Derived.WalkKit
import Derived.WalkSpells
import Derived.WalkLawsBesides
import Derived.WalkSmall
import Derived.Lib.Hide
import Derived.Deep.QuietTactic
import Derived.BigQuiet
import Derived.Deep.DeepFit
import Derived.Deep.DeepMust
import Derived.Deep.LoopGhost
import Derived.Deep.Cut
import Derived.Deep.Light
import Derived.StillTailTactics
import Derived.Laws.OwnMore
import Derived.SliceStrings
import Derived.ProofKit
import Derived.OpenShut
namespace Go.Proofs.Ytfcibaiiobihnaa
open Go.RowKit

theorem ret_int {k : IntKind} {a b : Int} (h : a = b) : Ending.returned (.int k a) = .returned (.int k b) := by rw [h]
theorem ret_bool {a b : Bool} (h : a = b) : Ending.returned (.bool a) = .returned (.bool b) := by rw [h]
theorem ret_string {a b : ByteArray} (h : a = b) : Ending.returned (.string a) = .returned (.string b) := by rw [h]
theorem val_int {k : IntKind} {a b : Int} (h : a = b) : Value.int k a = .int k b := by rw [h]

theorem str_true {s t : ByteArray} (h : s = t) : (s.toList == t.toList) = true := by rw [h]; simp
theorem str_false {s t : ByteArray} (h : ¬ s = t) : (s.toList == t.toList) = false := by
  rw [beq_eq_false_iff_ne]
  intro e
  rw [ByteArray.toList_eq, ByteArray.toList_eq] at e
  exact h (ByteArray.ext (Array.ext' e))

theorem strne_false {s t : ByteArray} (h : s = t) : (s.toList != t.toList) = false := by simp only [bne, str_true h, Bool.not_true]
theorem strne_true {s t : ByteArray} (h : ¬ s = t) : (s.toList != t.toList) = true := by simp only [bne, str_false h, Bool.not_false]

/-- What a contract's 'Below' over the whole heap gives the walk: old cells and old marks read as before. -/
theorem bcell {W w1 : World} (hb : Below W.heap.size W w1) : (∀ b o, b < W.heap.size → w1.cell? ⟨b, o, none⟩ = W.cell? ⟨b, o, none⟩) ∧ (∀ b o, b < W.heap.size → w1.frozen? ⟨b, o, none⟩ = W.frozen? ⟨b, o, none⟩) :=
  ⟨fun b o h => hb.cell (p := ⟨b, o, none⟩) h, fun b o h => hb.frozen (p := ⟨b, o, none⟩) h⟩

theorem ownsRow_drewN {w : World} {base e size : Nat} {v : Value} {n : Nat} {xs : List Value} (h : w.ownsRow base e size v n xs) (k : Nat) : (w.drewN k).ownsRow base e size v n xs := h
theorem one_cell {u : Value} (h : u.oneCell' = true) : ∀ x ∈ [u], x.oneCell' = true := by
  intro x hx
  rw [List.mem_singleton] at hx
  rw [hx]; exact h
theorem two_cells {u v : Value} (h : u.oneCell' = true) (k : v.oneCell' = true) : ∀ x ∈ [u, v], x.oneCell' = true := by
  intro x hx
  simp only [List.mem_cons, List.not_mem_nil, or_false] at hx
  rcases hx with rfl | rfl
  · exact h
  · exact k
/-! ### A block of cells, known whole -/
/-- Block g holds n cells of element type e, the i-th being f i; none is frozen. -/
def Arr (w : World) (g e n : Nat) (f : Nat → Value) : Prop :=
  ∃ cur : Array Value, w.heap[g]? = some (.cells cur e (0, 0)) ∧ cur.size = n ∧ ∀ i, i < n → cur[i]? = some (f i)
theorem Arr.lt {w : World} {g e n : Nat} {f : Nat → Value} (h : Arr w g e n f) : g < w.heap.size := by
  obtain ⟨cur, h1, _, _⟩ := h
  exact (Array.getElem?_eq_some_iff.1 h1).1
theorem Arr.cell {w : World} {g e n : Nat} {f : Nat → Value} (h : Arr w g e n f) {i : Nat} (hi : i < n) : w.cell? ⟨g, i, none⟩ = some (f i) := by
  obtain ⟨cur, h1, _, h3⟩ := h
  rw [cell_of_row w g i cur e (0, 0) h1, h3 i hi]
theorem Arr.frozen {w : World} {g e n : Nat} {f : Nat → Value} (h : Arr w g e n f) (i : Nat) : w.frozen? ⟨g, i, none⟩ = false := by
  obtain ⟨cur, h1, _, _⟩ := h
  exact frozen_of_row w g i cur e h1
theorem Arr.of_block {w w' : World} {g e n : Nat} {f : Nat → Value} (h : Arr w g e n f) (hb : w'.heap[g]? = w.heap[g]?) : Arr w' g e n f := by
  obtain ⟨cur, h1, h2, h3⟩ := h
  exact ⟨cur, hb.trans h1, h2, h3⟩
theorem Arr.below {w w' : World} {B g e n : Nat} {f : Nat → Value} (h : Arr w g e n f) (hb : Below B w w') (hg : g < B) : Arr w' g e n f := h.of_block (hb.block g hg)
theorem Arr.alloc {w : World} {g e n : Nat} {f : Nat → Value} (h : Arr w g e n f) (o : Obj) : Arr (w.alloc o) g e n f := h.of_block (Below.heap_alloc _ _ _ h.lt)
theorem Arr.drew {w : World} {g e n : Nat} {f : Nat → Value} (h : Arr w g e n f) : Arr w.drew g e n f := h
theorem Arr.drewN {w : World} {g e n : Nat} {f : Nat → Value} (h : Arr w g e n f) (k : Nat) : Arr (w.drewN k) g e n f := h
theorem Arr.grown {w w' : World} {g e n : Nat} {f : Nat → Value} {row : Option Nat} (h : Arr w g e n f) (hg : w.grownBy w' row) (hne : some g ≠ row) : Arr w' g e n f := h.of_block (hg.block g h.lt hne)
theorem Arr.other {w : World} {g e n : Nat} {f : Nat → Value} (h : Arr w g e n f) {a : Addr} (ha : a.block ≠ g) (v : Value) : Arr (w.setCell a v) g e n f :=
  h.of_block (Below.heap_setCell _ _ _ _ (fun k => ha k.symm))
theorem Arr.set {w : World} {g e n : Nat} {f : Nat → Value} (h : Arr w g e n f) (i : Nat) (v : Value) : Arr (w.setCell ⟨g, i, none⟩ v) g e n (fun j => if j = i then v else f j) := by
  obtain ⟨cur, h1, h2, h3⟩ := h
  refine ⟨cur.setIfInBounds i v, heap_setCell_same w g i cur e v h1, by simpa using h2, fun j hj => ?_⟩
  rw [Array.getElem?_setIfInBounds]
  by_cases hij : i = j
  · subst hij
    rw [if_pos rfl, if_pos (by omega)]
    simp
  · rw [if_neg hij, h3 j hj]
    have : ¬ j = i := fun k => hij k.symm
    simp [this]
theorem Arr.congr {w : World} {g e n : Nat} {f f' : Nat → Value} (h : Arr w g e n f) (hf : ∀ i, i < n → f i = f' i) : Arr w g e n f' := by
  obtain ⟨cur, h1, h2, h3⟩ := h
  exact ⟨cur, h1, h2, fun i hi => by rw [h3 i hi, hf i hi]⟩
/-- A block that a make with as much length as capacity has laid. -/
theorem Arr.of_own {w : World} {base e g n cap : Nat} {xs : List Value} (h : w.ownsRow base e 1 (.slice (some ⟨g, 0, none⟩) n cap) n xs) (hc : cap = n) : base ≤ g ∧ Arr w g e n (fun i => xs.getD i undef) := by
  obtain ⟨h1, h2⟩ := h
  rcases h2 with ⟨h0, _⟩ | ⟨g', cap', cur, hv, hg, hh, _, _, hsz, htake⟩
  · cases h0
  · cases hv
    refine ⟨hg, cur, hh, by omega, fun i hi => ?_⟩
    rw [← htake]
    have : i < cur.size := by omega
    simp [List.getD, hi, this]

/-! ### A slice that reads as a list of strings -/
/-- The slice value v reads as the list of strings ss in the world w. -/
def Strs (w : World) (v : Value) (ss : List ByteArray) : Prop :=
  (ss = [] ∧ ∃ ao cap, v = .slice ao 0 cap ∧ ss.length ≤ 9223372036854775807) ∨
  ∃ b off cap, v = .slice (some ⟨b, off, none⟩) ss.length cap ∧ ss.length ≤ cap ∧ ss.length ≤ 9223372036854775807 ∧ b < w.heap.size ∧
    ∀ i, i < ss.length → w.cell? ⟨b, off + i, none⟩ = some (.string (ss.getD i ByteArray.empty))
theorem Strs.below {w w' : World} {v : Value} {ss : List ByteArray} (h : Strs w v ss) (hb : Below w.heap.size w w') : Strs w' v ss := by
  rcases h with h | ⟨b, off, cap, h1, h2, h3, h4, h5⟩
  · exact .inl h
  · exact .inr ⟨b, off, cap, h1, h2, h3, by have := hb.size; omega, fun i hi => (hb.cell (p := ⟨b, off + i, none⟩) h4).trans (h5 i hi)⟩
theorem Strs.drew {w : World} {v : Value} {ss : List ByteArray} (h : Strs w v ss) : Strs w.drew v ss := h
/-- What a walk wants of it: a length, an address where there is an element, the cells. -/
theorem Strs.open {w : World} {v : Value} {ss : List ByteArray} (h : Strs w v ss) : ∃ ao cap, v = .slice ao ss.length cap ∧ ss.length ≤ 9223372036854775807 ∧ ss.length ≤ cap ∧ ss.length ≤ 9223372036854775807 ∧
    (0 < ss.length → ∃ b off, ao = some ⟨b, off, none⟩ ∧ b < w.heap.size ∧ ∀ i, i < ss.length → w.cell? ⟨b, off + i, none⟩ = some (.string (ss.getD i ByteArray.empty))) := by
  rcases h with ⟨rfl, ao, cap, rfl, hc⟩ | ⟨b, off, cap, h1, h2, h3, h4, h5⟩
  · exact ⟨ao, cap, rfl, by simp, by simp, hc, by simp⟩
  · exact ⟨_, cap, h1, by omega, h2, h3, fun _ => ⟨b, off, rfl, h4, h5⟩⟩

theorem Strs.nil (w : World) : Strs w (.slice none 0 0) [] := .inl ⟨rfl, none, 0, rfl, by simp⟩
/-- A cell of type []string, as it came in. -/
theorem strs_of_cell {H : Type} {enc : TypeId × Value → H} {P : Program} {W : World} {t e : TypeId} {fuel : Nat} {c : Value} {x : DataW H × List MemPlace} (ht : P.underlying t = some (.slice e)) (he : P.underlying e = some .string) (hc : P.cellsOf e = 1)
    (hf : DataW.trod enc P W 0 (fun _ => true) true fuel t [c] = some x) (hlt : ∀ y ∈ x.2, y.block < W.heap.size) : ∃ ss, Strs W c ss := by
  rcases ChangeShapes.open_strings ht he hc hf with ⟨hcs, hx⟩ | ⟨a, len, cap, ss, hcs, _, hl, hm, hz, hx, hcell, hsz⟩
  · simp at hcs
    subst hcs
    exact ⟨[], Strs.nil W⟩
  · simp at hcs
    subst hcs
    subst hx
    simp only [if_true] at hz
    have hm' : cap ≤ 9223372036854775807 := by simp only [maxLen] at hm; omega
    by_cases hl0 : len = 0
    · subst hl0
      exact ⟨[], .inl ⟨rfl, _, cap, rfl, by simp⟩⟩
    · obtain ⟨b, off, spot⟩ := a
      have hspot : spot = none := by simpa [Addr.add] using World.cell?_spot (hcell 0 (by omega))
      subst hspot
      have hbW : b < W.heap.size := hlt (.cell b off) (MemPlace.mem_row.2 ⟨0, by omega, by simp⟩)
      have hll : (ss.take len).length = len := by rw [List.length_take]; omega
      refine ⟨ss.take len, .inr ⟨b, off, cap, by rw [hll], by omega, by omega, hbW, fun i hi => ?_⟩⟩
      have hi' : i < len := by omega
      have := hcell i (by omega)
      rw [Addr.add_lit] at this
      rw [this]
      simp [List.getD, hi']
/-- An argument of type []string, as it came in. -/
theorem strs_of_trod {H : Type} {enc : TypeId × Value → H} {P : Program} {W : World} {t e : TypeId} {base : Nat} {v : Value} {d : DataW H} {ps : List MemPlace} (ht : P.underlying t = some (.slice e)) (he : P.underlying e = some .string) (hc : P.cellsOf e = 1)
    (hok : Value.okWide P W .any base t v) (h : DataW.Trod enc P W 0 (fun _ => true) true t v d ps) (hlt : ∀ x ∈ ps, x.block < W.heap.size) : ∃ ss, Strs W v ss := by
  obtain ⟨a0, len, cap, rfl⟩ := WideShapes.okWide_slice ht hok
  obtain ⟨fuel, hf⟩ := h
  exact strs_of_cell ht he hc hf hlt
/-- An argument of type [2]T, T of one cell. -/
theorem pair_of_trod {H : Type} {enc : TypeId × Value → H} {P : Program} {W : World} {t e : TypeId} {base : Nat} {v : Value} {d : DataW H} {ps : List MemPlace} (ht : P.underlying t = some (.array 2 e)) (hc : P.cellsOf e = 1) (hct : P.cellsOf t = 2)
    (hok : Value.okWide P W .any base t v) (h : DataW.Trod enc P W 0 (fun _ => true) true t v d ps) (hlt : ∀ x ∈ ps, x.block < W.heap.size) :
    ∃ c0 c1 m y0 y1, v = .agg #[c0, c1] ∧ DataW.trod enc P W 0 (fun _ => true) true m e [c0] = some y0 ∧ DataW.trod enc P W 0 (fun _ => true) true m e [c1] = some y1 ∧ (∀ y ∈ y0.2, y.block < W.heap.size) ∧ (∀ y ∈ y1.2, y.block < W.heap.size) := by
  have hsh : ∃ cs, v = .agg cs ∧ cs.size = P.cellsOf t := by
    unfold Value.okWide at hok
    rw [ht] at hok
    obtain ⟨cs, h1, h2, _⟩ := hok
    exact ⟨cs, h1, h2⟩
  obtain ⟨cs, rfl, hsz⟩ := hsh
  obtain ⟨c0, c1, rfl⟩ : ∃ c0 c1, cs = #[c0, c1] := by
    obtain ⟨l⟩ := cs
    rw [hct] at hsz
    match l, hsz with
    | [c0, c1], _ => exact ⟨c0, c1, rfl⟩
  obtain ⟨fuel, hf⟩ := h
  obtain ⟨xs, m, rfl, hx, hcl, hxl, hel⟩ := DataW.trod_array ht hf
  simp only [Prod.mk.injEq] at hx
  obtain ⟨rfl, rfl⟩ := hx
  match xs, hxl with
  | [y0, y1], _ =>
    have h0 := hel 0 (by omega)
    have h1 := hel 1 (by omega)
    rw [hc] at h0 h1
    exact ⟨c0, c1, m, y0, y1, rfl, by simpa [Value.cells] using h0, by simpa [Value.cells] using h1, fun y hy => hlt y (by simp [hy]), fun y hy => hlt y (by simp [hy])⟩

/-! ### A slice whose elements are known cell for cell -/
section
variable {α : Type}
/-- The slice value v reads in the world w as the list l, each element as the cells that enc gives. -/
def Flat (w : World) (v : Value) (size : Nat) (enc : α → List Value) (l : List α) : Prop :=
  (l = [] ∧ ∃ ao cap, v = .slice ao 0 cap ∧ cap ≤ 9223372036854775807) ∨
  ∃ b off cap, v = .slice (some ⟨b, off, none⟩) l.length cap ∧ l.length ≤ cap ∧ cap ≤ 9223372036854775807 ∧ b < w.heap.size ∧
    ∀ i x, l[i]? = some x → ∀ j u, (enc x)[j]? = some u → w.cell? ⟨b, off + i * size + j, none⟩ = some u
theorem Flat.below {w w' : World} {v : Value} {size : Nat} {enc : α → List Value} {l : List α} (h : Flat w v size enc l) (hb : Below w.heap.size w w') : Flat w' v size enc l := by
  rcases h with h | ⟨b, off, cap, h1, h2, h3, h4, h5⟩
  · exact .inl h
  · exact .inr ⟨b, off, cap, h1, h2, h3, by have := hb.size; omega, fun i x hx j u hu => (hb.cell (p := ⟨b, off + i * size + j, none⟩) h4).trans (h5 i x hx j u hu)⟩
theorem Flat.open {w : World} {v : Value} {size : Nat} {enc : α → List Value} {l : List α} (h : Flat w v size enc l) : ∃ ao cap, v = .slice ao l.length cap ∧ l.length ≤ 9223372036854775807 ∧ l.length ≤ cap ∧ cap ≤ 9223372036854775807 ∧
    (0 < l.length → ∃ b off, ao = some ⟨b, off, none⟩ ∧ b < w.heap.size ∧ ∀ i x, l[i]? = some x → ∀ j u, (enc x)[j]? = some u → w.cell? ⟨b, off + i * size + j, none⟩ = some u) := by
  rcases h with ⟨rfl, ao, cap, rfl, hc⟩ | ⟨b, off, cap, h1, h2, h3, h4, h5⟩
  · exact ⟨ao, cap, rfl, by simp, by simp, hc, by simp⟩
  · exact ⟨_, cap, h1, by omega, h2, h3, fun _ => ⟨b, off, rfl, h4, h5⟩⟩
theorem flat_get (enc : α → List Value) (size : Nat) (he : ∀ x, (enc x).length = size) : ∀ (l : List α) (i : Nat) (x : α), l[i]? = some x → ∀ j u, (enc x)[j]? = some u → (l.flatMap enc)[i * size + j]? = some u
  | [], i, x, h, _, _, _ => by simp at h
  | y :: l, 0, x, h, j, u, hu => by
    simp only [List.getElem?_cons_zero, Option.some.injEq] at h
    subst h
    have := (List.getElem?_eq_some_iff.1 hu).1
    rw [List.flatMap_cons, Nat.zero_mul, Nat.zero_add, List.getElem?_append_left this]
    exact hu
  | y :: l, i + 1, x, h, j, u, hu => by
    rw [List.getElem?_cons_succ] at h
    have := flat_get enc size he l i x h j u hu
    rw [List.flatMap_cons, List.getElem?_append_right (by rw [he, Nat.succ_mul]; omega), he, Nat.succ_mul]
    rw [show i * size + size + j - size = i * size + j by omega]
    exact this
theorem flat_length (enc : α → List Value) (size : Nat) (he : ∀ x, (enc x).length = size) : ∀ l : List α, (l.flatMap enc).length = l.length * size
  | [] => by simp
  | y :: l => by rw [List.flatMap_cons, List.length_append, he, flat_length enc size he l, List.length_cons, Nat.succ_mul]; omega
/-- What the call has built by appending reads so. -/
theorem Flat.of_own {w : World} {base e size : Nat} {v : Value} {enc : α → List Value} {l : List α} (he : ∀ x, (enc x).length = size) (h : w.ownsRow base e size v l.length (l.flatMap enc)) : Flat w v size enc l := by
  obtain ⟨h1, h2⟩ := h
  rcases h2 with ⟨h0, hn⟩ | ⟨g, cap, cur, hv, hg, hh, hle, hm, hsz, htake⟩
  · exact .inl ⟨List.eq_nil_of_length_eq_zero hn, none, 0, by rw [h0], by omega⟩
  · refine .inr ⟨g, 0, cap, hv, hle, hm, (Array.getElem?_eq_some_iff.1 hh).1, fun i x hx j u hu => ?_⟩
    have hg := flat_get enc size he l i x hx j u hu
    rw [← htake, List.getElem?_take] at hg
    split at hg
    · rw [Nat.zero_add, cell_of_row w g _ cur e (0, 0) hh]
      simpa using hg
    · cases hg
end
end Go.Proofs.Ytfcibaiiobihnaa
