/- WHAT COMES IN reads as the evaluator's values; what a contract gives a law. -/
import Derived.Test.YtfcibaiiobihnaaVcW
import Derived.Test.YtfcibaiiobihnaaLaw
import Derived.Test.YtfcibaiiobihnaaMem
namespace Go.Proofs.Ytfcibaiiobihnaa.Vc
open Go.RowKit

/-- All that is there will never change. -/
def gh0 (w : World) : Gh := ⟨fun b _ => b < w.heap.size, fun _ => none, fun _ _ => none⟩

theorem RdL_of {α : Type} {R : α → List Value → Prop} {w : World} {S : Nat → Nat → Prop} {c b : Nat} : ∀ {l : List α} {o : Nat}, (∀ i x, l[i]? = some x → ∃ cs, cs.length = c ∧ w.rangeAt b (o + i * c) cs ∧ (∀ j, j < c → S b (o + i * c + j)) ∧ R x cs) → RdL R w S c b o l
  | [], _, _ => trivial
  | x :: l, o, h => by
    refine ⟨?_, RdL_of fun i y hy => ?_⟩
    · obtain ⟨cs, h1, h2, h3, h4⟩ := h 0 x rfl
      exact ⟨cs, h1, by simpa using h2, by simpa using h3, h4⟩
    · obtain ⟨cs, h1, h2, h3, h4⟩ := h (i + 1) y (by simpa using hy)
      have e : o + (i + 1) * c = o + c + i * c := by rw [Nat.succ_mul]; omega
      exact ⟨cs, h1, by rw [← e]; exact h2, by rw [← e]; exact h3, h4⟩

theorem list_of {w : World} {u : Ty} {a : Option Addr} {cap b o : Nat} {l : List u.den} (hcap : l.length ≤ cap) (h : l = [] ∨ (a = some ⟨b, o, none⟩ ∧ ∀ i x, l[i]? = some x → ∃ cs, cs.length = u.cells ∧ w.rangeAt b (o + i * u.cells) cs ∧ b < w.heap.size ∧ Rd (gh0 w) w u x cs)) :
    RdV (gh0 w) w (.list u) l (.slice a l.length cap) := by
  refine .inr ⟨rfl, a, cap, rfl, hcap, ?_⟩
  rcases h with h | ⟨h1, h2⟩
  · exact .inl h
  · refine .inr ⟨b, o, h1, RdL_of fun i x hx => ?_⟩
    obtain ⟨cs, k1, k2, k3, k4⟩ := h2 i x hx
    exact ⟨cs, k1, k2, fun _ _ => k3, k4⟩

/-- A slice as it came in, its elements' reading given. -/
theorem rd_slice {H : Type} {enc : TypeId × Value → H} {P : Program} {W : World} {t e : TypeId} {base : Nat} {v : Value} {d : DataW H} {ps : List MemPlace} {u : Ty} (ht : P.underlying t = some (.slice e)) (hc : P.cellsOf e = u.cells) (hpos : 0 < u.cells)
    (hel : ∀ (n : Nat) (cs : List Value) (y : DataW H × List MemPlace), DataW.trod enc P W 0 (fun _ => true) true n e cs = some y → ∃ x : u.den, Rd (gh0 W) W u x cs)
    (hok : Value.okWide P W .any base t v) (h : DataW.Trod enc P W 0 (fun _ => true) true t v d ps) : ∃ l : List u.den, RdV (gh0 W) W (.list u) l v ∧ (l.length : Int) ≤ 9223372036854775807 := by
  obtain ⟨a0, len, cap, rfl⟩ := WideShapes.okWide_slice ht hok
  obtain ⟨fuel, hf⟩ := h
  rcases DataW.trod_slice ht hf with ⟨hcs, _⟩ | ⟨a, len', cap', elems, rest, n, _, hcs, _, hb, hl, hm, hlen, hall, _, _⟩
  · simp only [Value.cells, List.cons.injEq, and_true] at hcs
    cases hcs
    exact ⟨[], list_of (u := u) (l := []) (b := 0) (o := 0) (Nat.le_refl _) (.inl rfl), by simp⟩
  · simp only [Value.cells, List.cons.injEq, and_true] at hcs
    cases hcs
    have hm' : cap ≤ 9223372036854775807 := by simp only [maxLen] at hm; omega
    -- each element
    have each : ∀ i, i < len → ∃ (cs : List Value) (x : u.den), W.cells? 0 (a.add (i * u.cells)) u.cells = some cs ∧ Rd (gh0 W) W u x cs := by
      intro i hi
      have h1 := hall i hi
      rw [hc, List.getElem?_eq_getElem (by omega), Option.bind_eq_some_iff] at h1
      obtain ⟨cs, h2, h3⟩ := h1
      obtain ⟨x, hx⟩ := hel n cs _ h3
      exact ⟨cs, x, h2, hx⟩
    have build : ∀ k, k ≤ len → ∃ l : List u.den, l.length = k ∧ ∀ i x, l[i]? = some x → ∃ cs : List Value, W.cells? 0 (a.add (i * u.cells)) u.cells = some cs ∧ Rd (gh0 W) W u x cs := by
      intro k
      induction k with
      | zero => intro _; exact ⟨[], rfl, fun i x h => by simp at h⟩
      | succ k ih =>
        intro hk
        obtain ⟨l, h1, h2⟩ := ih (by omega)
        obtain ⟨cs, x, h3, h4⟩ := each k (by omega)
        refine ⟨l ++ [x], by simp [h1], fun i y hy => ?_⟩
        rw [List.getElem?_append] at hy
        split at hy
        · exact h2 i y hy
        · rename_i hi
          obtain ⟨j, hj⟩ : ∃ j, i = l.length + j := ⟨i - l.length, by omega⟩
          subst hj
          rw [Nat.add_sub_cancel_left] at hy
          cases j with
          | zero =>
            simp only [List.getElem?_cons_zero, Option.some.injEq] at hy
            subst hy
            exact ⟨cs, by rw [Nat.add_zero, h1]; exact h3, h4⟩
          | succ j => simp at hy
    obtain ⟨l, hll, hle⟩ := build len (Nat.le_refl _)
    refine ⟨l, ?_, by omega⟩
    rw [← hll]
    by_cases hl0 : len = 0
    · have : l = [] := List.length_eq_zero_iff.1 (by omega)
      subst this
      exact list_of (u := u) (l := []) (b := 0) (o := 0) (Nat.zero_le _) (.inl rfl)
    · obtain ⟨b, off, spot⟩ := a
      have hspot : spot = none := by
        obtain ⟨cs, x, h3, _⟩ := each 0 (by omega)
        have h4 := (World.cells?_some h3).2.2 0 hpos
        have hlen0 := (World.cells?_some h3).2.1
        rw [List.getElem?_eq_getElem (by omega)] at h4
        simpa [Addr.add] using World.cell?_spot h4
      subst hspot
      refine list_of (by omega) (.inr ⟨rfl, fun i x hx => ?_⟩)
      obtain ⟨cs, h3, h4⟩ := hle i x hx
      obtain ⟨_, h5, h6⟩ := World.cells?_some h3
      have hcell : ∀ j v, cs[j]? = some v → W.cell? ⟨b, off + i * u.cells + j, none⟩ = some v := by
        intro j v hv
        have hj : j < u.cells := by have := (List.getElem?_eq_some_iff.1 hv).1; omega
        have := h6 j hj
        rw [hv] at this
        rw [Addr.add_lit, Addr.add_lit] at this
        exact this
      refine ⟨cs, h5, hcell, ?_, h4⟩
      exact lt_of_cell (hcell 0 _ (List.getElem?_eq_getElem (by omega)))

theorem rd_str {H : Type} {enc : TypeId × Value → H} {P : Program} {W : World} {g : Gh} {e : TypeId} (he : P.underlying e = some .string) (n : Nat) (cs : List Value) (y : DataW H × List MemPlace) (h : DataW.trod enc P W 0 (fun _ => true) true n e cs = some y) : ∃ x : Ty.str.den, Rd g W .str x cs := by
  obtain ⟨s, rfl, _, _⟩ := DataW.trod_string he h
  exact ⟨s.data.toList, by show [Value.string s] = [Value.string ⟨s.data.toList.toArray⟩]; rw [Array.toArray_toList]⟩

theorem rd_int {H : Type} {enc : TypeId × Value → H} {P : Program} {W : World} {g : Gh} {e : TypeId} {k : IntKind} (he : P.underlying e = some (.int k)) (n : Nat) (cs : List Value) (y : DataW H × List MemPlace) (h : DataW.trod enc P W 0 (fun _ => true) true n e cs = some y) : ∃ x : (Ty.int k).den, Rd g W (.int k) x cs := by
  obtain ⟨s, rfl, _, _⟩ := DataW.trod_int he h
  exact ⟨s, rfl⟩

/-- A struct of two fields of one cell each. -/
theorem rd_two {H : Type} {enc : TypeId × Value → H} {P : Program} {W : World} {g : Gh} {e : TypeId} {f0 f1 : Field} {a b : Ty} (he : P.underlying e = some (.struct #[f0, f1])) (ho0 : f0.offset = 0) (ho1 : f1.offset = 1) (hc : P.cellsOf e = 2) (hc0 : P.cellsOf f0.type = 1) (hc1 : P.cellsOf f1.type = 1)
    (h0 : ∀ (n : Nat) (cs : List Value) (y : DataW H × List MemPlace), DataW.trod enc P W 0 (fun _ => true) true n f0.type cs = some y → ∃ x : a.den, Rd g W a x cs)
    (h1 : ∀ (n : Nat) (cs : List Value) (y : DataW H × List MemPlace), DataW.trod enc P W 0 (fun _ => true) true n f1.type cs = some y → ∃ x : b.den, Rd g W b x cs)
    (n : Nat) (cs : List Value) (y : DataW H × List MemPlace) (h : DataW.trod enc P W 0 (fun _ => true) true n e cs = some y) : ∃ x : (Ty.pair a (.pair b .unit)).den, Rd g W (.pair a (.pair b .unit)) x cs := by
  obtain ⟨y0, y1, m, _, hl, k0, k1⟩ := ChangeShapes.trod_struct2 he h
  rw [hc] at hl
  rw [ho0, hc0] at k0
  rw [ho1, hc1] at k1
  match cs, hl with
  | [c0, c1], _ =>
    obtain ⟨x0, r0⟩ := h0 m _ _ k0
    obtain ⟨x1, r1⟩ := h1 m _ _ k1
    exact ⟨(x0, x1, ()), [c0], [c1], rfl, r0, [c1], [], rfl, r1, rfl⟩

/-- What a law's walk wants of its contract. -/
theorem law_calls {P : Program} {f : FuncId} {C : List Slot → List Blk → Option Ret} (h : ConOk P f C) {W : World} {args : List Slot} {vals : List Value} (ha : ArgsOk (gh0 W) W args vals) {side : List Prop} (hC : C args [] = some ⟨side, [(.val .bool true, none)], []⟩) (hs : ∀ p ∈ side, p) :
    Calls P f vals.toArray W fun e W' => e = .returned (.bool true) ∧ Below W.heap.size W W' := by
  refine (h.2 (gh0 W) W args vals [] _ ⟨(fun i b h => by cases h), (fun i j bi bj b o _ h => by cases h), fun b o h => h⟩ ha hC hs).mono fun e W' ⟨v, g', he, r⟩ => ?_
  have hv : v = .bool true := RdV_bool r.ret.1
  subst hv
  exact ⟨he, ⟨r.fr.os, r.fr.tape, r.fr.output, r.fr.size, fun k hk => r.fr.blk k hk (fun o ⟨i, blk, hi, _⟩ => by cases hi)⟩⟩

/-- The other way: what a kit contract over 'Strs' wants. -/
theorem strs_of_rd {g : Gh} {w : World} {l : List (List UInt8)} {v : Value} (h : RdV g w (.list .str) l v) (hsl : ∀ b o, g.S b o → b < w.heap.size) (hl : (l.length : Int) ≤ 9223372036854775807) : Strs w v (l.map fun s => ⟨s.toArray⟩) := by
  rcases h with ⟨h1, _⟩ | ⟨_, a, cap, e, h1, h2⟩
  · cases h1
  simp only [List.cons.injEq, and_true] at e
  subst e
  rcases h2 with rfl | ⟨b, o, rfl, h3⟩
  · exact .inl ⟨rfl, a, cap, rfl, by simp⟩
  · by_cases h0 : l = []
    · subst h0
      exact .inl ⟨rfl, _, cap, rfl, by simp⟩
    · have hpos : 0 < l.length := List.length_pos_iff.2 h0
      obtain ⟨cs, k1, k2, k3, k4⟩ := RdL_get h3 (List.getElem?_eq_getElem hpos)
      refine .inr ⟨b, o, cap, by rw [List.length_map], by rw [List.length_map]; exact h1, by rw [List.length_map]; omega, hsl _ _ (k3 0 (by decide)), fun i hi => ?_⟩
      rw [List.length_map] at hi
      obtain ⟨cs, k1, k2, k3, k4⟩ := RdL_get h3 (List.getElem?_eq_getElem hi)
      have hcs : cs = [.string ⟨l[i].toArray⟩] := k4
      have := k2 0 (.string ⟨l[i].toArray⟩) (by rw [hcs]; rfl)
      simp only [Ty.cells, Nat.mul_one, Nat.add_zero] at this
      rw [this, List.getD_eq_getElem?_getD, List.getElem?_map, List.getElem?_eq_getElem hi]
      rfl

/-- A kit contract that hands out a row of new memory. -/
theorem ret_own {g : Gh} {w w' : World} {u : Ty} {l : List u.den} {e : TypeId} {v : Value} {xs : List Value} (hsl : ∀ b o, g.S b o → b < w.heap.size) (hb : Below w.heap.size w w') (hr : w'.ownsRow w.heap.size e u.cells v l.length xs)
    (hrd : ∀ (g' : Gh) i x, l[i]? = some x → ∃ cs, cs.length = u.cells ∧ (∀ j y, cs[j]? = some y → xs[i * u.cells + j]? = some y) ∧ Rd g' w' u x cs) : ∃ g', RetOk g w [] ⟨[], [(.val (.list u) l, none)], []⟩ g' w' v := by
  refine ⟨⟨fun b o => g.S b o ∨ (w.heap.size ≤ b ∧ b < w'.heap.size), g.J, g.cur⟩, ⟨fun b o h => ⟨.inl h, hb.cell (p := ⟨b, o, none⟩) (hsl b o h)⟩, ⟨(fun i b h => by cases h), (fun i j bi bj b o _ h => by cases h), fun b o h => ?_⟩, ⟨?_, trivial⟩, ⟨hb.os, hb.tape, hb.output, hb.size, fun b h _ => hb.block b h, fun b o h _ => ⟨hb.cell (p := ⟨b, o, none⟩) h, hb.frozen (p := ⟨b, o, none⟩) h⟩, fun b o h => h.imp id fun h => .inl h.1⟩, (fun i blk b o h => by simp at h), (fun i t x ts h => by simp at h), (fun i t x ts u y us h => by simp at h)⟩⟩
  · rcases h with h | h
    · exact Nat.lt_of_lt_of_le (hsl b o h) hb.size
    · exact h.2
  · have hr0 := hr
    rcases hr.2 with ⟨rfl, h0⟩ | ⟨q, cap, cur, rfl, h1, h2, h3, h4, h5, h6⟩
    · have : l = [] := List.length_eq_zero_iff.1 h0
      subst this
      exact .inr ⟨rfl, none, 0, rfl, Nat.le_refl _, .inl rfl⟩
    · refine .inr ⟨rfl, _, cap, rfl, h3, .inr ⟨q, 0, rfl, RdL_of fun i x hx => ?_⟩⟩
      obtain ⟨cs, k1, k2, k3⟩ := hrd _ i x hx
      have hq : q < w'.heap.size := (Array.getElem?_eq_some_iff.1 h2).1
      refine ⟨cs, k1, fun j y hy => ?_, fun j _ => .inr ⟨h1, hq⟩, k3⟩
      have hxj := k2 j y hy
      have hlt : i * u.cells + j < l.length * u.cells := by
        have := (List.getElem?_eq_some_iff.1 hxj).1
        rw [hr0.1] at this
        exact this
      have := hr0.cellAt (i * u.cells + j) hlt
      rw [Nat.zero_add, this]
      simp [hxj]

end Go.Proofs.Ytfcibaiiobihnaa.Vc
