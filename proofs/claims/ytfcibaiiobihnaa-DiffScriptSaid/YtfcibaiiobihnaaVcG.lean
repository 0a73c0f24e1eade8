/- LOADS and slice expressions. -/
import Derived.Test.YtfcibaiiobihnaaVcF
namespace Go.Proofs.Ytfcibaiiobihnaa.Vc
open Go.RowKit
set_option linter.unusedSectionVars false

theorem cutL_length {α : Type} {l : List α} {m n : Int} (h0 : 0 ≤ m) (h1 : m ≤ n) (h2 : n ≤ (l.length : Int)) : (cutL l m n).length = n.toNat - m.toNat := by
  unfold cutL
  rw [List.length_take, List.length_drop]
  omega

/-- An element's cells, of a row of elements. -/
theorem RdF_get {α : Type} {R : α → List Value → Prop} {c : Nat} : ∀ {l : List α} {cs : List Value} {i : Nat} {x : α}, RdF R c l cs → l[i]? = some x → ∃ c1 c2 c3, cs = c1 ++ c2 ++ c3 ∧ c1.length = i * c ∧ c2.length = c ∧ R x c2
  | y :: l, _, 0, x, ⟨c1, c2, e, h1, h2, h3⟩, h => by
    simp only [List.getElem?_cons_zero, Option.some.injEq] at h
    subst h
    exact ⟨[], c1, c2, by simpa using e, by simp, h1, h2⟩
  | y :: l, _, i + 1, x, ⟨c1, c2, e, h1, h2, h3⟩, h => by
    simp only [List.getElem?_cons_succ] at h
    obtain ⟨d1, d2, d3, e1, e2, e3, e4⟩ := RdF_get h3 h
    exact ⟨c1 ++ d1, d2, d3, by rw [e, e1]; simp, by rw [List.length_append, h1, e2, Nat.succ_mul]; omega, e3, e4⟩

theorem nth_some {t : Ty} {l : List t.den} {i : Int} (h0 : 0 ≤ i) (h : i.toNat < l.length) : l[i.toNat]? = some (nth t l i) := by
  unfold nth
  rw [List.getD_eq_getElem?_getD, List.getElem?_eq_getElem h]
  rfl

section
variable {P : Program} {o : Oper} {a : Act} {g : Gh} {w : World} {H : Heap} {T : Types} (hT : TypesOk P T) (hH : HeapOk g w H)
include hT hH

/-- What lies in these cells, by value. -/
theorem run_loadAt {t : TypeId} {ti : TI} (hty : tyEq P t ti) {x : ti.ty.den} {b off : Nat} {cs : List Value} (hra : w.rangeAt b off cs) (hR : Rd g w ti.ty x cs) :
    ∃ v, (Instr.loadAt t (.pointer (some ⟨b, off, none⟩))).run P w = .ok v w ∧ RdV g w ti.ty x v ∧ v.cells.toList = cs := by
  obtain ⟨d, hd, hrow⟩ := und_some hty
  obtain ⟨i, hi, hsz, _⟩ := info_some hty
  have hl := Rd_length hR
  by_cases hr : ti.ty.isRow = true
  · refine ⟨.agg cs.toArray, run_loadAt_mid w b off t cs d hra hd (by rw [hrow, hr]) (by rw [hi, Option.map_some, hsz, hl]), .inl ⟨hr, cs, rfl, hR⟩, by simp [Value.cells]⟩
  · have hr' : ti.ty.isRow = false := by simpa using hr
    have h1 : ti.ty.cells = 1 := by
      obtain ⟨ty, el, by', ar⟩ := ti
      cases ty <;> first | rfl | (simp [Ty.isRow] at hr')
    obtain ⟨v, rfl⟩ : ∃ v, cs = [v] := by rw [h1] at hl; exact List.length_eq_one_iff.1 hl
    have hv1 := Rd_one hR v (by simp)
    refine ⟨v, ?_, .inr ⟨hr', hR⟩, by cases v <;> first | rfl | (simp [Value.oneCell'] at hv1)⟩
    have hc : w.cell? ⟨b, off, none⟩ = some v := by simpa using hra 0 v rfl
    have hagg : (isAgg t).run P w = .ok false w := by
      unfold isAgg
      rw [Sem.run_bind, run_underlying hd w]
      rw [hr'] at hrow
      cases d <;> simp_all [TypeDesc.isRow]
    simp [Instr.loadAt, Instr.sureAddr, loadVar, Sem.run_bind, hagg, hc]

theorem rangeAt_mid {b off : Nat} {c1 c2 c3 : List Value} (h : w.rangeAt b off (c1 ++ c2 ++ c3)) : w.rangeAt b (off + c1.length) c2 := fun j v hj => by
  have := h (c1.length + j) v (by
    have hj' := (List.getElem?_eq_some_iff.1 hj).1
    rw [List.append_assoc, List.getElem?_append_right (by omega), Nat.add_sub_cancel_left, List.getElem?_append_left hj']; exact hj)
  rw [Nat.add_assoc]; exact this

/-- What lies at an element of a row. -/
theorem elt_at {k n c : Nat} {i : Int} {o' : Nat} {v : Value} (hx : RdD g w (.elt k n c i o') v) {e : TypeId} {t : Ty} {l : List t.den} {m : Nat} (hk : getH H k = some (.row e t l m)) (hnm : n = m) (hc : c = t.cells) :
    ∃ b cap xs c1 c2 c3, v = .pointer (some ⟨b, i.toNat * c + o', none⟩) ∧ g.cur k m = some (.slice (some ⟨b, 0, none⟩) m cap) ∧ w.ownsRow 0 e t.cells (.slice (some ⟨b, 0, none⟩) m cap) m xs ∧ RdF (Rd g w t) t.cells l xs ∧ l.length = m ∧ i.toNat < l.length ∧ 0 ≤ i ∧
      xs = c1 ++ c2 ++ c3 ∧ c1.length = i.toNat * c ∧ c2.length = c ∧ Rd g w t (nth t l i) c2 := by
  subst hnm
  subst hc
  obtain ⟨b, cap, h1, h2, h3, hv⟩ := hx
  obtain ⟨hl, v0, xs, hv0, hown, hF, hnone, hseal⟩ := hH.blk k _ hk
  rw [h1] at hv0
  obtain rfl := Option.some.inj hv0
  have hi : i.toNat < l.length := by rw [hl]; omega
  obtain ⟨c1, c2, c3, e1, e2, e3, e4⟩ := RdF_get hF (nth_some h2 hi)
  exact ⟨b, cap, xs, c1, c2, c3, hv, h1, hown, hF, hl, hi, h2, e1, e2, e3, e4⟩

theorem row_cells {e : TypeId} {c n : Nat} {q cap : Nat} {xs : List Value} (h : w.ownsRow 0 e c (.slice (some ⟨q, 0, none⟩) n cap) n xs) : w.rangeAt q 0 xs := fun j u hu => by
  have := h.cells (g := q) rfl j u hu
  rwa [Addr.add_mid] at this

theorem loadR_val {t : TypeId} {ti : TI} (hst : tyOf T t = some ti) {k n c : Nat} {i : Int} {o' : Nat} {vx : Value} (hx : RdD g w (.elt k n c i o') vx) {e : Eff} (hr : loadR ti.ty k n c i o' (getH H k) = some e) (hs : ∀ p ∈ e.side, p) :
    ∃ v, (Instr.loadAt t vx).run P w = .ok v w ∧ RdS g w e.slot v ∧ e.upd = [] := by
  generalize hk : getH H k = ob at hr
  unfold loadR at hr
  split at hr
  · rename_i e' t' l m
    split at hr
    · rename_i hc
      generalize hga : getAt ti.ty t' (nth t' l i) o' = oy at hr
      cases oy with
      | none => cases hr
      | some y =>
        cases hr
        have hnm := hs _ (List.mem_singleton.2 rfl)
        obtain ⟨b, cap, xs, c1, c2, c3, hv, hcur, hown, hF, hl, hi, h0, e1, e2, e3, e4⟩ := elt_at hT hH hx hk hnm hc
        obtain ⟨d1, d2, d3, f1, f2, f3⟩ := getAt_Rd e4 hga
        have hra := row_cells hT hH hown
        rw [e1] at hra
        have hra2 := rangeAt_mid hT hH hra
        rw [f1] at hra2
        have hra3 := rangeAt_mid hT hH hra2
        rw [Nat.zero_add, e2, f2] at hra3
        obtain ⟨v, h1, h2, _⟩ := run_loadAt hT hH (tyOf_ok hT hst) hra3 f3
        exact ⟨v, by rw [hv]; exact h1, ⟨h2, trivial⟩, rfl⟩
    · cases hr
  · cases hr

theorem tokAt_mem : ∀ {toks : List (Nat × Nat)} {q k : Nat}, tokAt toks q = some k → (q, k) ∈ toks
  | [], _, _, h => by simp [tokAt] at h
  | (q', k') :: r, q, k, h => by
    simp only [tokAt] at h
    split at h
    · rename_i e
      subst e
      simp only [Option.some.injEq] at h
      subst h
      simp
    · exact List.mem_cons_of_mem _ (tokAt_mem h)

/-- Of one place and one type there is one reading. -/
theorem getAt_list {u v : Ty} : ∀ {t : Ty} {x : t.den} {q : Nat} {l : List u.den} {y : v.den}, getAt (.list u) t x q = some l → getAt v t x q = some y → v.isRow = false → ∃ h : v = .list u, castD h y = l := by
  intro t
  induction t with
  | pair s t ihs iht =>
    intro x q l y h1 h2 hv
    have key : ∀ q, (if q < s.cells then getAt (.list u) s x.1 q else getAt (.list u) t x.2 (q - s.cells)) = some l → (if q < s.cells then getAt v s x.1 q else getAt v t x.2 (q - s.cells)) = some y → ∃ h : v = .list u, castD h y = l := by
      intro q h1 h2
      by_cases hq : q < s.cells
      · rw [if_pos hq] at h1 h2; exact ihs h1 h2 hv
      · rw [if_neg hq] at h1 h2; exact iht h1 h2 hv
    cases q with
    | zero =>
      have e1 : Ty.pair s t ≠ .list u := by intro h; cases h
      have e2 : Ty.pair s t ≠ v := by intro h; subst h; simp [Ty.isRow] at hv
      unfold getAt at h1 h2
      rw [dif_neg e1] at h1
      rw [dif_neg e2] at h2
      exact key 0 (by simpa using h1) (by simpa using h2)
    | succ q => exact key (q + 1) (by simpa [getAt] using h1) (by simpa [getAt] using h2)
  | _ =>
    intro x q l y h1 h2 hv
    cases q with
    | zero =>
      unfold getAt at h1 h2
      split at h1
      · rename_i e1
        split at h2
        · rename_i e2
          first
          | (cases e1; done)
          | (subst e2
             injection e1 with e1'
             subst e1'
             simp only [castD, Option.some.injEq] at h1 h2
             subst h1
             subst h2
             exact ⟨rfl, rfl⟩)
        · simp at h2
      · simp at h1
    | succ q => simp [getAt] at h1

theorem loadE_run {t : TypeId} {x : Operand} (ho : o.op = .load t x) {sx : Slot} (hx : RdS g w sx (a.eval x)) {e : Eff} (hr : loadE H (tyOf T t) sx = some e) (hside : ∀ p ∈ e.side, p) : OpOk P o a g w H e := by
  generalize hs : tyOf T t = ot at hr
  replace hx := hx.1
  unfold loadE at hr
  split at hr
  · rename_i ti k n c i o' _
    obtain ⟨v, h1, h2, h3⟩ := loadR_val hT hH hs hx hr hside
    obtain ⟨side, slot, upd, rds⟩ := e
    simp only at h2 h3
    subst h3
    exact OpOk.value (v := v) (g' := g) (w' := w) (by simp only [execOp, ho, Sem.run_bind, h1, Result.andThen_ok, Sem.run_pure]) (.pure hH h2)
  · rename_i ti u y k
    split at hr
    · rename_i hu
      subst hu
      cases hr
      have hty := tyOf_ok hT hs
      obtain ⟨b, off, cs, hv, hra, hS, hR⟩ := hx
      obtain ⟨v, h1, h2, _⟩ := run_loadAt hT hH hty hra hR
      exact OpOk.pure hH (v := v) (by simp only [execOp, ho, hv, Sem.run_bind, h1, Result.andThen_ok, Sem.run_pure]) h2
    · cases hr
  · rename_i ti i off k
    have hty := tyOf_ok hT hs
    generalize hb : getH H i = ob at hr
    unfold loadB at hr
    split at hr
    · rename_i u z toks
      generalize hga : getAt ti.ty u z off = oy at hr
      cases oy with
      | none => cases hr
      | some y =>
        cases hr
        obtain ⟨p, hp, hv⟩ := RdV_ref hx
        obtain ⟨p', cs, hp', hR, hra, _, _, htk⟩ := hH.blk i _ hb
        rw [hp] at hp'
        obtain rfl := Option.some.inj hp'
        obtain ⟨c1, c2, c3, rfl, rfl, hR2⟩ := getAt_Rd hR hga
        obtain ⟨v, h1, h2, h3⟩ := run_loadAt hT hH hty (rangeAt_mid hT hH hra) hR2
        refine OpOk.value (v := v) (g' := g) (w' := w) (by simp only [execOp, ho, hv, Sem.run_bind, h1, Result.andThen_ok, Sem.run_pure]) (.pure hH ⟨h2, ?_⟩)
        obtain ⟨ty, el, by', ar⟩ := ti
        cases ty with
        | list u' =>
          simp only [tokFor]
          generalize htt : tokAt toks c1.length = ok
          cases ok with
          | none => trivial
          | some k =>
            obtain ⟨u2, l, v', g1, g2, g3⟩ := htk _ _ (tokAt_mem hT hH htt)
            obtain ⟨heq, hl⟩ := getAt_list hT hH g1 hga rfl
            injection heq with heq'
            subst heq'
            have hlen := Rd_length hR2
            obtain ⟨v2, rfl⟩ := List.length_eq_one_iff.1 hlen
            have e2 : v' = v2 := by
              have e : (c1 ++ [v2] ++ c3)[c1.length]? = some v2 := by simp
              rw [e] at g2
              exact (Option.some.inj g2).symm
            have e3 : v = v2 := by
              have h4 := RdV_one rfl h2
              have hone := Rd_one h4 v (by simp)
              have : v.cells = #[v] := by cases v <;> first | rfl | (simp [Value.oneCell'] at hone)
              rw [this] at h3
              simpa using h3
            subst e2
            subst e3
            have e4 : (y : List u'.den) = l := hl
            subst e4
            exact g3
        | _ => trivial
    · cases hr
  · cases hr

theorem bound_ok {ρ : Operand → Slot} {x : Option Operand} {n m : Int} (hρ : ∀ y ∈ x.toList, RdS g w (ρ y) (a.eval y)) (h : bound (optSlot ρ x) n = some m) : (x = none ∧ m = n) ∨ ∃ y k, x = some y ∧ a.eval y = .int k m := by
  cases x with
  | none => simp only [optSlot, bound, Option.some.injEq] at h; exact .inl ⟨rfl, h.symm⟩
  | some y =>
    have h0 := hρ y (by simp)
    simp only [optSlot] at h
    unfold bound at h
    split at h
    · cases ‹some _ = none›
    · rename_i k q kk heq
      simp only [Option.some.injEq] at heq h
      rw [heq] at h0
      subst h
      exact .inr ⟨y, k, rfl, RdV_int h0.1⟩
    · cases h

theorem run_bounds {isSlice : Bool} {len cap : Nat} {lo hi : Option Operand} {m n : Int} (hlo : (lo = none ∧ m = 0) ∨ ∃ y k, lo = some y ∧ a.eval y = .int k m) (hhi : (hi = none ∧ n = (len : Int)) ∨ ∃ y k, hi = some y ∧ a.eval y = .int k n)
    (h0 : 0 ≤ m) (h1 : m ≤ n) (h2 : n ≤ (len : Int)) (h3 : len ≤ cap) : (Instr.sliceBounds isSlice len cap (lo.map a.eval) (hi.map a.eval) none).run P w = .ok (m.toNat, n.toNat, cap) w := by
  have e1 : (n.toNat : Int) = n := Int.toNat_of_nonneg (by omega)
  rcases hlo with ⟨rfl, rfl⟩ | ⟨y, k, rfl, hy⟩ <;> rcases hhi with ⟨rfl, rfl⟩ | ⟨z, k', rfl, hz⟩
  · simp [Instr.sliceBounds]
  · simp [Instr.sliceBounds, hz, run_sliceBound, (by omega : 0 ≤ n), (by omega : n ≤ (cap : Int))]
  · simp [Instr.sliceBounds, hy, run_sliceBound, h0, h1]
  · simp [Instr.sliceBounds, hy, hz, run_sliceBound, (by omega : 0 ≤ n), (by omega : n ≤ (cap : Int)), e1, h0, h1]

theorem sliceDV_run {t : TypeId} {x : Operand} {lo hi : Option Operand} (ho : o.op = .slice t x lo hi none) {ρ : Operand → Slot} (hx : RdS g w (ρ x) (a.eval x)) (hlo : ∀ y ∈ lo.toList, RdS g w (ρ y) (a.eval y)) (hhi : ∀ y ∈ hi.toList, RdS g w (ρ y) (a.eval y)) {e : Eff}
    (hr : optE (sliceDV (tyOf T t) (ρ x) (optSlot ρ lo) (optSlot ρ hi)) = some e) (hs : ∀ p ∈ e.side, p) : OpOk P o a g w H e := by
  obtain ⟨q, hq, rfl⟩ := optE_some hr
  replace hx := hx.1
  generalize hst : tyOf T t = ot at hq
  generalize hsx : ρ x = sx at hq hx
  unfold sliceDV at hq
  split at hq
  · rename_i el by' ar l k
    generalize hb1 : bound (optSlot ρ lo) 0 = o1 at hq
    generalize hb2 : bound (optSlot ρ hi) (List.length l) = o2 at hq
    unfold cutDV at hq
    split at hq
    · rename_i m n
      cases hq
      obtain ⟨k1, k2, k3⟩ := hs _ (List.mem_singleton.2 rfl)
      have h2 := (tyOf_ok hT hst).2
      simp only [descEq] at h2
      have hv := RdV_str hx
      have hbd := run_bounds (P := P) (isSlice := false) (cap := List.length l) hT hH (bound_ok hT hH hlo hb1) (bound_ok hT hH hhi hb2) k1 k2 k3 (Nat.le_refl _)
      refine OpOk.pure hH (v := .string ⟨(cutL l m n).toArray⟩) ?_ (mk_str _ _ _)
      have hsz : (⟨List.toArray l⟩ : ByteArray).size = List.length l := by simp [ByteArray.size]
      have hext : (⟨List.toArray l⟩ : ByteArray).extract m.toNat n.toNat = ⟨(cutL l m n).toArray⟩ := by
        apply ByteArray.ext
        apply Array.toList_inj.1
        simp [cutL]
      simp only [execOp, ho, hv, Option.map_none, Instr.sliceAt, Instr.slice, Sem.run_bind, run_underlying h2, Result.andThen_ok, Option.isSome_none, Bool.false_eq_true, if_false, hsz, hbd, hext, Sem.run_pure]
    · cases hq
  · rename_i u el by' ar t1 l k
    split at hq
    · rename_i htu
      subst htu
      generalize hb1 : bound (optSlot ρ lo) 0 = o1 at hq
      generalize hb2 : bound (optSlot ρ hi) (List.length l) = o2 at hq
      unfold cutDV at hq
      split at hq
      · rename_i m n
        cases hq
        obtain ⟨k1, k2, k3⟩ := hs _ (List.mem_singleton.2 rfl)
        obtain ⟨h2, h3, _⟩ := (tyOf_ok hT hst).2
        obtain ⟨ei, hei, hz⟩ := Option.map_eq_some_iff.1 h3
        simp only [Prod.mk.injEq] at hz
        obtain ⟨ad, cap, hv, hle, hl⟩ := RdV_list hx
        have hbd := run_bounds (P := P) (isSlice := true) (cap := cap) hT hH (bound_ok hT hH hlo hb1) (bound_ok hT hH hhi hb2) k1 k2 k3 hle
        refine OpOk.pure hH (v := .slice (if cap = m.toNat then ad else ad.map (·.add (m.toNat * t1.cells))) (n.toNat - m.toNat) (cap - m.toNat)) ?_ (.inr ⟨rfl, (if cap = m.toNat then ad else ad.map (·.add (m.toNat * t1.cells))), cap - m.toNat, ?_, ?_, ?_⟩)
        · simp only [execOp, ho, hv, Option.map_none, Instr.sliceAt, Instr.slice, Sem.run_bind, run_underlying h2, Result.andThen_ok, hbd, sizeOf, typeInfo, run_program, hei, hz.1, Sem.run_pure]
        · rw [cutL_length k1 k2 k3]
        · rw [cutL_length k1 k2 k3]; omega
        · rcases hl with rfl | ⟨b, off, rfl, hL⟩
          · exact .inl (by simp [cutL])
          · by_cases hc : cap = m.toNat
            · left
              apply List.eq_nil_of_length_eq_zero
              rw [cutL_length k1 k2 k3]
              omega
            · right
              rw [if_neg hc]
              refine ⟨b, off + m.toNat * t1.cells, by simp [Addr.add_mid], ?_⟩
              exact RdL_take _ (RdL_drop _ hL (by omega))
      · cases hq
    · cases hq
  · cases hq

end

end Go.Proofs.Ytfcibaiiobihnaa.Vc
