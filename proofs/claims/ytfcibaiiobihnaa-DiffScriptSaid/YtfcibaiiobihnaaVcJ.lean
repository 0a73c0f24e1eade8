/- THE OPERATIONS THAT MAKE OR WRITE AN OBJECT. -/
import Derived.Test.YtfcibaiiobihnaaVcI
namespace Go.Proofs.Ytfcibaiiobihnaa.Vc
open Go.RowKit
set_option linter.unusedSectionVars false

/-- The ids that an operation may take are free. -/
def Fresh (g : Gh) (base : Nat) (e : Eff) : Prop := ∀ i, i ∈ idsOf e.upd → base ≤ i → g.J i = none ∧ ∀ n, g.cur i n = none

section
variable {P : Program} {o : Oper} {a : Act} {g : Gh} {w : World} {H : Heap} {T : Types} (hT : TypesOk P T) (hH : HeapOk g w H)
include hT hH

theorem fixSlot_run {x : Operand} (ho : o.op = .move x ∨ o.op = .assign x) {sx : Slot} (hx : RdS g w sx (a.eval x)) {base : Nat} {e : Eff} (hr : fixSlot base (tyOf T o.type) sx = some e) (hf : Fresh g base e) : OpOk P o a g w H e := by
  have hrun : (execOp a.eval o).run P w = .ok (.value (a.eval x)) w := by rcases ho with ho | ho <;> simp [execOp, ho]
  generalize hst : tyOf T o.type = ot at hr
  unfold fixSlot at hr
  split at hr
  · cases hr
    have hv : a.eval x = .slice none 0 0 := hx.1
    have hfr := (hf base (by simp [idsOf]) (Nat.le_refl _)).2
    refine OpOk.value (v := .slice none 0 0) (by rw [hrun, hv]) (EffOk.row (v := .slice none 0 0) (xs := []) hH rfl (World.ownsRow_nil w 0 _ _) rfl (fun m _ => hfr m) (fun u hu => by rw [hfr] at hu; cases hu) (.inl ⟨rfl, rfl, rfl, Nat.le_refl _, fun _ _ _ => rfl⟩) (fun _ _ _ => rfl) (fun b hb => by cases hb) (fun b hb => by cases hb) ⟨⟨by simp [Gh.tok], .inl ⟨rfl, rfl⟩⟩, trivial⟩)
  · cases hr
    have hv : a.eval x = .slice none 0 0 := hx.1
    refine OpOk.value (v := .slice none 0 0) (by rw [hrun, hv]) (EffOk.nilTok hH rfl (hf base (by simp [idsOf]) (Nat.le_refl _)).2)
  · cases hr
  · cases hr
    exact OpOk.value hrun (.pure hH hx)

theorem tokOf_ok {t : Ty} {y : t.den} {k : Option Nat} {v : Value} {cs : List Value} (h : RdK g t y v k) (hc : t.isRow = false → cs = [v]) : ToksOk g t y cs (tokOf k 0) := by
  intro q kk hm
  cases k with
  | none => simp [tokOf] at hm
  | some k =>
    simp only [tokOf, List.mem_singleton, Prod.mk.injEq] at hm
    obtain ⟨rfl, rfl⟩ := hm
    cases t with
    | list u => exact ⟨u, y, v, by unfold getAt; simp [castD], by rw [hc rfl]; rfl, h⟩
    | _ => exact h.elim

theorem RdS_val {t : Ty} {y : t.den} {k : Option Nat} {v : Value} (h : RdS g w (.val t y, k) v) : RdV g w t y v ∧ RdK g t y v k := by
  refine ⟨h.1, ?_⟩
  cases k with
  | none => trivial
  | some k => exact h.2

theorem boxE_run {t : TypeId} {x : Operand} (ho : o.op = .box t x) {sx : Slot} (hx : RdS g w sx (a.eval x)) {base : Nat} {e : Eff} (hr : boxE base (tyOf T t) sx = some e) (hf : Fresh g base e) : OpOk P o a g w H e := by
  generalize hst : tyOf T t = ot at hr
  unfold boxE at hr
  split at hr
  · rename_i ti u y k
    split at hr
    · cases hr
      obtain ⟨hv, hk⟩ := RdS_val hT hH hx
      have hR := RdV_cells hv
      have hfr := hf base (by simp [idsOf]) (Nat.le_refl _)
      refine OpOk.value (v := .pointer (some ⟨w.heap.size, 0, none⟩)) (w' := w.alloc (.cells (a.eval x).cells.toList.toArray t)) ?_ (EffOk.newVar hH hR (tokOf_ok hT hH hk (fun hrow => ?_)) hfr.1 (funext hfr.2))
      · unfold execOp
        rw [ho]
        simp only [Instr.box, Go.newVar, newRow, Sem.run_bind, run_newObj, Result.andThen_ok, Sem.run_pure, Array.toArray_toList]
        rfl
      · have h1 := Rd_one (RdV_one hrow hv) _ (List.mem_singleton.2 rfl)
        cases h : a.eval x <;> first | rfl | (rw [h] at h1; simp [Value.oneCell'] at h1)
    · cases hr
  · cases hr

theorem EffOk.frameW {e : Eff} {g' : Gh} {w' : World} {v : Value} (h : EffOk g w H e g' w' v) : w.heap.size ≤ w'.heap.size := h.fr.size

theorem allocE_run {t : TypeId} (ho : o.op = .alloc t) {base : Nat} {e : Eff} (hr : allocE base (tyOf T t) = some e) (hf : Fresh g base e) : OpOk P o a g w H e := by
  generalize hst : tyOf T t = ot at hr
  have run : ∀ ti, tyOf T t = some ti → (execOp a.eval o).run P w = .ok (.value (.pointer (some ⟨w.heap.size, 0, none⟩))) (w.alloc (.cells (zeroCells ti.ty).toArray t)) := by
    intro ti hti
    obtain ⟨i, hi, hsz, hz⟩ := info_some (tyOf_ok hT hti)
    have hc : (zeroVal ti.ty).cells = (zeroCells ti.ty).toArray := by
      have := RdV_cells (zeroVal_RdV g w ti.ty)
      unfold zeroVal
      cases h : ti.ty <;> simp [Ty.isRow, zeroCells, Value.cells]
    unfold execOp
    rw [ho]
    simp only [Instr.alloc, zeroValue, typeInfo, Go.newVar, newRow, Sem.run_bind, run_program, hi, hz, hc, run_newObj, Result.andThen_ok, Sem.run_pure]
    rfl
  unfold allocE at hr
  split at hr
  · rename_i u el by' ar
    cases hr
    have hf0 := hf base (by simp [idsOf]) (Nat.le_refl _)
    have hf1 := hf (base + 1) (by simp [idsOf]) (by omega)
    have hty := tyOf_ok hT hst
    -- the right first, then the variable
    have e1 := EffOk.nilTok (side := []) (d := .val (.list u) []) (rds := []) (base := base + 1) (e := el) (c := u.cells) (u := u) hH rfl hf1.2
    have hH1 := e1.heap
    have htk : ToksOk (g.tok (base + 1) 0 (.slice none 0 0)) (.list u) [] [.slice none 0 0] [(0, base + 1)] := by
      intro q kk hm
      simp only [List.mem_singleton, Prod.mk.injEq] at hm
      obtain ⟨rfl, rfl⟩ := hm
      exact ⟨u, [], .slice none 0 0, by unfold getAt; simp [castD], rfl, by simp [Gh.tok]⟩
    have e2 := EffOk.newVar (side := []) (rds := []) (base := base) (toks := [(0, base + 1)]) (e := t) hH1 (zeroCells_Rd (g.tok (base + 1) 0 (.slice none 0 0)) w (.list u)) htk hf0.1 (by
      funext n
      show (if base = base + 1 ∧ n = 0 then _ else _) = _
      rw [if_neg (by omega)]
      exact hf0.2 n)
    refine OpOk.value (v := .pointer (some ⟨w.heap.size, 0, none⟩)) (g' := (g.tok (base + 1) 0 (.slice none 0 0)).var base w.heap.size) (run _ hst) ?_
    refine ⟨e1.le.trans e2.le, e2.slot, e2.heap, ?_, ?_, ?_, fun i u' y us h => by
      simp only [app, getH] at h
      split at h
      · rename_i e3; subst e3; exact .inr hf0
      · split at h
        · cases h
        · exact .inl ⟨y, us, h⟩⟩
    · exact ⟨e2.fr.os, e2.fr.tape, e2.fr.output, e2.fr.size, fun b hb _ => Below.heap_alloc _ _ _ hb, fun b off hb _ => ⟨World.cell?_of_block (a := ⟨b, off, none⟩) (Below.heap_alloc _ _ _ hb), World.frozen?_of_block (a := ⟨b, off, none⟩) (Below.heap_alloc _ _ _ hb)⟩, fun b off h => .inl h⟩
    · intro i blk b off hi hg hown
      simp only [idsOf, List.mem_cons, List.not_mem_nil, or_false] at hi
      rcases hi with rfl | rfl
      · simp only [app, getH, if_true, Option.some.injEq] at hg
        subst hg
        obtain ⟨p, hp, h1, _⟩ := hown
        have : ((g.tok (i + 1) 0 (.slice none 0 0)).var i w.heap.size).J i = some (w.heap.size, 0) := by simp [Gh.var]
        rw [this] at hp
        obtain rfl := Option.some.inj hp
        exact .inl (Nat.le_of_eq h1.symm)
      · simp only [app, getH] at hg
        rw [if_neg (by omega)] at hg
        simp only [if_true] at hg
        obtain rfl := Option.some.inj hg
        obtain ⟨v, hv, hb⟩ := hown
        have : ((g.tok (base + 1) 0 (.slice none 0 0)).var base w.heap.size).cur (base + 1) 0 = some (.slice none 0 0) := by simp [Gh.var, Gh.tok]
        rw [this] at hv
        obtain rfl := Option.some.inj hv
        cases hb
    · intro i hi
      simp only [idsOf, List.mem_cons, List.not_mem_nil, or_false, not_or] at hi
      refine ⟨?_, ?_⟩
      · show (if i = base then _ else _) = _
        rw [if_neg hi.1]; rfl
      · funext n
        show (if i = base + 1 ∧ n = 0 then _ else _) = _
        rw [if_neg (fun h => hi.2 h.1)]
  · rename_i ti hno
    cases hr
    have hfr := hf base (by simp [idsOf]) (Nat.le_refl _)
    refine OpOk.value (v := .pointer (some ⟨w.heap.size, 0, none⟩)) (run _ hst) (EffOk.newVar hH (zeroCells_Rd g w ti.ty) (fun q k hm => by cases hm) hfr.1 (funext hfr.2))
  · cases hr

theorem storeE_run {t : TypeId} {x y : Operand} (ho : o.op = .store t x y) {sx sy : Slot} (hx : RdS g w sx (a.eval x)) (hy : RdS g w sy (a.eval y)) {e : Eff} (hr : storeE H (tyOf T t) sx sy = some e) (hside : ∀ p ∈ e.side, p) : OpOk P o a g w H e := by
  generalize hst : tyOf T t = ot at hr
  unfold storeE at hr
  split at hr
  · rename_i ti k n c i o' _ u z kk
    split at hr
    · rename_i hu
      subst hu
      generalize hk : getH H k = ob at hr
      unfold storeR at hr
      split at hr
      · rename_i e' t' l m
        split at hr
        · rename_i hc
          generalize hset : setAt ti.ty z t' (nth t' l i) o' = oz at hr
          cases oz with
          | none => cases hr
          | some z' =>
            cases hr
            have hnm := hside _ (List.mem_singleton.2 rfl)
            obtain ⟨b, cap, xs, c1, c2, c3, hv, hcur, hown, hF, hl, hi, h0, e1, e2, e3, e4⟩ := elt_at hT hH hx.1 hk hnm hc
            subst hnm
            have hty := tyOf_ok hT hst
            obtain ⟨hvy, hky⟩ := RdS_val hT hH hy
            have hR := RdV_cells hvy
            have hRl := Rd_length hR
            obtain ⟨d1, d2, d3, f1, f2, f3, f4⟩ := setAt_Rd hR e4 hset
            obtain ⟨_, _, _, _, hv0, hown0, _, hnone, hseal⟩ : ∃ (_ : True) (_ : True) (v0 : Value) (xs0 : List Value), g.cur k n = some v0 ∧ w.ownsRow 0 e' t'.cells v0 n xs0 ∧ RdF (Rd g w t') t'.cells l xs0 ∧ (∀ m, n < m → g.cur k m = none) ∧ ∀ b, v0.ownBlock = some b → ∀ o, ¬ g.S b o := by
              obtain ⟨_, v0, xs0, q1, q2, q3, q4, q5⟩ := hH.blk k _ hk
              exact ⟨trivial, trivial, v0, xs0, q1, q2, q3, q4, q5⟩
            rw [hcur] at hv0
            obtain rfl := Option.some.inj hv0
            rcases hown.2 with ⟨h5, _⟩ | ⟨q, cap', cur, h5, _, hg, hnc, hcm, hcs, htake⟩
            · cases h5
            simp only [Value.slice.injEq, Option.some.injEq, Addr.mk.injEq, and_true, true_and] at h5
            obtain ⟨rfl, rfl⟩ := h5
            have hxl := hown.1
            have hnew := Rd_length f4
            simp only [List.length_append] at hnew
            have hc2l : c2.length = t'.cells := by rw [e3, hc]
            have hd : d1.length + d2.length + d3.length = t'.cells := by rw [← hc2l, f1]; simp only [List.length_append]
            have hx1 : c1.length + c2.length + c3.length = n * t'.cells := by rw [← hxl, e1]; simp only [List.length_append]
            -- the cells in the whole block
            have hall : cur.toList = (c1 ++ (d1 ++ d2 ++ d3) ++ c3) ++ cur.toList.drop (n * t'.cells) := by
              conv => lhs; rw [← List.take_append_drop (n * t'.cells) cur.toList, htake, e1, f1]
            obtain ⟨D, hD⟩ : ∃ D, D = cur.toList.drop (n * t'.cells) := ⟨_, rfl⟩
            rw [← hD] at hall
            have hall2 : cur.toList = (c1 ++ d1) ++ (d2 ++ (d3 ++ c3 ++ D)) := by rw [hall]; simp only [List.append_assoc]
            have hpos : i.toNat * c + o' = (c1 ++ d1).length := by rw [List.length_append, e2, f2]
            have hD2 : (a.eval y).cells.toList.length = d2.length := by rw [hRl, f3]
            have hfit : i.toNat * c + o' + 0 + (a.eval y).cells.toList.length ≤ cur.size := by
              have : cur.size = cur.toList.length := by simp
              rw [this, hall2, Nat.add_zero, hpos, hD2]
              simp only [List.length_append]
              omega
            have hst2 := run_storeCells_at P b (i.toNat * c + o') e' (a.eval y).cells.toList 0 cur w hg hfit (fun v hv => Rd_one hR v hv)
            have hrow : cur.toList.take (i.toNat * c + o' + 0) ++ (a.eval y).cells.toList ++ cur.toList.drop (i.toNat * c + o' + 0 + (a.eval y).cells.toList.length) = (c1 ++ (d1 ++ (a.eval y).cells.toList ++ d3) ++ c3) ++ D := by
              rw [Nat.add_zero, hpos, hD2, hall2, List.take_left, List.drop_append, List.drop_of_length_le (by omega), List.nil_append, Nat.add_sub_cancel_left, List.drop_left]
              simp only [List.append_assoc]
            rw [hrow] at hst2
            obtain ⟨inf, hinf, hsz, _⟩ := info_some hty
            have hs2 : (a.eval y).cells.size = inf.size := by rw [hsz, ← hRl, Array.length_toList]
            have hnewlen : ((c1 ++ (d1 ++ (a.eval y).cells.toList ++ d3) ++ c3) ++ D).length = cur.size := by
              have : cur.size = cur.toList.length := by simp
              rw [this, hall]
              simp only [List.length_append]
              omega
            have hxs' : (c1 ++ (d1 ++ (a.eval y).cells.toList ++ d3) ++ c3).length = n * t'.cells := by
              rw [← hx1]
              simp only [List.length_append]
              rw [f1]
              simp only [List.length_append]
              omega
            have hown' : (w.setRow b ((c1 ++ (d1 ++ (a.eval y).cells.toList ++ d3) ++ c3) ++ D).toArray).ownsRow 0 e' t'.cells (.slice (some ⟨b, 0, none⟩) n cap) n (c1 ++ (d1 ++ (a.eval y).cells.toList ++ d3) ++ c3) :=
              ⟨hxs', .inr ⟨b, cap, _, rfl, Nat.zero_le _, setRow_heap w b cur _ e' _ hg, hnc, hcm, by rw [List.size_toArray, hnewlen, hcs], by rw [← hxs']; exact List.take_left⟩⟩
            have hF' : RdF (Rd g w t') t'.cells (l.set i.toNat z') (c1 ++ (d1 ++ (a.eval y).cells.toList ++ d3) ++ c3) := by
              obtain ⟨q1, q2, q3, r1, r2, r3, r4⟩ := RdF_set hF f4 (Rd_length f4) hi
              have s1 : q1 = c1 ∧ q2 = c2 ∧ q3 = c3 := by
                have h6 : q1 ++ (q2 ++ q3) = c1 ++ (c2 ++ c3) := by rw [← List.append_assoc, ← r1, e1, List.append_assoc]
                obtain ⟨h7, h8⟩ := List.append_inj h6 (by rw [r2, e2, hc])
                obtain ⟨h9, h10⟩ := List.append_inj h8 (by rw [r3, e3, hc])
                exact ⟨h7, h9, h10⟩
              obtain ⟨rfl, rfl, rfl⟩ := s1
              exact r4
            have hownk : ∀ o, ownsIn g H [k] b o := fun o => ⟨k, _, by simp, hk, _, hcur, rfl⟩
            refine OpOk.skip (w' := w.setRow b ((c1 ++ (d1 ++ (a.eval y).cells.toList ++ d3) ++ c3) ++ D).toArray) ?_ (EffOk.row (v := .slice (some ⟨b, 0, none⟩) n cap) hH (by rw [List.length_set]; exact hl) hown' hF' hnone (fun u hu => by rw [hcur] at hu; exact (Option.some.inj hu).symm)
              (.inr ⟨some b, ⟨rfl, rfl, rfl, by simp, fun q _ hq => setRow_other w b q _ (fun e => hq (by rw [e]))⟩, fun b' hb' o => by cases hb'; exact hownk o⟩) (fun b' o hS => ?_) hseal (fun b' hb' => by cases hb'; exact .inr hownk) ⟨trivial, trivial⟩)
            · simp only [execOp, ho, hv, Instr.storeAt, Instr.sureAddr, storeVar, Sem.run_bind, Sem.run_pure, Result.andThen_ok, sizeOf, typeInfo, run_program, hinf, hs2, ne_eq, not_true_eq_false, if_false, hst2]
            · have hne : b' ≠ b := fun e => hseal b rfl o (e ▸ hS)
              exact World.cell?_of_block (a := ⟨b', o, none⟩) (setRow_other w b b' _ hne)
        · cases hr
      · cases hr
    · cases hr
  · rename_i ti i off k u z kk
    split at hr
    · rename_i hu
      subst hu
      generalize hb : getH H i = ob at hr
      unfold storeB at hr
      split at hr
      · rename_i s q toks
        generalize hset : setAt ti.ty z s q off = oz at hr
        cases oz with
        | none => cases hr
        | some z' =>
          cases hr
          have hty := tyOf_ok hT hst
          obtain ⟨p, hp, hv⟩ := RdV_ref hx.1
          obtain ⟨hvy, hky⟩ := RdS_val hT hH hy
          have hR := RdV_cells hvy
          have hone : ti.ty.isRow = false → (a.eval y).cells.toList = [a.eval y] := fun hrow => by
            have h1 := Rd_one (RdV_one hrow hvy) _ (List.mem_singleton.2 rfl)
            cases h : a.eval y <;> first | rfl | (rw [h] at h1; simp [Value.oneCell'] at h1)
          obtain ⟨heff, hth⟩ := EffOk.store (side := []) (rds := [i]) hH hb hp hset hR hky hone
          refine OpOk.skip (w' := w.setCells p.1 (p.2 + off) (a.eval y).cells.toList) ?_ heff
          obtain ⟨inf, hi, hsz, _⟩ := info_some hty
          have hlen := Rd_length hR
          have hcells := run_storeCells_cells (P := P) p.1 (p.2 + off) (a.eval y).cells.toList 0 w (fun j hj => by simpa using (hth j hj).1) (fun j hj => by simpa using (hth j hj).2) (fun v hv => Rd_one hR v hv)
          simp only [Nat.add_zero] at hcells
          have hs2 : (a.eval y).cells.size = inf.size := by rw [hsz, ← hlen, Array.length_toList]
          simp only [execOp, ho, hv, Instr.storeAt, Instr.sureAddr, storeVar, Sem.run_bind, Sem.run_pure, Result.andThen_ok, sizeOf, typeInfo, run_program, hi, hs2, ne_eq, not_true_eq_false, if_false, hcells]
      · cases hr
    · cases hr
  · cases hr

theorem buildList_ok {t : Ty} {n : Nat} {ev : Operand → Value} {ρ : Operand → Slot} : ∀ (ps : List (Nat × Operand)) (l z : List t.den) (cs : List Value), RdF (Rd g w t) t.cells l cs → l.length = n → (∀ q ∈ ps, RdS g w (ρ q.2) (ev q.2)) → buildList t n (some l) (partSlots ρ ps) = some z →
    ∃ cs', Instr.fill (fun i => some (i * t.cells, t.cells)) cs.toArray (ps.map fun q => (q.1, ev q.2)) = some cs'.toArray ∧ RdF (Rd g w t) t.cells z cs' ∧ z.length = n
  | [], l, z, cs, r, hl, _, h => by
    simp only [partSlots, buildList, Option.some.injEq] at h
    subst h
    exact ⟨cs, rfl, r, hl⟩
  | (i, q) :: ps, l, z, cs, r, hl, hq, h => by
    have h0 := hq (i, q) (by simp)
    generalize hs : ρ q = s at h0
    simp only [partSlots, hs] at h
    obtain ⟨d, k⟩ := s
    cases d with
    | val u y =>
      simp only [buildList, setL] at h
      by_cases hc : u = t ∧ i < n
      · rw [dif_pos hc] at h
        obtain ⟨rfl, hi⟩ := hc
        simp only [castD] at h
        have hR := RdV_cells h0.1
        obtain ⟨c1, c2, c3, rfl, h2, h3, h4⟩ := RdF_set (i := i) r hR (Rd_length hR) (by omega)
        obtain ⟨cs', k1, k2, k3⟩ := buildList_ok ps (l.set i y) z _ h4 (by simpa using hl) (fun q hq' => hq q (by simp [hq'])) h
        refine ⟨cs', ?_, k2, k3⟩
        simp only [List.map_cons]
        rw [fill_step rfl (by have := Rd_length hR; simpa using this) (c1 := c1) (c2 := c2) (c3 := c3) (by simp) h2 h3]
        exact k1
      · rw [dif_neg hc] at h
        cases ps with
        | nil => simp [partSlots, buildList] at h
        | cons p ps => simp [partSlots, buildList] at h
    | _ => simp [buildList] at h

theorem buildSlice_go {t : TypeId} {n : Nat} {ps : Array (Nat × Operand)} (ho : o.op = .buildSlice t n ps) {ρ : Operand → Slot} (hρ : ∀ q ∈ ps.toList, RdS g w (ρ q.2) (a.eval q.2)) {u : Ty} {el : TypeId} {by' : Nat} {ar : Bool} (hst : tyOf T t = some ⟨.list u, el, by', ar⟩) {l : List u.den}
    (hb : buildList u n (some (repL u n)) (partSlots ρ ps.toList) = some l) (hn : n ≤ 16777216 ∧ n * u.cells ≤ 16777216) :
    ∃ cs' : List Value, RdF (Rd g w u) u.cells l cs' ∧ l.length = n ∧ (execOp a.eval o).run P w = .ok (.value (.slice (some ⟨w.heap.size, 0, none⟩) n n)) (w.alloc (.cells cs'.toArray el)) := by
        obtain ⟨h2, h3, _⟩ := (tyOf_ok hT hst).2
        obtain ⟨ei, hei, hz⟩ := Option.map_eq_some_iff.1 h3
        simp only [Prod.mk.injEq] at hz
        obtain ⟨cs', k1, k2, k3⟩ := buildList_ok hT hH ps.toList (repL u n) l _ (RdF_rep n) (repL_length u n) hρ hb
        refine ⟨cs', k2, k3, ?_⟩
        have hzc : (zeroVal u).cells = (zeroCells u).toArray := by
          unfold zeroVal
          cases h : u <;> simp [Ty.isRow, zeroCells, Value.cells]
        have hmap : (ps.map fun (q : Nat × Operand) => (q.1, a.eval q.2)).toList = ps.toList.map fun q => (q.1, a.eval q.2) := by simp
        have hzl : (zeroCells u).length = u.cells := Rd_length (zeroCells_Rd g w u)
        have hrow : ∀ z : Array Value, (n * u.cells ≠ 0 → z = (zeroCells u).toArray) → (Array.range (n * u.cells)).map (fun i => z[i % z.size]!) = (List.flatten (List.replicate n (zeroCells u))).toArray := by
          intro z hz0
          by_cases h0 : n * u.cells = 0
          · rw [h0]
            have : List.flatten (List.replicate n (zeroCells u)) = [] := List.eq_nil_of_length_eq_zero (by simp [hzl, h0])
            rw [this]; simp
          · rw [hz0 h0]
            have hpos : 0 < u.cells := Nat.pos_of_ne_zero (fun h => h0 (by rw [h]; simp))
            apply Array.toList_inj.1
            apply List.ext_getElem?
            intro j
            have key : ∀ (m j : Nat), j < m * u.cells → (List.flatten (List.replicate m (zeroCells u)))[j]? = (zeroCells u)[j % u.cells]? := by
              intro m
              induction m with
              | zero => intro j h; simp at h
              | succ m ih =>
                intro j h
                rw [List.replicate_succ, List.flatten_cons]
                by_cases hj : j < u.cells
                · rw [List.getElem?_append_left (by omega), Nat.mod_eq_of_lt hj]
                · rw [List.getElem?_append_right (by omega), hzl, ih (j - u.cells) (by rw [Nat.succ_mul] at h; omega)]
                  congr 1
                  conv => rhs; rw [← Nat.sub_add_cancel (Nat.le_of_not_lt hj), Nat.add_mod_right]
            by_cases hj : j < n * u.cells
            · have hm : j % u.cells < (zeroCells u).length := by rw [hzl]; exact Nat.mod_lt _ hpos
              simp only [Array.toList_map, Array.toList_range, List.getElem?_map, List.getElem?_range hj, Option.map_some, List.size_toArray, hzl]
              rw [key n j hj, List.getElem?_eq_getElem hm]
              simp [getElem!_pos, hm]
            · rw [List.getElem?_eq_none (by simp; omega), List.getElem?_eq_none (by simp [hzl]; omega)]
        have hlim : ¬ (n * u.cells > 2 ^ 24) := by have := hn.2; omega
        by_cases h0 : n * u.cells = 0
        · simp only [execOp, ho, Instr.buildSlice, Sem.run_bind, run_underlying h2, Result.andThen_ok, sizeOf, typeInfo, run_program, hei, hz.1, Sem.run_pure, if_neg hlim, if_pos h0]
          rw [hrow #[] (fun h => absurd h0 h), hmap, k1]
          simp only [newRow, Sem.run_bind, run_newObj, Result.andThen_ok, Sem.run_pure]
          rfl
        · simp only [execOp, ho, Instr.buildSlice, Sem.run_bind, run_underlying h2, Result.andThen_ok, sizeOf, typeInfo, run_program, hei, hz.1, Sem.run_pure, if_neg hlim, if_neg h0, zeroValue, hz.2.2, hzc]
          rw [hrow (zeroCells u).toArray (fun _ => rfl), hmap, k1]
          simp only [newRow, Sem.run_bind, run_newObj, Result.andThen_ok, Sem.run_pure]
          rfl

theorem buildSliceE_run {t : TypeId} {n : Nat} {ps : Array (Nat × Operand)} (ho : o.op = .buildSlice t n ps) {ρ : Operand → Slot} (hρ : ∀ q ∈ ps.toList, RdS g w (ρ q.2) (a.eval q.2)) {base : Nat} {e : Eff} (hr : buildSliceE base n (partSlots ρ ps.toList) (tyOf T t) = some e) (hf : Fresh g base e) : OpOk P o a g w H e := by
  generalize hst : tyOf T t = ot at hr
  unfold buildSliceE at hr
  split at hr
  · rename_i u el by'
    split at hr
    · rename_i hn0
      generalize hb : buildList u n (some (repL u n)) (partSlots ρ ps.toList) = ol at hr
      cases ol with
      | none => cases hr
      | some l =>
        simp only [buildRow2] at hr
        split at hr
        · rename_i hn
          cases hr
          obtain ⟨cs', k2, k3, hrun⟩ := buildSlice_go hT hH ho hρ hst hb hn.2
          have hfr := (hf base (by simp [idsOf]) (Nat.le_refl _)).2
          have hlen := RdF_length k2
          have hown : (w.alloc (.cells cs'.toArray el)).ownsRow 0 el u.cells (.slice (some ⟨w.heap.size, 0, none⟩) n n) n cs' := ⟨by rw [hlen, k3], .inr ⟨w.heap.size, n, cs'.toArray, rfl, Nat.zero_le _, heap_alloc_new w _, Nat.le_refl _, by unfold maxLen; omega, by simp [hlen, k3], by simp [← k3, ← hlen]⟩⟩
          refine OpOk.value hrun (EffOk.row (v := .slice (some ⟨w.heap.size, 0, none⟩) n n) (xs := cs') hH k3 hown k2 (fun m _ => hfr m) (fun u hu => by rw [hfr] at hu; cases hu) (.inl (World.grownBy_alloc w _ _)) (fun b o h => World.cell?_of_block (a := ⟨b, o, none⟩) (Below.heap_alloc _ _ _ (hH.sl b o h))) (fun b hb o hs => ?_) (fun b hb => ?_) ⟨⟨by simp [Gh.tok], .inr ⟨_, _, rfl, Nat.le_refl _⟩⟩, trivial⟩)
          · cases hb; exact Nat.lt_irrefl _ (hH.sl _ _ hs)
          · cases hb; exact .inl (Nat.le_refl _)
        · cases hr
    · rename_i hn0
      generalize hb : buildList u n (some (repL u n)) (partSlots ρ ps.toList) = ol at hr
      cases ol with
      | none => cases hr
      | some l =>
        simp only [buildSlice2] at hr
        split at hr
        · rename_i hn
          cases hr
          obtain ⟨cs', k2, k3, hrun⟩ := buildSlice_go hT hH ho hρ hst hb hn
          have hfr := hf base (by simp [idsOf]) (Nat.le_refl _)
          exact OpOk.value (v := .slice (some ⟨w.heap.size, 0, none⟩) n n) (w' := w.alloc (.cells cs'.toArray el)) hrun (EffOk.lit hH rfl k3 k2 (by unfold maxLen; omega) hfr.2)
        · cases hr
  · rename_i u el by'
    generalize hb : buildList u n (some (repL u n)) (partSlots ρ ps.toList) = ol at hr
    cases ol with
    | none => cases hr
    | some l =>
      simp only [buildSlice2] at hr
      split at hr
      · rename_i hn
        cases hr
        obtain ⟨cs', k2, k3, hrun⟩ := buildSlice_go hT hH ho hρ hst hb hn
        have hfr := hf base (by simp [idsOf]) (Nat.le_refl _)
        exact OpOk.value (v := .slice (some ⟨w.heap.size, 0, none⟩) n n) (w' := w.alloc (.cells cs'.toArray el)) hrun (EffOk.lit hH rfl k3 k2 (by unfold maxLen; omega) hfr.2)
      · cases hr
  · cases hr

theorem appendE_run {args : Array Operand} {tys : Array TypeId} (ho : o.op = .call ⟨.builtin .append, args, tys⟩) {ρ : Operand → Slot} (hρ : ∀ x ∈ args.toList, RdS g w (ρ x) (a.eval x)) {e : Eff}
    {t : TypeId} (htt : tys = #[t, t]) (hr : appendE H (tyOf T t) (opSlots ρ args.toList) = some e) (hs : ∀ p ∈ e.side, p) : OpOk P o a g w H e := by
  subst htt
  generalize hst : tyOf T t = ot at hr
  generalize hss : opSlots ρ args.toList = ss at hr
  unfold appendE at hr
  split at hr
  · rename_i u el by' ar k n _ b1 r _
    split at hr
    · rename_i hbu
      subst hbu
      generalize hk : getH H k = ob at hr
      unfold appendRow at hr
      split at hr
      · rename_i e' t' l m
        split at hr
        · rename_i hbt
          subst hbt
          split at hr
          · rename_i hec
            obtain ⟨rfl, hpos, hb1⟩ := hec
            simp only [castD] at hr
            cases hr
            have hnm := hs _ (by simp : (n = m) ∈ _)
            subst hnm
            have hby := hs _ (by simp : ((n + List.length r) * by' ≤ 140737488355328) ∈ _)
            obtain ⟨v, vr, hv, hs1, hs2⟩ := two_args hT hH hρ hss
            obtain ⟨h2, h3, _⟩ := (tyOf_ok hT hst).2
            obtain ⟨ei, hei, hz⟩ := Option.map_eq_some_iff.1 h3
            simp only [Prod.mk.injEq] at hz
            obtain ⟨cs, hx⟩ := exec_builtin (a := a) hT hH ho
            obtain ⟨hl, v0, xs, hv0, hown, hF0, hnone, hseal⟩ := hH.blk k _ hk
            obtain ⟨hcur, hshape⟩ := hs1.1
            rw [hv0] at hcur
            obtain rfl := Option.some.inj hcur
            obtain ⟨adr, capr, hvr, hler, hlr⟩ := RdV_list hs2.1
            have hlen2 : (l ++ r).length = n + List.length r := by rw [List.length_append, hl]
            have hownk : ∀ q, v0.ownBlock = some q → ∀ o, ownsIn g H [k] q o := fun q hq o => ⟨k, _, by simp, hk, v0, hv0, hq⟩
            by_cases hm : List.length r = 0
            · obtain rfl : r = [] := List.eq_nil_of_length_eq_zero hm
              refine OpOk.value (v := v0) (w' := w) ?_ (EffOk.row (v := v0) (xs := xs) hH hlen2 hown (by rw [List.append_nil]; exact hF0) hnone (fun u hu => by
                have h5 : g.cur k n = some u := hu
                rw [hv0] at h5
                exact (Option.some.inj h5).symm) (.inl ⟨rfl, rfl, rfl, Nat.le_refl _, fun _ _ _ => rfl⟩) (fun _ _ _ => rfl) hseal (fun q hq => .inr (hownk q hq)) ⟨⟨by simp [Gh.tok], hshape⟩, trivial⟩)
              obtain ⟨adl, capl, hvl, hlel⟩ : ∃ adl capl, v0 = .slice adl n capl ∧ n ≤ capl := by
                rcases hshape with ⟨h, rfl⟩ | ⟨b, cap, h, h'⟩
                · exact ⟨_, _, h, Nat.le_refl _⟩
                · exact ⟨_, _, h, h'⟩
              rw [hx, hv, hvr, hvl]
              have ha0 : (#[Value.slice adl n capl, Value.slice adr (List.length ([] : List b1.den)) capr] : Array Value)[0]? = some (.slice adl n capl) := rfl
              have ha1 : (#[Value.slice adl n capl, Value.slice adr (List.length ([] : List b1.den)) capr] : Array Value)[1]? = some (.slice adr 0 capr) := rfl
              have ht0 : (#[t, t] : Array TypeId)[0]? = some t := rfl
              have ht1 : (#[t, t] : Array TypeId)[1]? = some t := rfl
              simp only [builtin, Builtin.append_, ht0, ht1, ha0, ha1, Sem.run_bind, run_underlying h2, Result.andThen_ok, Sem.run_pure, sizeOf, typeInfo, run_program, hei]
              cases adr <;> cases adl <;> simp [Builtin.lenOf, Builtin.firstCells, loadCells, loadCellsFrom, storeCells, hlel]
            · obtain ⟨b, off, rfl, hL⟩ : ∃ b o, adr = some ⟨b, o, none⟩ ∧ RdL (Rd g w b1) w g.S b1.cells b o r := by
                rcases hlr with rfl | h
                · exact absurd rfl hm
                · exact h
              obtain ⟨news, hF, hra, _⟩ := RdL_toF hL
              obtain ⟨q, cap, w', hrun, hown', hq, hg, hcap, hcell⟩ := run_append_k (P := P) w t o.type e' ei (zeroVal b1) b1.cells by' h2 hei hz.2.2 hz.1 hz.2.1 (by
                have := Rd_length (RdV_cells (zeroVal_RdV g w b1))
                simpa using this) v0 n xs hown ⟨b, off, none⟩ (List.length r) capr news (RdF_length hF) (fun j u hu => by rw [Addr.add_mid]; exact hra j u hu) (RdF_one (fun _ _ h => Rd_one h) hF) (by omega)
                (by
                  have := Nat.mul_le_mul_left (n + List.length r) hb1
                  unfold maxLen
                  omega) hby
              refine OpOk.value (v := .slice (some ⟨q, 0, none⟩) (n + List.length r) cap) (w' := w') ?_ (EffOk.row (v := .slice (some ⟨q, 0, none⟩) (n + List.length r) cap) (xs := xs ++ news) hH hlen2 hown' (RdF_append hF0 hF) (fun m hm' => hnone m (by omega)) (fun u hu => by
                rw [hnone _ (by omega)] at hu; cases hu) (.inr ⟨v0.ownBlock, hg, fun b hb o => hownk b hb o⟩) (fun b o hS => hcell b o (hH.sl b o hS) (fun hb => absurd hS (hseal b hb o))) (fun b hb o hS => ?_) (fun b hb => ?_) ⟨⟨by simp [Gh.tok], .inr ⟨q, cap, rfl, hcap⟩⟩, trivial⟩)
              · rw [hx, hv, hvr]
                simp only [builtin, Sem.run_bind, hrun, Result.andThen_ok, Sem.run_pure]
              · cases hb
                rcases hq with h | h
                · rw [h] at hS; exact Nat.lt_irrefl _ (hH.sl _ _ hS)
                · exact hseal _ h o hS
              · cases hb
                rcases hq with h | h
                · exact .inl (Nat.le_of_eq h.symm)
                · exact .inr (hownk _ h)
          · cases hr
        · cases hr
      · cases hr
    · cases hr
  · rename_i u el by' ar a1 l k b1 r k2
    split at hr
    · rename_i hab
      obtain ⟨rfl, rfl⟩ := hab
      simp only [castD] at hr
      generalize hk : getH H k = ob at hr
      unfold appendB at hr
      split at hr
      · rename_i e' c n
        split at hr
        · rename_i hec
          obtain ⟨rfl, hcc, hpos, hb1⟩ := hec
          cases hr
          rw [List.length_append]
          have hln := hs _ (by simp : (List.length l = n) ∈ _)
          have hby := hs _ (by simp : ((List.length l + List.length r) * by' ≤ 140737488355328) ∈ _)
          obtain ⟨v, vr, hv, hs1, hs2⟩ := two_args hT hH hρ hss
          obtain ⟨h2, h3, _⟩ := (tyOf_ok hT hst).2
          obtain ⟨ei, hei, hz⟩ := Option.map_eq_some_iff.1 h3
          simp only [Prod.mk.injEq] at hz
          obtain ⟨cs, hx⟩ := exec_builtin (a := a) hT hH ho
          obtain ⟨v0, xs, hv0, hown, hnone, hseal⟩ := hH.blk k _ hk
          have hcur : g.cur k (List.length l) = some v := hs1.2
          rw [hln, hv0] at hcur
          obtain rfl := Option.some.inj hcur
          obtain ⟨adr, capr, hvr, hler, hlr⟩ := RdV_list hs2.1
          obtain ⟨adl, capl, hvl, hlel, hll⟩ := RdV_list hs1.1
          by_cases hm : List.length r = 0
          · -- nothing is appended
            obtain rfl : r = [] := List.eq_nil_of_length_eq_zero hm
            have hlr : List.length l + List.length ([] : List b1.den) = n := by rw [hln]; rfl
            have hget : ∀ i, getH (app [(k, Blk.grow e' c (List.length l + List.length ([] : List b1.den)))] H) i = getH H i := by
              intro i
              simp only [app, getH]
              by_cases hi : k = i
              · subst hi; rw [if_pos rfl, hlr]; exact hk.symm
              · rw [if_neg hi]
            have hkeep : EffOk g w H ⟨[List.length l = n, (List.length l + List.length ([] : List b1.den)) * by' ≤ 140737488355328], (.val (.list b1) (l ++ []), some k), [(k, .grow e' c (List.length l + List.length ([] : List b1.den)))], [k]⟩ g w v0 := by
              refine ⟨.refl _ _, ?_, ⟨fun i b h => hH.blk i b ((hget i).symm.trans h), fun i j bi bj b o' hij h1 h2 => hH.dis i j bi bj b o' hij ((hget i).symm.trans h1) ((hget j).symm.trans h2), hH.sl⟩, .refl _ _ _, fun i blk b o' hi hg ho' => .inr ⟨i, blk, hi, (hget i).symm.trans hg, ho'⟩, fun _ _ => ⟨rfl, rfl⟩, fun i u' y us h => .inl ⟨y, us, (hget i).symm.trans h⟩⟩
              rw [List.append_nil]
              exact hs1
            refine OpOk.value (v := v0) (w' := w) ?_ hkeep
            rw [hx, hv, hvr, hvl]
            have ha0 : (#[Value.slice adl (List.length l) capl, Value.slice adr (List.length ([] : List b1.den)) capr] : Array Value)[0]? = some (.slice adl (List.length l) capl) := rfl
            have ha1 : (#[Value.slice adl (List.length l) capl, Value.slice adr (List.length ([] : List b1.den)) capr] : Array Value)[1]? = some (.slice adr 0 capr) := rfl
            have ht0 : (#[t, t] : Array TypeId)[0]? = some t := rfl
            have ht1 : (#[t, t] : Array TypeId)[1]? = some t := rfl
            simp only [builtin, Builtin.append_, ht0, ht1, ha0, ha1, Sem.run_bind, run_underlying h2, Result.andThen_ok, Sem.run_pure, sizeOf, typeInfo, run_program, hei]
            cases adr <;> cases adl <;> simp [Builtin.lenOf, Builtin.firstCells, loadCells, loadCellsFrom, storeCells, hlel]
          · obtain ⟨b, off, rfl, hL⟩ : ∃ b o, adr = some ⟨b, o, none⟩ ∧ RdL (Rd g w b1) w g.S b1.cells b o r := by
              rcases hlr with rfl | h
              · exact absurd rfl hm
              · exact h
            obtain ⟨news, hF, hra, _⟩ := RdL_toF hL
            have hxs : RdF (Rd g w b1) b1.cells l xs := by
              by_cases h0 : List.length l = 0
              · obtain rfl : l = [] := List.eq_nil_of_length_eq_zero h0
                have : xs = [] := List.eq_nil_of_length_eq_zero (by rw [hown.1, ← hln]; simp)
                exact this
              · rcases hll with rfl | ⟨b0, off0, rfl, hL0⟩
                · exact absurd rfl h0
                · obtain ⟨ls, hF0, hra0, _⟩ := RdL_toF hL0
                  rcases hown.2 with ⟨e1, e2⟩ | ⟨q, cap, cur, e1, e2⟩
                  · exact absurd (hln.trans e2) h0
                  · rw [hvl] at e1
                    simp only [Value.slice.injEq, Option.some.injEq, Addr.mk.injEq] at e1
                    obtain ⟨⟨rfl, rfl, _⟩, _, rfl⟩ := e1
                    have hvn : v0 = .slice (some ⟨b0, 0, none⟩) n capl := by rw [hvl, hln]
                    have hrx := cells_of_ownsRow (hvn ▸ hown)
                    have : ls = xs := by
                      have hl1 := RdF_length hF0
                      have hl2 := hown.1
                      apply List.ext_getElem?
                      intro j
                      by_cases hj : j < ls.length
                      · have h1 := hra0 j ls[j] (List.getElem?_eq_getElem hj)
                        have hj' : j < xs.length := by rw [hl2, hcc, ← hln, ← hl1]; exact hj
                        have h2 := hrx j xs[j] (List.getElem?_eq_getElem hj')
                        rw [h1] at h2
                        rw [List.getElem?_eq_getElem hj, List.getElem?_eq_getElem hj', Option.some.inj h2]
                      · rw [List.getElem?_eq_none (by omega), List.getElem?_eq_none (by rw [hl2, hcc, ← hln, ← hl1]; omega)]
                    rw [← this]
                    exact hF0
            obtain ⟨q, cap, w', hrun, hown', hq, hg, hcap, hcell⟩ := run_append_k (P := P) w t o.type e' ei (zeroVal b1) c by' h2 hei hz.2.2 (by rw [hz.1, hcc]) hz.2.1 (by
              have := Rd_length (RdV_cells (zeroVal_RdV g w b1))
              rw [hcc]; simpa using this) v0 n xs hown ⟨b, off, none⟩ (List.length r) capr news (by rw [RdF_length hF, hcc]) (fun j u hu => by rw [Addr.add_mid]; exact hra j u hu) (RdF_one (fun _ _ h => Rd_one h) hF) (by omega)
              (by
                have := Nat.mul_le_mul_left (List.length l + List.length r) hb1
                unfold maxLen
                omega) (by rw [← hln]; exact hby)
            refine OpOk.value (v := .slice (some ⟨q, 0, none⟩) (n + List.length r) cap) (w' := w') ?_ (by
              have := EffOk.append (side := [List.length l = n, (List.length l + List.length r) * by' ≤ 140737488355328]) (rds := [k]) hH hk hcc hln hv0 hown hnone hseal (hcc ▸ hxs) (hcc ▸ hF) (by omega) hown' hq hg hcap hcell
              rw [hln]
              rw [hln] at this
              exact this)
            rw [hx, hv, hvr]
            simp only [builtin, Sem.run_bind, hrun, Result.andThen_ok, Sem.run_pure]
        · cases hr
      · cases hr
    · cases hr
  · cases hr

end

end Go.Proofs.Ytfcibaiiobihnaa.Vc
