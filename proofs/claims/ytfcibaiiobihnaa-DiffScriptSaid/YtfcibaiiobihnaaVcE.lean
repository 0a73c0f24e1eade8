/- THE OPERATIONS THAT MAKE NOTHING, one by one. -/
import Derived.Test.YtfcibaiiobihnaaVcD
namespace Go.Proofs.Ytfcibaiiobihnaa.Vc
open Go.RowKit
set_option linter.unusedSectionVars false

theorem str_get (l : List UInt8) (n : Nat) (h : n < l.length) : (⟨l.toArray⟩ : ByteArray)[n]? = some l[n] := by
  have : n < (⟨l.toArray⟩ : ByteArray).size := by simpa [ByteArray.size] using h
  rw [getElem?_pos (⟨l.toArray⟩ : ByteArray) n this]
  rfl
theorem toNat_lt {i : Int} {n : Nat} (h0 : 0 ≤ i) (h1 : i < n) : i.toNat < n := by omega
theorem lt_of_toNat {i : Int} {n : Nat} (h0 : 0 ≤ i) (h1 : i.toNat < n) : i < n := by omega

section
variable {P : Program} {o : Oper} {a : Act} {g : Gh} {w : World} {H : Heap} {T : Types} (hT : TypesOk P T) (hH : HeapOk g w H)
include hT hH

theorem fieldE_run {t : TypeId} {x : Operand} {f : Nat} (ho : o.op = .field t x f) {sx : Slot} (hx : RdS g w sx (a.eval x)) {e : Eff} (hr : fieldE f (tyOf T t) sx = some e) : OpOk P o a g w H e := by
  generalize hs : tyOf T t = ot at hr
  replace hx := hx.1
  unfold fieldE at hr
  split at hr
  · rename_i ty el by' u y _
    split at hr
    · rename_i hu
      subst hu
      have hty := tyOf_ok hT hs
      generalize hp : u.proj y f = q at hr
      cases q with
      | none => cases hr
      | some q =>
        obtain ⟨u, z⟩ := q
        cases hr
        have hrow := proj_row hp
        obtain ⟨cs, hv, hR⟩ := RdV_row hrow hx
        obtain ⟨oo, c1, c2, c3, h1, h2, rfl, rfl, h5⟩ := proj_Rd hR hp
        obtain ⟨fs, hfs, hfe⟩ := struct_und hty hrow rfl
        obtain ⟨fd, k1, k2, k3, k4⟩ := fields_at hfe h1 h2
        obtain ⟨v, hv1, hv2⟩ := run_part k3 k4 (P := P) (c1 := c1) (c3 := c3) h5
        refine OpOk.pure hH (v := v) ?_ hv2
        have k1' : fs[f]? = some fd := by simpa using k1
        simp only [execOp, ho, hv, Instr.field, Sem.run_bind, run_underlying hfs, Result.andThen_ok, k1', asAgg, Sem.run_pure, k2, Nat.zero_add, hv1]
    · cases hr
  · cases hr

/-- The address of a part. -/
theorem run_fieldAt {t : TypeId} {ti : TI} (hty : tyEq P t ti) (har : ti.arr = false) {f oo : Nat} {u : Ty} (h1 : ti.ty.offs f = some oo) (h2 : ti.ty.fld f = some u) (hpos : 0 < u.cells) (b off : Nat) :
    (Instr.fieldAt t (.pointer (some ⟨b, off, none⟩)) f).run P w = .ok (.pointer (some ⟨b, off + oo, none⟩)) w := by
  obtain ⟨fs, hfs, hfe⟩ := struct_und hty (offs_row h1) har
  obtain ⟨fd, k1, k2, k3, k4⟩ := fields_at hfe h1 h2
  obtain ⟨i, hi, hsz⟩ := Option.map_eq_some_iff.1 k3
  have k1' : fs[f]? = some fd := by simpa using k1
  have hne : ¬ (u.cells = 0) := by omega
  simp only [Instr.fieldAt, Sem.run_bind, run_underlying hfs, Result.andThen_ok, k1', Instr.sureAddr, Sem.run_pure, fieldPlace, sizeOf, typeInfo, run_program, hi, hsz, if_neg hne, k2, Nat.zero_add, Addr.add_mid]

theorem fieldAddrE_run {t : TypeId} {x : Operand} {f : Nat} (ho : o.op = .fieldAddr t x f) {sx : Slot} (hx : RdS g w sx (a.eval x)) {e : Eff} (hr : fieldAddrE f (tyOf T t) sx = some e) : OpOk P o a g w H e := by
  generalize hs : tyOf T t = ot at hr
  replace hx := hx.1
  unfold fieldAddrE at hr
  split at hr
  · rename_i ty el by' k n c i o' _
    have hty := tyOf_ok hT hs
    generalize h1 : ty.offs f = o1 at hr
    generalize h2 : ty.fld f = o2 at hr
    unfold eltE at hr
    split at hr
    · split at hr
      · rename_i oo u hpos
        cases hr
        obtain ⟨b, cap, hc, hi0, hi1, hv⟩ := hx
        refine OpOk.pure hH (v := .pointer (some ⟨b, i.toNat * c + o' + oo, none⟩)) ?_ ⟨b, cap, hc, hi0, hi1, by rw [Nat.add_assoc]⟩
        simp only [execOp, ho, hv, Sem.run_bind, run_fieldAt hT hH hty rfl h1 h2 hpos, Result.andThen_ok, Sem.run_pure]
      · cases hr
    · cases hr
  · rename_i ty el by' u y _
    split at hr
    · rename_i hu
      subst hu
      have hty := tyOf_ok hT hs
      generalize hp : u.proj y f = q at hr
      cases q with
      | none => cases hr
      | some q =>
        obtain ⟨u, z⟩ := q
        simp only [atE] at hr
        split at hr
        · rename_i hpos
          cases hr
          obtain ⟨b, off, cs, hv, hra, hS, hR⟩ := hx
          obtain ⟨oo, c1, c2, c3, h1, h2, rfl, rfl, h5⟩ := proj_Rd hR hp
          refine OpOk.pure hH (v := .pointer (some ⟨b, off + c1.length, none⟩)) ?_ ⟨b, off + c1.length, c2, rfl, fun j v hj => ?_, fun j hj => ?_, h5⟩
          · simp only [execOp, ho, hv, Sem.run_bind, run_fieldAt hT hH hty rfl h1 h2 hpos, Result.andThen_ok, Sem.run_pure]
          · have := hra (c1.length + j) v (by
              have hj' := (List.getElem?_eq_some_iff.1 hj).1
              rw [List.append_assoc, List.getElem?_append_right (by omega), Nat.add_sub_cancel_left, List.getElem?_append_left hj']; exact hj)
            rw [Nat.add_assoc]; exact this
          · have := hS (c1.length + j) (by
              have := Rd_length hR
              have h6 := Rd_length h5
              simp only [List.length_append] at this
              omega)
            rw [Nat.add_assoc]; exact this
        · cases hr
    · cases hr
  · rename_i ty el by' i off _
    have hty := tyOf_ok hT hs
    generalize h1 : ty.offs f = o1 at hr
    generalize h2 : ty.fld f = o2 at hr
    unfold refE at hr
    split at hr
    · split at hr
      · rename_i oo u hpos
        cases hr
        obtain ⟨p, hp, hv⟩ := RdV_ref hx
        refine OpOk.pure hH (v := .pointer (some ⟨p.1, p.2 + off + oo, none⟩)) ?_ (.inr ⟨rfl, p, hp, by rw [Nat.add_assoc]⟩)
        simp only [execOp, ho, hv, Sem.run_bind, run_fieldAt hT hH hty rfl h1 h2 hpos, Result.andThen_ok, Sem.run_pure]
      · cases hr
    · cases hr
  · cases hr

theorem extractE_run {x : Operand} {i : Nat} (ho : o.op = .extract x i) {sx : Slot} (hx : RdS g w sx (a.eval x)) {e : Eff} (hr : extractE i sx = some e) : OpOk P o a g w H e := by
  replace hx := hx.1
  unfold extractE at hr
  split at hr
  · rename_i l _
    obtain ⟨vs, hv, hl⟩ := hx
    have key : ∀ (l : List ((Σ t : Ty, t.den) × Option Nat)) (vs : List Value) (i : Nat), RdT g w l vs → tupAt l i = some e → ∃ v, vs[i]? = some v ∧ RdS g w e.slot v ∧ e.upd = [] ∧ e.rds = [] := by
      intro l
      induction l with
      | nil => intro vs i _ h; cases i <;> cases h
      | cons q l ih =>
        obtain ⟨⟨t, x⟩, k⟩ := q
        rintro vs i ⟨v, vs', rfl, r1, r2, r3⟩ h
        cases i with
        | zero =>
          simp only [tupAt, Option.some.injEq] at h
          subst h
          refine ⟨v, rfl, ⟨r1, ?_⟩, rfl, rfl⟩
          cases k with
          | none => trivial
          | some k => exact r2
        | succ i =>
          obtain ⟨v', h1, h2, h3, h4⟩ := ih vs' i r3 h
          exact ⟨v', by simpa using h1, h2, h3, h4⟩
    obtain ⟨v, h1, h2, h3, h4⟩ := key l vs i hl hr
    obtain ⟨side, slot, upd, rds⟩ := e
    simp only at h2 h3 h4
    subst h3
    refine OpOk.value (v := v) (g' := g) (w' := w) ?_ (.pure hH h2)
    have : vs.toArray[i]? = some v := by simpa using h1
    simp [execOp, ho, hv, Instr.extract, this]
  · cases hr

theorem nilCheckE_run {x : Operand} (ho : o.op = .nilCheck x) {sx : Slot} (hx : RdS g w sx (a.eval x)) {e : Eff} (hr : nilCheckE sx = some e) : OpOk P o a g w H e := by
  replace hx := hx.1
  unfold nilCheckE at hr
  split at hr
  · rename_i p _
    obtain ⟨i, off⟩ := p
    cases hr
    obtain ⟨p, hp, hv⟩ := RdV_ref hx
    refine OpOk.pure hH (v := a.eval x) ?_ hx
    simp [execOp, ho, hv]
  · cases hr
    obtain ⟨b, off, cs, hv, h⟩ := hx
    refine OpOk.pure hH (v := a.eval x) ?_ ⟨b, off, cs, hv, h⟩
    simp [execOp, ho, hv]
  · cases hr
    obtain ⟨b, cap, h1, h2, h3, hv⟩ := hx
    refine OpOk.pure hH (v := a.eval x) ?_ ⟨b, cap, h1, h2, h3, hv⟩
    simp [execOp, ho, hv]
  · cases hr

theorem indexE_run {t : TypeId} {x ix : Operand} (ho : o.op = .index t x ix) {sx si : Slot} (hx : RdS g w sx (a.eval x)) (hi : RdS g w si (a.eval ix)) {e : Eff} (hr : indexE (tyOf T t) sx si = some e) (hs : ∀ p ∈ e.side, p) : OpOk P o a g w H e := by
  generalize hst : tyOf T t = ot at hr
  replace hx := hx.1
  replace hi := hi.1
  unfold indexE at hr
  split at hr
  · rename_i _ _ _ l _ k i _
    cases hr
    have hb := hs _ (List.mem_singleton.2 rfl)
    have h2 := (tyOf_ok hT hst).2
    simp only [descEq] at h2
    have hv := RdV_str hx
    have hvi := RdV_int hi
    have hlt : (Int.toNat i) < List.length l := toNat_lt hb.1 hb.2
    refine OpOk.pure hH (v := .int .u8 (byte l i)) ?_ (mk_int _ _ _ _)
    have hget : (if (0 : Int) ≤ i then (⟨List.toArray l⟩ : ByteArray)[Int.toNat i]? else none) = some (l[Int.toNat i]) := by
      rw [if_pos hb.1]
      exact str_get l _ hlt
    have hbyte : byte l i = ((l[Int.toNat i]).toNat : Int) := by
      unfold byte
      rw [List.getD_eq_getElem?_getD, List.getElem?_eq_getElem hlt]; rfl
    simp only [execOp, ho, hv, hvi, Instr.index, asIntOf, Sem.run_bind, Sem.run_pure, Result.andThen_ok, run_underlying h2, hget, hbyte]
  · cases hr

theorem indexAddrE_run {t : TypeId} {x ix : Operand} (ho : o.op = .indexAddr t x ix) {sx si : Slot} (hx : RdS g w sx (a.eval x)) (hi : RdS g w si (a.eval ix)) {e : Eff} (hr : indexAddrE (tyOf T t) sx si = some e) (hs : ∀ p ∈ e.side, p) : OpOk P o a g w H e := by
  generalize hst : tyOf T t = ot at hr
  replace hx := hx.1
  replace hi := hi.1
  unfold indexAddrE at hr
  split at hr
  · rename_i t' el by' ar k n _ k' i _
    split at hr
    · rename_i hpos
      cases hr
      have hb := hs _ (List.mem_singleton.2 rfl)
      obtain ⟨h2, h3, _⟩ := (tyOf_ok hT hst).2
      obtain ⟨ei, hei, hz⟩ := Option.map_eq_some_iff.1 h3
      simp only [Prod.mk.injEq] at hz
      have hvi := RdV_int hi
      obtain ⟨hc, hv⟩ := hx
      rcases hv with ⟨_, rfl⟩ | ⟨b, cap, hv, hcap⟩
      · exact absurd (Int.lt_of_le_of_lt hb.1 hb.2) (Int.lt_irrefl 0)
      refine OpOk.pure hH (v := .pointer (some ⟨b, 0 + Int.toNat i * t'.cells, none⟩)) ?_ ⟨b, cap, by rw [← hv]; exact hc, hb.1, hb.2, by rw [Nat.zero_add, Nat.add_zero]⟩
      simp only [execOp, ho, hv, hvi, Instr.indexAt, asIntOf, Sem.run_bind, Sem.run_pure, Result.andThen_ok, run_underlying h2, sizeOf, typeInfo, run_program, hei, hz.1, if_pos hb, Addr.add_mid]
    · cases hr
  · rename_i t' el by' ar t1 l _ k i _
    split at hr
    · rename_i htt
      subst htt
      cases hr
      have hb := hs _ (List.mem_singleton.2 rfl)
      obtain ⟨h2, h3, _⟩ := (tyOf_ok hT hst).2
      obtain ⟨ei, hei, hz⟩ := Option.map_eq_some_iff.1 h3
      simp only [Prod.mk.injEq] at hz
      have hvi := RdV_int hi
      obtain ⟨ad, cap, hv, hle, hl⟩ := RdV_list hx
      have hlt : (Int.toNat i) < List.length l := toNat_lt hb.1 hb.2
      rcases hl with rfl | ⟨b, off, rfl, hL⟩
      · simp at hlt
      have hnth : l[Int.toNat i]? = some (nth t1 l i) := by
        unfold nth
        rw [List.getD_eq_getElem?_getD, List.getElem?_eq_getElem hlt]; rfl
      obtain ⟨cs, hc1, hc2, hc3, hc4⟩ := RdL_get hL hnth
      refine OpOk.pure hH (v := .pointer (some ⟨b, off + Int.toNat i * t1.cells, none⟩)) ?_ ⟨b, _, cs, rfl, hc2, hc3, hc4⟩
      simp only [execOp, ho, hv, hvi, Instr.indexAt, asIntOf, Sem.run_bind, Sem.run_pure, Result.andThen_ok, run_underlying h2, sizeOf, typeInfo, run_program, hei, hz.1, if_pos hb, Addr.add_mid]
    · cases hr
  · rename_i s u el by' i off _ k n _
    have hty := tyOf_ok hT hst
    generalize h1 : (Ty.pair s u).offs (Int.toNat n) = o1 at hr
    generalize h2 : (Ty.pair s u).fld (Int.toNat n) = o2 at hr
    unfold refE at hr
    split at hr
    · split at hr
      · rename_i oo v hpos
        cases hr
        have hn0 := hs _ (List.mem_singleton.2 rfl)
        obtain ⟨p, hp, hv⟩ := RdV_ref hx
        have hvi := RdV_int hi
        obtain ⟨len, el', hu, hel, _⟩ := array_und hty rfl rfl
        obtain ⟨k1, k2, k3, k4⟩ := elems_at hel h1 h2
        obtain ⟨ei, hei, hz⟩ := Option.map_eq_some_iff.1 k2
        have hb : (0 : Int) ≤ n ∧ (n : Int) < (len : Int) := ⟨hn0, lt_of_toNat hn0 k1⟩
        refine OpOk.pure hH (v := .pointer (some ⟨p.1, p.2 + off + oo, none⟩)) ?_ (.inr ⟨rfl, p, hp, by rw [Nat.add_assoc]⟩)
        simp only [execOp, ho, hv, hvi, Instr.indexAt, Instr.sureAddr, asIntOf, Sem.run_bind, Sem.run_pure, Result.andThen_ok, run_underlying hu, sizeOf, typeInfo, run_program, hei, hz, if_pos hb, Addr.add_mid, k4]
      · cases hr
    · cases hr
  · rename_i s u el by' u' y _ k n _
    split at hr
    · rename_i hu'
      subst hu'
      have hty := tyOf_ok hT hst
      generalize hp : (Ty.pair s u).proj y (Int.toNat n) = q at hr
      cases q with
      | none => cases hr
      | some q =>
        obtain ⟨v, z⟩ := q
        simp only [atE] at hr
        split at hr
        · rename_i hpos
          cases hr
          have hn0 := hs _ (List.mem_singleton.2 rfl)
          obtain ⟨b, off, cs, hv, hra, hS, hR⟩ := hx
          have hvi := RdV_int hi
          obtain ⟨oo, c1, c2, c3, h1, h2, rfl, rfl, h5⟩ := proj_Rd hR hp
          obtain ⟨len, el', hu, hel, _⟩ := array_und hty rfl rfl
          obtain ⟨k1, k2, k3, k4⟩ := elems_at hel h1 h2
          obtain ⟨ei, hei, hz⟩ := Option.map_eq_some_iff.1 k2
          have hb : (0 : Int) ≤ n ∧ (n : Int) < (len : Int) := ⟨hn0, lt_of_toNat hn0 k1⟩
          refine OpOk.pure hH (v := .pointer (some ⟨b, off + c1.length, none⟩)) ?_ ⟨b, off + c1.length, c2, rfl, fun j v hj => ?_, fun j hj => ?_, h5⟩
          · simp only [execOp, ho, hv, hvi, Instr.indexAt, Instr.sureAddr, asIntOf, Sem.run_bind, Sem.run_pure, Result.andThen_ok, run_underlying hu, sizeOf, typeInfo, run_program, hei, hz, if_pos hb, Addr.add_mid, ← k4]
          · have := hra (c1.length + j) v (by
              have hj' := (List.getElem?_eq_some_iff.1 hj).1
              rw [List.append_assoc, List.getElem?_append_right (by omega), Nat.add_sub_cancel_left, List.getElem?_append_left hj']; exact hj)
            rw [Nat.add_assoc]; exact this
          · have := hS (c1.length + j) (by
              have := Rd_length hR
              have h6 := Rd_length h5
              simp only [List.length_append] at this
              omega)
            rw [Nat.add_assoc]; exact this
        · cases hr
    · cases hr
  · cases hr

end

end Go.Proofs.Ytfcibaiiobihnaa.Vc
