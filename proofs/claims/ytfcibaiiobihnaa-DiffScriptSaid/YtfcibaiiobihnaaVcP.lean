/- ONE OPERATION. -/
import Derived.Test.YtfcibaiiobihnaaVcT2
namespace Go.Proofs.Ytfcibaiiobihnaa.Vc
open Go.RowKit
set_option linter.unusedSectionVars false

theorem RetVals_slot {g g' : Gh} {w : World} {f : Slot → Slot} (hf : ∀ s u, RdS g w s u → RdS g' w (f s) u) : ∀ {l : List Slot} {v : Value} {s : Slot}, RetVals g w l v → retSlot (l.map f) = some s → RdS g' w s v := by
  have un : ∀ {l : List Slot} {vs : List Value} {q}, ArgsOk g w l vs → unPair (l.map f) = some q → RdT g' w q vs := by
    intro l
    induction l with
    | nil =>
      intro vs q h hq
      simp only [List.map_nil, unPair, Option.some.injEq] at hq
      subst hq
      exact h
    | cons s l ih =>
      rintro vs q ⟨v, vs', rfl, h1, h2⟩ hq
      have h1' := hf s v h1
      simp only [List.map_cons] at hq
      generalize f s = fs at hq h1'
      obtain ⟨d, k⟩ := fs
      cases d with
      | val t x =>
        simp only [unPair] at hq
        obtain ⟨q', hq', rfl⟩ := Option.map_eq_some_iff.1 hq
        refine ⟨v, vs', rfl, h1'.1, ?_, ih h2 hq'⟩
        cases k with
        | none => trivial
        | some k => exact h1'.2
      | _ => simp [unPair] at hq
  intro l v s h hs
  match l, h, hs with
  | [], ⟨vs, e, h⟩, hs =>
    simp only [List.map_nil, retSlot, Option.some.injEq] at hs
    subst hs
    rw [show vs = [] from h] at e
    exact ⟨⟨[], e, rfl⟩, trivial⟩
  | [x], h, hs =>
    simp only [List.map_cons, List.map_nil, retSlot, Option.some.injEq] at hs
    subst hs
    exact hf x v h
  | x :: y :: l, ⟨vs, e, h⟩, hs =>
    simp only [List.map_cons, retSlot] at hs
    obtain ⟨q, hq, rfl⟩ := Option.map_eq_some_iff.1 hs
    exact ⟨⟨vs, e, un (l := x :: y :: l) h (by simpa using hq)⟩, trivial⟩

theorem backSlots_map {base n : Nat} {W : List Whence} : ∀ l : List Slot, backSlots base n W l = l.map (backSlot base n W)
  | [] => rfl
  | s :: l => by simp [backSlots, backSlots_map l]

section
variable {P : Program} {o : Oper} {a : Act} {g : Gh} {w : World} {H : Heap} {T : Types} {Γ : Ctx} (hT : TypesOk P T) (hΓ : CtxOk P Γ) (hH : HeapOk g w H)
include hT hΓ hH

theorem callFn_run {fop : Operand} {args : Array Operand} {tys : Array TypeId} (ho : o.op = .call ⟨.value fop, args, tys⟩) {ρ : Operand → Slot} (hf : RdS g w (ρ fop) (a.eval fop)) (hρ : ∀ x ∈ args.toList, RdS g w (ρ x) (a.eval x)) {base : Nat} {e : Eff}
    (hr : callFn Γ H base (argSlots T ρ args.toList tys.toList) (ρ fop) = some e) (hs : ∀ p ∈ e.side, p) (hfr : Fresh g base e) (hlen : args.size = tys.size) : OpOk P o a g w H e := by
  unfold callFn at hr
  split at hr
  · rename_i f caps k heq
    rw [heq] at hf
    obtain ⟨vs, hcv, hfv⟩ : ∃ vs, capVals g caps vs ∧ a.eval fop = .func (.func f) #[] vs.toArray := by
      rcases hf.1 with ⟨h1, _⟩ | ⟨_, vs, h2, h3⟩
      · cases h1
      · simp only [List.cons.injEq, and_true] at h3
        exact ⟨vs, h2, h3⟩
    cases hg : Γ f with
    | none => rw [hg] at hr; simp [callSig] at hr
    | some sg =>
      rw [hg] at hr
      simp only [callSig] at hr
      obtain ⟨hen, hcon⟩ := hΓ f sg hg
      have hargs := ArgsOk_append hT hΓ hH (argSlots_ok (a := a) (ρ := ρ) hT hΓ hH (xs := args.toList) (ts := tys.toList) (by simpa using hlen) hρ) (capSlots_ok hT hΓ hH hcv)
      cases hp : passArgs H sg.ps (argSlots T ρ args.toList tys.toList ++ capSlots caps) (some ⟨[], [], [], 0⟩) with
      | none => rw [hp] at hr; simp [callGo] at hr
      | some q =>
        rw [hp] at hr
        simp only [callGo, revL_eq, List.append_nil] at hr
        have hpo := passArgs_ok hH (PassOk.nil g w H) hargs hp
        rw [List.nil_append] at hpo
        cases hc : sg.C q.args.reverse q.H.reverse with
        | none => rw [hc] at hr; simp [callBack] at hr
        | some r =>
          rw [hc] at hr
          simp only [callBack, lenB_length] at hr
          cases hbh : backHeap base r.H.length q.ws.reverse 0 q.ws.reverse r.H with
          | none => rw [hbh] at hr; simp [callRes] at hr
          | some upd =>
            rw [hbh] at hr
            cases hrs : retSlot (backSlots base r.H.length q.ws.reverse r.ret) with
            | none => rw [hrs] at hr; simp [callRes] at hr
            | some s =>
              rw [hrs] at hr
              simp only [callRes, Option.some.injEq] at hr
              subst hr
              intro K Q hK
              refine call_run ho hfv hen ?_
              refine (hcon (canGh g q.ws.reverse) w q.args.reverse _ q.H.reverse r (canHeapOk hH hpo.m) hpo.args hc hs).mono ?_
              rintro en w' ⟨v, g', rfl, hret⟩
              refine ⟨v, rfl, hK _ w' v (back_eff hH hpo.m hret hbh hfr ?_)⟩
              rw [backSlots_map] at hrs
              exact RetVals_slot (fun s u h => back_slot hH hpo.m hret hbh hfr h) hret.ret hrs
  · cases hr

theorem sameLen_eq : ∀ {xs : List Operand} {ts : List TypeId}, sameLen xs ts = true → xs.length = ts.length
  | [], [], _ => rfl
  | _ :: xs, _ :: ts, h => by simp only [sameLen] at h; simp [sameLen_eq h]
  | [], _ :: _, h => by cases h
  | _ :: _, [], h => by cases h

/-- An operation that the evaluator goes through. -/
theorem plan_run {op : Op} (ho : o.op = op) {ρ : Operand → Slot} (hρ : ∀ x ∈ opnds op, RdS g w (ρ x) (a.eval x)) {base : Nat} {e : Eff} (hr : plan T Γ o.type ρ base H op = some e) (hs : ∀ p ∈ e.side, p) (hf : Fresh g base e) : OpOk P o a g w H e := by
  unfold plan at hr
  split at hr
  · rename_i x
    exact fixSlot_run hT hH (.inl ho) (hρ x (by simp [opnds])) hr hf
  · rename_i x
    exact fixSlot_run hT hH (.inr ho) (hρ x (by simp [opnds])) hr hf
  · exact allocE_run hT hH ho hr hf
  · rename_i t x
    exact boxE_run hT hH ho (fixNil_ok hT hΓ hH (hρ x (by simp [opnds]))) hr hf
  · rename_i t ps
    exact buildE_run hT hH ho (ρ := ρ) (fun q hq => hρ q.2 (by
      simp only [opnds]
      generalize ps.toList = l at hq
      induction l with
      | nil => cases hq
      | cons p l ih => rcases List.mem_cons.1 hq with rfl | h <;> simp_all [opnds.parts])) hr
  · rename_i t n ps
    exact buildSliceE_run hT hH ho (ρ := ρ) (fun q hq => hρ q.2 (by
      simp only [opnds]
      generalize ps.toList = l at hq
      induction l with
      | nil => cases hq
      | cons p l ih => rcases List.mem_cons.1 hq with rfl | h <;> simp_all [opnds.parts])) hr hf
  · rename_i t x
    exact loadE_run hT hH ho (hρ x (by simp [opnds])) hr hs
  · rename_i t x y
    exact storeE_run hT hH ho (hρ x (by simp [opnds])) (fixNil_ok hT hΓ hH (hρ y (by simp [opnds]))) hr hs
  · rename_i x
    exact nilCheckE_run hT hH ho (hρ x (by simp [opnds])) hr
  · rename_i op t x y t'
    cases hb : binDV op (ρ x) (ρ y) with
    | some r =>
      rw [hb] at hr
      exact binDV_run hH ho (hρ x (by simp [opnds])) (hρ y (by simp [opnds])) (by rw [hb]; exact hr) hs
    | none =>
      rw [hb] at hr
      exact binRow_run hT hH ho (hρ x (by simp [opnds])) (hρ y (by simp [opnds])) hr
  · rename_i op t x
    exact unDV_run hH ho (hρ x (by simp [opnds])) hr hs
  · rename_i t t' x
    cases hb : convDV (tyOf T t) (tyOf T t') (ρ x) with
    | some r =>
      rw [hb] at hr
      exact convDV_run hT hH ho (hρ x (by simp [opnds])) (by rw [hb]; exact hr)
    | none =>
      rw [hb] at hr
      exact convB_run hT hH ho (hρ x (by simp [opnds])) hr
  · rename_i f first caps
    have hfi : first = #[] := by
      cases hl : first.toList with
      | nil => apply Array.toList_inj.1; simpa using hl
      | cons x l => rw [hl] at hr; cases hr
    subst hfi
    exact cloE_run hT hH ho (ρ := ρ) (fun x hx => hρ x (by simpa [opnds] using hx)) hr
  · rename_i t x lo hi
    refine sliceDV_run hT hH ho (ρ := ρ) (hρ x (by simp [opnds])) (fun y hy => hρ y ?_) (fun y hy => hρ y ?_) hr hs
    · cases lo with
      | none => simp at hy
      | some l => simp at hy; subst hy; simp [opnds, opnds.opt, app]
    · cases hi with
      | none => simp at hy
      | some l => simp at hy; subst hy; cases lo <;> simp [opnds, opnds.opt, app]
  · rename_i t x f
    exact fieldAddrE_run hT hH ho (hρ x (by simp [opnds])) hr
  · rename_i t x f
    exact fieldE_run hT hH ho (hρ x (by simp [opnds])) hr
  · rename_i t x ix
    exact indexAddrE_run hT hH ho (hρ x (by simp [opnds])) (hρ ix (by simp [opnds])) hr hs
  · rename_i t x ix
    exact indexE_run hT hH ho (hρ x (by simp [opnds])) (hρ ix (by simp [opnds])) hr hs
  · rename_i x i
    exact extractE_run hT hH ho (hρ x (by simp [opnds])) hr
  · rename_i c
    obtain ⟨cal, args, tys⟩ := c
    simp only at hr
    unfold callE at hr
    split at hr
    · exact lenE_run hT hH ho (ρ := ρ) (fun x hx => hρ x (by simpa [opnds] using hx)) hr
    · exact appT_run hT hH ho (ρ := ρ) (fun x hx => hρ x (by simpa [opnds] using hx)) hr hs
    · exact minMax_run (mx := true) hT hH ho (ρ := ρ) (fun x hx => hρ x (by simpa [opnds] using hx)) hr
    · exact minMax_run (mx := false) hT hH ho (ρ := ρ) (fun x hx => hρ x (by simpa [opnds] using hx)) hr
    · rename_i f
      cases hsl : sameLen args.toList tys.toList with
      | false => rw [hsl] at hr; cases hr
      | true =>
        rw [hsl] at hr
        simp only [callT] at hr
        exact callFn_run hT hΓ hH ho (hρ f (by simp [opnds])) (fun x hx => hρ x (by simp [opnds]; right; simpa using hx)) hr hs hf (by simpa using sameLen_eq hT hΓ hH hsl)
    · cases hr
  · cases hr

end

end Go.Proofs.Ytfcibaiiobihnaa.Vc
