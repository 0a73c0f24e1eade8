/- OPERATIONS IN A REGION, guards, regions in the text's order. -/
import Derived.Test.YtfcibaiiobihnaaVcP
namespace Go.Proofs.Ytfcibaiiobihnaa.Vc
open Go.RowKit
set_option linter.unusedSectionVars false

/-- The slots hold what the state says. -/
def EnvOk (g : Gh) (w : World) (env : List (Nat × Slot)) (tmps : Array Value) : Prop := ∀ t, RdS g w (lk env t) (tmps.getD t undef)

structure Rel (g : Gh) (w : World) (s : St) (a : Act) : Prop where
  env : EnvOk g w s.env a.tmps
  heap : HeapOk g w s.H
  size : a.tmps.size = s.N
  nb : ∀ i, s.nb ≤ i → g.J i = none ∧ ∀ n, g.cur i n = none
  def_ : a.defers = []
  np : s.np ≤ s.nb

theorem constDV_ok (g : Gh) (w : World) (v : Value) : RdD g w (constDV v) v := by
  unfold constDV
  split
  · exact mk_bool _ _ _
  · exact mk_int _ _ _ _
  · rename_i s
    have := mk_str g w s.data.toList
    rw [Array.toArray_toList] at this
    exact this
  · exact rfl
  · exact .inr ⟨rfl, rfl⟩
  · exact .inr ⟨rfl, rfl⟩
  · exact trivial

theorem opd_ok {g : Gh} {w : World} {env : List (Nat × Slot)} {a : Act} (h : EnvOk g w env a.tmps) (x : Operand) : RdS g w (opd env x) (a.eval x) := by
  cases x with
  | tmp t => exact h t
  | const v => exact ⟨constDV_ok g w v, trivial⟩
  | func f => exact ⟨.inr ⟨rfl, [], rfl, rfl⟩, trivial⟩
  | global i => exact ⟨trivial, trivial⟩

theorem strip_ok {g : Gh} {w : World} {G : Bool} (hG : G = true) : ∀ {ss : List Slot} {s : Slot} {v : Value}, s ∈ ss → (∀ p ∈ need G ss, p) → RdS g w s v → RdS g w (strip s) v
  | x :: ss, s, v, hm, hn, hs => by
    have hcase : ∀ {s : Slot}, (∀ p ∈ need G [s], p) → RdS g w s v → RdS g w (strip s) v := by
      intro s hn hs
      obtain ⟨d, k⟩ := s
      cases d with
      | cond p d =>
        refine ⟨hs.1.1 (hn (G = true → p = true) (by simp [need]) hG), ?_⟩
        simp only [strip]
      | _ => exact hs
    have hsplit : ∀ p, p ∈ need G [x] → p ∈ need G (x :: ss) := by
      intro p hp
      unfold need at hp ⊢
      split at hp
      · cases hp
      · rename_i heq
        simp only [List.cons.injEq] at heq
        obtain ⟨rfl, rfl⟩ := heq
        rcases List.mem_cons.1 hp with h | h
        · exact h ▸ List.mem_cons_self
        · cases h
      · rename_i h0 heq
        simp only [List.cons.injEq] at heq
        obtain ⟨_, rfl⟩ := heq
        cases hp
    have hsplit2 : ∀ p, p ∈ need G ss → p ∈ need G (x :: ss) := by
      intro p hp
      generalize hL : need G ss = L at hp
      unfold need
      split
      · rename_i h; cases h
      · rename_i heq
        simp only [List.cons.injEq] at heq
        obtain ⟨_, rfl⟩ := heq
        rw [hL]
        exact List.mem_cons_of_mem _ hp
      · rename_i heq
        simp only [List.cons.injEq] at heq
        obtain ⟨_, rfl⟩ := heq
        rw [hL]
        exact hp
    rcases List.mem_cons.1 hm with rfl | hm
    · exact hcase (fun p hp => hn p (hsplit p hp)) hs
    · exact strip_ok hG hm (fun p hp => hn p (hsplit2 p hp)) hs

theorem mem_opsOf {env : List (Nat × Slot)} : ∀ {xs : List Operand} {x : Operand}, x ∈ xs → opd env x ∈ opsOf env xs
  | y :: xs, x, h => by
    simp only [opsOf]
    rcases List.mem_cons.1 h with rfl | h
    · exact List.mem_cons_self
    · exact List.mem_cons_of_mem _ (mem_opsOf h)

theorem dstOf_eq : ∀ (ops : List Oper) (j : Nat), dstOf ops j = (ops[j]?).bind (·.dst)
  | [], j => by simp [dstOf]
  | o :: _, 0 => rfl
  | _ :: r, j + 1 => by simpa [dstOf] using dstOf_eq r j

section
variable {P : Program} {g : Gh} {w : World} {T : Types} {Γ : Ctx} (hT : TypesOk P T) (hΓ : CtxOk P Γ)
include hT hΓ

/-- A guard's test. -/
theorem guard_ok {ops : List Oper} {o : Oper} {a : Act} {env : List (Nat × Slot)} (henv : EnvOk g w env a.tmps) {j : Nat} {b : Bool} (hg : o.guard = some (j, b)) {G : Bool} (h : guardOf env b (dstOf ops j) = some G) : Region.wanted o (yielded ops.toArray a.tmps) = G := by
  rw [dstOf_eq] at h
  unfold Region.wanted
  rw [hg]
  simp only
  cases hd : (ops[j]?).bind (·.dst) with
  | none => rw [hd] at h; cases h
  | some t =>
    rw [hd] at h
    simp only [guardOf] at h
    have hy : yielded ops.toArray a.tmps j = match a.tmps[t]? with | some (.bool b) => some b | _ => none := by
      unfold yielded
      have : (ops.toArray[j]?).bind (·.dst) = some t := by simpa using hd
      rw [this]
      rfl
    have hv := henv t
    generalize hl : lk env t = s at h hv
    unfold guardSlot at h
    have hb : ∀ c, a.tmps.getD t undef = .bool c → a.tmps[t]? = some (.bool c) := by
      intro c hc
      rw [Array.getD_eq_getD_getElem?] at hc
      cases hq : a.tmps[t]? with
      | none => rw [hq] at hc; simp [undef] at hc
      | some v => rw [hq] at hc; simp at hc; rw [hc]
    split at h
    · rename_i c k
      simp only [Option.some.injEq] at h
      have := hb _ (RdV_bool hv.1)
      rw [hy, this, ← h]
      cases c <;> cases b <;> rfl
    · rename_i p c k
      simp only [Option.some.injEq] at h
      subst h
      cases p with
      | true =>
        have := hb _ (RdV_bool (hv.1.1 rfl))
        rw [hy, this]
        cases c <;> cases b <;> rfl
      | false =>
        have hu := hv.1.2 rfl
        have : ∀ c, a.tmps[t]? ≠ some (.bool c) := by
          intro c hc
          rw [Array.getD_eq_getD_getElem?, hc] at hu
          simp [undef] at hu
        rw [hy]
        cases hq : a.tmps[t]? with
        | none => cases b <;> rfl
        | some v => cases v <;> first | (exact absurd hq (this _)) | (cases b <;> rfl)
    · cases h

theorem mem_app' {α : Type} {x : α} {l m : List α} : x ∈ app l m ↔ x ∈ l ∨ x ∈ m := mem_app

theorem mem_under {G : Bool} {p : Prop} : ∀ {l : List Prop}, p ∈ l → (G = true → p) ∈ underAll G l
  | q :: l, h => by
    simp only [underAll]
    rcases List.mem_cons.1 h with rfl | h
    · exact List.mem_cons_self
    · exact List.mem_cons_of_mem _ (mem_under h)

/-- A choice. -/
theorem pick_run {o : Oper} {a : Act} {H : Heap} (hH : HeapOk g w H) {c x y : Operand} (hop : o.op = .pick c x y) {sc sx sy : Slot} (hc : RdS g w sc (a.eval c)) (hx : RdS g w sx (a.eval x)) (hy : RdS g w sy (a.eval y)) {e : Eff} (hr : pickE sc sx sy = some e) (hs : ∀ p ∈ e.side, p) : OpOk P o a g w H e := by
  intro K Q hK
  unfold pickE at hr
  split at hr
  · rename_i z k
    have hz := RdV_bool hc.1
    have run : (execOp a.eval o).run P w = .ok (.value (if z then a.eval x else a.eval y)) w := by
      unfold execOp
      rw [hop]
      simp [hz, asBool]
    have fin : ∀ {v : Bool} {side : List Prop}, (if z then a.eval x else a.eval y) = .bool v → e = ⟨side, (.val .bool v, none), [], []⟩ → o.wp P a w K Q := by
      intro v side hv he
      subst he
      refine OpOk.value (v := .bool v) (g' := g) (w' := w) (H := H) (by rw [run, hv]) (.pure hH (s := (.val .bool v, none)) ⟨(mk_bool g w v : RdD g w (.val .bool v) (.bool v)), trivial⟩) K Q hK
    unfold pick2 at hr
    split at hr
    · rename_i m1 _ m2 _
      simp only [Option.some.injEq] at hr
      refine fin (v := cond z m1 m2) ?_ hr.symm
      cases z
      · exact RdV_bool hy.1
      · exact RdV_bool hx.1
    · rename_i p m1 _ m2 _
      simp only [Option.some.injEq] at hr
      refine fin (v := cond z m1 m2) ?_ hr.symm
      cases z
      · exact RdV_bool hy.1
      · exact RdV_bool (hx.1.1 (hs (true = true → p = true) (by rw [← hr]; simp) rfl))
    · rename_i m1 _ p m2 _
      simp only [Option.some.injEq] at hr
      refine fin (v := cond z m1 m2) ?_ hr.symm
      cases z
      · exact RdV_bool (hy.1.1 (hs (false = false → p = true) (by rw [← hr]; simp) rfl))
      · exact RdV_bool hx.1
    · rename_i q m1 _ p m2 _
      simp only [Option.some.injEq] at hr
      refine fin (v := cond z m1 m2) ?_ hr.symm
      cases z
      · exact RdV_bool (hy.1.1 (hs (false = false → p = true) (by rw [← hr]; simp) rfl))
      · exact RdV_bool (hx.1.1 (hs (true = true → q = true) (by rw [← hr]; simp) rfl))
    · cases hr
  · cases hr

/-- AN OPERATION OF A REGION. -/
theorem evOp_ok {ops : List Oper} {o : Oper} {a : Act} {s : St} {e : Eff} (henv : EnvOk g w s.env a.tmps) (hH : HeapOk g w s.H) (hr : evOp T Γ ops o s = some e) (hs : ∀ p ∈ e.side, p) (hf : Fresh g s.nb e) {K : Act → World → Prop} {Q : Exit → Act → World → Prop}
    (hK : ∀ g' w' v, EffOk g w s.H e g' w' v → K (a.put o.dst v) w') :
    if Region.wanted o (yielded ops.toArray a.tmps) then o.wp P a w K Q else K (a.put o.dst undef) w := by
  unfold evOp at hr
  cases hgd : o.guard with
  | none =>
    rw [hgd] at hr
    simp only at hr
    have hw : Region.wanted o (yielded ops.toArray a.tmps) = true := by unfold Region.wanted; rw [hgd]
    rw [if_pos hw]
    cases hop : o.op with
    | pick c x y =>
      rw [hop] at hr
      simp only [evPlain] at hr
      exact pick_run hT hΓ hH hop (opd_ok henv c) (opd_ok henv x) (opd_ok henv y) hr hs K Q hK
    | _ =>
      rw [hop] at hr
      simp only [evPlain] at hr
      rw [← hop] at hr
      generalize hpl : plan T Γ o.type (fun x => strip (opd s.env x)) s.nb s.H o.op = op at hr
      cases op with
      | none => cases hr
      | some e0 =>
        simp only [withNeed, Option.some.injEq] at hr
        subst hr
        refine plan_run hT hΓ hH rfl (ρ := fun x => strip (opd s.env x)) (fun x hx => ?_) hpl (fun p hp => hs p (mem_app.2 (.inr hp))) hf K Q (fun g' w' v h => hK g' w' v ⟨h.le, h.slot, h.heap, h.fr, h.perm, h.gho, h.ty⟩)
        exact strip_ok rfl (mem_opsOf hx) (fun p hp => hs p (mem_app.2 (.inl hp))) (opd_ok henv x)
  | some jb =>
    obtain ⟨j, b⟩ := jb
    rw [hgd] at hr
    simp only at hr
    generalize hG : guardOf s.env b (dstOf ops j) = oG at hr
    cases oG with
    | none => cases hr
    | some G =>
      have hw := guard_ok hT hΓ henv hgd hG
      rw [hw]
      by_cases hpk : ∃ c x y, o.op = .pick c x y
      · obtain ⟨c, x, y, hop⟩ := hpk
        rw [hop] at hr
        simp only [evGuarded] at hr
        generalize hpl : pickE (strip (opd s.env c)) (opd s.env x) (opd s.env y) = op at hr
        cases op with
        | none => cases hr
        | some e0 =>
          unfold under at hr
          split at hr
          · rename_i side d k rds heq
            simp only [Option.some.injEq] at hr heq
            subst hr
            subst heq
            by_cases hGt : G = true
            · rw [if_pos hGt]
              refine pick_run hT hΓ hH hop (strip_ok hGt (ss := [opd s.env c]) (by simp) (fun p hp => hs p (mem_app.2 (.inl hp))) (opd_ok henv c)) (opd_ok henv x) (opd_ok henv y) hpl (fun p hp => hs (G = true → p) (mem_app.2 (.inr (mem_under hT hΓ hp))) hGt) K Q (fun g' w' v h => hK g' w' v ⟨h.le, ⟨⟨fun _ => h.slot.1, fun hc => by rw [hGt] at hc; cases hc⟩, trivial⟩, h.heap, h.fr, h.perm, h.gho, h.ty⟩)
            · rw [if_neg hGt]
              exact hK g w undef (.pure hH ⟨⟨fun hc => absurd hc hGt, fun _ => rfl⟩, trivial⟩)
          · rename_i side sl u us rds heq
            simp only [Option.some.injEq] at hr heq
            subst hr
            subst heq
            have hGt : G = true := hs _ List.mem_cons_self
            rw [if_pos hGt]
            exact pick_run hT hΓ hH hop (strip_ok hGt (ss := [opd s.env c]) (by simp) (fun p hp => hs p (List.mem_cons_of_mem _ (mem_app.2 (.inl hp)))) (opd_ok henv c)) (opd_ok henv x) (opd_ok henv y) hpl (fun p hp => hs (G = true → p) (List.mem_cons_of_mem _ (mem_app.2 (.inr (mem_under hT hΓ hp)))) hGt) K Q (fun g' w' v h => hK g' w' v ⟨h.le, h.slot, h.heap, h.fr, h.perm, h.gho, h.ty⟩)
          · cases hr
      · have e1 : evGuarded T Γ o s (some G) o.op = under G (need G (opsOf s.env (opnds o.op))) (plan T Γ o.type (fun x => strip (opd s.env x)) s.nb s.H o.op) := by
          cases ho : o.op <;> first | rfl | (exact absurd ⟨_, _, _, ho⟩ hpk)
        rw [e1] at hr
        generalize hpl : plan T Γ o.type (fun x => strip (opd s.env x)) s.nb s.H o.op = op at hr
        cases op with
        | none => cases hr
        | some e0 =>
          unfold under at hr
          split at hr
          · rename_i side d k rds heq
            simp only [Option.some.injEq] at hr heq
            subst hr
            subst heq
            by_cases hGt : G = true
            · rw [if_pos hGt]
              refine plan_run hT hΓ hH rfl (ρ := fun x => strip (opd s.env x)) (fun x hx => ?_) hpl (fun p hp => hs (G = true → p) (mem_app.2 (.inr (mem_under hT hΓ hp))) hGt) (fun i hi => by cases hi) K Q (fun g' w' v h => hK g' w' v ⟨h.le, ⟨⟨fun _ => h.slot.1, fun hc => by rw [hGt] at hc; cases hc⟩, trivial⟩, h.heap, h.fr, h.perm, h.gho, h.ty⟩)
              exact strip_ok hGt (mem_opsOf hx) (fun p hp => hs p (mem_app.2 (.inl hp))) (opd_ok henv x)
            · rw [if_neg hGt]
              exact hK g w undef (.pure hH ⟨⟨fun hc => absurd hc hGt, fun _ => rfl⟩, trivial⟩)
          · rename_i side sl u us rds heq
            simp only [Option.some.injEq] at hr heq
            subst hr
            subst heq
            have hGt : G = true := hs _ List.mem_cons_self
            rw [if_pos hGt]
            refine plan_run hT hΓ hH rfl (ρ := fun x => strip (opd s.env x)) (fun x hx => ?_) hpl (fun p hp => hs (G = true → p) (List.mem_cons_of_mem _ (mem_app.2 (.inr (mem_under hT hΓ hp)))) hGt) hf K Q (fun g' w' v h => hK g' w' v ⟨h.le, h.slot, h.heap, h.fr, h.perm, h.gho, h.ty⟩)
            exact strip_ok hGt (mem_opsOf hx) (fun p hp => hs p (List.mem_cons_of_mem _ (mem_app.2 (.inl hp)))) (opd_ok henv x)
          · cases hr

end

end Go.Proofs.Ytfcibaiiobihnaa.Vc
