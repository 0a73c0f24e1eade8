/- REGIONS in a drawn order. -/
import Derived.Test.YtfcibaiiobihnaaVcS
namespace Go.Proofs.Ytfcibaiiobihnaa.Vc
open Go.RowKit
set_option linter.unusedSectionVars false

theorem evOp_look {T : Types} {Γ : Ctx} {ops : Array Oper} {o : Oper} {s s' : St} {e : Eff} (h : evOp T Γ ops.toList o s = some e) (ht : ∀ t ∈ o.looksAt ops, lk s'.env t = lk s.env t) (hH : ∀ i ∈ e.rds, getH s'.H i = getH s.H i) (hn : s'.nb = s.nb) : evOp T Γ ops.toList o s' = some e := by
  have hop : ∀ x ∈ o.op.operands, opd s'.env x = opd s.env x := fun x hx => by
    cases x with
    | tmp t => exact ht t (by simp only [Oper.looksAt, List.mem_append, List.mem_filterMap]; exact .inl ⟨.tmp t, by simpa using hx, rfl⟩)
    | _ => rfl
  have hops : opsOf s'.env (opnds o.op) = opsOf s.env (opnds o.op) := by
    have hsub : ∀ x ∈ opnds o.op, x ∈ o.op.operands := by
      have hp : ∀ (l : List (Nat × Operand)) x, x ∈ opnds.parts l → x ∈ l.map (·.2) := by
        intro l
        induction l with
        | nil => intro x h; exact h
        | cons q l ih => intro x h; obtain ⟨i, y⟩ := q; simp only [opnds.parts, List.mem_cons] at h; rcases h with rfl | h
                         · simp
                         · simp only [List.map_cons, List.mem_cons]; exact .inr (ih x h)
      have ho : ∀ (y : Option Operand) x, x ∈ opnds.opt y → y = some x := by
        intro y x h; cases y with
        | none => cases h
        | some y => simp only [opnds.opt, List.mem_singleton] at h; rw [h]
      intro x hx
      cases hop : o.op
      case call c =>
        rw [hop] at hx
        obtain ⟨callee, args, tys⟩ := c
        cases callee <;> simp_all [opnds, Op.operands, Call.operands]
      case slice t y lo hi mx =>
        rw [hop] at hx
        simp only [opnds, List.mem_cons, mem_app] at hx
        simp only [Op.operands, Array.mem_append]
        rcases hx with rfl | hx | hx
        · simp
        · have := ho _ _ hx; subst this; simp
        · have := ho _ _ hx; subst this; simp
      case build t ps => rw [hop] at hx; simp only [Op.operands, List.mem_toArray]; exact hp _ _ hx
      case buildSlice t n ps => rw [hop] at hx; simp only [Op.operands, List.mem_toArray]; exact hp _ _ hx
      all_goals (rw [hop] at hx; simp_all [opnds, Op.operands])
    have : ∀ (l : List Operand), (∀ x ∈ l, x ∈ o.op.operands) → opsOf s'.env l = opsOf s.env l := by
      intro l
      induction l with
      | nil => intro _; rfl
      | cons x l ih => intro h; simp only [opsOf, hop x (h x (by simp)), ih (fun y hy => h y (List.mem_cons_of_mem _ hy))]
    exact this _ hsub
  have hpl : ∀ {e0 : Eff}, plan T Γ o.type (fun x => strip (opd s.env x)) s.nb s.H o.op = some e0 → e0.rds = e.rds → plan T Γ o.type (fun x => strip (opd s'.env x)) s'.nb s'.H o.op = some e0 := by
    intro e0 h1 h2
    rw [plan_rho (ρ := fun x => strip (opd s.env x)) (ρ' := fun x => strip (opd s'.env x)) o.op (fun x hx => by simp only [hop x hx]), hn]
    exact plan_look h1 (by rw [h2]; exact hH)
  unfold evOp at h ⊢
  cases hg : o.guard with
  | none =>
    rw [hg] at h
    simp only at h ⊢
    by_cases hpk : ∃ c x y, o.op = .pick c x y
    · obtain ⟨c, x, y, hp⟩ := hpk
      rw [hp] at h ⊢
      simp only [evPlain] at h ⊢
      rw [hop c (by rw [hp]; simp [Op.operands]), hop x (by rw [hp]; simp [Op.operands]), hop y (by rw [hp]; simp [Op.operands])]
      exact h
    · have e1 : ∀ s, evPlain T Γ o s o.op = withNeed (need true (opsOf s.env (opnds o.op))) (plan T Γ o.type (fun x => strip (opd s.env x)) s.nb s.H o.op) := by
        intro s
        cases ho : o.op <;> first | rfl | (exact absurd ⟨_, _, _, ho⟩ hpk)
      rw [e1] at h ⊢
      rw [hops]
      cases hp0 : plan T Γ o.type (fun x => strip (opd s.env x)) s.nb s.H o.op with
      | none => rw [hp0] at h; cases h
      | some e0 =>
        rw [hp0] at h
        simp only [withNeed, Option.some.injEq] at h
        rw [hpl hp0 (by rw [← h])]
        simp only [withNeed, h]
  | some jb =>
    obtain ⟨j, b⟩ := jb
    rw [hg] at h
    simp only at h ⊢
    have hgu : guardOf s'.env b (dstOf ops.toList j) = guardOf s.env b (dstOf ops.toList j) := by
      rw [dstOf_eq]
      cases hd : (ops.toList[j]?).bind (·.dst) with
      | none => rfl
      | some t =>
        simp only [guardOf]
        rw [ht t (by
          simp only [Oper.looksAt, hg, List.mem_append]
          right
          have : (ops[j]?).bind (·.dst) = some t := by simpa using hd
          rw [this]; simp)]
    rw [hgu]
    cases hG : guardOf s.env b (dstOf ops.toList j) with
    | none => rw [hG] at h; cases h
    | some G =>
      rw [hG] at h
      by_cases hpk : ∃ c x y, o.op = .pick c x y
      · obtain ⟨c, x, y, hp⟩ := hpk
        rw [hp] at h ⊢
        simp only [evGuarded] at h ⊢
        rw [hop c (by rw [hp]; simp [Op.operands]), hop x (by rw [hp]; simp [Op.operands]), hop y (by rw [hp]; simp [Op.operands])]
        exact h
      have e1 : ∀ s, evGuarded T Γ o s (some G) o.op = under G (need G (opsOf s.env (opnds o.op))) (plan T Γ o.type (fun x => strip (opd s.env x)) s.nb s.H o.op) := by
        intro s
        cases ho : o.op <;> first | rfl | (exact absurd ⟨_, _, _, ho⟩ hpk)
      rw [e1] at h ⊢
      rw [hops]
      cases hp0 : plan T Γ o.type (fun x => strip (opd s.env x)) s.nb s.H o.op with
      | none => rw [hp0] at h; cases h
      | some e0 =>
        rw [hp0] at h
        have hrd : e0.rds = e.rds := by
          unfold under at h
          split at h
          · rename_i heq
            simp only [Option.some.injEq] at h heq
            subst heq
            rw [← h]
          · rename_i heq
            simp only [Option.some.injEq] at h heq
            subst heq
            rw [← h]
          · cases h
        rw [hpl hp0 hrd]
        exact h

/-! ### The last that wrote -/
def lastW {α : Type} (p : Nat → Bool) (wr : Nat → Option α) (b : α) : Nat → α
  | 0 => b
  | k + 1 => if p k = true then (wr k).getD (lastW p wr b k) else lastW p wr b k

theorem lastW_congr {α : Type} {p q : Nat → Bool} {wr : Nat → Option α} {b : α} : ∀ {n : Nat}, (∀ j, j < n → wr j ≠ none → p j = q j) → lastW p wr b n = lastW q wr b n
  | 0, _ => rfl
  | n + 1, h => by
    simp only [lastW]
    have ih := lastW_congr (p := p) (q := q) (wr := wr) (b := b) (n := n) (fun j hj => h j (by omega))
    cases hw : wr n with
    | none => simp [ih]
    | some v => rw [h n (by omega) (by rw [hw]; simp), ih]

theorem lastW_upto {α : Type} {wr : Nat → Option α} {b : α} {i : Nat} : ∀ {n : Nat}, i ≤ n → lastW (fun j => decide (j < i)) wr b n = lastW (fun _ => true) wr b i
  | 0, h => by have : i = 0 := by omega
               subst this; rfl
  | n + 1, h => by
    by_cases hi : i = n + 1
    · subst hi
      exact lastW_congr (fun j hj _ => by simp [hj])
    · have : ¬ n < i := by omega
      simp only [lastW]
      rw [if_neg (by simp [this])]
      exact lastW_upto (by omega)

theorem lastW_set {α : Type} {p q : Nat → Bool} {wr : Nat → Option α} {b : α} {i : Nat} (hi : p i = false) (hq : ∀ j, q j = if j = i then true else p j) : ∀ {n : Nat}, i < n → (∀ j, i < j → j < n → p j = true → wr j = none ∨ wr i = none) → lastW q wr b n = (wr i).getD (lastW p wr b n)
  | 0, h, _ => by omega
  | n + 1, h, hd => by
    simp only [lastW]
    by_cases hn : n = i
    · subst hn
      rw [if_pos (by rw [hq]; simp), if_neg (by simp [hi])]
      rw [lastW_congr (p := q) (q := p) (fun j hj _ => by rw [hq, if_neg (by omega)])]
    · have ih := lastW_set (b := b) hi hq (n := n) (by omega) (fun j h1 h2 => hd j h1 (by omega))
      rw [hq, if_neg hn, ih]
      by_cases hp : p n = true
      · rw [if_pos hp, if_pos hp]
        rcases hd n (by omega) (by omega) hp with h1 | h1
        · rw [h1]; rfl
        · rw [h1]; rfl
      · rw [if_neg hp, if_neg hp]

theorem lastW_cons {α : Type} {p : Nat → Bool} {wr : Nat → Option α} {b : α} : ∀ (k : Nat), lastW p wr b (k + 1) = lastW (fun j => p (j + 1)) (fun j => wr (j + 1)) (if p 0 = true then (wr 0).getD b else b) k
  | 0 => rfl
  | k + 1 => by
    rw [lastW, lastW_cons k]
    rfl

def wrS (os : List Oper) (es : List Eff) (t j : Nat) : Option Slot :=
  match os[j]?, es[j]? with
  | some o, some e => if o.dst = some t then some e.slot else none
  | _, _ => none

def wrH (es : List Eff) (id j : Nat) : Option (Option Blk) :=
  match es[j]? with
  | some e => if id ∈ idsOf e.upd then some (getH e.upd id) else none
  | none => none

theorem getH_app2 {id : Nat} {H : Heap} : ∀ {u : List (Nat × Blk)}, getH (app u H) id = if id ∈ idsOf u then getH u id else getH H id
  | [] => by simp [app, idsOf]
  | (k, b) :: u => by
    simp only [app, getH, idsOf, List.mem_cons]
    by_cases h : k = id
    · subst h; simp
    · rw [if_neg h, if_neg h, getH_app2 (u := u)]
      have : (id = k ∨ id ∈ idsOf u) ↔ id ∈ idsOf u := ⟨fun h' => h'.resolve_left (Ne.symm h), .inr⟩
      simp only [this]

theorem lk_put {d : Option Tmp} {s : Slot} {env : List (Nat × Slot)} {t : Nat} : lk (put d s env) t = if d = some t then s else lk env t := by
  cases d with
  | none => simp [put]
  | some d => simp only [put, lk, Option.some.injEq]

/-- What the steps in the text's order say of each operation. -/
structure StepOk (T : Types) (Γ : Ctx) (ops : List Oper) (os : List Oper) (es : List Eff) (s : St) (y : Acc) (k : Nat) (o : Oper) (e : Eff) (sk : St) : Prop where
  ev : evOp T Γ ops o sk = some e
  nb : sk.nb = s.nb + 16 * k
  dst : dstOk s.N o.dst = true
  ids : idsLt (s.nb + 16 * k + 16) e.upd = true
  side : ∀ p ∈ e.side, p ∈ y.side
  env : ∀ t, lk sk.env t = lastW (fun _ => true) (wrS os es t) (lk s.env t) k
  heap : ∀ id, getH sk.H id = lastW (fun _ => true) (wrH es id) (getH s.H id) k

structure RunOk (T : Types) (Γ : Ctx) (ops : List Oper) (os : List Oper) (es : List Eff) (s : St) (y : Acc) : Prop where
  len : es.length = os.length
  nb : y.s.nb = s.nb + 16 * os.length
  step : ∀ k o e, os[k]? = some o → es[k]? = some e → ∃ sk, StepOk T Γ ops os es s y k o e sk
  env : ∀ t, lk y.s.env t = lastW (fun _ => true) (wrS os es t) (lk s.env t) os.length
  heap : ∀ id, getH y.s.H id = lastW (fun _ => true) (wrH es id) (getH s.H id) os.length

theorem run_ok {T : Types} {Γ : Ctx} {ops : List Oper} : ∀ {l : List Oper} {x y : Acc}, evOps T Γ ops l (some x) = some y → ∃ es : List Eff, y.es = es.reverse ++ x.es ∧ RunOk T Γ ops l es x.s y
  | [], x, y, h => by
    simp only [evOps, Option.some.injEq] at h
    subst h
    exact ⟨[], rfl, rfl, rfl, fun k o e h => by simp at h, fun _ => rfl, fun _ => rfl⟩
  | o :: l, x, y, h => by
    obtain ⟨e, h1, h2, h3, h4⟩ := evOps_cons h
    obtain ⟨es, h5, h6⟩ := run_ok h4
    have envs : ∀ t k, lastW (fun _ => true) (wrS (o :: l) (e :: es) t) (lk x.s.env t) (k + 1) = lastW (fun _ => true) (wrS l es t) (lk (put o.dst e.slot x.s.env) t) k := fun t k => by
      rw [lastW_cons, if_pos rfl, lk_put]
      have : (wrS (o :: l) (e :: es) t 0).getD (lk x.s.env t) = if o.dst = some t then e.slot else lk x.s.env t := by
        simp only [wrS, List.getElem?_cons_zero]
        split <;> rfl
      rw [this]
      rfl
    have heaps : ∀ id k, lastW (fun _ => true) (wrH (e :: es) id) (getH x.s.H id) (k + 1) = lastW (fun _ => true) (wrH es id) (getH (app e.upd x.s.H) id) k := fun id k => by
      rw [lastW_cons, if_pos rfl, getH_app2]
      have : (wrH (e :: es) id 0).getD (getH x.s.H id) = if id ∈ idsOf e.upd then getH e.upd id else getH x.s.H id := by
        simp only [wrH, List.getElem?_cons_zero]
        split <;> rfl
      rw [this]
      rfl
    refine ⟨e :: es, by rw [h5]; simp, by simp [h6.len], ?_, ?_, fun t => ?_, fun id => ?_⟩
    · have := h6.nb; simp only at this; rw [this]; simp only [List.length_cons]; omega
    · intro k o' e' ho he
      cases k with
      | zero =>
        simp only [List.getElem?_cons_zero, Option.some.injEq] at ho he
        subst ho; subst he
        exact ⟨x.s, h1, rfl, h2, h3, fun p hp => (evOps_side h4).1 p (mem_app.2 (.inr hp)), fun _ => rfl, fun _ => rfl⟩
      | succ k =>
        simp only [List.getElem?_cons_succ] at ho he
        obtain ⟨sk, q⟩ := h6.step k o' e' ho he
        refine ⟨sk, q.ev, by rw [q.nb]; simp only; omega, q.dst, ?_, q.side, fun t => by rw [q.env t, envs], fun id => by rw [q.heap id, heaps]⟩
        have := q.ids
        simp only at this
        rw [show x.s.nb + 16 * (k + 1) + 16 = x.s.nb + 16 + 16 * k + 16 by omega]
        exact this
    · rw [List.length_cons, envs]; exact h6.env t
    · rw [List.length_cons, heaps]; exact h6.heap id

/-! ### What the check says -/
theorem freeFrom_spec {ops : Array Oper} {bs : List Nat} {nb i : Nat} {o : Oper} {e : Eff} : ∀ {ps : List Oper} {fs : List Eff} {j : Nat}, freeFrom ops bs nb i o e ps fs j = true → ∀ k p f, ps[k]? = some p → fs[k]? = some f →
    (bs.getD (j + k) 0).testBit i = true ∨ (o.apart ops p = true ∧ apartE e f = true ∧ noneIn (nb + 16 * i) f.upd = true)
  | p :: ps, f :: fs, j, h, k, p', f', hp, hf => by
    simp only [freeFrom, Bool.and_eq_true, Bool.or_eq_true] at h
    cases k with
    | zero =>
      simp only [List.getElem?_cons_zero, Option.some.injEq] at hp hf
      subst hp; subst hf
      exact h.1.imp id (fun h => ⟨h.1.1, h.1.2, h.2⟩)
    | succ k =>
      simp only [List.getElem?_cons_succ] at hp hf
      have := freeFrom_spec h.2 k p' f' hp hf
      rw [show j + (k + 1) = j + 1 + k by omega]
      exact this
  | [], _, _, _, _, _, _, hp, _ => by simp at hp
  | _ :: _, [], _, _, _, _, _, _, hf => by simp at hf

theorem freeAll_spec {ops : Array Oper} {bs : List Nat} {nb : Nat} : ∀ {os : List Oper} {es : List Eff} {m : Nat}, freeAll ops bs nb os es m = true → ∀ i j o e p f, i < j → os[i]? = some o → es[i]? = some e → os[j]? = some p → es[j]? = some f →
    (bs.getD (m + j) 0).testBit (m + i) = true ∨ (o.apart ops p = true ∧ apartE e f = true ∧ noneIn (nb + 16 * (m + i)) f.upd = true)
  | o' :: os, e' :: es, m, h, i, j, o, e, p, f, hij, ho, he, hp, hf => by
    simp only [freeAll, Bool.and_eq_true] at h
    obtain ⟨j, rfl⟩ : ∃ k, j = k + 1 := ⟨j - 1, by omega⟩
    simp only [List.getElem?_cons_succ] at hp hf
    cases i with
    | zero =>
      simp only [List.getElem?_cons_zero, Option.some.injEq] at ho he
      subst ho; subst he
      have := freeFrom_spec h.1 j p f hp hf
      rw [show m + (j + 1) = m + 1 + j by omega]
      exact this
    | succ i =>
      simp only [List.getElem?_cons_succ] at ho he
      have := freeAll_spec h.2 i j o e p f (by omega) ho he hp hf
      rw [show m + (j + 1) = m + 1 + j by omega, show m + (i + 1) = m + 1 + i by omega]
      exact this
  | [], _, _, _, _, _, _, _, _, _, _, ho, _, _, _ => by simp at ho
  | _ :: _, [], _, _, _, _, _, _, _, _, _, _, he, _, _ => by simp at he

theorem afterLt_spec : ∀ {os : List Oper} {m : Nat}, afterLt os m = true → ∀ i o, os[i]? = some o → ∀ e ∈ o.after, Region.binds .any e = true → e.on < m + i
  | o' :: os, m, h, i, o, ho, e, he, hb => by
    simp only [afterLt, Bool.and_eq_true] at h
    cases i with
    | zero =>
      simp only [List.getElem?_cons_zero, Option.some.injEq] at ho
      subst ho
      have := List.all_eq_true.1 h.1 e (by simpa using he)
      simpa [hb] using this
    | succ i =>
      simp only [List.getElem?_cons_succ] at ho
      have := afterLt_spec h.2 i o ho e he hb
      omega
  | [], _, _, _, _, ho, _, _, _ => by simp at ho

theorem touches_false {l : List Nat} : ∀ {u : List (Nat × Blk)}, touches u l = false → ∀ i, i ∈ idsOf u → i ∉ l
  | (k, b) :: u, h, i, hi => by
    simp only [touches, Bool.or_eq_false_iff] at h
    simp only [idsOf, List.mem_cons] at hi
    rcases hi with rfl | hi
    · simpa using h.1
    · exact touches_false h.2 i hi

theorem apartE_spec {a b : Eff} (h : apartE a b = true) : (∀ i ∈ idsOf a.upd, i ∉ b.rds ∧ i ∉ idsOf b.upd) ∧ (∀ i ∈ idsOf b.upd, i ∉ a.rds) := by
  simp only [apartE, Bool.and_eq_true, Bool.not_eq_true'] at h
  exact ⟨fun i hi => ⟨fun h1 => touches_false h.1 i hi (mem_app.2 (.inl h1)), fun h1 => touches_false h.1 i hi (mem_app.2 (.inr h1))⟩, fun i hi => touches_false h.2 i hi⟩

theorem noneIn_spec {lo : Nat} : ∀ {u : List (Nat × Blk)}, noneIn lo u = true → ∀ i ∈ idsOf u, i < lo ∨ lo + 16 ≤ i
  | (k, b) :: u, h, i, hi => by
    simp only [noneIn, Bool.and_eq_true, Bool.or_eq_true, decide_eq_true_eq] at h
    simp only [idsOf, List.mem_cons] at hi
    rcases hi with rfl | hi
    · exact h.1
    · exact noneIn_spec h.2 i hi

/-- A set of operations that holds with each one those before it. -/
def Closed (os : List Oper) (p : Nat → Bool) : Prop := ∀ j o, os[j]? = some o → p j = true → ∀ e ∈ o.after, Region.binds .any e = true → p e.on = true

theorem foldl_bits {p : Nat → Bool} {acc : Array Nat} (hacc : ∀ i j, (acc.getD i 0).testBit j = true → p i = true → p j = true) {i : Nat} : ∀ {es : List Edge} {s : Nat}, (s.testBit i = true → p i = true) → (∀ e ∈ es, Region.binds .any e = true → p e.on = true) →
    (es.foldl (fun s e => if Region.binds .any e then s ||| 2 ^ e.on ||| acc.getD e.on 0 else s) s).testBit i = true → p i = true
  | [], s, hs, _, h => hs h
  | e :: es, s, hs, he, h => by
    simp only [List.foldl_cons] at h
    refine foldl_bits hacc (es := es) (fun h1 => ?_) (fun e' h' => he e' (List.mem_cons_of_mem _ h')) h
    split at h1
    · rename_i hb
      simp only [Nat.testBit_or, Bool.or_eq_true, Nat.testBit_two_pow, decide_eq_true_eq] at h1
      rcases h1 with (h1 | h1) | h1
      · exact hs h1
      · rw [← h1]; exact he e (by simp) hb
      · exact hacc _ _ h1 (he e (by simp) hb)
    · exact hs h1

theorem before_bits {p : Nat → Bool} : ∀ {os : List Oper} {acc : Array Nat}, (∀ i j, (acc.getD i 0).testBit j = true → p i = true → p j = true) → (∀ j o, os[j]? = some o → p (acc.size + j) = true → ∀ e ∈ o.after, Region.binds .any e = true → p e.on = true) →
    ∀ i j, ((os.foldl (fun acc o => acc.push (o.after.foldl (fun s e => if Region.binds .any e then s ||| 2 ^ e.on ||| acc.getD e.on 0 else s) 0)) acc).getD i 0).testBit j = true → p i = true → p j = true
  | [], acc, hacc, _, i, j, h, hp => hacc i j h hp
  | o :: os, acc, hacc, hos, i, j, h, hp => by
    simp only [List.foldl_cons] at h
    refine before_bits (os := os) (fun i j h hp => ?_) (fun k o' ho hk => ?_) i j h hp
    · rw [Array.getD_eq_getD_getElem?, Array.getElem?_push] at h
      split at h
      · rename_i hi
        simp only [Option.getD_some] at h
        rw [← Array.foldl_toList] at h
        refine foldl_bits hacc (es := o.after.toList) (s := 0) (fun h => by simp at h) (fun e he hb => hos 0 o rfl (by rw [hi] at hp; exact hp) e (by simpa using he) hb) h
      · rw [← Array.getD_eq_getD_getElem?] at h
        exact hacc i j h hp
    · refine hos (k + 1) o' ho ?_
      rw [Array.size_push] at hk
      rw [show acc.size + (k + 1) = acc.size + 1 + k by omega]
      exact hk

theorem before_spec {ops : Array Oper} {p : Nat → Bool} (hp : Closed ops.toList p) {i j : Nat} (h : ((Region.before ops).toList.getD i 0).testBit j = true) (hi : p i = true) : p j = true := by
  refine before_bits (os := ops.toList) (acc := #[]) (p := p) (fun i j h => by simp at h) (fun j o ho hj => hp j o ho (by simpa using hj)) i j ?_ hi
  unfold Region.before at h
  rw [← Array.foldl_toList] at h
  rw [Array.getD_eq_getD_getElem?, ← Array.getElem?_toList, ← List.getD_eq_getElem?_getD]
  exact h

end Go.Proofs.Ytfcibaiiobihnaa.Vc
