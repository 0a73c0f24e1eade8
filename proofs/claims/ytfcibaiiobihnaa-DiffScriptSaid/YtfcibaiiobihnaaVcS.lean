/- REGIONS in the text's order; the state of an operation may be changed where it does not look. -/
import Derived.Test.YtfcibaiiobihnaaVcR
namespace Go.Proofs.Ytfcibaiiobihnaa.Vc
open Go.RowKit
set_option linter.unusedSectionVars false

theorem put_env {g g' : Gh} {w w' : World} {env : List (Nat × Slot)} {a : Act} {o : Oper} {sl : Slot} {v : Value} (h : EnvOk g w env a.tmps) (le : Le g w g' w') (hs : RdS g' w' sl v) {N : Nat} (hN : a.tmps.size = N) (hd : dstOk N o.dst = true) : EnvOk g' w' (put o.dst sl env) (a.put o.dst v).tmps := by
  intro t
  cases ho : o.dst with
  | none => exact RdS_mono le (h t)
  | some d =>
    rw [ho] at hd
    simp only [dstOk, decide_eq_true_eq] at hd
    simp only [put, lk, Act.put]
    by_cases hdt : d = t
    · subst hdt
      rw [if_pos rfl]
      have hlt : d < a.tmps.size := by rw [hN]; exact hd
      have : (a.tmps.setIfInBounds d v).getD d undef = v := by
        rw [Array.getD_eq_getD_getElem?, Array.getElem?_setIfInBounds_self_of_lt hlt]
        rfl
      rw [this]; exact hs
    · rw [if_neg hdt]
      have : (a.tmps.setIfInBounds d v).getD t undef = a.tmps.getD t undef := by
        rw [Array.getD_eq_getD_getElem?, Array.getElem?_setIfInBounds_ne hdt, ← Array.getD_eq_getD_getElem?]
      rw [this]; exact RdS_mono le (h t)

theorem idsLt_mem {n : Nat} : ∀ {u : List (Nat × Blk)}, idsLt n u = true → ∀ {i : Nat}, i ∈ idsOf u → i < n
  | (k, b) :: u, h, i, hi => by
    simp only [idsLt, Bool.and_eq_true, decide_eq_true_eq] at h
    simp only [idsOf, List.mem_cons] at hi
    rcases hi with rfl | hi
    · exact h.1
    · exact idsLt_mem h.2 hi

theorem put_size (a : Act) (d : Option Tmp) (v : Value) : (a.put d v).tmps.size = a.tmps.size := by
  cases d <;> simp [Act.put]
theorem put_def (a : Act) (d : Option Tmp) (v : Value) : (a.put d v).defers = a.defers := by
  cases d <;> simp [Act.put]

theorem Rel.step {g g' : Gh} {w w' : World} {s : St} {a : Act} {o : Oper} {e : Eff} {v : Value} (h : Rel g w s a) (k : EffOk g w s.H e g' w' v) (hd : dstOk s.N o.dst = true) (hi : idsLt (s.nb + 16) e.upd = true) :
    Rel g' w' ⟨put o.dst e.slot s.env, app e.upd s.H, s.nb + 16, s.N, s.np⟩ (a.put o.dst v) := by
  refine ⟨put_env h.env k.le k.slot h.size hd, k.heap, (put_size _ _ _).trans h.size, fun i hn => ?_, (put_def _ _ _).trans h.def_, Nat.le_trans h.np (Nat.le_add_right _ _)⟩
  have : i ∉ idsOf e.upd := fun hm => by have := idsLt_mem hi hm; simp only at hn; omega
  have hk := k.gho i this
  have hb := h.nb i (by simp only at hn; omega)
  exact ⟨hk.1.trans hb.1, fun n => by rw [hk.2]; exact hb.2 n⟩

/-! ### What the steps of a region are -/
theorem evOps_none {T : Types} {Γ : Ctx} {ops : List Oper} : ∀ (l : List Oper), evOps T Γ ops l none = none
  | [] => rfl
  | _ :: _ => rfl

theorem evOps_cons {T : Types} {Γ : Ctx} {ops : List Oper} {o : Oper} {l : List Oper} {x y : Acc} (h : evOps T Γ ops (o :: l) (some x) = some y) :
    ∃ e, evOp T Γ ops o x.s = some e ∧ dstOk x.s.N o.dst = true ∧ idsLt (x.s.nb + 16) e.upd = true ∧
      evOps T Γ ops l (some ⟨⟨put o.dst e.slot x.s.env, app e.upd x.s.H, x.s.nb + 16, x.s.N, x.s.np⟩, app x.side e.side, e :: x.es⟩) = some y := by
  simp only [evOps] at h
  cases he : evOp T Γ ops o x.s with
  | none => rw [he] at h; simp only [evStep] at h; rw [evOps_none] at h; cases h
  | some e =>
    rw [he] at h
    simp only [evStep] at h
    by_cases hc : (dstOk x.s.N o.dst && idsLt (x.s.nb + 16) e.upd) = true
    · rw [if_pos hc] at h
      simp only [Bool.and_eq_true] at hc
      exact ⟨e, rfl, hc.1, hc.2, h⟩
    · rw [if_neg hc, evOps_none] at h; cases h

theorem evOps_side {T : Types} {Γ : Ctx} {ops : List Oper} : ∀ {l : List Oper} {x y : Acc}, evOps T Γ ops l (some x) = some y → (∀ p ∈ x.side, p ∈ y.side) ∧ y.s.N = x.s.N ∧ y.s.np = x.s.np
  | [], x, y, h => by
    simp only [evOps, Option.some.injEq] at h
    subst h
    exact ⟨fun _ h => h, rfl, rfl⟩
  | o :: l, x, y, h => by
    obtain ⟨e, _, _, _, h4⟩ := evOps_cons h
    obtain ⟨h5, h6, h7⟩ := evOps_side h4
    exact ⟨fun p hp => h5 p (mem_app.2 (.inl hp)), h6, h7⟩

section
variable {P : Program} {T : Types} {Γ : Ctx} (hT : TypesOk P T) (hΓ : CtxOk P Γ) {A : Nat → Nat → Prop} {L : List Blk} {g0 : Gh} {w0 : World} {Q : Exit → Act → World → Prop}
include hT hΓ

theorem fresh_of {g : Gh} {w : World} {s : St} {a : Act} (h : Rel g w s a) (e : Eff) : Fresh g s.nb e := fun i _ hb => h.nb i hb

theorem wpList_ev {ops : Array Oper} : ∀ {l : List Oper} {x y : Acc} {a : Act} {w : World} {g : Gh}, evOps T Γ ops.toList l (some x) = some y → (∀ p ∈ y.side, p) → Rel g w x.s a → Good A L g0 w0 g w x.s.H →
    (∀ g' a' w', Rel g' w' y.s a' → Good A L g0 w0 g' w' y.s.H → Q .normal a' w') → wpList P ops Q l a w
  | [], x, y, a, w, g, h, hs, hr, hg, hQ => by
    simp only [evOps, Option.some.injEq] at h
    subst h
    exact hQ g a w hr hg
  | o :: l, x, y, a, w, g, h, hs, hr, hg, hQ => by
    obtain ⟨e, h1, h2, h3, h4⟩ := evOps_cons h
    have hside : ∀ p ∈ e.side, p := fun p hp => hs p ((evOps_side h4).1 p (mem_app.2 (.inr hp)))
    have key := evOp_ok hT hΓ (ops := ops.toList) (o := o) (a := a) (K := wpList P ops Q l) (Q := Q) hr.env hr.heap h1 hside (fresh_of hT hΓ hr e) (fun g' w' v k => wpList_ev h4 hs (hr.step k h2 h3) (hg.eff k) hQ)
    simp only [Array.toArray_toList] at key
    unfold wpList
    split at key
    · rename_i hw; rw [if_pos hw]; exact .inl key
    · rename_i hw; rw [if_neg hw]; exact key

theorem region_ev {id : Nat} {ops : Array Oper} {s : St} {y : Acc} {a : Act} {w : World} {g : Gh} (h : evOps T Γ ops.toList ops.toList (some ⟨s, [], []⟩) = some y) (hs : ∀ p ∈ y.side, p) (hr : Rel g w s a) (hg : Good A L g0 w0 g w s.H)
    (hQ : ∀ g' a' w', Rel g' w' y.s a' → Good A L g0 w0 g' w' y.s.H → Q .normal a' w') : (Code.region id ops false).wp P Q a w :=
  wp_region_list (wpList_ev hT hΓ h hs hr hg hQ)

end

/-! ### An operation looks at its operands, its guard and some objects -/

theorem opSlots_congr {ρ ρ' : Operand → Slot} : ∀ {xs : List Operand}, (∀ x ∈ xs, ρ' x = ρ x) → opSlots ρ' xs = opSlots ρ xs
  | [], _ => rfl
  | x :: xs, h => by simp only [opSlots, h x (by simp), opSlots_congr (fun y hy => h y (List.mem_cons_of_mem _ hy))]
theorem partSlots_congr {ρ ρ' : Operand → Slot} : ∀ {xs : List (Nat × Operand)}, (∀ x ∈ xs, ρ' x.2 = ρ x.2) → partSlots ρ' xs = partSlots ρ xs
  | [], _ => rfl
  | (i, x) :: xs, h => by simp only [partSlots, h (i, x) (by simp), partSlots_congr (fun y hy => h y (List.mem_cons_of_mem _ hy))]
theorem argSlots_congr {T : Types} {ρ ρ' : Operand → Slot} : ∀ {xs : List Operand} {ts : List TypeId}, (∀ x ∈ xs, ρ' x = ρ x) → argSlots T ρ' xs ts = argSlots T ρ xs ts
  | [], _, _ => by simp [argSlots]
  | _ :: _, [], _ => by simp [argSlots]
  | x :: xs, t :: ts, h => by simp only [argSlots, h x (by simp), argSlots_congr (fun y hy => h y (List.mem_cons_of_mem _ hy))]

theorem plan_rho {T : Types} {Γ : Ctx} {ty : TypeId} {ρ ρ' : Operand → Slot} {base : Nat} {H : List (Nat × Blk)} (op : Op) (h : ∀ x ∈ op.operands, ρ' x = ρ x) : plan T Γ ty ρ' base H op = plan T Γ ty ρ base H op := by
  cases op
  case slice t x lo hi mx =>
    cases mx with
    | some m => rfl
    | none =>
      have h1 := h x (by simp [Op.operands])
      have h2 : optSlot ρ' lo = optSlot ρ lo := by
        cases lo with
        | none => rfl
        | some l => simp only [optSlot, h l (by simp [Op.operands])]
      have h3 : optSlot ρ' hi = optSlot ρ hi := by
        cases hi with
        | none => rfl
        | some l => simp only [optSlot, h l (by simp [Op.operands])]
      simp only [plan, h1, h2, h3]
  case call c =>
    obtain ⟨callee, args, tys⟩ := c
    have ha : ∀ x ∈ args.toList, ρ' x = ρ x := fun x hx => h x (by
      have : x ∈ args := by simpa using hx
      simp only [Op.operands, Call.operands]
      split <;> simp [this])
    cases callee with
    | builtin b => cases b <;> simp only [plan, callE, opSlots_congr ha]
    | value f =>
      have hf := h f (by simp [Op.operands, Call.operands])
      simp only [plan, callE, hf]
      cases sameLen args.toList tys.toList with
      | false => rfl
      | true => simp only [callT, argSlots_congr ha]
    | _ => rfl
  case build t ps => simp only [plan, partSlots_congr (fun x hx => h x.2 (by simp only [Op.operands, List.mem_toArray]; exact List.mem_map_of_mem hx))]
  case buildSlice t n ps => simp only [plan, partSlots_congr (fun x hx => h x.2 (by simp only [Op.operands, List.mem_toArray]; exact List.mem_map_of_mem hx))]
  case makeFunc f first caps =>
    cases f with
    | func f =>
      have hc : ∀ x ∈ caps.toList, ρ' x = ρ x := fun x hx => h x (by
        have : x ∈ caps := by simpa using hx
        simp [Op.operands, this])
      simp only [plan, opSlots_congr hc]
    | _ => rfl
  all_goals first
    | rfl
    | (simp only [Op.operands, List.mem_toArray, List.mem_cons, List.not_mem_nil, or_false, forall_eq, forall_eq_or_imp] at h; simp only [plan, h])
    | (simp [Op.operands] at h; simp only [plan, h])

theorem wsIds_app : ∀ {l m : List Whence} {i : Nat}, i ∈ wsIds (l ++ m) ↔ i ∈ wsIds l ∨ i ∈ wsIds m
  | [], _, _ => by simp [wsIds]
  | w :: l, m, i => by simp only [List.cons_append, wsIds, List.mem_cons, wsIds_app, or_assoc]

theorem wsIds_rev : ∀ {l acc : List Whence} {i : Nat}, i ∈ wsIds (revL l acc) ↔ i ∈ wsIds l ∨ i ∈ wsIds acc
  | [], _, _ => by simp [revL, wsIds]
  | w :: l, acc, i => by
    simp only [revL, wsIds_rev, wsIds, List.mem_cons]
    constructor
    · rintro (h | h | h)
      · exact .inl (.inr h)
      · exact .inl (.inl h)
      · exact .inr h
    · rintro ((h | h) | h)
      · exact .inr (.inl h)
      · exact .inl h
      · exact .inr (.inr h)

section
variable {H H' : List (Nat × Blk)}



theorem passTok_look {k : Option Nat} {a b : Pass} (h : passTok H k (some a) = some b) : (∀ i, i ∈ wsIds a.ws → i ∈ wsIds b.ws) ∧ ((∀ i, i ∈ wsIds b.ws → getH H' i = getH H i) → passTok H' k (some a) = some b) := by
  cases k with
  | none =>
    have h : none = some b := h
    cases h
  | some k =>
    simp only [passTok] at h ⊢
    have : (∃ e c m, getH H k = some (.grow e c m)) := by
      cases hg : getH H k with
      | none => rw [hg] at h; cases h
      | some bl => cases bl with
        | grow e c m => exact ⟨_, _, _, rfl⟩
        | _ => rw [hg] at h; cases h
    obtain ⟨e, c, m, hg⟩ := this
    rw [hg] at h
    simp only [passTok2] at h
    split at h
    · cases h
    · rename_i hm
      simp only [Option.some.injEq] at h
      subst h
      refine ⟨fun i hi => by simp only [wsIds, List.mem_cons]; exact .inr hi, fun hl => ?_⟩
      rw [hl k (by simp [wsIds, Whence.id]), hg]
      simp only [passTok2]
      rw [if_neg hm]

theorem passTok_none (H : List (Nat × Blk)) (k : Option Nat) : passTok H k none = none := by
  cases k with
  | none => rfl
  | some k =>
    simp only [passTok]
    cases getH H k with
    | none => rfl
    | some bl => cases bl <;> rfl

theorem passToks_none (H : List (Nat × Blk)) (toks : List (Nat × Nat)) (o : Nat) : ∀ (qs : List Nat), passToks H toks o qs none = none
  | [] => rfl
  | q :: qs => by simp only [passToks, passTok_none, passToks_none H toks o qs]

theorem passToks_look {H H' : List (Nat × Blk)} {toks : List (Nat × Nat)} {o : Nat} : ∀ {qs : List Nat} {a b : Pass}, passToks H toks o qs (some a) = some b → (∀ i, i ∈ wsIds a.ws → i ∈ wsIds b.ws) ∧ ((∀ i, i ∈ wsIds b.ws → getH H' i = getH H i) → passToks H' toks o qs (some a) = some b)
  | [], a, b, h => by simp only [passToks, Option.some.injEq] at h; subst h; exact ⟨fun _ h => h, fun _ => rfl⟩
  | q :: qs, a, b, h => by
    simp only [passToks] at h ⊢
    cases hm : passTok H (tokAt toks (o + q)) (some a) with
    | none => rw [hm, passToks_none] at h; cases h
    | some m =>
      rw [hm] at h
      obtain ⟨h1, h2⟩ := passTok_look (H' := H') hm
      obtain ⟨h3, h4⟩ := passToks_look (H' := H') h
      exact ⟨fun i hi => h3 i (h1 i hi), fun hl => by rw [h2 (fun i hi => hl i (h3 i hi))]; exact h4 hl⟩

theorem passV (H H' : List (Nat × Blk)) (a : Pass) (s : Slot) : passOne H' a .v s = passOne H a .v s := by
  obtain ⟨d, k⟩ := s
  cases d with
  | val t x =>
    cases t with
    | clo =>
      cases x with
      | none => rfl
      | some q => obtain ⟨f, l⟩ := q; cases l <;> rfl
    | _ => rfl
  | _ => rfl

theorem passOne_look {p : PK} {s : Slot} {a b : Pass} (h : passOne H a p s = some b) : (∀ i, i ∈ wsIds a.ws → i ∈ wsIds b.ws) ∧ ((∀ i, i ∈ wsIds b.ws → getH H' i = getH H i) → passOne H' a p s = some b) := by
  by_cases hpv : p = .v
  · subst hpv
    refine ⟨?_, fun _ => by rw [passV H H']; exact h⟩
    unfold passOne at h
    split at h
    · simp only [passClo, Option.some.injEq] at h; subst h; exact fun _ h => h
    · simp only [passVal] at h
      split at h
      · simp only [Option.some.injEq] at h; subst h; exact fun _ h => h
      · cases h
    · rename_i h1; cases h1
    · rename_i h1; cases h1
    · cases h
  unfold passOne at h
  split at h
  · exact absurd rfl hpv
  · exact absurd rfl hpv
  · rename_i t x k
    simp only [passOne]
    cases hg : getH H k with
    | none => rw [hg] at h; simp [passOwn] at h
    | some bl =>
      rw [hg] at h
      cases bl with
      | grow e c m =>
        simp only [passOwn] at h
        split at h
        · rename_i hc
          simp only [Option.some.injEq] at h
          subst h
          refine ⟨fun i hi => by simp only [wsIds, List.mem_cons]; exact .inr hi, fun hl => ?_⟩
          rw [hl k (by simp [wsIds, Whence.id]), hg]
          simp only [passOwn]
          rw [if_pos hc]
        · cases h
      | _ => simp [passOwn] at h
  · rename_i t os i o k
    simp only [passOne]
    cases hg : getH H i with
    | none => rw [hg] at h; simp [passPtr] at h
    | some bl =>
      rw [hg] at h
      cases bl with
      | cells u x toks =>
        simp only [passPtr] at h
        cases hy : getAt t u x o with
        | none => rw [hy] at h; simp [passBox] at h
        | some y =>
          rw [hy] at h
          simp only [passBox] at h
          split at h
          · rename_i hc
            obtain ⟨h3, h4⟩ := passToks_look (H' := H') h
            refine ⟨fun j hj => h3 j (by simp only [wsIds, List.mem_cons]; exact .inr hj), fun hl => ?_⟩
            rw [hl i (h3 i (by simp [wsIds, Whence.id])), hg]
            simp only [passPtr, hy, passBox]
            rw [if_pos hc]
            exact h4 hl
          · cases h
      | _ => simp [passPtr] at h
  · cases h

theorem passArgs_none (H : List (Nat × Blk)) : ∀ (ps : List PK) (ss : List Slot), passArgs H ps ss none = none
  | [], [] => rfl
  | [], _ :: _ => rfl
  | _ :: _, [] => rfl
  | _ :: _, _ :: _ => rfl

theorem passArgs_look {H H' : List (Nat × Blk)} : ∀ {ps : List PK} {ss : List Slot} {a b : Pass}, passArgs H ps ss (some a) = some b → (∀ i, i ∈ wsIds a.ws → i ∈ wsIds b.ws) ∧ ((∀ i, i ∈ wsIds b.ws → getH H' i = getH H i) → passArgs H' ps ss (some a) = some b)
  | [], [], a, b, h => by simp only [passArgs, Option.some.injEq] at h; subst h; exact ⟨fun _ h => h, fun _ => rfl⟩
  | [], _ :: _, a, b, h => by simp [passArgs] at h
  | _ :: _, [], a, b, h => by simp [passArgs] at h
  | p :: ps, s :: ss, a, b, h => by
    simp only [passArgs] at h ⊢
    cases hm : passOne H a p s with
    | none => rw [hm, passArgs_none] at h; cases h
    | some m =>
      rw [hm] at h
      obtain ⟨h1, h2⟩ := passOne_look (H' := H') hm
      obtain ⟨h3, h4⟩ := passArgs_look (H' := H') h
      exact ⟨fun i hi => h3 i (h1 i hi), fun hl => by rw [h2 (fun i hi => hl i (h3 i hi))]; exact h4 hl⟩

theorem callFn_look {Γ : Ctx} {base : Nat} {args : List Slot} {f : Slot} {e : Eff} (h : callFn Γ H base args f = some e) (hl : ∀ i ∈ e.rds, getH H' i = getH H i) : callFn Γ H' base args f = some e := by
  unfold callFn at h ⊢
  split at h
  · rename_i f caps k
    cases hs : Γ f with
    | none => rw [hs] at h; cases h
    | some s =>
      rw [hs] at h
      simp only [callSig] at h ⊢
      cases hp : passArgs H s.ps (args ++ capSlots caps) (some ⟨[], [], [], 0⟩) with
      | none => rw [hp] at h; cases h
      | some a =>
        rw [hp] at h
        have hrd : e.rds = wsIds (revL a.ws []) := by
          simp only [callGo] at h
          cases hc : s.C (revL a.args []) (revL a.H []) with
          | none => rw [hc] at h; cases h
          | some r =>
            rw [hc] at h
            simp only [callBack] at h
            unfold callRes at h
            split at h
            · simp only [Option.some.injEq] at h; rw [← h]
            · cases h
        rw [(passArgs_look (H' := H') hp).2 (fun i hi => hl i (by rw [hrd]; exact wsIds_rev.2 (.inl hi)))]
        exact h
  · cases h

theorem plan_look {T : Types} {Γ : Ctx} {ty : TypeId} {ρ : Operand → Slot} {base : Nat} {op : Op} {e : Eff} (h : plan T Γ ty ρ base H op = some e) (hl : ∀ i ∈ e.rds, getH H' i = getH H i) : plan T Γ ty ρ base H' op = some e := by
  cases op
  case load t x =>
    simp only [plan] at h ⊢
    unfold loadE at h ⊢
    split at h
    · rename_i ti k n c i o' _ e1 e2
      unfold loadR at h
      split at h
      · rename_i e' t' l m hg
        split at h
        · rename_i hc
          have : e.rds = [k] := by
            unfold loadR2 at h; split at h
            · simp only [Option.some.injEq] at h; rw [← h]
            · cases h
          rw [hl k (by rw [this]; simp), hg]
          simp only [loadR]
          rw [if_pos hc]
          exact h
        · cases h
      · cases h
    · exact h
    · rename_i ti i off k e1 e2
      unfold loadB at h
      split at h
      · rename_i u x toks hg
        have : e.rds = [i] := by
          unfold loadY at h; split at h
          · simp only [Option.some.injEq] at h; rw [← h]
          · cases h
        rw [hl i (by rw [this]; simp), hg]
        exact h
      · cases h
    · cases h
  case store t x y =>
    simp only [plan] at h ⊢
    unfold storeE at h ⊢
    split at h
    · rename_i ti k n c i o' _ t y k' e1 e2 e3
      split at h
      · rename_i ht
        rw [if_pos ht]
        unfold storeR at h
        split at h
        · rename_i e' t' l m hg
          split at h
          · rename_i hc
            have : e.rds = [k] := by
              unfold storeR2 at h; split at h
              · simp only [Option.some.injEq] at h; rw [← h]
              · cases h
            rw [hl k (by rw [this]; simp), hg]
            simp only [storeR]
            rw [if_pos hc]
            exact h
          · cases h
        · cases h
      · cases h
    · rename_i ti i off k t y k' e1 e2 e3
      split at h
      · rename_i ht
        unfold storeB at h
        split at h
        · rename_i u x toks hg
          have : e.rds = [i] := by
            unfold storeZ at h; split at h
            · simp only [Option.some.injEq] at h; rw [← h]
            · cases h
          rw [hl i (by rw [this]; simp), hg]
          simp only [if_pos ht]
          exact h
        · cases h
      · cases h
    · cases h
  case call c =>
    obtain ⟨callee, args, tys⟩ := c
    cases callee with
    | builtin b =>
      cases b
      case append =>
        simp only [plan, callE] at h ⊢
        unfold appT at h ⊢
        split at h
        · split at h
          · rename_i hu
            rw [if_pos hu]
            unfold appendE at h ⊢
            split at h
            · split at h
              · rename_i hbu
                rw [if_pos hbu]
                unfold appendRow at h
                split at h
                · rename_i hg
                  split at h
                  · rename_i hbt
                    split at h
                    · rename_i hc
                      simp only [Option.some.injEq] at h
                      subst h
                      rw [hl _ (List.mem_cons_self), hg]
                      simp only [appendRow]
                      rw [dif_pos hbt, if_pos hc]
                    · cases h
                  · cases h
                · cases h
              · cases h
            · split at h
              · rename_i hba
                rw [dif_pos hba]
                unfold appendB at h
                split at h
                · rename_i hg
                  split at h
                  · rename_i hc
                    simp only [Option.some.injEq] at h
                    subst h
                    rw [hl _ (List.mem_cons_self), hg]
                    simp only [appendB]
                    rw [if_pos hc]
                  · cases h
                · cases h
              · cases h
            · cases h
          · rename_i hu
            rw [if_neg hu]
            unfold appendS at h ⊢
            split at h
            · unfold appendSB at h
              split at h
              · rename_i hg
                split at h
                · rename_i hc
                  simp only [Option.some.injEq] at h
                  subst h
                  rw [hl _ (List.mem_cons_self), hg]
                  simp only [appendSB]
                  rw [if_pos hc]
                · cases h
              · cases h
            · cases h
        · cases h
      all_goals exact h
    | value f =>
      simp only [plan, callE] at h ⊢
      cases hsl : sameLen args.toList tys.toList with
      | false => rw [hsl] at h; cases h
      | true => rw [hsl] at h; exact callFn_look h hl
    | _ => exact h
  case makeFunc f first caps =>
    cases f with
    | func f => exact h
    | _ => exact h
  case slice t x lo hi mx =>
    cases mx with
    | none => exact h
    | some m => exact h
  all_goals exact h
end

end Go.Proofs.Ytfcibaiiobihnaa.Vc
