/- CALLS. -/
import Derived.Test.YtfcibaiiobihnaaVcJ
namespace Go.Proofs.Ytfcibaiiobihnaa.Vc
open Go.RowKit
set_option linter.unusedSectionVars false

def enumH : Nat → List Blk → Heap
  | _, [] => []
  | c, b :: L => (c, b) :: enumH (c + 1) L

theorem getH_enum : ∀ (L : List Blk) (c i : Nat), getH (enumH c L) i = if c ≤ i then L[i - c]? else none
  | [], c, i => by simp [enumH, getH]
  | b :: L, c, i => by
    simp only [enumH, getH]
    by_cases h : c = i
    · subst h; simp
    · rw [if_neg h, getH_enum L (c + 1) i]
      by_cases h2 : c ≤ i
      · rw [if_pos h2, if_pos (by omega)]
        obtain ⟨d, hd⟩ : ∃ d, i - c = d + 1 := ⟨i - c - 1, by omega⟩
        rw [hd, List.getElem?_cons_succ]
        congr 1
        omega
      · rw [if_neg h2, if_neg (by omega)]

theorem getH_enum0 (L : List Blk) (i : Nat) : getH (enumH 0 L) i = L[i]? := by rw [getH_enum]; simp

def ownsAny (g : Gh) (H : Heap) (b o : Nat) : Prop := ∃ i blk, getH H i = some blk ∧ owns g i blk b o

def ArgsOk (g : Gh) (w : World) : List Slot → List Value → Prop
  | [], vs => vs = []
  | s :: ss, vs => ∃ v vs', vs = v :: vs' ∧ RdS g w s v ∧ ArgsOk g w ss vs'

def RetVals (g : Gh) (w : World) : List Slot → Value → Prop
  | [s], v => RdS g w s v
  | l, v => ∃ vs : List Value, v = .tuple vs.toArray ∧ ArgsOk g w l vs

structure RetOk (g : Gh) (w : World) (L : List Blk) (r : Ret) (g' : Gh) (w' : World) (v : Value) : Prop where
  shut : ∀ b o, g.S b o → g'.S b o ∧ w'.cell? ⟨b, o, none⟩ = w.cell? ⟨b, o, none⟩
  heap : HeapOk g' w' (enumH 0 r.H)
  ret : RetVals g' w' r.ret v
  fr : Fr (ownsAny g (enumH 0 L)) w w' g.S g'.S
  perm : ∀ i blk b o, r.H[i]? = some blk → owns g' i blk b o → w.heap.size ≤ b ∨ ownsAny g (enumH 0 L) b o
  J : ∀ (i : Nat) t x ts, L[i]? = some (.cells t x ts) → g'.J i = g.J i
  ty : ∀ (i : Nat) t x ts u y us, L[i]? = some (.cells t x ts) → r.H[i]? = some (.cells u y us) → u = t

/-- The contract of a function. -/
def ConOk (P : Program) (f : FuncId) (C : List Slot → List Blk → Option Ret) : Prop :=
  (∀ args w, (callFunc f args).run P w = .ok (.enter f args) w) ∧
  ∀ (g : Gh) (w : World) (args : List Slot) (vals : List Value) (L : List Blk) (r : Ret), HeapOk g w (enumH 0 L) → ArgsOk g w args vals → C args L = some r → (∀ p ∈ r.side, p) →
    Calls P f vals.toArray w (fun e w' => ∃ v g', e = .returned v ∧ RetOk g w L r g' w' v)

/-- Every function of the context keeps its contract. -/
def CtxOk (P : Program) (Γ : Ctx) : Prop := ∀ f s, Γ f = some s → ConOk P f s.C

theorem RdS_pure {g g' : Gh} {w : World} (hS : g'.S = g.S) {t : Ty} (hp : t.pure = true) {x : t.den} {v : Value} {k k' : Option Nat} (h : RdS g w (.val t x, k) v) (hk : ∀ c, k = some c → ∃ c', k' = some c' ∧ ∀ n u, g.cur c n = some u → g'.cur c' n = some u) (hk0 : k = none → k' = none) : RdS g' w (.val t x, k') v := by
  have hv : RdV g' w t x v := h.1.imp (fun ⟨a, cs, e, q⟩ => ⟨a, cs, e, Rd_pure hS hp q⟩) (fun ⟨a, q⟩ => ⟨a, Rd_pure hS hp q⟩)
  refine ⟨hv, ?_⟩
  cases k with
  | none => rw [hk0 rfl]; trivial
  | some c =>
    obtain ⟨c', rfl, h2⟩ := hk c rfl
    have h1 := h.2
    cases t with
    | list u => exact h2 _ _ h1
    | _ => exact h1.elim

section
variable {P : Program} {o : Oper} {a : Act} {g : Gh} {w : World} {H : Heap} {T : Types} {Γ : Ctx} (hT : TypesOk P T) (hΓ : CtxOk P Γ) (hH : HeapOk g w H)
include hT hΓ hH

theorem fixNil_ok {ti : Option TI} {s : Slot} {v : Value} (h : RdS g w s v) : RdS g w (fixNil ti s) v := by
  unfold fixNil
  split
  · have : v = .slice none 0 0 := h.1
    subst this
    exact ⟨.inr ⟨rfl, none, 0, rfl, Nat.le_refl _, .inl rfl⟩, trivial⟩
  · exact h

theorem argSlots_ok {ρ : Operand → Slot} : ∀ {xs : List Operand} {ts : List TypeId}, xs.length = ts.length → (∀ x ∈ xs, RdS g w (ρ x) (a.eval x)) → ArgsOk g w (argSlots T ρ xs ts) (xs.map a.eval)
  | [], [], _, _ => rfl
  | x :: xs, t :: ts, h, hx => ⟨_, _, rfl, fixNil_ok hT hΓ hH (hx x (by simp)), argSlots_ok (by simpa using h) (fun y hy => hx y (by simp [hy]))⟩

theorem ArgsOk_append {l m : List Slot} {vs us : List Value} (h : ArgsOk g w l vs) (k : ArgsOk g w m us) : ArgsOk g w (l ++ m) (vs ++ us) := by
  induction l generalizing vs with
  | nil => rw [show vs = [] from h]; exact k
  | cons s l ih =>
    obtain ⟨v, vs', rfl, h1, h2⟩ := h
    exact ⟨v, _, rfl, h1, ih h2⟩

theorem capSlots_ok : ∀ {caps : List (Nat × Nat)} {vs : List Value}, capVals g caps vs → ArgsOk g w (capSlots caps) vs
  | [], _, h => h
  | (i, o) :: caps, _, ⟨p, vs', h1, h2, h3⟩ => ⟨_, _, h2, ⟨.inr ⟨rfl, p, h1, rfl⟩, trivial⟩, capSlots_ok h3⟩

end

/-- A function's call, given what the evaluator makes of it. -/
theorem call_run {P : Program} {o : Oper} {a : Act} {f : FuncId} {fop : Operand} {args : Array Operand} {tys : Array TypeId} (ho : o.op = .call ⟨.value fop, args, tys⟩) {caps : List Value} (hf : a.eval fop = .func (.func f) #[] caps.toArray)
    (hen : ∀ args w, (callFunc f args).run P w = .ok (.enter f args) w) {w : World} {K : Act → World → Prop} {Q : Exit → Act → World → Prop}
    (h : Calls P f ((args.toList.map a.eval) ++ caps).toArray w (fun e w' => ∃ v, e = .returned v ∧ K (a.put o.dst v) w')) : o.wp P a w K Q := by
  unfold Oper.wp
  have : (execOp a.eval o).run P w = .ok (.enter f ((args.toList.map a.eval) ++ caps).toArray) w := by
    unfold execOp
    rw [ho]
    simp only [resolve, hf, Deferred.ofValue, Sem.run_bind, Sem.run_pure, Result.andThen_ok, invoke]
    rw [hen]
    congr 2
    apply Array.toList_inj.1
    simp
  rw [this]
  unfold Oper.upon
  refine h.mono fun e w' ⟨v, he, hk⟩ => ?_
  subst he
  exact hk

end Go.Proofs.Ytfcibaiiobihnaa.Vc
