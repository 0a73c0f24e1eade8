/- THE PROGRAM's TYPES, and the operations that touch no object. -/
import Derived.Test.YtfcibaiiobihnaaVcC
namespace Go.Proofs.Ytfcibaiiobihnaa.Vc
open Go.RowKit

def zeroCells : Ty → List Value
  | .bool => [.bool false]
  | .int k => [.int k 0]
  | .str => [.string ⟨#[]⟩]
  | .list _ => [.slice none 0 0]
  | .unit => []
  | .pair a b => zeroCells a ++ zeroCells b
  | .ref => [.pointer none]
  | .clo => [.nilFunc]

def zeroVal (t : Ty) : Value := if t.isRow then .agg (zeroCells t).toArray else (zeroCells t).headD undef

def fieldsEq (P : Program) : Ty → Nat → List Field → Prop
  | .unit, _, [] => True
  | .pair a b, o, f :: r => f.offset = o ∧ (P.info? f.type).map (·.size) = some a.cells ∧ (P.underlying f.type).map (·.isRow) = some a.isRow ∧ fieldsEq P b (o + a.cells) r
  | _, _, _ => False

def elemsEq (P : Program) (e : TypeId) : Ty → Nat → Prop
  | .unit, 0 => True
  | .pair a b, n + 1 => (P.info? e).map (·.size) = some a.cells ∧ (P.underlying e).map (·.isRow) = some a.isRow ∧ elemsEq P e b n
  | _, _ => False

/-- A type; a struct's fields from an offset on; the elements of an array from an index on. -/
inductive EqIx where
  | ty (t : TypeId) | fs (o : Nat) (l : List Field) | el (e : TypeId) (i m : Nat)

/-- A type whose values are compared part by part. -/
inductive EqT (P : Program) : Nat → EqIx → Ty → Prop
  | bool {h t} : P.underlying t = some .bool → EqT P h (.ty t) .bool
  | int {h t k} : P.underlying t = some (.int k) → EqT P h (.ty t) (.int k)
  | str {h t} : P.underlying t = some .string → EqT P h (.ty t) .str
  | struct {h t fs ty} : ty.isRow = true → P.underlying t = some (.struct fs) → P.stoodInHeld t = false → EqT P h (.fs 0 fs.toList) ty → EqT P (h + 1) (.ty t) ty
  | arr {h t e n ty} : ty.isRow = true → P.underlying t = some (.array n e) → (P.info? e).isSome = true → EqT P h (.el e 0 n) ty → EqT P (h + 1) (.ty t) ty
  | nil {h o} : EqT P h (.fs o []) .unit
  | cons {h o} {f : Field} {r a b} : f.name ≠ "_" → f.offset = o → (P.info? f.type).map (·.size) = some a.cells → (P.underlying f.type).map (·.isRow) = some a.isRow → EqT P h (.ty f.type) a → EqT P h (.fs (o + a.cells) r) b → EqT P h (.fs o (f :: r)) (.pair a b)
  | anil {h e i} : EqT P h (.el e i 0) .unit
  | acons {h e i m a b} : (P.info? e).map (·.size) = some a.cells → (P.underlying e).map (·.isRow) = some a.isRow → EqT P h (.ty e) a → EqT P h (.el e (i + 1) m) b → EqT P h (.el e i (m + 1)) (.pair a b)

def descEq (P : Program) (t : TypeId) (ti : TI) : Prop :=
  match ti.ty with
  | .bool => P.underlying t = some .bool
  | .int k => P.underlying t = some (.int k)
  | .str => P.underlying t = some .string
  | .ref => ∃ e, P.underlying t = some (.pointer e)
  | .clo => ∃ a b c, P.underlying t = some (.func a b c)
  | .list u => P.underlying t = some (.slice ti.elem) ∧ (P.info? ti.elem).map (fun i => (i.size, i.bytes, i.zero)) = some (u.cells, ti.bytes, some (zeroVal u)) ∧ (P.underlying ti.elem).map (·.isRow) = some u.isRow
  | ty => ((ti.arr = false ∧ ∃ fs, P.underlying t = some (.struct fs) ∧ fieldsEq P ty 0 fs.toList) ∨ (ti.arr = true ∧ ∃ n e, P.underlying t = some (.array n e) ∧ elemsEq P e ty n ∧ (P.info? e).isSome = true)) ∧ (ti.bytes = 1 → P.eqGuardType P.depth t = false ∧ ∃ h, h < 9000 ∧ EqT P h (.ty t) ty)

/-- The evaluator's table says of a type what the program says. -/
def tyEq (P : Program) (t : TypeId) (ti : TI) : Prop := (P.info? t).map (fun i => (i.size, i.zero)) = some (ti.ty.cells, some (zeroVal ti.ty)) ∧ descEq P t ti

def TypesOk (P : Program) : Types → Prop
  | [] => True
  | (t, ti) :: r => tyEq P t ti ∧ TypesOk P r

theorem tyOf_ok {P : Program} : ∀ {T : Types}, TypesOk P T → ∀ {t : TypeId} {ti : TI}, tyOf T t = some ti → tyEq P t ti
  | [], _, _, _, h => by simp [tyOf] at h
  | (k, ti) :: r, hT, t, ti', h => by
    simp only [tyOf] at h
    by_cases hk : k = t
    · rw [if_pos hk] at h
      subst hk
      rw [← Option.some.inj h]
      exact hT.1
    · rw [if_neg hk] at h
      exact tyOf_ok hT.2 h

theorem zeroCells_Rd (g : Gh) (w : World) : ∀ t : Ty, Rd g w t t.zero (zeroCells t)
  | .bool => rfl
  | .int _ => rfl
  | .str => rfl
  | .list _ => ⟨none, 0, rfl, Nat.le_refl _, .inl rfl⟩
  | .unit => rfl
  | .pair a b => ⟨_, _, rfl, zeroCells_Rd g w a, zeroCells_Rd g w b⟩
  | .ref => rfl
  | .clo => rfl

theorem zeroVal_RdV (g : Gh) (w : World) (t : Ty) : RdV g w t t.zero (zeroVal t) := by
  unfold RdV zeroVal
  by_cases h : t.isRow = true
  · left; rw [if_pos h]; exact ⟨h, _, rfl, zeroCells_Rd g w t⟩
  · right
    rw [if_neg h]
    refine ⟨by simpa using h, ?_⟩
    cases t <;> first | exact zeroCells_Rd g w _ | (simp [Ty.isRow] at h)

theorem RdV_cells {g : Gh} {w : World} {t : Ty} {x : t.den} {v : Value} (h : RdV g w t x v) : Rd g w t x v.cells.toList := by
  rcases h with ⟨_, cs, rfl, r⟩ | ⟨hr, r⟩
  · simpa [Value.cells] using r
  · have h1 := Rd_one r v (by simp)
    have : v.cells = #[v] := by cases v <;> first | rfl | (simp [Value.oneCell'] at h1)
    rw [this]; exact r

theorem RdV_of_one {g : Gh} {w : World} {t : Ty} {x : t.den} {v : Value} (hr : t.isRow = false) (r : Rd g w t x [v]) : RdV g w t x v := .inr ⟨hr, r⟩
theorem RdV_one {g : Gh} {w : World} {t : Ty} {x : t.den} {v : Value} (hr : t.isRow = false) (h : RdV g w t x v) : Rd g w t x [v] := by
  rcases h with ⟨h1, _⟩ | ⟨_, r⟩
  · rw [hr] at h1; cases h1
  · exact r
theorem RdV_int {g : Gh} {w : World} {k : IntKind} {n : Int} {v : Value} (h : RdV g w (.int k) n v) : v = .int k n := by
  have := RdV_one rfl h; simp only [Rd, List.cons.injEq, and_true] at this; exact this
theorem RdV_bool {g : Gh} {w : World} {n : Bool} {v : Value} (h : RdV g w .bool n v) : v = .bool n := by
  have := RdV_one rfl h; simp only [Rd, List.cons.injEq, and_true] at this; exact this
theorem RdV_str {g : Gh} {w : World} {l : List UInt8} {v : Value} (h : RdV g w .str l v) : v = .string ⟨l.toArray⟩ := by
  have := RdV_one rfl h; simp only [Rd, List.cons.injEq, and_true] at this; exact this
theorem RdV_list {g : Gh} {w : World} {t : Ty} {l : List t.den} {v : Value} (h : RdV g w (.list t) l v) : ∃ a cap, v = .slice a l.length cap ∧ l.length ≤ cap ∧ (l = [] ∨ ∃ b o, a = some ⟨b, o, none⟩ ∧ RdL (Rd g w t) w g.S t.cells b o l) := by
  have := RdV_one rfl h
  obtain ⟨a, cap, e, h1, h2⟩ := this
  simp only [List.cons.injEq, and_true] at e
  exact ⟨a, cap, e, h1, h2⟩
theorem RdV_ref {g : Gh} {w : World} {i o : Nat} {v : Value} (h : RdV g w .ref (some (i, o)) v) : ∃ p, g.J i = some p ∧ v = .pointer (some ⟨p.1, p.2 + o, none⟩) := by
  have := RdV_one rfl h
  obtain ⟨p, h1, e⟩ := this
  simp only [List.cons.injEq, and_true] at e
  exact ⟨p, h1, e⟩
theorem RdV_row {g : Gh} {w : World} {t : Ty} {x : t.den} {v : Value} (hr : t.isRow = true) (h : RdV g w t x v) : ∃ cs : List Value, v = .agg cs.toArray ∧ Rd g w t x cs := by
  rcases h with ⟨_, r⟩ | ⟨h1, _⟩
  · exact r
  · rw [hr] at h1; cases h1

theorem mk_int (g : Gh) (w : World) (k : IntKind) (n : Int) : RdV g w (.int k) n (.int k n) := .inr ⟨rfl, rfl⟩
theorem mk_bool (g : Gh) (w : World) (b : Bool) : RdV g w .bool b (.bool b) := .inr ⟨rfl, rfl⟩
theorem mk_str (g : Gh) (w : World) (l : List UInt8) : RdV g w .str l (.string ⟨l.toArray⟩) := .inr ⟨rfl, rfl⟩

/-! ### An operation that the evaluator has gone through -/
def OpOk (P : Program) (o : Oper) (a : Act) (g : Gh) (w : World) (H : Heap) (e : Eff) : Prop :=
  ∀ (K : Act → World → Prop) (Q : Exit → Act → World → Prop), (∀ g' w' v, EffOk g w H e g' w' v → K (a.put o.dst v) w') → o.wp P a w K Q

theorem OpOk.value {P : Program} {o : Oper} {a : Act} {g g' : Gh} {w w' : World} {H : Heap} {e : Eff} {v : Value} (hr : (execOp a.eval o).run P w = .ok (.value v) w') (h : EffOk g w H e g' w' v) : OpOk P o a g w H e := by
  intro K Q hK
  unfold Oper.wp
  rw [hr]
  exact hK g' w' v h

theorem OpOk.skip {P : Program} {o : Oper} {a : Act} {g g' : Gh} {w w' : World} {H : Heap} {e : Eff} (hr : (execOp a.eval o).run P w = .ok .skip w') (h : EffOk g w H e g' w' undef) : OpOk P o a g w H e := by
  intro K Q hK
  unfold Oper.wp
  rw [hr]
  exact hK g' w' undef h

theorem OpOk.pure {P : Program} {o : Oper} {a : Act} {g : Gh} {w : World} {H : Heap} {side : List Prop} {d : DV} {rds : List Nat} {v : Value} (hH : HeapOk g w H) (hr : (execOp a.eval o).run P w = .ok (.value v) w) (h : RdD g w d v) :
    OpOk P o a g w H ⟨side, (d, none), [], rds⟩ := .value hr (.pure hH ⟨h, trivial⟩)

section
variable {P : Program} {o : Oper} {a : Act} {g : Gh} {w : World} {H : Heap}


theorem intRes_ok {g : Gh} {w : World} {k : IntKind} (q : Int) (hq : ∀ p ∈ (intRes k q).1, p) : RdD g w (intRes k q).2 (.int k (k.wrap q)) := by
  cases k <;> simp only [intRes] at hq ⊢ <;> first | exact mk_int _ _ _ _ | skip
  have h0 := hq _ (List.mem_singleton.2 rfl)
  rw [show IntKind.i64.wrap q = q from IntWalk.i64_in q (by omega)]
  exact mk_int _ _ _ _

theorem binInt_run (g : Gh) {op : BinOp} {xt : TypeId} {x y : Operand} {k : IntKind} {m n : Int} {r : List Prop × DV} (hr : binInt k m n op = some r) (hs : ∀ p ∈ r.1, p) :
    ∃ v, (do eqGuard op xt x y (.int k m) (.int k n); Go.binOp op xt (.int k m) (.int k n) : Sem Value).run P w = .ok v w ∧ RdD g w r.2 v := by
  cases op <;> simp only [binInt, Option.some.injEq, reduceCtorEq] at hr
  all_goals subst hr
  case add => exact ⟨.int k (k.wrap _), by simp [eqGuard, Go.binOp, Op.intArith], intRes_ok _ hs⟩
  case sub => exact ⟨.int k (k.wrap _), by simp [eqGuard, Go.binOp, Op.intArith], intRes_ok _ hs⟩
  case mul => exact ⟨.int k (k.wrap _), by simp [eqGuard, Go.binOp, Op.intArith], intRes_ok _ hs⟩
  case eql => exact ⟨.bool (decide (m = n)), by simp [eqGuard, Go.binOp, Op.intCmp]; rfl, mk_bool _ _ _⟩
  case neq => exact ⟨.bool (!decide (m = n)), by simp [eqGuard, Go.binOp, Op.intCmp, bne]; rfl, mk_bool _ _ _⟩
  case lss => exact ⟨.bool (decide _), by simp [eqGuard, Go.binOp, Op.intCmp], mk_bool _ _ _⟩
  case leq => exact ⟨.bool (decide _), by simp [eqGuard, Go.binOp, Op.intCmp], mk_bool _ _ _⟩
  case gtr => exact ⟨.bool (decide (n < m)), by simp [eqGuard, Go.binOp, Op.intCmp], mk_bool _ _ _⟩
  case geq => exact ⟨.bool (decide (n ≤ m)), by simp [eqGuard, Go.binOp, Op.intCmp], mk_bool _ _ _⟩
  case quo =>
    have h0 := hs _ (List.mem_singleton.2 rfl)
    exact ⟨.int k (k.wrap (Int.tdiv m n)), by simp [eqGuard, Go.binOp, Op.intDiv, h0], mk_int _ _ _ _⟩
  case rem =>
    have h0 := hs _ (List.mem_singleton.2 rfl)
    exact ⟨.int k (Int.tmod m n), by simp [eqGuard, Go.binOp, Op.intDiv, h0], mk_int _ _ _ _⟩

theorem beqL (m n : List UInt8) : (m == n) = decide (m = n) := by rw [Bool.eq_iff_iff]; simp

theorem binStr_run (g : Gh) {op : BinOp} {xt : TypeId} {x y : Operand} {m n : List UInt8} {r : List Prop × DV} (hr : binStr m n op = some r) (hs : ∀ p ∈ r.1, p) :
    ∃ v, (do eqGuard op xt x y (.string ⟨m.toArray⟩) (.string ⟨n.toArray⟩); Go.binOp op xt (.string ⟨m.toArray⟩) (.string ⟨n.toArray⟩) : Sem Value).run P w = .ok v w ∧ RdD g w r.2 v := by
  have hl : ∀ l : List UInt8, (⟨l.toArray⟩ : ByteArray).size = l.length := fun l => by simp [ByteArray.size]
  cases op <;> simp only [binStr, Option.some.injEq, reduceCtorEq] at hr
  all_goals subst hr
  case add =>
    have h0 := hs _ (List.mem_singleton.2 rfl)
    refine ⟨.string ⟨(m ++ n).toArray⟩, ?_, mk_str _ _ _⟩
    rw [List.length_append] at h0
    have h1 : ¬ (((⟨m.toArray⟩ : ByteArray).size + (⟨n.toArray⟩ : ByteArray).size : Nat) : Int) > IntKind.i64.max := by rw [hl, hl, show IntKind.i64.max = 9223372036854775807 from by decide]; omega
    simp only [eqGuard, Go.binOp, Op.stringOp, Sem.run_bind, if_neg h1]
    simp
    rfl
  case eql => exact ⟨.bool (decide (m = n)), by simp [eqGuard, Go.binOp, Op.stringOp, beqL], mk_bool _ _ _⟩
  case neq => exact ⟨.bool (!decide (m = n)), by simp [eqGuard, Go.binOp, Op.stringOp, beqL], mk_bool _ _ _⟩
  case lss => exact ⟨.bool (Op.bytesLess m n), by simp [eqGuard, Go.binOp, Op.stringOp], mk_bool _ _ _⟩
  case leq => exact ⟨.bool (Op.bytesLess m n || decide (m = n)), by simp [eqGuard, Go.binOp, Op.stringOp, beqL], mk_bool _ _ _⟩
  case gtr => exact ⟨.bool (!(Op.bytesLess m n || decide (m = n))), by simp [eqGuard, Go.binOp, Op.stringOp, beqL], mk_bool _ _ _⟩
  case geq => exact ⟨.bool (!Op.bytesLess m n), by simp [eqGuard, Go.binOp, Op.stringOp], mk_bool _ _ _⟩

theorem optE_some {r : Option (List Prop × DV)} {e : Eff} (h : optE r = some e) : ∃ q, r = some q ∧ e = ⟨q.1, (q.2, none), [], []⟩ := by
  cases r with
  | none => cases h
  | some q => obtain ⟨p, d⟩ := q; exact ⟨(p, d), rfl, (Option.some.inj h).symm⟩

/-- The pair of operations of a comparison or a sum. -/
theorem binDV_run (hH : HeapOk g w H) {op : BinOp} {xt yt : TypeId} {x y : Operand} (ho : o.op = .binOp op xt x y yt) {sx sy : Slot} (hx : RdS g w sx (a.eval x)) (hy : RdS g w sy (a.eval y)) {e : Eff}
    (hr : optE (binDV op sx sy) = some e) (hs : ∀ p ∈ e.side, p) : OpOk P o a g w H e := by
  obtain ⟨q, hq, rfl⟩ := optE_some hr
  have go : ∀ {u v : Value}, a.eval x = u → a.eval y = v → (∃ z, (do eqGuard op xt x y u v; Go.binOp op xt u v : Sem Value).run P w = .ok z w ∧ RdD g w q.2 z) → OpOk P o a g w H ⟨q.1, (q.2, none), [], []⟩ := by
    rintro u v rfl rfl ⟨z, hz, hd⟩
    refine OpOk.pure hH (v := z) ?_ hd
    unfold execOp
    rw [ho]
    simp only [Sem.run_bind, Sem.run_pure] at hz ⊢
    rw [hz]
    rfl
  obtain ⟨dx, kx⟩ := sx
  obtain ⟨dy, ky⟩ := sy
  replace hx := hx.1
  replace hy := hy.1
  unfold binDV at hq
  split at hq
  · rename_i k m k1 k' n k2 e1 e2
    simp only [Prod.mk.injEq] at e1 e2
    obtain ⟨rfl, -⟩ := e1
    obtain ⟨rfl, -⟩ := e2
    by_cases hk : k = k'
    · subst hk
      rw [if_pos rfl] at hq
      exact go (RdV_int hx) (RdV_int hy) (binInt_run g hq hs)
    · rw [if_neg hk] at hq; cases hq
  · rename_i m k1 n k2 e1 e2
    simp only [Prod.mk.injEq] at e1 e2
    obtain ⟨rfl, -⟩ := e1
    obtain ⟨rfl, -⟩ := e2
    exact go (RdV_str hx) (RdV_str hy) (binStr_run g hq hs)
  · cases hq

theorem unDV_run (hH : HeapOk g w H) {op : UnOp} {xt : TypeId} {x : Operand} (ho : o.op = .unOp op xt x) {sx : Slot} (hx : RdS g w sx (a.eval x)) {e : Eff}
    (hr : optE (unDV op sx) = some e) (hs : ∀ p ∈ e.side, p) : OpOk P o a g w H e := by
  obtain ⟨q, hq, rfl⟩ := optE_some hr
  replace hx := hx.1
  unfold unDV at hq
  split at hq
  · have := RdV_bool hx
    cases hq
    refine OpOk.pure hH (v := .bool _) ?_ (mk_bool _ _ _)
    simp [execOp, ho, this, Op.unary]
  · rename_i k n _
    have := RdV_int hx
    cases hq
    refine OpOk.pure hH (v := .int k (k.wrap (-n))) ?_ (intRes_ok _ hs)
    simp [execOp, ho, this, Op.unary, Op.intArith]
  · cases hq

theorem desc_of {ty : Ty} {t : TypeId} {ti : TI} (h : tyEq P t ti) (hty : ti.ty = ty) : descEq P t ⟨ty, ti.elem, ti.bytes, ti.arr⟩ := by
  subst hty; exact h.2

theorem und_some {t : TypeId} {ti : TI} (h : tyEq P t ti) : ∃ d, P.underlying t = some d ∧ d.isRow = ti.ty.isRow := by
  have h2 := h.2
  unfold descEq at h2
  obtain ⟨ty, el, by', ar⟩ := ti
  cases ty <;> simp only at h2
  case bool => exact ⟨_, h2, rfl⟩
  case int => exact ⟨_, h2, rfl⟩
  case str => exact ⟨_, h2, rfl⟩
  case list => exact ⟨_, h2.1, rfl⟩
  case ref => obtain ⟨e, h⟩ := h2; exact ⟨_, h, rfl⟩
  case clo => obtain ⟨a, b, c, h⟩ := h2; exact ⟨_, h, rfl⟩
  all_goals
    rcases h2.1 with ⟨_, fs, h, _⟩ | ⟨_, n, e, h, _⟩
    · exact ⟨_, h, rfl⟩
    · exact ⟨_, h, rfl⟩

theorem info_some {t : TypeId} {ti : TI} (h : tyEq P t ti) : ∃ i, P.info? t = some i ∧ i.size = ti.ty.cells ∧ i.zero = some (zeroVal ti.ty) := by
  obtain ⟨i, hi, he⟩ := Option.map_eq_some_iff.1 h.1
  simp only [Prod.mk.injEq] at he
  exact ⟨i, hi, he.1, he.2⟩

theorem convDV_run {T : Types} (hT : TypesOk P T) (hH : HeapOk g w H) {st dt : TypeId} {x : Operand} (ho : o.op = .convert st dt x) {sx : Slot} (hx : RdS g w sx (a.eval x)) {e : Eff}
    (hr : optE (convDV (tyOf T st) (tyOf T dt) sx) = some e) : OpOk P o a g w H e := by
  obtain ⟨q, hq, rfl⟩ := optE_some hr
  replace hx := hx.1
  generalize hs : tyOf T st = os at hq
  generalize hd : tyOf T dt = od at hq
  unfold convDV at hq
  split at hq
  · rename_i k' k _ _ _ k0 n _
    obtain ⟨d, hd1, _⟩ := und_some (tyOf_ok hT hs)
    have hd2 := (tyOf_ok hT hd).2
    simp only [descEq] at hd2
    have := RdV_int hx
    cases hq
    refine OpOk.pure hH (v := .int k (k.wrap n)) ?_ (mk_int _ _ _ _)
    simp [execOp, ho, this, Go.convert, run_underlying hd1, run_underlying hd2, Conv.intToInt]
  · rename_i k' _ _ _ s _
    obtain ⟨d, hd1, _⟩ := und_some (tyOf_ok hT hs)
    have hd2 := (tyOf_ok hT hd).2
    simp only [descEq] at hd2
    have := RdV_str hx
    cases hq
    refine OpOk.pure hH (v := .string ⟨List.toArray s⟩) ?_ (mk_str _ _ _)
    simp [execOp, ho, this, Go.convert, run_underlying hd1, run_underlying hd2]
  · cases hq

/-! ### Lists and strings -/
theorem RdL_get {α : Type} {R : α → List Value → Prop} {w : World} {S : Nat → Nat → Prop} {c b : Nat} : ∀ {l : List α} {o i : Nat} {x : α}, RdL R w S c b o l → l[i]? = some x →
    ∃ cs, cs.length = c ∧ w.rangeAt b (o + i * c) cs ∧ (∀ j, j < c → S b (o + i * c + j)) ∧ R x cs
  | y :: l, o, 0, x, ⟨⟨cs, h1, h2, h3, h4⟩, _⟩, h => by
    simp only [List.getElem?_cons_zero, Option.some.injEq] at h
    subst h
    exact ⟨cs, h1, by simpa using h2, by simpa using h3, h4⟩
  | y :: l, o, i + 1, x, ⟨_, h5⟩, h => by
    simp only [List.getElem?_cons_succ] at h
    obtain ⟨cs, h1, h2, h3, h4⟩ := RdL_get h5 h
    have e : o + c + i * c = o + (i + 1) * c := by rw [Nat.succ_mul]; omega
    exact ⟨cs, h1, by rw [← e]; exact h2, by rw [← e]; exact h3, h4⟩

theorem RdL_drop {α : Type} {R : α → List Value → Prop} {w : World} {S : Nat → Nat → Prop} {c b : Nat} : ∀ {l : List α} {o : Nat} (i : Nat), RdL R w S c b o l → i ≤ l.length → RdL R w S c b (o + i * c) (l.drop i)
  | _, o, 0, h, _ => by simpa using h
  | [], o, i + 1, _, h => by simp at h
  | y :: l, o, i + 1, ⟨_, h5⟩, h => by
    have := RdL_drop i h5 (by simpa using h)
    have e : o + c + i * c = o + (i + 1) * c := by rw [Nat.succ_mul]; omega
    rw [← e]; simpa using this

theorem RdL_take {α : Type} {R : α → List Value → Prop} {w : World} {S : Nat → Nat → Prop} {c b : Nat} : ∀ {l : List α} {o : Nat} (i : Nat), RdL R w S c b o l → RdL R w S c b o (l.take i)
  | _, _, 0, _ => by simp [RdL]
  | [], _, _ + 1, _ => by simp [RdL]
  | _ :: _, _, i + 1, ⟨h, h5⟩ => by simpa [RdL] using ⟨h, RdL_take i h5⟩


theorem proj_Rd {g : Gh} {w : World} : ∀ {t : Ty} {x : t.den} {cs : List Value} {f : Nat} {u : Ty} {y : u.den}, Rd g w t x cs → t.proj x f = some ⟨u, y⟩ →
    ∃ o c1 c2 c3, t.offs f = some o ∧ t.fld f = some u ∧ cs = c1 ++ c2 ++ c3 ∧ c1.length = o ∧ Rd g w u y c2 := by
  intro t
  induction t with
  | pair a b _ ihb =>
    intro x cs f u y r h
    obtain ⟨c1, c2, e, r1, r2⟩ := r
    cases f with
    | zero =>
      simp only [Ty.proj, Option.some.injEq, Sigma.mk.injEq] at h
      obtain ⟨rfl, h2⟩ := h
      obtain rfl := eq_of_heq h2
      exact ⟨0, [], c1, c2, rfl, rfl, by simpa using e, rfl, r1⟩
    | succ f =>
      simp only [Ty.proj] at h
      obtain ⟨o, d1, d2, d3, h1, h2, h3, h4, h5⟩ := ihb r2 h
      refine ⟨a.cells + o, c1 ++ d1, d2, d3, by simp [Ty.offs, h1], by simpa [Ty.fld] using h2, by rw [e, h3]; simp, ?_, h5⟩
      rw [List.length_append, h4, Rd_length r1]
  | _ => intro x cs f u y r h; cases f <;> simp [Ty.proj] at h

theorem fields_at {P : Program} : ∀ {ty : Ty} {off : Nat} {fs : List Field} {f o : Nat} {u : Ty}, fieldsEq P ty off fs → ty.offs f = some o → ty.fld f = some u →
    ∃ fd, fs[f]? = some fd ∧ fd.offset = off + o ∧ (P.info? fd.type).map (·.size) = some u.cells ∧ (P.underlying fd.type).map (·.isRow) = some u.isRow := by
  intro ty
  induction ty with
  | pair a b _ ihb =>
    intro off fs f o u h ho hu
    cases fs with
    | nil => exact h.elim
    | cons fd fs =>
      obtain ⟨h1, h2, h3, h4⟩ := h
      cases f with
      | zero =>
        simp only [Ty.offs, Option.some.injEq] at ho
        simp only [Ty.fld, Option.some.injEq] at hu
        subst ho
        subst hu
        exact ⟨fd, rfl, by omega, h2, h3⟩
      | succ f =>
        simp only [Ty.offs, Option.map_eq_some_iff] at ho
        obtain ⟨o', ho', rfl⟩ := ho
        obtain ⟨fd', k1, k2, k3, k4⟩ := ihb h4 ho' hu
        exact ⟨fd', by simpa using k1, by omega, k3, k4⟩
  | _ => intro off fs f o u h ho hu; cases f <;> simp [Ty.offs] at ho

theorem elems_at {P : Program} {e : TypeId} : ∀ {ty : Ty} {n f o : Nat} {u : Ty}, elemsEq P e ty n → ty.offs f = some o → ty.fld f = some u →
    f < n ∧ (P.info? e).map (·.size) = some u.cells ∧ (P.underlying e).map (·.isRow) = some u.isRow ∧ o = f * u.cells := by
  intro ty
  induction ty with
  | pair a b _ ihb =>
    intro n f o u h ho hu
    cases n with
    | zero => exact h.elim
    | succ n =>
      obtain ⟨h2, h3, h4⟩ := h
      cases f with
      | zero =>
        simp only [Ty.offs, Option.some.injEq] at ho
        simp only [Ty.fld, Option.some.injEq] at hu
        subst ho
        subst hu
        exact ⟨by omega, h2, h3, by simp⟩
      | succ f =>
        simp only [Ty.offs, Option.map_eq_some_iff] at ho
        obtain ⟨o', ho', rfl⟩ := ho
        obtain ⟨k1, k2, k3, k4⟩ := ihb h4 ho' hu
        rw [h2] at k2
        have hc : a.cells = u.cells := Option.some.inj k2
        exact ⟨by omega, by rw [h2, hc], k3, by rw [k4, hc, Nat.succ_mul]; omega⟩
  | _ => intro n f o u h ho hu; cases f <;> simp [Ty.offs] at ho

/-- The cells of a part, by value. -/
theorem run_part {t : TypeId} {u : Ty} (hi : (P.info? t).map (·.size) = some u.cells) (hr : (P.underlying t).map (·.isRow) = some u.isRow) {y : u.den} {c1 c2 c3 : List Value} (h : Rd g w u y c2) :
    ∃ v, (part t (c1 ++ c2 ++ c3).toArray c1.length).run P w = .ok v w ∧ RdV g w u y v := by
  obtain ⟨i, hi, hsz⟩ := Option.map_eq_some_iff.1 hi
  obtain ⟨d, hd, hrow⟩ := Option.map_eq_some_iff.1 hr
  have hl := Rd_length h
  by_cases hu : u.isRow = true
  · refine ⟨.agg c2.toArray, ?_, .inl ⟨hu, c2, rfl, h⟩⟩
    have hagg : (isAgg t).run P w = .ok true w := by
      unfold isAgg
      rw [Sem.run_bind, run_underlying hd w]
      rw [hu] at hrow
      cases d <;> simp_all [TypeDesc.isRow]
    simp only [part, Sem.run_bind, hagg, Result.andThen_ok, if_true, sizeOf, typeInfo, run_program, hi, hsz, Sem.run_pure]
    congr 2
    apply Array.toList_inj.1
    simp [← hl]
  · have hu' : u.isRow = false := by simpa using hu
    have h1 : u.cells = 1 := by cases u <;> first | rfl | (simp [Ty.isRow] at hu')
    obtain ⟨v, rfl⟩ : ∃ v, c2 = [v] := by
      rw [h1] at hl
      exact List.length_eq_one_iff.1 hl
    refine ⟨v, ?_, .inr ⟨hu', h⟩⟩
    have hagg : (isAgg t).run P w = .ok false w := by
      unfold isAgg
      rw [Sem.run_bind, run_underlying hd w]
      rw [hu'] at hrow
      cases d <;> simp_all [TypeDesc.isRow]
    simp only [part, Sem.run_bind, hagg, Result.andThen_ok]
    simp

theorem row_und {t : TypeId} {ti : TI} (h : tyEq P t ti) (hr : ti.ty.isRow = true) :
    (ti.arr = false ∧ ∃ fs, P.underlying t = some (.struct fs) ∧ fieldsEq P ti.ty 0 fs.toList) ∨ (ti.arr = true ∧ ∃ n e, P.underlying t = some (.array n e) ∧ elemsEq P e ti.ty n ∧ (P.info? e).isSome = true) := by
  have h2 := h.2
  unfold descEq at h2
  obtain ⟨ty, el, by', ar⟩ := ti
  cases ty <;> simp only [Ty.isRow, Bool.false_eq_true] at hr <;> exact h2.1

theorem struct_und {t : TypeId} {ti : TI} (h : tyEq P t ti) (hr : ti.ty.isRow = true) (ha : ti.arr = false) : ∃ fs, P.underlying t = some (.struct fs) ∧ fieldsEq P ti.ty 0 fs.toList := by
  rcases row_und h hr with ⟨_, h⟩ | ⟨h, _⟩
  · exact h
  · rw [ha] at h; cases h

theorem array_und {t : TypeId} {ti : TI} (h : tyEq P t ti) (hr : ti.ty.isRow = true) (ha : ti.arr = true) : ∃ n e, P.underlying t = some (.array n e) ∧ elemsEq P e ti.ty n ∧ (P.info? e).isSome = true := by
  rcases row_und h hr with ⟨h, _⟩ | ⟨_, h⟩
  · rw [ha] at h; cases h
  · exact h

theorem proj_row {t : Ty} {x : t.den} {f : Nat} {q : Σ u : Ty, u.den} (h : t.proj x f = some q) : t.isRow = true := by
  cases t <;> first | rfl | (cases f <;> simp [Ty.proj] at h)

theorem offs_row {t : Ty} {f o : Nat} (h : t.offs f = some o) : t.isRow = true := by
  cases t <;> first | rfl | (cases f <;> simp [Ty.offs] at h)

end

end Go.Proofs.Ytfcibaiiobihnaa.Vc
