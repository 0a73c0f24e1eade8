/- A FUNCTION's RESULTS, out of slots and out of variables. -/
import Derived.Test.YtfcibaiiobihnaaVcX
namespace Go.Proofs.Ytfcibaiiobihnaa.Vc
open Go.RowKit
set_option linter.unusedSectionVars false

attribute [go_sem] Option.map_some Option.map_none
@[go_sem] theorem passArgs_nilapp {H : List (Nat × Blk)} {ps : List PK} {b : List Slot} {a : Option Pass} : passArgs H ps ([] ++ b) a = passArgs H ps b a := rfl
@[go_sem] theorem passArgs_consapp {H : List (Nat × Blk)} {ps : List PK} {x : Slot} {l b : List Slot} {a : Option Pass} : passArgs H ps ((x :: l) ++ b) a = passArgs H ps (x :: (l ++ b)) a := rfl

@[go_sem] def consR : Option Slot → Option (List Slot) → Option (List Slot)
  | some s, some l => some (s :: l)
  | _, _ => none

@[go_sem] def effSlot : Option Eff → Option Slot
  | some e => some e.slot
  | none => none

@[go_sem] def loadRef (H : List (Nat × Blk)) : Option TI → Slot → Option Eff
  | some ti, (.val .ref (some (i, off)), _) => loadB ti.ty i off (getH H i)
  | _, _ => none

/-- One result. -/
@[go_sem] def resOne (T : Types) (s : St) (m : List (Nat × Nat)) : Nat × Option TypeId → Option Slot
  | (t, none) => some (renSlot m (lk s.env t))
  | (t, some ty) => (effSlot (loadRef s.H (tyOf T ty) (lk s.env t))).map (renSlot m)

@[go_sem] def resL (T : Types) (s : St) (m : List (Nat × Nat)) : List (Nat × Option TypeId) → Option (List Slot)
  | [] => some []
  | q :: r => consR (resOne T s m q) (resL T s m r)

def rvOf : Nat × Option TypeId → ResultVar
  | (t, none) => .tmp t
  | (t, some ty) => .cell t ty

/-- How a function must end. -/
def FinR (T : Types) (ts : List (Nat × Option TypeId)) (r : Ret) : Ex → St → Prop
  | .exit _, _ => False
  | _, s => ∃ m : List (Nat × Nat), keepOk s.np m = true ∧ (s.keep ⟨[], m⟩).H = enumH 0 r.H ∧ resL T s m ts = some r.ret

section
variable {P : Program} {o : Oper} {a : Act} {g : Gh} {w : World} {H : Heap} {T : Types} (hT : TypesOk P T) (hH : HeapOk g w H)
include hT hH

theorem loadE_val {t : TypeId} {vx : Value} {sx : Slot} (hx : RdS g w sx vx) {e : Eff} (hr : loadRef H (tyOf T t) sx = some e) : ∃ ad v, vx = .pointer (some ad) ∧ (loadVar t ad).run P w = .ok v w ∧ RdS g w e.slot v := by
  generalize hs : tyOf T t = ot at hr
  replace hx := hx.1
  unfold loadRef at hr
  split at hr
  · rename_i ti i off k
    have hty := tyOf_ok hT hs
    generalize hb : getH H i = ob at hr
    unfold loadB at hr
    split at hr
    · rename_i u z toks
      generalize hga : getAt ti.ty u z off = oy at hr
      cases oy with
      | none => cases hr
      | some y =>
        cases hr
        obtain ⟨p, hp, hv⟩ := RdV_ref hx
        obtain ⟨p', cs, hp', hR, hra, _, _, htk⟩ := hH.blk i _ hb
        rw [hp] at hp'
        obtain rfl := Option.some.inj hp'
        obtain ⟨c1, c2, c3, rfl, rfl, hR2⟩ := getAt_Rd hR hga
        obtain ⟨v, h1, h2, h3⟩ := run_loadAt hT hH hty (rangeAt_mid hT hH hra) hR2
        refine ⟨_, v, hv, by simpa [Instr.loadAt, Instr.sureAddr] using h1, h2, ?_⟩
        obtain ⟨ty, el, by', ar⟩ := ti
        cases ty with
        | list u' =>
          simp only [tokFor]
          generalize htt : tokAt toks c1.length = ok
          cases ok with
          | none => trivial
          | some k =>
            obtain ⟨u2, l, v', g1, g2, g3⟩ := htk _ _ (tokAt_mem hT hH htt)
            obtain ⟨heq, hl⟩ := getAt_list hT hH g1 hga rfl
            injection heq with heq'
            subst heq'
            have hlen := Rd_length hR2
            obtain ⟨v2, rfl⟩ := List.length_eq_one_iff.1 hlen
            have e2 : v' = v2 := by
              have e : (c1 ++ [v2] ++ c3)[c1.length]? = some v2 := by simp
              rw [e] at g2
              exact (Option.some.inj g2).symm
            have e3 : v = v2 := by
              have h4 := RdV_one rfl h2
              have hone := Rd_one h4 v (by simp)
              have : v.cells = #[v] := by cases v <;> first | rfl | (simp [Value.oneCell'] at hone)
              rw [this] at h3
              simpa using h3
            subst e2
            subst e3
            have e4 : (y : List u'.den) = l := hl
            subst e4
            exact g3
        | _ => trivial
    · cases hr
  · cases hr


end

def rvRun (tmps : Array Value) (q : Nat × Option TypeId) : Sem Value := match rvOf q with
  | .tmp t => pure (tmps.getD t undef)
  | .cell a t => do loadVar t (← asAddr (tmps.getD a undef))

theorem resL_ok {P : Program} {T : Types} (hT : TypesOk P T) {g : Gh} {w : World} {s : St} {a : Act} {m : List (Nat × Nat)} (hk : keepOk s.np m = true) (hr : Rel g w s a) : ∀ {ts : List (Nat × Option TypeId)} {l : List Slot}, resL T s m ts = some l →
    ∃ vs : List Value, (ts.mapM (rvRun a.tmps)).run P w = .ok vs w ∧ ArgsOk (keepGh g s.np m) w l vs
  | [], l, h => by
    simp only [resL, Option.some.injEq] at h
    subst h
    exact ⟨[], by simp, rfl⟩
  | q :: ts, l, h => by
    simp only [resL] at h
    obtain ⟨s1, l1, e1, e2, rfl⟩ : ∃ s1 l1, resOne T s m q = some s1 ∧ resL T s m ts = some l1 ∧ l = s1 :: l1 := by
      cases h1 : resOne T s m q <;> cases h2 : resL T s m ts <;> rw [h1, h2] at h <;> simp [consR] at h
      exact ⟨_, _, rfl, rfl, h.symm⟩
    obtain ⟨vs, v1, v2⟩ := resL_ok hT hk hr e2
    obtain ⟨v, w1, w2⟩ : ∃ v, (rvRun a.tmps q).run P w = .ok v w ∧ RdS (keepGh g s.np m) w s1 v := by
      obtain ⟨t, oty⟩ := q
      cases oty with
      | none =>
        simp only [resOne, Option.some.injEq] at e1
        subst e1
        exact ⟨_, by simp [rvRun, rvOf], keep_slot hk (hr.env t)⟩
      | some ty =>
        simp only [resOne] at e1
        cases he : loadRef s.H (tyOf T ty) (lk s.env t) with
        | none => rw [he] at e1; cases e1
        | some e =>
          rw [he] at e1
          simp only [effSlot, Option.map_some, Option.some.injEq] at e1
          subst e1
          obtain ⟨ad, v, hv, hl, hs⟩ := loadE_val hT hr.heap (hr.env t) he
          exact ⟨v, by simp only [rvRun, rvOf, hv, asAddr, Sem.run_bind, Sem.run_pure, Result.andThen_ok, hl], keep_slot hk hs⟩
    exact ⟨v :: vs, by simp only [List.mapM_cons, Sem.run_bind, w1, Result.andThen_ok, v1, Sem.run_pure], v, vs, rfl, w2, v2⟩

def rvGet (tmps : Array Value) : ResultVar → Sem Value
  | .tmp t => pure (tmps.getD t undef)
  | .cell a t => do loadVar t (← asAddr (tmps.getD a undef))

theorem results_run {P : Program} {fn : Func} {w : World} {tmps : Array Value} {ts : List (Nat × Option TypeId)} (h : fn.results.toList = ts.map rvOf) {vs : List Value} (hv : (ts.mapM (rvRun tmps)).run P w = .ok vs w) : (results fn tmps).run P w = .ok (resVal vs) w := by
  obtain ⟨rs, hrs⟩ : ∃ rs, fn.results = ⟨rs⟩ := ⟨fn.results.toList, rfl⟩
  have hm : rs = ts.map rvOf := by rw [hrs] at h; exact h
  have key : Sem.run P (((ts.map rvOf).toArray).mapM (rvGet tmps)) w = Result.ok vs.toArray w := by
    rw [List.mapM_toArray, List.mapM_map]
    have e : rvGet tmps ∘ rvOf = rvRun tmps := by
      funext q
      obtain ⟨t, o⟩ := q
      cases o <;> rfl
    have e2 : (fun q => rvGet tmps (rvOf q)) = rvRun tmps := e
    show Sem.run P (List.mapM (fun q => rvGet tmps (rvOf q)) ts >>= fun l => pure l.toArray) w = _
    rw [e2, Sem.run_bind, hv]
    rfl
  have hu : results fn tmps = (fn.results.mapM (rvGet tmps) >>= fun vs => pure (if h : vs.size = 1 then vs[0] else .tuple vs)) := by
    unfold results
    congr 2
  rw [hu, hrs, hm, Sem.run_bind]
  have key2 : Sem.run P (Array.mapM (rvGet tmps) (⟨ts.map rvOf⟩ : Array ResultVar)) w = Result.ok vs.toArray w := key
  rw [key2]
  simp only [Result.andThen_ok, Sem.run_pure]
  match vs with
  | [] => rfl
  | [v] => rfl
  | v :: u :: l => simp [resVal]

theorem con_okR {P : Program} {T : Types} (hT : TypesOk P T) {f : FuncId} {fn : Func} {c : Code} {C : List Slot → List Blk → Option Ret} {ts : List (Nat × Option TypeId)} (hf : P.funcs[f]? = some fn) (hb : fn.body = some c) {N : Nat} (hN : fn.ntmps = N)
    (hcall : ∀ args w, (callFunc f args).run P w = .ok (.enter f args) w) (hres : fn.results.toList = ts.map rvOf)
    (h : ∀ args L r, C args L = some r → (∀ p ∈ r.side, p) → args.length ≤ N ∧ slotsIn (idmL 0 L) args ∧ blksIn (idmL 0 L) L ∧ Ev P c ⟨enumE 0 args, enumH 0 L, lenB L, N, lenB L⟩ (FinR T ts r)) : ConOk P f C := by
  subst hN
  refine ⟨hcall, fun g w args vals L r hH ha hC hs => ?_⟩
  obtain ⟨h1, h2, h3, h4⟩ := h args L r hC hs
  obtain ⟨hr, hent⟩ := entry_ok hH ha h2 h3 h1
  have hsub : ∀ b o, ownsAny (keepGh g 0 (idmL 0 L)) (enumH 0 L) b o → ownsAny g (enumH 0 L) b o := fun b o ⟨i, blk, hg, ho⟩ => ⟨i, blk, hg, (hent i blk (by rw [← getH_enum0]; exact hg)).2.2 b o ho⟩
  have hgood : Good (ownsAny (keepGh g 0 (idmL 0 L)) (enumH 0 L)) L (keepGh g 0 (idmL 0 L)) w (keepGh g 0 (idmL 0 L)) w (enumH 0 L) := by
    refine ⟨fun b o h => ⟨h, rfl⟩, Fr.refl _ _ _, fun i blk b o hg ho => .inr ⟨i, blk, hg, ho⟩, fun _ _ _ h => h, fun i hi => ?_, fun i u y us _ hg => ⟨y, us, by rw [← getH_enum0]; exact hg⟩⟩
    have hL : L[i]? = some L[i] := by simp
    obtain ⟨_, hbk, _⟩ := hent i L[i] hL
    have hnd := (blksIn_mem h3 L[i] (List.getElem_mem hi)).2
    generalize L[i] = blk at hbk hnd
    cases blk with
    | cells t x ts => obtain ⟨p, cs, hp, _⟩ := hbk; exact .inl ⟨p, hp⟩
    | grow e c n => obtain ⟨v, xs, hv, _⟩ := hbk; exact .inr ⟨n, v, hv⟩
    | row e t l n => obtain ⟨_, v, xs, hv, _⟩ := hbk; exact .inr ⟨n, v, hv⟩
    | dead => exact absurd rfl hnd
  refine calls_of_wp hf hb (wp_mono (h4 _ _ _ _ _ _ _ hr hgood (lenB_len L)) fun x a' w' hp => ?_)
  obtain ⟨e, g', s', e1, e2, e3, e4, e5⟩ := hp
  have fin : ∀ m : List (Nat × Nat), keepOk s'.np m = true → (s'.keep ⟨[], m⟩).H = enumH 0 r.H → resL T s' m ts = some r.ret → a'.defers = [] ∧ ∃ v, (results fn a'.tmps).run P w' = .ok v w' ∧ ∃ v' g', Ending.returned v = .returned v' ∧ RetOk g w L r g' w' v' := by
    intro m hk k1 k2
    obtain ⟨l1, l2, l3, _⟩ := keep_okT e3 e4 e5 ⟨[], m⟩ hk
    rw [k1] at l2
    obtain ⟨vs, q1, q2⟩ := resL_ok hT hk e3 k2
    have q3 := results_run (P := P) (w := w') (tmps := a'.tmps) hres q1
    refine ⟨e3.def_, _, q3, _, _, rfl, ⟨fun b o hb => l2.shut b o hb, by rw [← k1]; exact l1.heap, ?_, ?_, fun i blk b o hi ho => ?_, fun i t x us hi => ?_, fun i t x us u y vs hi hr => ?_⟩⟩
    · unfold RetVals
      split
      · rename_i s hs
        rw [hs] at q2
        obtain ⟨v, vs', hv, h5, h6⟩ := q2
        rw [hv, show vs' = [] from h6]
        exact h5
      · rename_i hne
        refine ⟨_, ?_, q2⟩
        unfold resVal
        split
        · rename_i v hv
          exfalso
          have := (ArgsOk_get q2).1
          cases hq : r.ret with
          | nil => rw [hq] at this; simp at this
          | cons s l => cases l with
            | nil => exact hne s hq
            | cons _ _ => rw [hq] at this; simp at this
        · rfl
    · exact ⟨l2.fr.os, l2.fr.tape, l2.fr.output, l2.fr.size, fun b hb hA => l2.fr.blk b hb (fun o ho => hA o (hsub b o ho)), fun b o hb hA => l2.fr.cell b o hb (fun ho => hA (hsub b o ho)), fun b o hS => (l2.fr.new b o hS).imp id (Or.imp id (hsub b o))⟩
    · exact (l2.perm i blk b o (by rw [getH_enum0]; exact hi) ho).imp id (hsub b o)
    · obtain ⟨j1, ⟨p, cs, j2, _⟩, _⟩ := hent i _ hi
      have hil : i < L.length := (List.getElem?_eq_some_iff.1 hi).1
      rw [l2.J i p hil j2, ← j1, j2]
    · have hil : i < L.length := (List.getElem?_eq_some_iff.1 hi).1
      obtain ⟨x', ts', h5⟩ := l2.ty i u y vs hil (by rw [getH_enum0]; exact hr)
      rw [hi] at h5
      simp only [Option.some.injEq, Blk.cells.injEq] at h5
      exact h5.1.symm
  cases x <;> simp only [exOf, Option.some.injEq] at e1
  case normal => subst e1; obtain ⟨k, k0, k1, k2⟩ := e2; exact fin k k0 k1 k2
  case ret => subst e1; obtain ⟨k, k0, k1, k2⟩ := e2; exact fin k k0 k1 k2
  case exit id => subst e1; exact e2.elim
  all_goals cases e1


end Go.Proofs.Ytfcibaiiobihnaa.Vc
