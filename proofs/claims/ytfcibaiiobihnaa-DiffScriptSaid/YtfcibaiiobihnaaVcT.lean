/- COMPARISONS of structs, arrays, bools; of slices with nil. -/
import Derived.Test.YtfcibaiiobihnaaVcO
import Derived.Laws.StructEq
import Derived.ChangeKeysEq
import Derived.WalkSpells
namespace Go.Proofs.Ytfcibaiiobihnaa.Vc
open Go.RowKit
set_option linter.unusedSectionVars false

section
variable {P : Program} {g : Gh} {w : World}

def EqRun (P : Program) (g : Gh) (w : World) (d : Nat) (ty : Ty) (x y : ty.den) : EqIx → Prop
  | .ty t => ∀ vx vy, RdV g w ty x vx → RdV g w ty y vy → ∃ b, eqDen ty x y = some b ∧ (Op.equalIn (d + 1) t vx vy).run P w = .ok b w
  | .fs o l => ∀ px py cx cy, px.length = o → py.length = o → Rd g w ty x cx → Rd g w ty y cy → ∃ b, eqDen ty x y = some b ∧ (Op.eqFields (d + 1) (px ++ cx).toArray (py ++ cy).toArray l).run P w = .ok b w
  | .el e i m => ∀ px py cx cy, px.length = i * P.cellsOf e → py.length = i * P.cellsOf e → Rd g w ty x cx → Rd g w ty y cy → ∃ b, eqDen ty x y = some b ∧ (Op.eqItems (d + 1) e (P.cellsOf e) (px ++ cx).toArray (py ++ cy).toArray (List.range' i m)).run P w = .ok b w

theorem cellsOf_eq {e : TypeId} {n : Nat} (h : (P.info? e).map (·.size) = some n) : P.cellsOf e = n := by
  obtain ⟨i, h1, h2⟩ := Option.map_eq_some_iff.1 h
  simp [Program.cellsOf, h1, h2]

theorem EqT.run {n : Nat} {ix : EqIx} {ty : Ty} (h : EqT P n ix ty) : ∀ (d : Nat), n ≤ d → ∀ x y : ty.den, EqRun P g w d ty x y ix := by
  induction h with
  | bool hu =>
    intro d _ x y vx vy hx hy
    obtain rfl := RdV_bool hx
    obtain rfl := RdV_bool hy
    exact ⟨_, rfl, run_equalIn_bool' w d _ _ _ hu⟩
  | int hu =>
    intro d _ x y vx vy hx hy
    obtain rfl := RdV_int hx
    obtain rfl := RdV_int hy
    refine ⟨_, rfl, (run_equalIn_int w d _ _ _ _ _ hu).trans ?_⟩
    congr 1
  | str hu =>
    intro d _ x y vx vy hx hy
    obtain rfl := RdV_str hx
    obtain rfl := RdV_str hy
    refine ⟨_, rfl, (run_equalIn_string w d _ _ _ hu).trans ?_⟩
    congr 1
    rw [ByteArray.toList_eq, ByteArray.toList_eq]
    exact beqL _ _
  | @struct h0 t0 fs0 ty0 hr hu hs _ ih =>
    intro d hd x y vx vy hx hy
    obtain ⟨cx, rfl, rx⟩ := RdV_row hr hx
    obtain ⟨cy, rfl, ry⟩ := RdV_row hr hy
    obtain ⟨d, rfl⟩ : ∃ d', d = d' + 1 := ⟨d - 1, by omega⟩
    obtain ⟨b, h1, h2⟩ := ih d (by omega) x y [] [] cx cy rfl rfl rx ry
    refine ⟨b, h1, ?_⟩
    have hf : P.fieldsOf t0 = fs0 := by unfold Program.fieldsOf; rw [hu]
    rw [run_equalIn_struct w _ _ _ _ (by rw [hf]; exact hu) hs, hf]
    simpa using h2
  | arr hr hu hi _ ih =>
    intro d hd x y vx vy hx hy
    obtain ⟨cx, rfl, rx⟩ := RdV_row hr hx
    obtain ⟨cy, rfl, ry⟩ := RdV_row hr hy
    obtain ⟨d, rfl⟩ : ∃ d', d = d' + 1 := ⟨d - 1, by omega⟩
    obtain ⟨b, h1, h2⟩ := ih d (by omega) x y [] [] cx cy (by simp) (by simp) rx ry
    refine ⟨b, h1, ?_⟩
    obtain ⟨i, hi⟩ := Option.isSome_iff_exists.1 hi
    rw [run_equalIn_array w _ _ _ hu hi, List.range_eq_range']
    simpa using h2
  | nil =>
    intro d _ x y px py cx cy _ _ _ _
    exact ⟨true, rfl, by simp [Op.eqFields]⟩
  | anil =>
    intro d _ x y px py cx cy _ _ _ _
    exact ⟨true, rfl, by simp [Op.eqItems]⟩
  | @cons h o f r a b hn ho hsz hrow _ _ iha ihb =>
    intro d hd x y px py cx cy hpx hpy ⟨x1, x2, ex, rx1, rx2⟩ ⟨y1, y2, ey, ry1, ry2⟩
    subst ex
    subst ey
    obtain ⟨vx, p1, v1⟩ := run_part (P := P) (c1 := px) (c3 := x2) hsz hrow rx1
    obtain ⟨vy, p2, v2⟩ := run_part (P := P) (c1 := py) (c3 := y2) hsz hrow ry1
    obtain ⟨b1, e1, r1⟩ := iha d hd x.1 y.1 vx vy v1 v2
    obtain ⟨b2, e2, r2⟩ := ihb d hd x.2 y.2 (px ++ x1) (py ++ y1) x2 y2 (by rw [List.length_append, hpx, Rd_length rx1]) (by rw [List.length_append, hpy, Rd_length ry1]) rx2 ry2
    refine ⟨b1 && b2, by simp only [eqDen, e1, e2, eqDen.eqAnd], ?_⟩
    rw [List.append_assoc] at p1 p2 r2
    rw [List.append_assoc] at r2
    rw [hpx, ← ho] at p1
    rw [hpy, ← ho] at p2
    simp only [Op.eqFields, if_pos hn, Sem.run_bind, p1, p2, Result.andThen_ok, r1]
    cases b1
    · simp
    · simpa using r2
  | @acons h e i m a b hsz hrow _ _ iha ihb =>
    intro d hd x y px py cx cy hpx hpy ⟨x1, x2, ex, rx1, rx2⟩ ⟨y1, y2, ey, ry1, ry2⟩
    subst ex
    subst ey
    have hc := cellsOf_eq hsz
    obtain ⟨vx, p1, v1⟩ := run_part (P := P) (c1 := px) (c3 := x2) hsz hrow rx1
    obtain ⟨vy, p2, v2⟩ := run_part (P := P) (c1 := py) (c3 := y2) hsz hrow ry1
    obtain ⟨b1, e1, r1⟩ := iha d hd x.1 y.1 vx vy v1 v2
    obtain ⟨b2, e2, r2⟩ := ihb d hd x.2 y.2 (px ++ x1) (py ++ y1) x2 y2 (by rw [List.length_append, hpx, Rd_length rx1, hc, Nat.succ_mul]) (by rw [List.length_append, hpy, Rd_length ry1, hc, Nat.succ_mul]) rx2 ry2
    refine ⟨b1 && b2, by simp only [eqDen, e1, e2, eqDen.eqAnd], ?_⟩
    rw [List.append_assoc] at p1 p2 r2
    rw [List.append_assoc] at r2
    rw [hpx] at p1
    rw [hpy] at p2
    simp only [List.range'_succ, Op.eqItems, Sem.run_bind, p1, p2, Result.andThen_ok, r1]
    cases b1
    · simp
    · simpa using r2

variable {o : Oper} {a : Act} {H : Heap} {T : Types} (hT : TypesOk P T) (hH : HeapOk g w H)
include hT hH

theorem binRow_run {op : BinOp} {xt yt : TypeId} {x y : Operand} (ho : o.op = .binOp op xt x y yt) {sx sy : Slot} (hx : RdS g w sx (a.eval x)) (hy : RdS g w sy (a.eval y)) {e : Eff}
    (hr : optE (binRow (tyOf T xt) op sx sy) = some e) : OpOk P o a g w H e := by
  obtain ⟨q, hq, rfl⟩ := optE_some hr
  have go : ∀ {u v : Value}, a.eval x = u → a.eval y = v → (∃ z, (do eqGuard op xt x y u v; Go.binOp op xt u v : Sem Value).run P w = .ok z w ∧ RdD g w q.2 z) → OpOk P o a g w H ⟨q.1, (q.2, none), [], []⟩ := by
    rintro u v rfl rfl ⟨z, hz, hd⟩
    refine OpOk.pure hH (v := z) ?_ hd
    unfold execOp
    rw [ho]
    simp only [Sem.run_bind, Sem.run_pure] at hz ⊢
    rw [hz]
    rfl
  replace hx := hx.1
  replace hy := hy.1
  generalize hti : tyOf T xt = oti at hq
  unfold binRow at hq
  split at hq
  · rename_i u el by' ar t l k k'
    have hd := (tyOf_ok hT hti).2
    simp only [descEq] at hd
    obtain ⟨ax, cx, ex, hle, hll⟩ := RdV_list hx
    have hnil : ax = none → l = [] := fun h => by
      rcases hll with h1 | ⟨b, o, h1, _⟩
      · exact h1
      · rw [h] at h1; cases h1
    have ey : a.eval y = .slice none 0 0 := hy
    refine go ex ey ?_
    unfold binFlag at hq
    split at hq
    · cases hq
      have h1 : (do eqGuard .eql xt x y (.slice ax (List.length l) cx) (.slice none 0 0); Go.binOp .eql xt (.slice ax (List.length l) cx) (.slice none 0 0) : Sem Value).run P w = .ok (.bool ax.isNone) w := by
        simp only [Sem.run_bind]
        rw [show (eqGuard .eql xt x y (.slice ax (List.length l) cx) (.slice none 0 0)).run P w = .ok () w from by simp [eqGuard]]
        exact Lib.run_eql_slice_nil (P := P) w xt _ ax (List.length l) cx 0 0 hd.1
      exact ⟨_, h1, _, rfl, fun h => hnil (by simpa using h), fun _ => trivial⟩
    · cases hq
      have h1 : (do eqGuard .neq xt x y (.slice ax (List.length l) cx) (.slice none 0 0); Go.binOp .neq xt (.slice ax (List.length l) cx) (.slice none 0 0) : Sem Value).run P w = .ok (.bool (!ax.isNone)) w := by
        simp only [Sem.run_bind]
        rw [show (eqGuard .neq xt x y (.slice ax (List.length l) cx) (.slice none 0 0)).run P w = .ok () w from by simp [eqGuard]]
        exact run_neq_slice_nil_any (P := P) w xt _ ax (List.length l) cx 0 0 hd.1
      exact ⟨_, h1, _, rfl, fun _ => trivial, fun h => hnil (by simpa using h)⟩
    · cases hq
  · rename_i u el by' ar k t l k'
    have hd := (tyOf_ok hT hti).2
    simp only [descEq] at hd
    obtain ⟨ay, cy, ey, hle, hll⟩ := RdV_list hy
    have hnil : ay = none → l = [] := fun h => by
      rcases hll with h1 | ⟨b, o, h1, _⟩
      · exact h1
      · rw [h] at h1; cases h1
    have ex : a.eval x = .slice none 0 0 := hx
    refine go ex ey ?_
    unfold binFlag at hq
    split at hq
    · cases hq
      have h1 : (do eqGuard .eql xt x y (.slice none 0 0) (.slice ay (List.length l) cy); Go.binOp .eql xt (.slice none 0 0) (.slice ay (List.length l) cy) : Sem Value).run P w = .ok (.bool ay.isNone) w := by
        simp only [Sem.run_bind]
        rw [show (eqGuard .eql xt x y (.slice none 0 0) (.slice ay (List.length l) cy)).run P w = .ok () w from by simp [eqGuard]]
        exact run_eql_nil_slice (P := P) w xt _ ay (List.length l) cy 0 0 hd.1
      exact ⟨_, h1, _, rfl, fun h => hnil (by simpa using h), fun _ => trivial⟩
    · cases hq
      have h1 : (do eqGuard .neq xt x y (.slice none 0 0) (.slice ay (List.length l) cy); Go.binOp .neq xt (.slice none 0 0) (.slice ay (List.length l) cy) : Sem Value).run P w = .ok (.bool (!ay.isNone)) w := by
        simp only [Sem.run_bind]
        rw [show (eqGuard .neq xt x y (.slice none 0 0) (.slice ay (List.length l) cy)).run P w = .ok () w from by simp [eqGuard]]
        exact run_neq_nil_slice (P := P) w xt _ ay (List.length l) cy 0 0 hd.1
      exact ⟨_, h1, _, rfl, fun _ => trivial, fun h => hnil (by simpa using h)⟩
    · cases hq
  · rename_i u el b ar t x' k t' y' k'
    unfold binSame at hq
    split at hq
    · rename_i htt
      subst htt
      split at hq
      · rename_i hc
        obtain ⟨rfl, hc⟩ := hc
        simp only [castD] at hq
        obtain ⟨r, hr1, hr2⟩ : ∃ r, eqDen t' x' y' = some r ∧ ((op = .eql ∧ q = ([], .val .bool r)) ∨ (op = .neq ∧ q = ([], .val .bool (!r)))) := by
          generalize hgen : eqDen t' x' y' = od at hq
          unfold binEq at hq
          split at hq
          · rename_i r; cases hq; exact ⟨r, rfl, .inl ⟨rfl, rfl⟩⟩
          · rename_i r; cases hq; exact ⟨r, rfl, .inr ⟨rfl, rfl⟩⟩
          · cases hq
        have hti' := tyOf_ok hT hti
        rcases hc with rfl | ⟨hrow, rfl⟩
        · have hd := hti'.2
          simp only [descEq] at hd
          obtain hbx := RdV_bool hx
          obtain hby := RdV_bool hy
          refine go hbx hby ?_
          have hrr : r = (x' == y') := (Option.some.inj hr1).symm
          subst hrr
          have hrun := run_equalIn_bool' (P := P) w 9999 xt x' y' hd
          rcases hr2 with ⟨rfl, rfl⟩ | ⟨rfl, rfl⟩
          · refine ⟨.bool (x' == y'), ?_, mk_bool _ _ _⟩
            simp only [Sem.run_bind]
            rw [show (eqGuard .eql xt x y (.bool x') (.bool y')).run P w = .ok () w from by simp [eqGuard]]
            simp only [Result.andThen_ok, Go.binOp, Op.equal, Op.maxDepth, Sem.run_bind, hrun, Sem.run_pure]
          · refine ⟨.bool (!(x' == y')), ?_, mk_bool _ _ _⟩
            simp only [Sem.run_bind]
            rw [show (eqGuard .neq xt x y (.bool x') (.bool y')).run P w = .ok () w from by simp [eqGuard]]
            simp only [Result.andThen_ok, Go.binOp, Op.equal, Op.maxDepth, Sem.run_bind, hrun, Sem.run_pure]
        · have h2 := hti'.2
          have heq : P.eqGuardType P.depth xt = false ∧ ∃ h, h < 9000 ∧ EqT P h (.ty xt) t' := by
            unfold descEq at h2
            cases t' <;> simp only [Ty.isRow, Bool.false_eq_true] at hrow
            all_goals exact h2.2 rfl
          obtain ⟨hg1, hh, hlt, hE⟩ := heq
          obtain ⟨cx, ex, rx⟩ := RdV_row hrow hx
          obtain ⟨cy, ey, ry⟩ := RdV_row hrow hy
          obtain ⟨b', hb1, hb2⟩ := hE.run (g := g) (w := w) 9999 (by omega) x' y' _ _ hx hy
          rw [hr1] at hb1
          obtain rfl := Option.some.inj hb1
          rw [ex, ey] at hb2
          refine go ex ey ?_
          rcases hr2 with ⟨rfl, rfl⟩ | ⟨rfl, rfl⟩
          · refine ⟨.bool r, ?_, mk_bool _ _ _⟩
            simp only [Sem.run_bind]
            rw [run_eqGuard_agg w _ _ _ _ _ _ hg1]
            simp only [Result.andThen_ok]
            rw [run_eql_struct, hb2]
            rfl
          · refine ⟨.bool (!r), ?_, mk_bool _ _ _⟩
            simp only [Sem.run_bind]
            rw [run_eqGuard_agg w _ _ _ _ _ _ hg1]
            simp only [Result.andThen_ok]
            rw [run_neq_struct, hb2]
            rfl
      · cases hq
    · cases hq
  · cases hq

end

end Go.Proofs.Ytfcibaiiobihnaa.Vc
