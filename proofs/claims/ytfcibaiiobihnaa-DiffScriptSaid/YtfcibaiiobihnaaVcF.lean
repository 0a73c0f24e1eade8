/- LITERALS, lengths, slice expressions, loads. -/
import Derived.Test.YtfcibaiiobihnaaVcE
namespace Go.Proofs.Ytfcibaiiobihnaa.Vc
open Go.RowKit
set_option linter.unusedSectionVars false

theorem seg_fold (off : Nat) : ∀ (vl : List Value) (k : Nat) (cs : Array Value) (c1 c2 c3 : List Value), cs.toList = c1 ++ c2 ++ c3 → c1.length = off + k → c2.length = vl.length →
    ((vl.zipIdx k).foldl (fun (cs : Array Value) (p : Value × Nat) => cs.setIfInBounds (off + p.2) p.1) cs).toList = c1 ++ vl ++ c3
  | [], _, cs, c1, c2, c3, h, _, h2 => by
    have : c2 = [] := List.eq_nil_of_length_eq_zero (by simpa using h2)
    subst this
    simpa using h
  | v :: vl, k, cs, c1, c2, c3, h, h1, h2 => by
    cases c2 with
    | nil => simp at h2
    | cons u c2 =>
      simp only [List.zipIdx_cons, List.foldl_cons]
      have := seg_fold off vl (k + 1) (cs.setIfInBounds (off + k) v) (c1 ++ [v]) c2 c3 (by
        rw [Array.toList_setIfInBounds, h, ← h1]
        simp) (by simp; omega) (by simpa using h2)
      rw [this]
      simp

theorem seg_set (off : Nat) (vs cs : Array Value) (c1 c2 c3 : List Value) (h : cs.toList = c1 ++ c2 ++ c3) (h1 : c1.length = off) (h2 : c2.length = vs.size) :
    (vs.zipIdx.foldl (fun (cs : Array Value) (x : Value × Nat) => match x with | (c, j) => cs.setIfInBounds (off + j) c) cs).toList = c1 ++ vs.toList ++ c3 := by
  rw [← Array.foldl_toList, Array.toList_zipIdx]
  exact seg_fold off vs.toList 0 cs c1 c2 c3 h (by omega) (by simpa using h2)

theorem fill_step {place : Nat → Option (Nat × Nat)} {cells : Array Value} {i : Nat} {v : Value} {rest : List (Nat × Value)} {off size : Nat} {c1 c2 c3 : List Value} (hp : place i = some (off, size)) (hs : v.cells.size = size)
    (h : cells.toList = c1 ++ c2 ++ c3) (h1 : c1.length = off) (h2 : c2.length = size) :
    Instr.fill place cells ((i, v) :: rest) = Instr.fill place (c1 ++ v.cells.toList ++ c3).toArray rest := by
  have hsz : cells.size = c1.length + c2.length + c3.length := by rw [← Array.length_toList, h]; simp; omega
  simp only [Instr.fill, hp]
  rw [if_neg (by simp [hs]; omega)]
  congr 1
  apply Array.toList_inj.1
  rw [seg_set off v.cells cells c1 c2 c3 h h1 (by omega)]

theorem setPart_Rd {g : Gh} {w : World} {u : Ty} {y : u.den} {cy : List Value} (hy : Rd g w u y cy) : ∀ {t : Ty} {x z : t.den} {cs : List Value} {f : Nat}, Rd g w t x cs → Ty.setPart u y t x f = some z →
    ∃ o c1 c2 c3, t.offs f = some o ∧ t.fld f = some u ∧ cs = c1 ++ c2 ++ c3 ∧ c1.length = o ∧ c2.length = u.cells ∧ Rd g w t z (c1 ++ cy ++ c3) := by
  intro t
  induction t with
  | pair a b _ ihb =>
    intro x z cs f r h
    obtain ⟨c1, c2, e, r1, r2⟩ := r
    cases f with
    | zero =>
      simp only [Ty.setPart] at h
      split at h
      · rename_i hu
        subst hu
        simp only [castD, Option.some.injEq] at h
        subst h
        exact ⟨0, [], c1, c2, rfl, rfl, by simpa using e, rfl, Rd_length r1, ⟨cy, c2, by simp, hy, r2⟩⟩
      · cases h
    | succ f =>
      simp only [Ty.setPart, Option.map_eq_some_iff] at h
      obtain ⟨q, hq, rfl⟩ := h
      obtain ⟨o, d1, d2, d3, h1, h2, h3, h4, h5, h6⟩ := ihb r2 hq
      refine ⟨a.cells + o, c1 ++ d1, d2, d3, by simp [Ty.offs, h1], by simpa [Ty.fld] using h2, by rw [e, h3]; simp, ?_, h5, ⟨c1, d1 ++ cy ++ d3, by simp, r1, h6⟩⟩
      rw [List.length_append, h4, Rd_length r1]
  | _ => intro x z cs f r h; cases f <;> simp [Ty.setPart] at h

/-- The cells of a struct's or an array's literal. -/
theorem fill_parts {g : Gh} {w : World} {t : Ty} {ev : Operand → Value} {ρ : Operand → Slot} {place : Nat → Option (Nat × Nat)} (hp : ∀ f o u, t.offs f = some o → t.fld f = some u → place f = some (o, u.cells)) :
    ∀ (ps : List (Nat × Operand)) (x z : t.den) (cs : List Value), Rd g w t x cs → (∀ q ∈ ps, RdS g w (ρ q.2) (ev q.2)) → buildParts t (some x) (partSlots ρ ps) = some z →
    ∃ cs', Instr.fill place cs.toArray (ps.map fun q => (q.1, ev q.2)) = some cs'.toArray ∧ Rd g w t z cs'
  | [], x, z, cs, r, _, h => by
    simp only [partSlots, buildParts, Option.some.injEq] at h
    subst h
    exact ⟨cs, rfl, r⟩
  | (i, q) :: ps, x, z, cs, r, hq, h => by
    have h0 := hq (i, q) (by simp)
    have step : ∀ {u : Ty} {y : u.den} {z1 : t.den}, RdV g w u y (ev q) → Ty.setPart u y t x i = some z1 → buildParts t (some z1) (partSlots ρ ps) = some z →
        ∃ cs', Instr.fill place cs.toArray (((i, q) :: ps).map fun q => (q.1, ev q.2)) = some cs'.toArray ∧ Rd g w t z cs' := by
      intro u y z1 hv hset h
      obtain ⟨o, c1, c2, c3, h1, h2, rfl, h4, h5, h6⟩ := setPart_Rd (RdV_cells hv) r hset
      obtain ⟨cs', hf, hr⟩ := fill_parts hp ps z1 z _ h6 (fun q hq' => hq q (by simp [hq'])) h
      refine ⟨cs', ?_, hr⟩
      simp only [List.map_cons]
      rw [fill_step (hp i o u h1 h2) (by have := Rd_length (RdV_cells hv); simpa using this) (c1 := c1) (c2 := c2) (c3 := c3) (by simp) h4 h5]
      exact hf
    generalize hs : ρ q = s at h0
    simp only [partSlots, hs] at h
    obtain ⟨d, k⟩ := s
    cases d with
    | val u y =>
      simp only [buildParts] at h
      generalize hset : Ty.setPart u y t x i = o1 at h
      cases o1 with
      | none => cases ps with
        | nil => simp [partSlots, buildParts] at h
        | cons p ps => simp [partSlots, buildParts] at h
      | some z1 => exact step h0.1 hset h
    | nilS =>
      simp only [buildParts] at h
      generalize hfl : t.fld i = fl at h
      cases fl with
      | none => cases ps <;> simp [nilPart, partSlots, buildParts] at h
      | some u =>
        cases u with
        | list u =>
          simp only [nilPart] at h
          generalize hset : Ty.setPart (.list u) [] t x i = o1 at h
          cases o1 with
          | none => cases ps <;> simp [partSlots, buildParts] at h
          | some z1 =>
            refine step (u := .list u) (y := []) ?_ hset h
            have : ev q = .slice none 0 0 := h0.1
            rw [this]
            exact .inr ⟨rfl, none, 0, rfl, Nat.le_refl _, .inl rfl⟩
        | _ => cases ps <;> simp [nilPart, partSlots, buildParts] at h
    | _ => simp [buildParts] at h

section
variable {P : Program} {o : Oper} {a : Act} {g : Gh} {w : World} {H : Heap} {T : Types} (hT : TypesOk P T) (hH : HeapOk g w H)
include hT hH

theorem places_struct {P : Program} (w : World) : ∀ (fs : List Field), (∀ f ∈ fs, ∃ n, (P.info? f.type).map (·.size) = some n) →
    (fs.mapM (fun f => do pure (f.offset, ← sizeOf f.type) : Field → Sem (Nat × Nat))).run P w = .ok (fs.map fun f => (f.offset, ((P.info? f.type).map (·.size)).getD 0)) w
  | [], _ => rfl
  | f :: fs, h => by
    obtain ⟨n, hn⟩ := h f (by simp)
    obtain ⟨i, hi, hsz⟩ := Option.map_eq_some_iff.1 hn
    rw [List.mapM_cons]
    simp only [Sem.run_bind, sizeOf, typeInfo, run_program, hi, Result.andThen_ok, Sem.run_pure]
    have := places_struct w fs (fun f hf => h f (by simp [hf]))
    simp only [sizeOf, typeInfo, Sem.run_bind, run_program] at this
    rw [this]
    simp [hi]

theorem fieldsEq_info {P : Program} : ∀ {ty : Ty} {off : Nat} {fs : List Field}, fieldsEq P ty off fs → ∀ f ∈ fs, ∃ n, (P.info? f.type).map (·.size) = some n := by
  intro ty
  induction ty with
  | pair a b _ ihb =>
    intro off fs h f hf
    cases fs with
    | nil => cases hf
    | cons fd fs =>
      obtain ⟨_, h2, _, h4⟩ := h
      rcases List.mem_cons.1 hf with rfl | hf
      · exact ⟨_, h2⟩
      · exact ihb h4 f hf
  | unit => intro off fs h f hf; cases fs with | nil => cases hf | cons => exact h.elim
  | _ => intro off fs h f hf; cases fs <;> exact h.elim

theorem buildE_run {t : TypeId} {ps : Array (Nat × Operand)} (ho : o.op = .build t ps) {ρ : Operand → Slot} (hρ : ∀ q ∈ ps.toList, RdS g w (ρ q.2) (a.eval q.2)) {e : Eff} (hr : buildE (partSlots ρ ps.toList) (tyOf T t) = some e) : OpOk P o a g w H e := by
  generalize hs : tyOf T t = ot at hr
  cases ot with
  | none => cases hr
  | some ti =>
    have hty := tyOf_ok hT hs
    simp only [buildE] at hr
    by_cases hrow : ti.ty.isRow = true
    case neg => rw [if_neg hrow] at hr; cases hr
    rw [if_pos hrow] at hr
    generalize hb : buildParts ti.ty (some ti.ty.zero) (partSlots ρ ps.toList) = ox at hr
    cases ox with
    | none => cases hr
    | some x =>
      cases hr
      obtain ⟨i, hi, hsz, hz⟩ := info_some hty
      have hzv : zeroVal ti.ty = .agg (zeroCells ti.ty).toArray := by unfold zeroVal; rw [if_pos hrow]
      have hzr : ∀ w, (zeroValue t).run P w = .ok (.agg (zeroCells ti.ty).toArray) w := by
        intro w
        simp [zeroValue, typeInfo, hi, hz, hzv]
      have hmap : (ps.map fun (q : Nat × Operand) => (q.1, a.eval q.2)).toList = ps.toList.map fun q => (q.1, a.eval q.2) := by simp
      rcases row_und hty hrow with ⟨har, fs, hfs, hfe⟩ | ⟨har, n, el, hu, hel, hsome⟩
      · have hpl := places_struct (P := P) hT hH w fs.toList (fieldsEq_info hT hH hfe)
        obtain ⟨cs', hf, hR⟩ := fill_parts (g := g) (w := w) (ev := a.eval) (ρ := ρ) (t := ti.ty) (place := fun j => ((fs.map fun f => (f.offset, ((P.info? f.type).map (·.size)).getD 0))[j]?)) (fun f oo u h1 h2 => by
          obtain ⟨fd, k1, k2, k3, _⟩ := fields_at hfe h1 h2
          have k1' : fs[f]? = some fd := by simpa using k1
          simp [k1', k2, k3]) ps.toList ti.ty.zero x (zeroCells ti.ty) (zeroCells_Rd g w ti.ty) hρ hb
        refine OpOk.pure hH (v := .agg cs'.toArray) ?_ (.inl ⟨hrow, cs', rfl, hR⟩)
        have hmp : (fs.mapM (fun f => do pure (f.offset, ← sizeOf f.type) : Field → Sem (Nat × Nat))).run P w = .ok (fs.map fun f => (f.offset, ((P.info? f.type).map (·.size)).getD 0)) w := by
          rw [Array.mapM_eq_mapM_toList, Sem.run_map, hpl]
          simp only [Result.andThen_ok]
          congr 1
          apply Array.toList_inj.1
          simp
        simp only [execOp, ho, Instr.build, Sem.run_bind, hzr, Result.andThen_ok, run_underlying hfs, hmp, Value.cells]
        rw [hmap, hf]
        rfl
      · obtain ⟨cs', hf, hR⟩ := fill_parts (g := g) (w := w) (ev := a.eval) (ρ := ρ) (t := ti.ty) (place := fun j => some (j * ((P.info? el).map (·.size)).getD 0, ((P.info? el).map (·.size)).getD 0)) (fun f oo u h1 h2 => by
          obtain ⟨k1, k2, k3, k4⟩ := elems_at hel h1 h2
          simp [k2, k4]) ps.toList ti.ty.zero x (zeroCells ti.ty) (zeroCells_Rd g w ti.ty) hρ hb
        refine OpOk.pure hH (v := .agg cs'.toArray) ?_ (.inl ⟨hrow, cs', rfl, hR⟩)
        obtain ⟨ei, hei⟩ := Option.isSome_iff_exists.1 hsome
        simp only [hei, Option.map_some, Option.getD_some] at hf
        simp only [execOp, ho, Instr.build, Sem.run_bind, hzr, Result.andThen_ok, run_underlying hu, sizeOf, typeInfo, run_program, hei, Sem.run_pure, Value.cells]
        rw [hmap, hf]
        rfl

theorem opSlots_mem {ρ : Operand → Slot} {ev : Operand → Value} : ∀ {xs : List Operand} {ss : List Slot}, (∀ x ∈ xs, RdS g w (ρ x) (ev x)) → opSlots ρ xs = ss → ∃ vs, xs.map ev = vs ∧ vs.length = ss.length ∧ ∀ (i : Nat) (s : Slot) (v : Value), ss[i]? = some s → vs[i]? = some v → RdS g w s v
  | [], _, _, h => ⟨[], rfl, by rw [← h]; rfl, fun i s v _ hv => by simp at hv⟩
  | x :: xs, ss, hx, h => by
    subst h
    obtain ⟨vs, h1, h2, h3⟩ := opSlots_mem (fun y hy => hx y (by simp [hy])) rfl (xs := xs)
    refine ⟨ev x :: vs, by simp [h1], by simp [opSlots, h2], fun i s v hs hv => ?_⟩
    cases i with
    | zero =>
      simp only [opSlots, List.getElem?_cons_zero, Option.some.injEq] at hs hv
      subst hs
      subst hv
      exact hx x (by simp)
    | succ i =>
      simp only [opSlots, List.getElem?_cons_succ] at hs hv
      exact h3 i s v hs hv

theorem one_arg {ρ : Operand → Slot} {ev : Operand → Value} {args : Array Operand} {s : Slot} (hρ : ∀ x ∈ args.toList, RdS g w (ρ x) (ev x)) (h : opSlots ρ args.toList = [s]) : ∃ v, args.map ev = #[v] ∧ RdS g w s v := by
  obtain ⟨vs, h1, h2, h3⟩ := opSlots_mem hT hH hρ h
  obtain ⟨v, rfl⟩ := List.length_eq_one_iff.1 h2
  exact ⟨v, by apply Array.toList_inj.1; simpa using h1, h3 0 s v rfl rfl⟩

theorem two_args {ρ : Operand → Slot} {ev : Operand → Value} {args : Array Operand} {s t : Slot} (hρ : ∀ x ∈ args.toList, RdS g w (ρ x) (ev x)) (h : opSlots ρ args.toList = [s, t]) : ∃ v u, args.map ev = #[v, u] ∧ RdS g w s v ∧ RdS g w t u := by
  obtain ⟨vs, h1, h2, h3⟩ := opSlots_mem hT hH hρ h
  match vs, h2 with
  | [v, u], _ => exact ⟨v, u, by apply Array.toList_inj.1; simpa using h1, h3 0 s v rfl rfl, h3 1 t u rfl rfl⟩

theorem exec_builtin {b : Builtin} {args : Array Operand} {tys : Array TypeId} (ho : o.op = .call ⟨.builtin b, args, tys⟩) :
    ∃ cs, execOp a.eval o = builtin b tys o.type cs (args.map a.eval) := by
  refine ⟨args.map fun | .const _ => true | _ => false, ?_⟩
  unfold execOp
  rw [ho]
  rfl

theorem min_if (x y : Int) : (if y < x then y else x) = min x y := by rw [Int.min_def]; split <;> split <;> omega
theorem max_if (x y : Int) : (if y > x then y else x) = max x y := by rw [Int.max_def]; split <;> split <;> omega

theorem lenE_run {args : Array Operand} {tys : Array TypeId} (ho : o.op = .call ⟨.builtin .len, args, tys⟩) {ρ : Operand → Slot} (hρ : ∀ x ∈ args.toList, RdS g w (ρ x) (a.eval x)) {e : Eff}
    (hr : lenT T (opSlots ρ args.toList) tys.toList = some e) : OpOk P o a g w H e := by
  obtain ⟨t0, tr, htl⟩ : ∃ t0 tr, tys.toList = t0 :: tr := by cases h : tys.toList with | nil => (rw [h] at hr; cases hr) | cons t r => exact ⟨t, r, rfl⟩
  have ht0 : tys[0]? = some t0 := by rw [← Array.getElem?_toList, htl]; rfl
  rw [htl] at hr
  simp only [lenT] at hr
  generalize hst : tyOf T t0 = ot at hr
  generalize hss : opSlots ρ args.toList = ss at hr
  unfold lenE at hr
  split at hr
  · rename_i el by' ar l k
    cases hr
    obtain ⟨v, hv, hs⟩ := one_arg hT hH hρ hss
    have h2 := (tyOf_ok hT hst).2
    simp only [descEq] at h2
    have hv' := RdV_str hs.1
    refine OpOk.pure hH (v := .int .i64 (List.length l : Int)) ?_ (mk_int _ _ _ _)
    subst hv'
    obtain ⟨cs, hx⟩ := exec_builtin (a := a) hT hH ho
    rw [hx, hv]
    have harg : (#[Value.string ⟨List.toArray l⟩] : Array Value)[0]? = some (.string ⟨List.toArray l⟩) := rfl
    simp only [builtin, Builtin.len_, ht0, harg, Sem.run_bind, run_underlying h2, Result.andThen_ok, Sem.run_pure, goInt]
    rfl
  · rename_i u el by' ar t l k
    cases hr
    obtain ⟨v, hv, hs⟩ := one_arg hT hH hρ hss
    have h2 := (tyOf_ok hT hst).2.1
    obtain ⟨ad, cap, rfl, _⟩ := RdV_list hs.1
    refine OpOk.pure hH (v := .int .i64 (List.length l : Int)) ?_ (mk_int _ _ _ _)
    obtain ⟨cs, hx⟩ := exec_builtin (a := a) hT hH ho
    rw [hx, hv]
    have harg : (#[Value.slice ad (List.length l) cap] : Array Value)[0]? = some (.slice ad (List.length l) cap) := rfl
    simp only [builtin, Builtin.len_, ht0, harg, Sem.run_bind, run_underlying h2, Result.andThen_ok, Sem.run_pure, goInt]
  · rename_i u el by' ar ko n k
    cases hr
    obtain ⟨v, hv, hs⟩ := one_arg hT hH hρ hss
    have h2 := (tyOf_ok hT hst).2.1
    obtain ⟨ad, cap, rfl⟩ : ∃ ad cap, v = .slice ad n cap := by
      rcases hs.1.2 with ⟨h, rfl⟩ | ⟨b, cap, h, _⟩
      · exact ⟨_, _, h⟩
      · exact ⟨_, _, h⟩
    refine OpOk.pure hH (v := .int .i64 (n : Int)) ?_ (mk_int _ _ _ _)
    obtain ⟨cs, hx⟩ := exec_builtin (a := a) hT hH ho
    rw [hx, hv]
    have harg : (#[Value.slice ad n cap] : Array Value)[0]? = some (.slice ad n cap) := rfl
    simp only [builtin, Builtin.len_, ht0, harg, Sem.run_bind, run_underlying h2, Result.andThen_ok, Sem.run_pure, goInt]
  · cases hr

theorem minMax_run {args : Array Operand} {tys : Array TypeId} {mx : Bool} (ho : o.op = .call ⟨.builtin (if mx then .max else .min), args, tys⟩) {ρ : Operand → Slot} (hρ : ∀ x ∈ args.toList, RdS g w (ρ x) (a.eval x)) {e : Eff}
    (hr : optE (minMax mx (opSlots ρ args.toList)) = some e) : OpOk P o a g w H e := by
  obtain ⟨q, hq, rfl⟩ := optE_some hr
  generalize hss : opSlots ρ args.toList = ss at hq
  unfold minMax at hq
  split at hq
  · rename_i k x k1 k' y k2
    split at hq
    · rename_i hk
      subst hk
      cases hq
      obtain ⟨v, u, hv, hs1, hs2⟩ := two_args hT hH hρ hss
      have e1 := RdV_int hs1.1
      have e2 := RdV_int hs2.1
      subst e1
      subst e2
      cases mx
      · refine OpOk.pure hH (v := .int k (min (x : Int) y)) ?_ (mk_int _ _ _ _)
        obtain ⟨cs, hx⟩ := exec_builtin (a := a) hT hH ho
        rw [hx, hv]
        have := min_if hT hH x y
        simp [builtin, Builtin.min_, Builtin.min2, this]
      · refine OpOk.pure hH (v := .int k (max (x : Int) y)) ?_ (mk_int _ _ _ _)
        obtain ⟨cs, hx⟩ := exec_builtin (a := a) hT hH ho
        rw [hx, hv]
        have := max_if hT hH x y
        simp [builtin, Builtin.max_, Builtin.max2, this]
    · cases hq
  · cases hq

theorem cloE_run {f : FuncId} {caps : Array Operand} (ho : o.op = .makeFunc (.func f) #[] caps) {ρ : Operand → Slot} (hρ : ∀ x ∈ caps.toList, RdS g w (ρ x) (a.eval x)) {e : Eff}
    (hr : cloE f (capRefs (opSlots ρ caps.toList)) = some e) : OpOk P o a g w H e := by
  generalize hc : capRefs (opSlots ρ caps.toList) = oc at hr
  cases oc with
  | none => cases hr
  | some l =>
    cases hr
    have key : ∀ (xs : List Operand) (l : List (Nat × Nat)), (∀ x ∈ xs, RdS g w (ρ x) (a.eval x)) → capRefs (opSlots ρ xs) = some l → capVals g l (xs.map a.eval) := by
      intro xs
      induction xs with
      | nil => intro l _ h; simp only [opSlots, capRefs, Option.some.injEq] at h; subst h; rfl
      | cons x xs ih =>
        intro l hx h
        have h0 := hx x (by simp)
        generalize hs : ρ x = s at h0
        simp only [opSlots, hs] at h
        obtain ⟨d, k⟩ := s
        unfold capRefs at h
        split at h
        · cases ‹_ = []›
        · rename_i p k r heq
          simp only [List.cons.injEq, Prod.mk.injEq] at heq
          obtain ⟨⟨rfl, rfl⟩, rfl⟩ := heq
          obtain ⟨l', hl', rfl⟩ := Option.map_eq_some_iff.1 h
          obtain ⟨i, off⟩ := p
          obtain ⟨p, hp, hv⟩ := RdV_ref h0.1
          exact ⟨p, _, hp, by rw [List.map_cons, hv], ih l' (fun y hy => hx y (by simp [hy])) hl'⟩
        · cases h
    refine OpOk.pure hH (v := .func (.func f) #[] (caps.map a.eval)) ?_ (.inr ⟨rfl, caps.toList.map a.eval, key _ _ hρ hc, by congr 2; apply Array.toList_inj.1; simp⟩)
    simp [execOp, ho, Instr.makeFunc]

end

end Go.Proofs.Ytfcibaiiobihnaa.Vc
