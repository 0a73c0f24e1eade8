/- THE EVALUATOR IS RIGHT: code, functions. -/
import Derived.Test.YtfcibaiiobihnaaVcV
namespace Go.Proofs.Ytfcibaiiobihnaa.Vc
open Go.RowKit
set_option linter.unusedSectionVars false

theorem conj_mem : ∀ {l : List Prop}, conj l → ∀ p ∈ l, p
  | [p], h, q, hq => by simp only [List.mem_singleton] at hq; subst hq; exact h
  | p :: q :: r, h, x, hx => by
    rcases List.mem_cons.1 hx with rfl | hx
    · exact h.1
    · exact conj_mem h.2 x hx

theorem least {p : Nat → Prop} (h : ∃ n, p n) : ∃ n, p n ∧ ∀ m, p m → n ≤ m := by
  obtain ⟨n, hn⟩ := h
  induction n using Nat.strongRecOn with
  | _ n ih =>
    by_cases hs : ∃ m, m < n ∧ p m
    · obtain ⟨m, hm, hp⟩ := hs; exact ih m hm hp
    · exact ⟨n, hn, fun m hm => Nat.le_of_not_lt fun hlt => hs ⟨m, hlt, hm⟩⟩

/-- The measure of what is known of a state. -/
noncomputable def leastOf (p : Nat → Prop) : Nat := open Classical in if h : ∃ n, p n then (least h).choose else 0

theorem leastOf_spec {p : Nat → Prop} (h : ∃ n, p n) : p (leastOf p) ∧ ∀ m, p m → leastOf p ≤ m := by
  unfold leastOf
  rw [dif_pos h]
  exact (least h).choose_spec

/-- How the evaluator's ways on stand for the machine's. -/
def exOf : Exit → Option Ex
  | .normal => some .normal
  | .exit id => some (.exit id)
  | .ret => some .ret
  | _ => none

def Post (A : Nat → Nat → Prop) (L : List Blk) (g0 : Gh) (w0 : World) (Q : Ex → St → Prop) (x : Exit) (a : Act) (w : World) : Prop :=
  ∃ e g s, exOf x = some e ∧ Q e s ∧ Rel g w s a ∧ Good A L g0 w0 g w s.H ∧ s.np = L.length

section
variable {P : Program} {T : Types} {Γ : Ctx} (hT : TypesOk P T) (hΓ : CtxOk P Γ) (hm : P.follows .mixedOrders = true) {A : Nat → Nat → Prop} {L : List Blk} {g0 : Gh} {w0 : World}
include hT hΓ hm

theorem evC_ok : ∀ (c : Code) (s : St) (Q : Ex → St → Prop) (g : Gh) (a : Act) (w : World), evC T Γ c s Q → Rel g w s a → Good A L g0 w0 g w s.H → s.np = L.length → c.wp P (Post A L g0 w0 Q) a w
  | .skip, s, Q, g, a, w, h, hr, hg, hn => by
    unfold evC at h
    exact wp_skip ⟨.normal, g, s, rfl, h, hr, hg, hn⟩
  | .label l, s, Q, g, a, w, h, hr, hg, hn => by
    unfold evC at h
    exact wp_label ⟨.normal, g, s, rfl, h, hr, hg, hn⟩
  | .exit id, s, Q, g, a, w, h, hr, hg, hn => by
    unfold evC at h
    exact wp_exit ⟨.exit id, g, s, rfl, h, hr, hg, hn⟩
  | .ret, s, Q, g, a, w, h, hr, hg, hn => by
    unfold evC at h
    exact wp_ret ⟨.ret, g, s, rfl, h, hr, hg, hn⟩
  | .region id ops draw, s, Q, g, a, w, h, hr, hg, hn => by
    unfold evC at h
    cases draw with
    | false =>
      simp only [evRegion] at h
      cases hy : evOps T Γ ops.toList ops.toList (some ⟨s, [], []⟩) with
      | none => rw [hy] at h; cases h
      | some y =>
        rw [hy] at h
        refine region_ev hT hΓ hy (conj_mem h.1) hr hg (fun g' a' w' hr' hg' => ⟨.normal, g', y.s, rfl, h.2, hr', hg', (evOps_side hy).2.2.trans hn⟩)
    | true =>
      simp only [evRegion] at h
      cases hy : evOps T Γ ops.toList ops.toList (some ⟨s, [], []⟩) with
      | none => rw [hy] at h; cases h
      | some y =>
        rw [hy] at h
        simp only [evDrawn] at h
        by_cases hc : drawnOk ops s.nb y.es.reverse = true
        · rw [if_pos hc] at h
          refine drawn_ev hT hΓ hm hy hc (conj_mem h.1) hr hg (fun g' a' w' hr' hg' => ⟨.normal, g', y.s, rfl, h.2, hr', hg', (evOps_side hy).2.2.trans hn⟩)
        · rw [if_neg hc] at h; cases h
  | .seq x y, s, Q, g, a, w, h, hr, hg, hn => by
    unfold evC at h
    refine wp_seq (wp_mono (evC_ok x s _ g a w h hr hg hn) fun e a' w' hp => ?_)
    obtain ⟨e', g', s', h1, h2, h3, h4, h5⟩ := hp
    cases e <;> simp only [exOf, Option.some.injEq] at h1
    case normal => subst h1; exact evC_ok y s' Q g' a' w' h2 h3 h4 h5
    case exit id => subst h1; exact ⟨.exit id, g', s', rfl, h2, h3, h4, h5⟩
    case ret => subst h1; exact ⟨.ret, g', s', rfl, h2, h3, h4, h5⟩
    all_goals cases h1
  | .cond c x y, s, Q, g, a, w, h, hr, hg, hn => by
    unfold evC at h
    have hc := opd_ok hr.env c
    generalize opd s.env c = sc at h hc
    unfold evCond at h
    split at h
    · exact wp_cond_split (RdV_bool hc.1) (fun ht => evC_ok x s Q g a w (h.1 ht) hr hg hn) (fun ht => evC_ok y s Q g a w (h.2 ht) hr hg hn)
    · obtain ⟨b, hb, hp, hq⟩ := hc.1
      exact wp_cond_split hb (fun ht => evC_ok x s Q g a w (h.1 (hp ht)) hr hg hn) (fun ht => evC_ok y s Q g a w (h.2 (hq ht)) hr hg hn)
    · cases h
  | .block id c, s, Q, g, a, w, h, hr, hg, hn => by
    unfold evC at h
    refine wp_block (wp_mono (evC_ok c s _ g a w h hr hg hn) fun e a' w' hp => ?_)
    obtain ⟨e', g', s', h1, h2, h3, h4, h5⟩ := hp
    cases e <;> simp only [exOf, Option.some.injEq] at h1
    case normal => subst h1; exact ⟨.normal, g', s', rfl, h2, h3, h4, h5⟩
    case exit j =>
      subst h1
      simp only [qBlock] at h2
      simp only [Exit.inBlock]
      split
      · rename_i hj; rw [if_pos hj] at h2; exact ⟨.normal, g', s', rfl, h2, h3, h4, h5⟩
      · rename_i hj; rw [if_neg hj] at h2; exact ⟨.exit j, g', s', rfl, h2, h3, h4, h5⟩
    case ret => subst h1; exact ⟨.ret, g', s', rfl, h2, h3, h4, h5⟩
    all_goals cases h1
  | .loop c, s, Q, g, a, w, h, hr, hg, hn => by
    unfold evC at h
    obtain ⟨k, I, μ, h0, hround⟩ := h
    obtain ⟨g1, k1, k2, k3, _⟩ := keep_ok hr hg hn k
    let R : Act → World → Nat → Prop := fun a w n => ∃ g s, I s ∧ μ s = n ∧ Rel g w s a ∧ Good A L g0 w0 g w s.H ∧ s.np = L.length
    refine wp_loop (fun a w => ∃ n, R a w n) (fun a w => leastOf (R a w)) ⟨_, g1, s.keep k, h0, rfl, k1, k2, k3⟩ (fun a w hI => ?_)
    obtain ⟨⟨g2, s2, i1, i2, i3, i4, i5⟩, _⟩ := leastOf_spec hI
    refine wp_mono (evC_ok c s2 _ g2 a w (hround s2 i1) i3 i4 i5) fun e a' w' hp => ?_
    obtain ⟨e', g', s', h1, h2, h3, h4, h5⟩ := hp
    cases e <;> simp only [exOf, Option.some.injEq] at h1
    case normal =>
      subst h1
      obtain ⟨k', j1, j2⟩ := h2
      obtain ⟨g3, l1, l2, l3, _⟩ := keep_ok h3 h4 h5 k'
      have hR : R a' w' (μ (s'.keep k')) := ⟨g3, s'.keep k', j1, rfl, l1, l2, l3⟩
      refine ⟨⟨_, hR⟩, Nat.lt_of_le_of_lt ((leastOf_spec ⟨_, hR⟩).2 _ hR) (by rw [← i2]; exact j2)⟩
    case exit id => subst h1; exact ⟨.exit id, g', s', rfl, h2, h3, h4, h5⟩
    case ret => subst h1; exact ⟨.ret, g', s', rfl, h2, h3, h4, h5⟩
    all_goals cases h1
  | .rangeFunc _ _ _ _, _, _, _, _, _, h, _, _, _ => by unfold evC at h; cases h
  | .scope _, _, _, _, _, _, h, _, _, _ => by unfold evC at h; cases h
  | .goto _, _, _, _, _, _, h, _, _, _ => by unfold evC at h; cases h
  | .refuse _, _, _, _, _, _, h, _, _, _ => by unfold evC at h; cases h

end

/-! ### Steps on the way on -/
section
variable {f : St → Prop} {Q : Ex → St → Prop} {s : St} {id j : Nat} {I : St → Prop} {μ : St → Nat} {m : Nat}
theorem q_seqn (h : f s) : qSeq f Q .normal s := h
theorem q_seqx (h : Q (.exit j) s) : qSeq f Q (.exit j) s := h
theorem q_seqr (h : Q .ret s) : qSeq f Q .ret s := h
theorem q_blkn (h : Q .normal s) : qBlock id Q .normal s := h
theorem q_blkx (h : Q .normal s) : qBlock id Q (.exit id) s := by show (if id = id then Q .normal s else Q (.exit id) s); rw [if_pos rfl]; exact h
theorem q_blko (hne : j ≠ id) (h : Q (.exit j) s) : qBlock id Q (.exit j) s := by show (if j = id then Q .normal s else Q (.exit j) s); rw [if_neg hne]; exact h
theorem q_blkr (h : Q .ret s) : qBlock id Q .ret s := h
theorem q_loopn (k : Keep) (h : I (s.keep k)) (h2 : μ (s.keep k) < m) : qLoop I μ m Q .normal s := ⟨k, h, h2⟩
theorem q_loopx (h : Q (.exit j) s) : qLoop I μ m Q (.exit j) s := h
theorem q_loopr (h : Q .ret s) : qLoop I μ m Q .ret s := h
end

/-! ### A function keeps its contract -/
@[go_sem] def enumE : Nat → List Slot → List (Nat × Slot)
  | _, [] => []
  | c, s :: r => (c, s) :: enumE (c + 1) r

@[go_sem] def idmL : Nat → List Blk → List (Nat × Nat)
  | _, [] => []
  | c, _ :: L => (c, c) :: idmL (c + 1) L

@[go_sem] def slotsIn (m : List (Nat × Nat)) : List Slot → Prop
  | [] => True
  | s :: r => renSlot m s = s ∧ slotsIn m r

@[go_sem] def blksIn (m : List (Nat × Nat)) : List Blk → Prop
  | [] => True
  | .dead :: _ => False
  | b :: r => renBlk m (some b) = b ∧ blksIn m r

def resVal : List Value → Value
  | [v] => v
  | l => .tuple l.toArray

@[go_sem] def slotsAt (env : List (Nat × Slot)) : List Nat → List Slot
  | [] => []
  | t :: r => lk env t :: slotsAt env r

attribute [go_sem] enumH

/-- An integer of a state. -/
@[go_sem] def intOf : Slot → Int
  | (.val (.int _) n, _) => n
  | _ => 0
@[go_sem] def intAt (s : St) (t : Nat) : Int := intOf (lk s.env t)

/-- How a function must end. -/
@[go_sem] def Fin (ts : List Nat) (r : Ret) : Ex → St → Prop
  | .exit _, _ => False
  | _, s => ∃ k : Keep, (s.keep k).H = enumH 0 r.H ∧ slotsAt (s.keep k).env ts = r.ret

theorem lk_enum : ∀ (l : List Slot) (c t : Nat), lk (enumE c l) t = if c ≤ t then (l[t - c]?).getD (.any, none) else (.any, none)
  | [], c, t => by simp [enumE, lk]
  | s :: l, c, t => by
    simp only [enumE, lk]
    by_cases h : c = t
    · subst h; simp
    · rw [if_neg h, lk_enum l (c + 1) t]
      by_cases h2 : c ≤ t
      · rw [if_pos h2, if_pos (by omega)]
        obtain ⟨d, hd⟩ : ∃ d, t - c = d + 1 := ⟨t - c - 1, by omega⟩
        rw [hd, List.getElem?_cons_succ, show t - (c + 1) = d by omega]
      · rw [if_neg h2, if_neg (by omega)]

theorem mem_idmL : ∀ {L : List Blk} {c i j : Nat}, (i, j) ∈ idmL c L ↔ i = j ∧ c ≤ i ∧ i < c + L.length
  | [], c, i, j => by simp only [idmL, List.not_mem_nil, List.length_nil, false_iff]; omega
  | b :: L, c, i, j => by
    simp only [idmL, List.mem_cons, Prod.mk.injEq, mem_idmL, List.length_cons]
    omega

theorem keepOk_idmL : ∀ {L : List Blk} {c : Nat}, keepOk 0 (idmL c L) = true
  | [], _ => rfl
  | b :: L, c => by
    simp only [idmL, keepOk, Bool.and_eq_true]
    refine ⟨⟨by simp, ?_⟩, keepOk_idmL⟩
    have : ∀ {m : List (Nat × Nat)}, (∀ i j, (i, j) ∈ m → i ≠ c ∧ j ≠ c) → hasId c c m = false := by
      intro m
      induction m with
      | nil => intro _; rfl
      | cons q m ih =>
        intro h
        obtain ⟨i, j⟩ := q
        have := h i j (by simp)
        simp only [hasId, ih (fun i j hm => h i j (List.mem_cons_of_mem _ hm)), decide_eq_false this.1, decide_eq_false this.2]
        rfl
    rw [this]
    · rfl
    · intro i j hm
      obtain ⟨rfl, h1, _⟩ := mem_idmL.1 hm
      omega

theorem slotsIn_mem {m : List (Nat × Nat)} : ∀ {l : List Slot}, slotsIn m l → ∀ s ∈ l, renSlot m s = s
  | x :: l, h, s, hs => by
    rcases List.mem_cons.1 hs with rfl | hs
    · exact h.1
    · exact slotsIn_mem h.2 s hs

theorem blksIn_mem {m : List (Nat × Nat)} : ∀ {l : List Blk}, blksIn m l → ∀ b ∈ l, renBlk m (some b) = b ∧ b ≠ .dead
  | x :: l, h, b, hb => by
    cases x with
    | dead => exact h.elim
    | cells t y ts =>
      rcases List.mem_cons.1 hb with rfl | hb
      · exact ⟨h.1, fun h => by cases h⟩
      · exact blksIn_mem h.2 b hb
    | row e t l n =>
      rcases List.mem_cons.1 hb with rfl | hb
      · exact ⟨h.1, fun h => by cases h⟩
      · exact blksIn_mem h.2 b hb
    | grow e c n =>
      rcases List.mem_cons.1 hb with rfl | hb
      · exact ⟨h.1, fun h => by cases h⟩
      · exact blksIn_mem h.2 b hb

theorem ArgsOk_get {g : Gh} {w : World} : ∀ {ss : List Slot} {vs : List Value}, ArgsOk g w ss vs → vs.length = ss.length ∧ ∀ (i : Nat) s, ss[i]? = some s → ∃ v, vs[i]? = some v ∧ RdS g w s v
  | [], vs, h => by rw [show vs = [] from h]; exact ⟨rfl, fun i s h => by simp at h⟩
  | s :: ss, vs, ⟨v, vs', e, h1, h2⟩ => by
    subst e
    obtain ⟨h3, h4⟩ := ArgsOk_get h2
    refine ⟨by simp [h3], fun i s' hi => ?_⟩
    cases i with
    | zero => simp only [List.getElem?_cons_zero, Option.some.injEq] at hi; subst hi; exact ⟨v, rfl, h1⟩
    | succ i => simp only [List.getElem?_cons_succ] at hi ⊢; exact h4 i s' hi

theorem lenB_len : ∀ (L : List Blk), lenB L = L.length
  | [] => rfl
  | _ :: L => by simp only [lenB, List.length_cons, lenB_len L]

theorem entry_ok {g : Gh} {w : World} {args : List Slot} {vals : List Value} {L : List Blk} {N : Nat} (hH : HeapOk g w (enumH 0 L)) (ha : ArgsOk g w args vals) (hs : slotsIn (idmL 0 L) args) (hb : blksIn (idmL 0 L) L) (hN : args.length ≤ N) :
    Rel (keepGh g 0 (idmL 0 L)) w ⟨enumE 0 args, enumH 0 L, lenB L, N, lenB L⟩ { tmps := vals.toArray ++ Array.replicate (N - vals.toArray.size) undef, defers := [] } ∧
    (∀ i blk, L[i]? = some blk → (keepGh g 0 (idmL 0 L)).J i = g.J i ∧ BlkOk (keepGh g 0 (idmL 0 L)) w i blk ∧ ∀ b o, owns (keepGh g 0 (idmL 0 L)) i blk b o → owns g i blk b o) := by
  have hk : keepOk 0 (idmL 0 L) = true := keepOk_idmL
  have hmem : ∀ i blk, L[i]? = some blk → (i, i) ∈ idmL 0 L := fun i blk h => mem_idmL.2 ⟨rfl, by omega, by have := (List.getElem?_eq_some_iff.1 h).1; omega⟩
  have hblk : ∀ i blk, L[i]? = some blk → BlkOk (keepGh g 0 (idmL 0 L)) w i blk ∧ ∀ b o, owns (keepGh g 0 (idmL 0 L)) i blk b o → owns g i blk b o := by
    intro i blk h
    have hr := (blksIn_mem hb blk (List.mem_of_getElem? h)).1
    have := keep_blk (g := g) (w := w) hk (hmem i blk h) (b := some blk) (fun c hc => by cases hc; exact hH.blk i blk (by rw [getH_enum0]; exact h))
    rw [hr] at this
    exact ⟨this.1, fun b o ho => by obtain ⟨c, hc, hco⟩ := this.2 b o ho; cases hc; exact hco⟩
  obtain ⟨hl, hv⟩ := ArgsOk_get ha
  refine ⟨⟨fun t => ?_, ⟨fun i b h => ?_, fun i j bi bj b o hij h1 h2 o1 o2 => ?_, hH.sl⟩, ?_, fun i hi => ?_, rfl, Nat.le_refl _⟩, fun i blk h => ⟨(keepGh_at hk (hmem i blk h)).1, hblk i blk h⟩⟩
  · rw [lk_enum, if_pos (Nat.zero_le _), Nat.sub_zero]
    cases ht : args[t]? with
    | none => exact ⟨trivial, trivial⟩
    | some s =>
      obtain ⟨v, hv1, hv2⟩ := hv t s ht
      have hlt : t < vals.length := (List.getElem?_eq_some_iff.1 hv1).1
      have : (vals.toArray ++ Array.replicate (N - vals.toArray.size) undef).getD t undef = v := by
        rw [Array.getD_eq_getD_getElem?, Array.getElem?_append_left (by simpa using hlt)]
        simp [hv1]
      simp only [Option.getD_some]
      rw [this]
      have := keep_slot hk hv2
      rw [slotsIn_mem hs s (List.mem_of_getElem? ht)] at this
      exact this
  · rw [getH_enum0] at h; exact (hblk i b h).1
  · rw [getH_enum0] at h1 h2
    exact hH.dis i j bi bj b o hij (by rw [getH_enum0]; exact h1) (by rw [getH_enum0]; exact h2) ((hblk i bi h1).2 b o o1) ((hblk j bj h2).2 b o o2)
  · simp only [Array.size_append, Array.size_replicate, List.size_toArray]
    omega
  · have hold : oldOf (idmL 0 L) i = none := by
      cases ho : oldOf (idmL 0 L) i with
      | none => rfl
      | some o =>
        obtain ⟨rfl, _, h2⟩ := mem_idmL.1 (oldOf_lt ho)
        have hi : lenB L ≤ i := hi
        rw [lenB_len] at hi; omega
    refine ⟨?_, fun n => ?_⟩
    · show (if i < 0 then g.J i else (oldOf (idmL 0 L) i).bind g.J) = none
      rw [if_neg (by omega), hold]; rfl
    · show (if i < 0 then g.cur i n else (oldOf (idmL 0 L) i).bind fun o => g.cur o n) = none
      rw [if_neg (by omega), hold]; rfl

theorem slotsAt_ok {g : Gh} {w : World} {env : List (Nat × Slot)} {tmps : Array Value} (h : EnvOk g w env tmps) : ∀ (ts : List Nat), ArgsOk g w (slotsAt env ts) (ts.map fun t => tmps.getD t undef)
  | [] => rfl
  | t :: ts => ⟨_, _, rfl, h t, slotsAt_ok h ts⟩

theorem con_ok {P : Program} {T : Types} {Γ : Ctx} (hT : TypesOk P T) (hΓ : CtxOk P Γ) (hm : P.follows .mixedOrders = true) {f : FuncId} {fn : Func} {c : Code} {C : List Slot → List Blk → Option Ret} {ts : List Nat} (hf : P.funcs[f]? = some fn) (hb : fn.body = some c) {N : Nat} (hN : fn.ntmps = N)
    (hcall : ∀ args w, (callFunc f args).run P w = .ok (.enter f args) w) (hres : ∀ tmps w, (results fn tmps).run P w = .ok (resVal (ts.map fun t => tmps.getD t undef)) w)
    (h : ∀ args L r, C args L = some r → (∀ p ∈ r.side, p) → args.length ≤ N ∧ slotsIn (idmL 0 L) args ∧ blksIn (idmL 0 L) L ∧ evC T Γ c ⟨enumE 0 args, enumH 0 L, lenB L, N, lenB L⟩ (Fin ts r)) : ConOk P f C := by
  subst hN
  refine ⟨hcall, fun g w args vals L r hH ha hC hs => ?_⟩
  obtain ⟨h1, h2, h3, h4⟩ := h args L r hC hs
  obtain ⟨hr, hent⟩ := entry_ok hH ha h2 h3 h1
  have hsub : ∀ b o, ownsAny (keepGh g 0 (idmL 0 L)) (enumH 0 L) b o → ownsAny g (enumH 0 L) b o := fun b o ⟨i, blk, hg, ho⟩ => ⟨i, blk, hg, (hent i blk (by rw [← getH_enum0]; exact hg)).2.2 b o ho⟩
  have hgood : Good (ownsAny (keepGh g 0 (idmL 0 L)) (enumH 0 L)) L (keepGh g 0 (idmL 0 L)) w (keepGh g 0 (idmL 0 L)) w (enumH 0 L) := by
    refine ⟨fun b o h => ⟨h, rfl⟩, Fr.refl _ _ _, fun i blk b o hg ho => .inr ⟨i, blk, hg, ho⟩, fun _ _ _ h => h, fun i hi => ?_, fun i u y us _ hg => ⟨y, us, by rw [← getH_enum0]; exact hg⟩⟩
    have hL : L[i]? = some L[i] := by simp
    obtain ⟨_, hbk, _⟩ := hent i L[i] hL
    have hnd := (blksIn_mem h3 L[i] (List.getElem_mem hi)).2
    generalize L[i] = blk at hbk hnd
    cases blk with
    | cells t x ts => obtain ⟨p, cs, hp, _⟩ := hbk; exact .inl ⟨p, hp⟩
    | grow e c n => obtain ⟨v, xs, hv, _⟩ := hbk; exact .inr ⟨n, v, hv⟩
    | row e t l n => obtain ⟨_, v, xs, hv, _⟩ := hbk; exact .inr ⟨n, v, hv⟩
    | dead => exact absurd rfl hnd
  refine calls_of_wp hf hb (wp_mono (evC_ok hT hΓ hm c _ _ _ _ _ h4 hr hgood (lenB_len L)) fun x a' w' hp => ?_)
  obtain ⟨e, g', s', e1, e2, e3, e4, e5⟩ := hp
  have fin : ∀ k : Keep, (s'.keep k).H = enumH 0 r.H → slotsAt (s'.keep k).env ts = r.ret → a'.defers = [] ∧ ∃ v, (results fn a'.tmps).run P w' = .ok v w' ∧ ∃ v' g', Ending.returned v = .returned v' ∧ RetOk g w L r g' w' v' := by
    intro k k1 k2
    obtain ⟨g2, l1, l2, l3, _⟩ := keep_ok e3 e4 e5 k
    rw [k1] at l2
    refine ⟨e3.def_, _, hres _ _, _, g2, rfl, ⟨fun b o hb => l2.shut b o hb, by rw [← k1]; exact l1.heap, ?_, ?_, fun i blk b o hi ho => ?_, fun i t x us hi => ?_, fun i t x us u y vs hi hr => ?_⟩⟩
    · have := slotsAt_ok l1.env ts
      rw [k2] at this
      unfold RetVals
      split
      · rename_i s hs
        rw [hs] at this
        obtain ⟨v, vs', hv, h5, h6⟩ := this
        rw [hv, show vs' = [] from h6]
        exact h5
      · rename_i hne
        refine ⟨_, ?_, this⟩
        unfold resVal
        split
        · rename_i v hv
          exfalso
          rw [hv] at this
          have := (ArgsOk_get this).1
          cases hq : r.ret with
          | nil => rw [hq] at this; simp at this
          | cons s l => cases l with
            | nil => exact hne s hq
            | cons _ _ => rw [hq] at this; simp at this
        · rfl
    · exact ⟨l2.fr.os, l2.fr.tape, l2.fr.output, l2.fr.size, fun b hb hA => l2.fr.blk b hb (fun o ho => hA o (hsub b o ho)), fun b o hb hA => l2.fr.cell b o hb (fun ho => hA (hsub b o ho)), fun b o hS => (l2.fr.new b o hS).imp id (Or.imp id (hsub b o))⟩
    · exact (l2.perm i blk b o (by rw [getH_enum0]; exact hi) ho).imp id (hsub b o)
    · obtain ⟨j1, ⟨p, cs, j2, _⟩, _⟩ := hent i _ hi
      have hil : i < L.length := (List.getElem?_eq_some_iff.1 hi).1
      rw [l2.J i p hil j2, ← j1, j2]
    · have hil : i < L.length := (List.getElem?_eq_some_iff.1 hi).1
      obtain ⟨x', ts', h5⟩ := l2.ty i u y vs hil (by rw [getH_enum0]; exact hr)
      rw [hi] at h5
      simp only [Option.some.injEq, Blk.cells.injEq] at h5
      exact h5.1.symm
  cases x <;> simp only [exOf, Option.some.injEq] at e1
  case normal => subst e1; obtain ⟨k, k1, k2⟩ := e2; exact fin k k1 k2
  case ret => subst e1; obtain ⟨k, k1, k2⟩ := e2; exact fin k k1 k2
  case exit id => subst e1; exact e2.elim
  all_goals cases e1

end Go.Proofs.Ytfcibaiiobihnaa.Vc
