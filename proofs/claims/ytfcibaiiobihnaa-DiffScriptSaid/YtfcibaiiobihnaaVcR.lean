/- WHAT IS KEPT; what a function has done so far. -/
import Derived.Test.YtfcibaiiobihnaaVcQ
namespace Go.Proofs.Ytfcibaiiobihnaa.Vc
open Go.RowKit
set_option linter.unusedSectionVars false

/-- What the function has done since it was entered. -/
structure Good (A : Nat → Nat → Prop) (L : List Blk) (g0 : Gh) (w0 : World) (g : Gh) (w : World) (H : Heap) : Prop where
  shut : ∀ b o, g0.S b o → g.S b o ∧ w.cell? ⟨b, o, none⟩ = w0.cell? ⟨b, o, none⟩
  fr : Fr A w0 w g0.S g.S
  perm : ∀ i blk b o, getH H i = some blk → owns g i blk b o → w0.heap.size ≤ b ∨ A b o
  J : ∀ i p, i < L.length → g0.J i = some p → g.J i = some p
  live : ∀ i, i < L.length → (∃ p, g.J i = some p) ∨ (∃ n v, g.cur i n = some v)
  ty : ∀ i u y us, i < L.length → getH H i = some (.cells u y us) → ∃ x ts, L[i]? = some (.cells u x ts)

theorem Good.eff {A : Nat → Nat → Prop} {L : List Blk} {g0 g g' : Gh} {w0 w w' : World} {H : Heap} {e : Eff} {v : Value} (h : Good A L g0 w0 g w H) (k : EffOk g w H e g' w' v) : Good A L g0 w0 g' w' (app e.upd H) := by
  have hown : ∀ b o, ownsIn g H (idsOf e.upd) b o → w0.heap.size ≤ b ∨ A b o := fun b o ⟨i, blk, _, h2, h3⟩ => h.perm i blk b o h2 h3
  refine ⟨fun b o hs => ?_, h.fr.trans k.fr hown, fun i blk b o hg ho => ?_, fun i p hi hp => k.le.J _ _ (h.J i p hi hp), fun i hi => ?_, fun i u y us hi hg => ?_⟩
  · obtain ⟨h1, h2⟩ := h.shut b o hs
    exact ⟨k.le.S b o h1, (k.le.cell b o h1).trans h2⟩
  · by_cases hi : i ∈ idsOf e.upd
    · rcases k.perm i blk b o hi hg ho with h1 | h1
      · exact .inl (Nat.le_trans h.fr.size h1)
      · exact hown b o h1
    · exact h.perm i blk b o ((getH_app hi).symm.trans hg) ((owns_same (k.gho i hi).1 (k.gho i hi).2).1 ho)
  · rcases h.live i hi with ⟨p, hp⟩ | ⟨n, u, hu⟩
    · exact .inl ⟨p, k.le.J _ _ hp⟩
    · exact .inr ⟨n, u, k.le.cur _ _ _ hu⟩
  · rcases k.ty i u y us hg with ⟨x, ts, h1⟩ | ⟨h1, h2⟩
    · exact h.ty i u x ts hi h1
    · rcases h.live i hi with ⟨p, hp⟩ | ⟨n, u, hu⟩
      · rw [h1] at hp; cases hp
      · rw [h2] at hu; cases hu

/-! ### Forgetting -/
def oldOf : List (Nat × Nat) → Nat → Option Nat
  | [], _ => none
  | (n, o) :: r, k => if n = k then some o else oldOf r k

def keepGh (g : Gh) (np : Nat) (m : List (Nat × Nat)) : Gh :=
  ⟨g.S, fun i => if i < np then g.J i else (oldOf m i).bind g.J, fun i n => if i < np then g.cur i n else (oldOf m i).bind fun o => g.cur o n⟩

theorem hasId_mem {n o : Nat} : ∀ {m : List (Nat × Nat)}, hasId n o m = false → ∀ n' o', (n', o') ∈ m → n' ≠ n ∧ o' ≠ o
  | [], _, _, _, h => by cases h
  | (a, b) :: m, h, n', o', hm => by
    simp only [hasId, Bool.or_eq_false_iff, decide_eq_false_iff_not] at h
    rcases List.mem_cons.1 hm with h1 | h1
    · cases h1; exact h.1
    · exact hasId_mem h.2 n' o' h1

theorem oldOf_mem {np : Nat} : ∀ {m : List (Nat × Nat)}, keepOk np m = true → ∀ {n o : Nat}, (n, o) ∈ m → oldOf m n = some o ∧ (n < np → o = n)
  | [], _, _, _, h => by cases h
  | (a, b) :: m, hk, n, o, h => by
    simp only [keepOk, Bool.and_eq_true, Bool.not_eq_true', Bool.or_eq_true, decide_eq_true_eq] at hk
    obtain ⟨⟨h1, h2⟩, h3⟩ := hk
    simp only [oldOf]
    rcases List.mem_cons.1 h with h4 | h4
    · cases h4
      rw [if_pos rfl]
      exact ⟨rfl, fun h5 => by rcases h1 with h1 | h1 <;> omega⟩
    · have h5 := hasId_mem h2 n o h4
      rw [if_neg (Ne.symm h5.1)]
      exact oldOf_mem h3 h4

theorem renId_mem : ∀ {m : List (Nat × Nat)} {k j : Nat}, renId m k = some j → (j, k) ∈ m
  | [], _, _, h => by cases h
  | (a, b) :: m, k, j, h => by
    simp only [renId] at h
    split at h
    · rename_i e; subst e; simp only [Option.some.injEq] at h; subst h; exact List.mem_cons_self
    · exact List.mem_cons_of_mem _ (renId_mem h)

theorem keepGh_at {g : Gh} {np : Nat} {m : List (Nat × Nat)} (hk : keepOk np m = true) {n o : Nat} (h : (n, o) ∈ m) : (keepGh g np m).J n = g.J o ∧ (keepGh g np m).cur n = g.cur o := by
  obtain ⟨h1, h2⟩ := oldOf_mem hk h
  refine ⟨?_, ?_⟩
  · show (if n < np then g.J n else (oldOf m n).bind g.J) = _
    by_cases hn : n < np
    · rw [if_pos hn, h2 hn]
    · rw [if_neg hn, h1]; rfl
  · funext q
    show (if n < np then g.cur n q else (oldOf m n).bind fun o => g.cur o q) = _
    by_cases hn : n < np
    · rw [if_pos hn, h2 hn]
    · rw [if_neg hn, h1]; rfl

theorem keep_slot {g : Gh} {w : World} {np : Nat} {m : List (Nat × Nat)} (hk : keepOk np m = true) {s : Slot} {v : Value} (h : RdS g w s v) : RdS (keepGh g np m) w (renSlot m s) v := by
  have caps : ∀ (l l' : List (Nat × Nat)) (vs : List Value), capVals g l vs → renList m l = some l' → capVals (keepGh g np m) l' vs := by
    intro l
    induction l with
    | nil => intro l' vs h hr; simp only [renList, Option.some.injEq] at hr; subst hr; exact h
    | cons q l ih =>
      obtain ⟨i, o⟩ := q
      rintro l' vs ⟨p, vs', h1, h2, h3⟩ hr
      simp only [renList] at hr
      cases hi : renId m i with
      | none => rw [hi] at hr; cases hr2 : renList m l <;> rw [hr2] at hr <;> cases hr
      | some j =>
        rw [hi] at hr
        cases hr2 : renList m l with
        | none => rw [hr2] at hr; cases hr
        | some l2 =>
          rw [hr2] at hr
          simp only [renList.renCons, Option.some.injEq] at hr
          subst hr
          exact ⟨p, vs', by rw [(keepGh_at hk (renId_mem hi)).1]; exact h1, h2, ih l2 vs' h3 hr2⟩
  unfold renSlot
  split
  · rename_i k n k'
    cases hi : renId m k with
    | none => exact ⟨trivial, trivial⟩
    | some j =>
      obtain ⟨h1, h2⟩ := h.1
      exact ⟨⟨by rw [(keepGh_at hk (renId_mem hi)).2]; exact h1, h2⟩, trivial⟩
  · obtain h1 := h.1
    refine ⟨?_, trivial⟩
    rcases h1 with ⟨h1, _⟩ | ⟨_, h2⟩
    · cases h1
    · exact .inr ⟨rfl, h2⟩
  · rename_i p k
    obtain ⟨i, o⟩ := p
    simp only [renRef]
    cases hi : renId m i with
    | none => exact ⟨trivial, trivial⟩
    | some j =>
      simp only [Option.map_some, renSlot.refSlot]
      obtain ⟨q, hq, hv⟩ := RdV_ref h.1
      exact ⟨.inr ⟨rfl, q, by rw [(keepGh_at hk (renId_mem hi)).1]; exact hq, by rw [hv]⟩, trivial⟩
  · rename_i f l k
    cases hl : renList m l with
    | none => exact ⟨trivial, trivial⟩
    | some l' =>
      simp only [renSlot.cloSlot]
      rcases h.1 with ⟨h1, _⟩ | ⟨_, vs, h2, h3⟩
      · cases h1
      · exact ⟨.inr ⟨rfl, vs, caps l l' vs h2 hl, h3⟩, trivial⟩
  · rename_i t x k _ _ _
    split
    · rename_i hp
      have hv : RdV (keepGh g np m) w t x v := h.1.imp (fun ⟨a, cs, e, q⟩ => ⟨a, cs, e, Rd_pure (g := g) (g' := keepGh g np m) rfl hp q⟩) (fun ⟨a, q⟩ => ⟨a, Rd_pure (g := g) (g' := keepGh g np m) rfl hp q⟩)
      refine ⟨hv, ?_⟩
      cases k with
      | none => trivial
      | some k =>
        simp only [renTok]
        cases hj : renId m k with
        | none => trivial
        | some j =>
          have h2 := h.2
          cases t with
          | list u =>
            show (keepGh g np m).cur j _ = _
            rw [(keepGh_at hk (renId_mem hj)).2]
            exact h2
          | _ => exact h2.elim
    · exact ⟨trivial, trivial⟩
  · rename_i t x k
    split
    · rename_i hp
      obtain ⟨b, o, cs, h1, h2, h3, h4⟩ := h.1
      exact ⟨⟨b, o, cs, h1, h2, h3, Rd_pure (g := g) (g' := keepGh g np m) rfl hp h4⟩, trivial⟩
    · exact ⟨trivial, trivial⟩
  · exact ⟨trivial, trivial⟩

theorem mem_renToks {m : List (Nat × Nat)} : ∀ {ts : List (Nat × Nat)} {q j : Nat}, (q, j) ∈ renToks m ts → ∃ k, (q, k) ∈ ts ∧ renId m k = some j
  | [], _, _, h => by cases h
  | (a, b) :: ts, q, j, h => by
    simp only [renToks] at h
    cases hb : renId m b with
    | none =>
      rw [hb] at h
      obtain ⟨k, h1, h2⟩ := mem_renToks h
      exact ⟨k, List.mem_cons_of_mem _ h1, h2⟩
    | some j' =>
      rw [hb] at h
      simp only [renToks.renTok1] at h
      rcases List.mem_cons.1 h with h1 | h1
      · cases h1; exact ⟨b, List.mem_cons_self, hb⟩
      · obtain ⟨k, h1, h2⟩ := mem_renToks h1
        exact ⟨k, List.mem_cons_of_mem _ h1, h2⟩

theorem keep_blk {g : Gh} {w : World} {np : Nat} {m : List (Nat × Nat)} (hk : keepOk np m = true) {n o : Nat} (hm : (n, o) ∈ m) {b : Option Blk} (h : ∀ c, b = some c → BlkOk g w o c) :
    BlkOk (keepGh g np m) w n (renBlk m b) ∧ ∀ bb oo, owns (keepGh g np m) n (renBlk m b) bb oo → ∃ c, b = some c ∧ owns g o c bb oo := by
  obtain ⟨hJ, hcur⟩ := keepGh_at (g := g) hk hm
  unfold renBlk
  split
  · rename_i t x toks
    split
    · rename_i hp
      obtain ⟨p, cs, h1, h2, h3, h4, h5, h6⟩ := h _ rfl
      refine ⟨⟨p, cs, by rw [hJ]; exact h1, Rd_pure (g := g) (g' := keepGh g np m) rfl hp h2, h3, h4, h5, fun q j hmem => ?_⟩, fun bb oo ⟨pp, e1, e2⟩ => ⟨_, rfl, pp, by rw [hJ] at e1; exact e1, e2⟩⟩
      obtain ⟨k, k1, k2⟩ := mem_renToks hmem
      obtain ⟨u, l, v, g1, g2, g3⟩ := h6 q k k1
      exact ⟨u, l, v, g1, g2, by rw [(keepGh_at hk (renId_mem k2)).2]; exact g3⟩
    · exact ⟨trivial, fun _ _ h => h.elim⟩
  · rename_i e c k
    obtain ⟨v, xs, h1, h2, h3, h4⟩ := h _ rfl
    exact ⟨⟨v, xs, by rw [hcur]; exact h1, h2, fun q hq => by rw [hcur]; exact h3 q hq, h4⟩, fun bb oo ⟨v', e1, e2⟩ => ⟨_, rfl, v', by rw [hcur] at e1; exact e1, e2⟩⟩
  · rename_i e t l n
    split
    · rename_i hp
      obtain ⟨h0, v, xs, h1, h2, h5, h3, h4⟩ := h _ rfl
      exact ⟨⟨h0, v, xs, by rw [hcur]; exact h1, h2, RdF_mono (fun _ _ h => Rd_pure (g := g) (g' := keepGh g np m) rfl hp h) h5, fun q hq => by rw [hcur]; exact h3 q hq, h4⟩, fun bb oo ⟨v', e1, e2⟩ => ⟨_, rfl, v', by rw [hcur] at e1; exact e1, e2⟩⟩
    · exact ⟨trivial, fun _ _ h => h.elim⟩
  · exact ⟨trivial, fun _ _ h => h.elim⟩

theorem getH_keep {m : List (Nat × Nat)} {H : Heap} : ∀ {l : List (Nat × Nat)} {n : Nat} {b : Blk}, getH (keepH m H l) n = some b → ∃ o, (n, o) ∈ l ∧ b = renBlk m (getH H o)
  | [], _, _, h => by cases h
  | (a, c) :: l, n, b, h => by
    simp only [keepH, getH] at h
    split at h
    · rename_i e
      subst e
      exact ⟨c, List.mem_cons_self, (Option.some.inj h).symm⟩
    · obtain ⟨o, h1, h2⟩ := getH_keep h
      exact ⟨o, List.mem_cons_of_mem _ h1, h2⟩

theorem lk_keep {m : List (Nat × Nat)} {env : List (Nat × Slot)} : ∀ (l : List Nat) (t : Nat), lk (keepEnv m env l) t = (.any, none) ∨ lk (keepEnv m env l) t = renSlot m (lk env t)
  | [], _ => .inl rfl
  | a :: l, t => by
    simp only [keepEnv, lk]
    split
    · rename_i e; subst e; exact .inr rfl
    · exact lk_keep l t

theorem idsTop_mem : ∀ {m : List (Nat × Nat)} {n o : Nat}, (n, o) ∈ m → n < idsTop m
  | (a, b) :: m, n, o, h => by
    simp only [idsTop]
    rcases List.mem_cons.1 h with h1 | h1
    · cases h1; omega
    · have := idsTop_mem h1; omega

theorem oldOf_lt : ∀ {m : List (Nat × Nat)} {n o : Nat}, oldOf m n = some o → (n, o) ∈ m
  | [], _, _, h => by cases h
  | (a, b) :: m, n, o, h => by
    simp only [oldOf] at h
    split at h
    · rename_i e; subst e; simp only [Option.some.injEq] at h; subst h; exact List.mem_cons_self
    · exact List.mem_cons_of_mem _ (oldOf_lt h)

/-- Forgetting, with the places that are left. -/
theorem keep_okT {A : Nat → Nat → Prop} {L : List Blk} {g0 g : Gh} {w0 w : World} {s : St} {a : Act} (h : Rel g w s a) (hg : Good A L g0 w0 g w s.H) (hnp : s.np = L.length) (k : Keep) (hk : keepOk s.np k.ids = true) :
    Rel (keepGh g s.np k.ids) w (s.keep k) a ∧ Good A L g0 w0 (keepGh g s.np k.ids) w (s.keep k).H ∧ (s.keep k).np = L.length ∧ (s.keep k).N = s.N := by
  unfold St.keep
  rw [hk]
  refine ⟨⟨fun t => ?_, ⟨fun i b hb => ?_, fun i j bi bj b o hij h1 h2 o1 o2 => ?_, h.heap.sl⟩, h.size, fun i hi => ?_, h.def_, Nat.le_max_left _ _⟩, ⟨hg.shut, hg.fr, fun i blk b o hb ho => ?_, fun i p hi hp => ?_, fun i hi => ?_, fun i u y us hi hb => ?_⟩, hnp, rfl⟩
  · rcases lk_keep (m := k.ids) (env := s.env) k.slots t with e | e
    · exact ⟨by rw [show lk (keepIf s k true).env t = _ from e]; trivial, by rw [show lk (keepIf s k true).env t = _ from e]; trivial⟩
    · have := keep_slot hk (h.env t)
      rw [show lk (keepIf s k true).env t = _ from e]
      exact this
  · obtain ⟨o, h1, rfl⟩ := getH_keep hb
    exact (keep_blk hk h1 fun c hc => h.heap.blk o c hc).1
  · obtain ⟨p, k1, rfl⟩ := getH_keep h1
    obtain ⟨q, k2, rfl⟩ := getH_keep h2
    obtain ⟨c1, e1, o1'⟩ := (keep_blk hk k1 fun c hc => h.heap.blk p c hc).2 b o o1
    obtain ⟨c2, e2, o2'⟩ := (keep_blk hk k2 fun c hc => h.heap.blk q c hc).2 b o o2
    refine h.heap.dis p q c1 c2 b o (fun e => ?_) e1 e2 o1' o2'
    subst e
    have inj : ∀ {m : List (Nat × Nat)}, keepOk s.np m = true → ∀ {i j o : Nat}, (i, o) ∈ m → (j, o) ∈ m → i = j := by
      intro m
      induction m with
      | nil => intro _ _ _ _ h; cases h
      | cons z m ih =>
        obtain ⟨z1, z2⟩ := z
        intro hk i j o h1 h2
        simp only [keepOk, Bool.and_eq_true, Bool.not_eq_true'] at hk
        rcases List.mem_cons.1 h1 with h1 | h1 <;> rcases List.mem_cons.1 h2 with h2 | h2
        · cases h1; cases h2; rfl
        · cases h1; exact absurd rfl (hasId_mem hk.1.2 _ _ h2).2
        · cases h2; exact absurd rfl (hasId_mem hk.1.2 _ _ h1).2
        · exact ih hk.2 h1 h2
    exact hij (inj hk k1 k2)
  · have hi' : ¬ i < s.np := by have := Nat.le_trans (Nat.le_max_left _ _) hi; omega
    have hold : oldOf k.ids i = none := by
      cases ho : oldOf k.ids i with
      | none => rfl
      | some o =>
        have := idsTop_mem (oldOf_lt ho)
        have := Nat.le_trans (Nat.le_max_right _ _) hi
        omega
    refine ⟨?_, fun n => ?_⟩
    · show (if i < s.np then g.J i else (oldOf k.ids i).bind g.J) = none
      rw [if_neg hi', hold]; rfl
    · show (if i < s.np then g.cur i n else (oldOf k.ids i).bind fun o => g.cur o n) = none
      rw [if_neg hi', hold]; rfl
  · obtain ⟨p, h1, rfl⟩ := getH_keep hb
    obtain ⟨c, e1, e2⟩ := (keep_blk hk h1 fun c hc => h.heap.blk p c hc).2 b o ho
    exact hg.perm p c b o e1 e2
  · show (if i < s.np then g.J i else _) = _
    rw [if_pos (by omega)]
    exact hg.J i p hi hp
  · rcases hg.live i hi with ⟨p, hp⟩ | ⟨n, v, hv⟩
    · left; refine ⟨p, ?_⟩
      show (if i < s.np then g.J i else _) = _
      rw [if_pos (by omega)]; exact hp
    · right; refine ⟨n, v, ?_⟩
      show (if i < s.np then g.cur i n else _) = _
      rw [if_pos (by omega)]; exact hv
  · obtain ⟨o, h1, h2⟩ := getH_keep hb
    have ho := (oldOf_mem hk h1).2 (by omega)
    subst ho
    unfold renBlk at h2
    split at h2
    · rename_i t x toks heq
      split at h2
      · simp only [Blk.cells.injEq] at h2
        obtain ⟨rfl, _⟩ := h2
        exact hg.ty o u x toks hi heq
      · cases h2
    · cases h2
    · split at h2 <;> cases h2
    · cases h2

/-- Forgetting is always right. -/
theorem keep_ok {A : Nat → Nat → Prop} {L : List Blk} {g0 g : Gh} {w0 w : World} {s : St} {a : Act} (h : Rel g w s a) (hg : Good A L g0 w0 g w s.H) (hnp : s.np = L.length) (k : Keep) :
    ∃ g', Rel g' w (s.keep k) a ∧ Good A L g0 w0 g' w (s.keep k).H ∧ (s.keep k).np = L.length ∧ (s.keep k).N = s.N := by
  unfold St.keep
  cases hk : keepOk s.np k.ids with
  | false =>
    refine ⟨g, ⟨fun t => ⟨trivial, trivial⟩, ⟨(fun i b h => by cases h), (fun i j bi bj b o _ h => by cases h), h.heap.sl⟩, h.size, h.nb, h.def_, h.np⟩, ⟨hg.shut, hg.fr, (fun i blk b o h => by cases h), hg.J, hg.live, (fun i u y us _ h => by cases h)⟩, hnp, rfl⟩
  | true =>
    have := keep_okT h hg hnp k hk
    unfold St.keep at this
    rw [hk] at this
    exact ⟨_, this⟩

end Go.Proofs.Ytfcibaiiobihnaa.Vc
