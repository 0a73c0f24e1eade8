/- A CALL's EFFECT. -/
import Derived.Test.YtfcibaiiobihnaaVcN
namespace Go.Proofs.Ytfcibaiiobihnaa.Vc
open Go.RowKit
set_option linter.unusedSectionVars false

theorem can_owns {g : Gh} {w : World} {H : Heap} {W : List Whence} {L : List Blk} (hH : HeapOk g w H) (hm : Matched H W L) {bb oo : Nat} (h : ownsAny (canGh g W) (enumH 0 L) bb oo) :
    ∃ (c : Nat) (wh : Whence) (b blk : Blk), W[c]? = some wh ∧ L[c]? = some b ∧ owns (canGh g W) c b bb oo ∧ getH H wh.id = some blk ∧ owns g wh.id blk bb oo := by
  obtain ⟨c, b, hc, ho⟩ := h
  rw [getH_enum0] at hc
  have hlt : c < W.length := hm.len ▸ (List.getElem?_eq_some_iff.1 hc).1
  have hwh : W[c]? = some W[c] := List.getElem?_eq_getElem hlt
  have hw := hm.ok c _ b hwh hc
  refine ⟨c, W[c], b, ?_⟩
  generalize W[c] = wh at hwh hw
  cases wh with
  | box i u x toks off =>
    cases b with
    | cells t y ts =>
      obtain ⟨h1, h2, h3, h4⟩ := hw
      obtain ⟨p, hp, e1, e2, e3⟩ := ho
      have hp' : canJ g W[c]? = some p := hp
      rw [hwh] at hp'
      obtain ⟨p0, hp0, rfl⟩ := Option.map_eq_some_iff.1 hp'
      obtain ⟨p1, cs, hp1, hR, _⟩ := hH.blk i _ h1
      obtain ⟨c1, c2, c3, hcs, hl, hR2⟩ := getAt_Rd hR h2
      have l1 := Rd_length hR
      have l2 := Rd_length hR2
      rw [hcs] at l1
      simp only [List.length_append] at l1
      exact ⟨_, hwh, hc, ⟨_, hp, e1, e2, e3⟩, h1, p0, hp0, e1, by simp at e2; omega, by simp at e3; omega⟩
    | _ => exact hw.elim
  | tok k =>
    cases b with
    | grow e cc m =>
      obtain ⟨v, hv, hb⟩ := ho
      have hv' : canCur g W[c]? m = some v := hv
      rw [hwh] at hv'
      exact ⟨_, hwh, hc, ⟨v, hv, hb⟩, hw, v, hv', hb⟩
    | _ => exact hw.elim

section
variable {g g' : Gh} {w w' : World} {H : Heap} {W : List Whence} {L : List Blk} {r : Ret} {v : Value} {base : Nat} {upd : List (Nat × Blk)}
variable (hH : HeapOk g w H) (hm : Matched H W L) (hr : RetOk (canGh g W) w L r g' w' v) (hb : backHeap base r.H.length W 0 W r.H = some upd) (hf : ∀ i, i ∈ idsOf upd → base ≤ i → g.J i = none ∧ ∀ n, g.cur i n = none)
include hH hm hr hb hf

theorem back_own {b o : Nat} (h : ownsAny (canGh g W) (enumH 0 L) b o) : ownsIn g H (idsOf upd) b o := by
  obtain ⟨c, wh, b0, blk, h1, h2, h3, h4, h5⟩ := can_owns hH hm h
  exact ⟨wh.id, blk, (back_old hH hm hr hb hf h1).1, h4, h5⟩

theorem back_fr : Fr (ownsIn g H (idsOf upd)) w w' g.S (backGh g g' base (idsOf upd)).S := hr.fr.mono fun _ _ h => back_own hH hm hr hb hf h

theorem getH_upd {id : Nat} {b : Blk} (hi : id ∈ idsOf upd) (hg : getH (app upd H) id = some b) : BackAt base r.H.length W W r.H 0 id b := by
  obtain ⟨_, k2, k3, _⟩ := backHeap_spec hb
  obtain ⟨b', hb'⟩ := k3 id hi
  have : getH (app upd H) id = some b' := by
    have : ∀ {u : List (Nat × Blk)}, getH u id = some b' → getH (app u H) id = some b' := by
      intro u
      induction u with
      | nil => intro h; cases h
      | cons q u ih =>
        intro h
        simp only [app, getH] at h ⊢
        split
        · rename_i e; rw [if_pos e] at h; exact h
        · rename_i e; rw [if_neg e] at h; exact ih h
    exact this hb'
  rw [this] at hg
  obtain rfl := Option.some.inj hg
  exact k2 id b' hb'

/-- A caller's variable: whole, afterwards. -/
theorem back_box {c i o : Nat} {u : Ty} {x : u.den} {toks : List (Nat × Nat)} {b0 b : Blk} (hW : W[c]? = some (.box i u x toks o)) (hR : r.H[c]? = some b0) (hbb : backBox base r.H.length i o W u x toks b0 = some (i, b)) :
    BlkOk (backGh g g' base (idsOf upd)) w' i b ∧ (∀ bb oo, owns (backGh g g' base (idsOf upd)) i b bb oo → owns g i (.cells u x toks) bb oo ∧ getH H i = some (.cells u x toks)) ∧
      ∀ bb oo, owns (backGh g g' base (idsOf upd)) i b bb oo → owns g' c b0 bb oo ∨ (bb < w.heap.size ∧ ¬ ownsAny (canGh g W) (enumH 0 L) bb oo) := by
  obtain ⟨hin, hlt, bL, hL, hok⟩ := back_old hH hm hr hb hf hW
  have hJi := (backGh_old hH hm hr hb hf (i := i) hlt).1
  have hle := back_le hH hm hr hb hf
  cases bL with
  | grow => exact hok.elim
  | row => exact hok.elim
  | dead => exact hok.elim
  | cells tL yL tsL =>
    obtain ⟨h1, h2, h3, h4⟩ := hok
    obtain ⟨p, cs, hp, hRd, hra, hth, hns, htk⟩ := hH.blk i _ h1
    cases b0 with
    | grow => simp [backBox] at hbb
    | row => simp [backBox] at hbb
    | dead =>
      simp only [backBox, Option.some.injEq, Prod.mk.injEq, true_and] at hbb
      subst hbb
      exact ⟨trivial, fun _ _ h => h.elim, fun _ _ h => h.elim⟩
    | cells t y ts =>
      have htt := hr.ty c _ _ _ _ _ _ hL hR
      subst htt
      simp only [backBox] at hbb
      cases hset : setAt t y u x o with
      | none => rw [hset] at hbb; simp [backCells] at hbb
      | some z =>
        rw [hset] at hbb
        simp only [backCells, Option.some.injEq, Prod.mk.injEq, true_and] at hbb
        subst hbb
        have hblk := hr.heap.blk c _ (by rw [getH_enum0]; exact hR)
        obtain ⟨p', cs', hp', hRd', hra', hth', hns', htk'⟩ := hblk
        have hJc := hr.J c _ _ _ hL
        have hpc : g'.J c = some (p.1, p.2 + o) := by
          rw [hJc]
          show canJ g W[c]? = _
          rw [hW]; simp [canJ, hp]
        rw [hpc] at hp'
        obtain rfl := Option.some.inj hp'
        have hRdx : Rd (backGh g g' base (idsOf upd)) w' u x cs := Rd_mono hle hRd
        have hRdy : Rd (backGh g g' base (idsOf upd)) w' t y cs' := Rd_pure (g := g') (g' := backGh g g' base (idsOf upd)) rfl h3 hRd'
        obtain ⟨c1, c2, c3, hcs, hl1, hl2, hz⟩ := setAt_Rd hRdy hRdx hset
        subst hcs
        subst hl1
        have l0 := Rd_length hRd
        have l1 := Rd_length hRd'
        simp only [List.length_append] at l0
        -- which places the callee could not touch
        have hfar : ∀ q, q < u.cells → ¬ (c1.length ≤ q ∧ q < c1.length + t.cells) → ¬ ownsAny (canGh g W) (enumH 0 L) p.1 (p.2 + q) := by
          intro q hq hno hown
          obtain ⟨c', wh', b', blk', k1, k2, k3, k4, k5⟩ := can_owns hH hm hown
          by_cases hcc : c' = c
          · subst hcc
            rw [hW] at k1
            obtain rfl := Option.some.inj k1
            rw [hL] at k2
            obtain rfl := Option.some.inj k2
            obtain ⟨pp, hpp, e1, e2, e3⟩ := k3
            have hpp' : canJ g W[c']? = some pp := hpp
            rw [hW] at hpp'
            simp only [canJ, hp, Option.map_some, Option.some.injEq] at hpp'
            subst hpp'
            simp only at e2 e3
            exact hno ⟨by omega, by omega⟩
          · have hid : wh'.id ≠ i := fun e => hcc (id_inj hm.nodup k1 hW e)
            exact hH.dis wh'.id i blk' _ p.1 (p.2 + q) hid k4 h1 k5 ⟨p, hp, rfl, by omega, by omega⟩
        have hlt' : ∀ q, q < u.cells → p.1 < w.heap.size := fun q hq => owns_lt (hH.blk i _ h1) (b := p.1) (o := p.2 + q) ⟨p, hp, rfl, by omega, by omega⟩
        have hkeep : ∀ q, q < u.cells → ¬ (c1.length ≤ q ∧ q < c1.length + t.cells) → w'.cell? ⟨p.1, p.2 + q, none⟩ = w.cell? ⟨p.1, p.2 + q, none⟩ ∧ w'.frozen? ⟨p.1, p.2 + q, none⟩ = w.frozen? ⟨p.1, p.2 + q, none⟩ := fun q hq hno => hr.fr.cell _ _ (hlt' q hq) (hfar q hq hno)
        refine ⟨⟨p, c1 ++ cs' ++ c3, by rw [hJi]; exact hp, hz, fun q vv hv => ?_, fun q hq => ?_, fun q hq hs => ?_, ?_⟩, fun bb oo ho => ⟨?_, h1⟩, fun bb oo ho => ?_⟩
        · by_cases a1 : q < c1.length
          · rw [(hkeep q (by omega) (by omega)).1]
            refine hra q vv ?_
            rw [List.append_assoc, List.getElem?_append_left a1] at hv ⊢
            exact hv
          · by_cases a2 : q < c1.length + t.cells
            · rw [List.append_assoc, List.getElem?_append_right (by omega), List.getElem?_append_left (by omega)] at hv
              have := hra' (q - c1.length) vv hv
              rwa [show p.2 + c1.length + (q - c1.length) = p.2 + q from by omega] at this
            · rw [List.append_assoc, List.getElem?_append_right (by omega), List.getElem?_append_right (by omega)] at hv
              have hq : q < u.cells := by
                have := (List.getElem?_eq_some_iff.1 hv).1
                omega
              rw [(hkeep q hq (by omega)).1]
              refine hra q vv ?_
              rw [List.append_assoc, List.getElem?_append_right (by omega), List.getElem?_append_right (by omega), hl2]
              rw [l1] at hv
              exact hv
        · by_cases a1 : c1.length ≤ q ∧ q < c1.length + t.cells
          · have := hth' (q - c1.length) (by omega)
            rwa [show p.2 + c1.length + (q - c1.length) = p.2 + q from by omega] at this
          · rw [(hkeep q hq a1).1, (hkeep q hq a1).2]
            exact hth q hq
        · by_cases a1 : c1.length ≤ q ∧ q < c1.length + t.cells
          · exact hns' (q - c1.length) (by omega) (by rw [show (p.1, p.2 + c1.length).2 + (q - c1.length) = p.2 + q from by simp only; omega]; exact hs)
          · rcases hr.fr.new _ _ hs with k | k | k
            · exact hns q hq k
            · have := hlt' q hq; omega
            · exact hfar q hq a1 k
        · intro q kk hmem
          rcases mem_app.1 hmem with hmem | hmem
          · obtain ⟨q', c', k1, k2, rfl, rfl⟩ := mem_backToks hmem
            obtain ⟨hc1, hc2⟩ := isNew_iff.1 k2
            rw [wsAt_get] at hc2
            obtain ⟨u', l, vv, g1, g2, g3⟩ := htk' q' c' k1
            have hq' := getAt_lt g1
            refine ⟨u', l, vv, getAt_set_in hset g1 hq', ?_, ?_⟩
            · rw [List.append_assoc, List.getElem?_append_right (by omega), Nat.add_sub_cancel_left, List.getElem?_append_left (by omega)]
              exact g2
            · rw [(backGh_new hH hm hr hb hf hc1 hc2).2]; exact g3
          · obtain ⟨k1, k2⟩ := tokCut_mem' hmem
            obtain ⟨u', l, vv, g1, g2, g3⟩ := htk q kk k1
            refine ⟨u', l, vv, getAt_setAt_other hH hset g1 k2, ?_, hle.cur _ _ _ g3⟩
            rcases Nat.lt_or_ge q c1.length with a1 | a1
            · rw [List.append_assoc, List.getElem?_append_left a1] at g2 ⊢
              exact g2
            · rw [List.append_assoc, List.getElem?_append_right (by omega), List.getElem?_append_right (by omega)] at g2 ⊢
              rw [l1]
              rw [hl2] at g2
              exact g2
        · obtain ⟨pp, hpp, e1, e2, e3⟩ := ho
          rw [hJi, hp] at hpp
          obtain rfl := Option.some.inj hpp
          exact ⟨p, hp, e1, e2, e3⟩
        · obtain ⟨pp, hpp, e1, e2, e3⟩ := ho
          rw [hJi, hp] at hpp
          obtain rfl := Option.some.inj hpp
          subst e1
          by_cases a1 : c1.length ≤ oo - p.2 ∧ oo - p.2 < c1.length + t.cells
          · exact .inl ⟨_, hpc, rfl, by simp only; omega, by simp only; omega⟩
          · right
            refine ⟨hlt' (oo - p.2) (by omega), ?_⟩
            have := hfar (oo - p.2) (by omega) a1
            rwa [show p.2 + (oo - p.2) = oo from by omega] at this

/-- A new object. -/
theorem back_newBlk {c : Nat} {b0 b : Blk} (hn : ∀ i u x toks o, W[c]? ≠ some (.box i u x toks o)) (hR : r.H[c]? = some b0) (hbn : backNew base r.H.length c W b0 = some (base + c, b)) :
    BlkOk (backGh g g' base (idsOf upd)) w' (base + c) b ∧ ∀ bb oo, owns (backGh g g' base (idsOf upd)) (base + c) b bb oo → owns g' c b0 bb oo := by
  have hc := (List.getElem?_eq_some_iff.1 hR).1
  obtain ⟨hJ, hcur⟩ := backGh_new hH hm hr hb hf hc hn
  have hblk := hr.heap.blk c _ (by rw [getH_enum0]; exact hR)
  cases b0 with
  | dead =>
    simp only [backNew, Option.some.injEq, Prod.mk.injEq, true_and] at hbn
    subst hbn
    exact ⟨trivial, fun _ _ h => h.elim⟩
  | grow e m k =>
    simp only [backNew, Option.some.injEq, Prod.mk.injEq, true_and] at hbn
    subst hbn
    obtain ⟨u, xs, hv, h1, h2, h3⟩ := hblk
    exact ⟨⟨u, xs, by rw [hcur]; exact hv, h1, fun m hm' => by rw [hcur]; exact h2 m hm', h3⟩, fun bb oo ⟨v', hv', hb'⟩ => ⟨v', by rw [hcur] at hv'; exact hv', hb'⟩⟩
  | row e t l n =>
    simp only [backNew] at hbn
    split at hbn
    · rename_i hp
      simp only [Option.some.injEq, Prod.mk.injEq, true_and] at hbn
      subst hbn
      obtain ⟨h0, u, xs, hv, h1, h4, h2, h3⟩ := hblk
      exact ⟨⟨h0, u, xs, by rw [hcur]; exact hv, h1, RdF_mono (fun _ _ h => Rd_pure (g := g') (g' := backGh g g' base (idsOf upd)) rfl hp h) h4, fun m hm' => by rw [hcur]; exact h2 m hm', h3⟩, fun bb oo ⟨v', hv', hb'⟩ => ⟨v', by rw [hcur] at hv'; exact hv', hb'⟩⟩
    · cases hbn
  | cells t y ts =>
    simp only [backNew] at hbn
    split at hbn
    · rename_i hp
      simp only [Option.some.injEq, Prod.mk.injEq, true_and] at hbn
      subst hbn
      obtain ⟨p, cs, hp1, hR1, h1, h2, h3, h4⟩ := hblk
      refine ⟨⟨p, cs, by rw [hJ]; exact hp1, Rd_pure (g := g') (g' := backGh g g' base (idsOf upd)) rfl hp hR1, h1, h2, h3, fun q kk hmem => ?_⟩, fun bb oo ⟨pp, hpp, e⟩ => ⟨pp, by rw [hJ] at hpp; exact hpp, e⟩⟩
      obtain ⟨q', c', k1, k2, rfl, rfl⟩ := mem_backToks hmem
      obtain ⟨hc1, hc2⟩ := isNew_iff.1 k2
      rw [wsAt_get] at hc2
      obtain ⟨u', l, vv, g1, g2, g3⟩ := h4 q' c' k1
      exact ⟨u', l, vv, by rw [Nat.zero_add]; exact g1, by rw [Nat.zero_add]; exact g2, by rw [(backGh_new hH hm hr hb hf hc1 hc2).2]; exact g3⟩
    · cases hbn

theorem back_eff {side : List Prop} {s : Slot} {rds : List Nat} {vv : Value} (hs : RdS (backGh g g' base (idsOf upd)) w' s vv) : EffOk g w H ⟨side, s, upd, rds⟩ (backGh g g' base (idsOf upd)) w' vv := by
  have le := back_le hH hm hr hb hf
  have fr := back_fr hH hm hr hb hf
  have gho : ∀ i, i ∉ idsOf upd → (backGh g g' base (idsOf upd)).J i = g.J i ∧ (backGh g g' base (idsOf upd)).cur i = g.cur i := fun i hi => by
    refine ⟨?_, ?_⟩
    · show (if base ≤ i ∧ i ∈ idsOf upd then _ else _) = _
      rw [if_neg (fun h => hi h.2)]
    · show (if base ≤ i ∧ i ∈ idsOf upd then _ else _) = _
      rw [if_neg (fun h => hi h.2)]
  have perm : ∀ i blk b o, i ∈ idsOf upd → getH (app upd H) i = some blk → owns (backGh g g' base (idsOf upd)) i blk b o → w.heap.size ≤ b ∨ ownsIn g H (idsOf upd) b o := by
    intro i blk b o hi hg ho
    rcases getH_upd hH hm hr hb hf hi hg with ⟨c, i', u, x, toks, off, b0, h1, h2, h3, h4⟩ | ⟨c, k, h1, h2, h3⟩ | ⟨c, b0, h1, h2, h3, h4⟩
    · subst h2
      obtain ⟨_, k2, _⟩ := back_box hH hm hr hb hf h1 h3 h4
      exact .inr ⟨i, _, hi, (k2 b o ho).2, (k2 b o ho).1⟩
    · subst h3; exact ho.elim
    · rw [Nat.zero_add] at h2 h4
      subst h2
      obtain ⟨_, k2⟩ := back_newBlk hH hm hr hb hf h3 h1 h4
      exact (hr.perm c b0 b o h1 (k2 b o ho)).imp id fun h => back_own hH hm hr hb hf h
  refine ⟨le, hs, hH.upd le fr perm gho (fun i blk hi hg => ?_) (fun i j bi bj b o hi hj hij hgi hgj hoi hoj => ?_) (fun b o h => hr.heap.sl b o h), fr, perm, gho, fun i u' y us h => ?_⟩
  · rcases getH_upd hH hm hr hb hf hi hg with ⟨c, i', u, x, toks, off, b0, h1, h2, h3, h4⟩ | ⟨c, k, h1, h2, h3⟩ | ⟨c, b0, h1, h2, h3, h4⟩
    · subst h2; exact (back_box hH hm hr hb hf h1 h3 h4).1
    · subst h3; exact trivial
    · rw [Nat.zero_add] at h2 h4
      subst h2; exact (back_newBlk hH hm hr hb hf h3 h1 h4).1
  · have cls : ∀ {i : Nat} {blk : Blk}, i ∈ idsOf upd → getH (app upd H) i = some blk → owns (backGh g g' base (idsOf upd)) i blk b o →
        (∃ c u x toks off b0, W[c]? = some (.box i u x toks off) ∧ r.H[c]? = some b0 ∧ owns g i (.cells u x toks) b o ∧ getH H i = some (.cells u x toks) ∧ (owns g' c b0 b o ∨ (b < w.heap.size ∧ ¬ ownsAny (canGh g W) (enumH 0 L) b o))) ∨
        (∃ c b0, (∀ i u x toks o, W[c]? ≠ some (.box i u x toks o)) ∧ i = base + c ∧ r.H[c]? = some b0 ∧ owns g' c b0 b o) := by
      intro i blk hi hg ho
      rcases getH_upd hH hm hr hb hf hi hg with ⟨c, i', u, x, toks, off, b0, h1, h2, h3, h4⟩ | ⟨c, k, h1, h2, h3⟩ | ⟨c, b0, h1, h2, h3, h4⟩
      · subst h2
        obtain ⟨_, k2, k3⟩ := back_box hH hm hr hb hf h1 h3 h4
        exact .inl ⟨c, u, x, toks, off, b0, h1, h3, (k2 b o ho).1, (k2 b o ho).2, k3 b o ho⟩
      · subst h3; exact ho.elim
      · rw [Nat.zero_add] at h2 h4
        subst h2
        obtain ⟨_, k2⟩ := back_newBlk hH hm hr hb hf h3 h1 h4
        exact .inr ⟨c, b0, h3, rfl, h1, k2 b o ho⟩
    have cross : ∀ {c c' : Nat} {b0 b1 : Blk}, c ≠ c' → r.H[c]? = some b0 → r.H[c']? = some b1 → owns g' c b0 b o → owns g' c' b1 b o → False := fun hne h1 h2 o1 o2 =>
      hr.heap.dis _ _ _ _ b o hne (by rw [getH_enum0]; exact h1) (by rw [getH_enum0]; exact h2) o1 o2
    rcases cls hi hgi hoi with ⟨c, u, x, toks, off, b0, h1, h2, h3, h4, h5⟩ | ⟨c, b0, h1, h2, h3, h4⟩ <;> rcases cls hj hgj hoj with ⟨c', u', x', toks', off', b0', k1, k2, k3, k4, k5⟩ | ⟨c', b0', k1, k2, k3, k4⟩
    · exact hH.dis i j _ _ b o hij h4 k4 h3 k3
    · rcases h5 with h5 | ⟨h5, h6⟩
      · exact cross (fun e => k1 _ _ _ _ _ (e ▸ h1)) h2 k3 h5 k4
      · rcases hr.perm c' b0' b o k3 k4 with h | h
        · omega
        · exact h6 h
    · rcases k5 with k5 | ⟨k5, k6⟩
      · exact cross (fun e => h1 _ _ _ _ _ (e ▸ k1)) h3 k2 h4 k5
      · rcases hr.perm c b0 b o h3 h4 with h | h
        · omega
        · exact k6 h
    · exact cross (fun e => hij (by rw [h2, k2, e])) h3 k3 h4 k4
  · by_cases hi : i ∈ idsOf upd
    · rcases getH_upd hH hm hr hb hf hi h with ⟨c, i', u, x, toks, off, b0, h1, h2, h3, h4⟩ | ⟨c, k, h1, h2, h3⟩ | ⟨c, b0, h1, h2, h3, h4⟩
      · subst h2
        obtain ⟨_, _, bL, hL, hok⟩ := back_old hH hm hr hb hf h1
        cases b0 with
        | cells t y0 ts =>
          simp only [backBox] at h4
          cases hset : setAt t y0 u x off with
          | none => rw [hset] at h4; simp [backCells] at h4
          | some z =>
            rw [hset] at h4
            simp only [backCells, Option.some.injEq, Prod.mk.injEq, Blk.cells.injEq, true_and] at h4
            obtain ⟨rfl, _⟩ := h4
            cases bL with
            | cells => exact .inl ⟨x, toks, hok.1⟩
            | _ => exact hok.elim
        | grow => simp [backBox] at h4
        | row => simp [backBox] at h4
        | dead => simp [backBox] at h4
      · cases h3
      · rw [Nat.zero_add] at h2
        exact .inr (hf i hi (by omega))
    · exact .inl ⟨y, us, (getH_app hi).symm.trans h⟩

end

end Go.Proofs.Ytfcibaiiobihnaa.Vc
