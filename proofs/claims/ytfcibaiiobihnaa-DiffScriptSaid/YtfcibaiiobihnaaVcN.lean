/- THE WAY BACK. -/
import Derived.Test.YtfcibaiiobihnaaVcM
namespace Go.Proofs.Ytfcibaiiobihnaa.Vc
open Go.RowKit
set_option linter.unusedSectionVars false

theorem wsAt_get : ∀ (W : List Whence) (c : Nat), wsAt W c = W[c]?
  | [], c => by simp [wsAt]
  | _ :: _, 0 => rfl
  | _ :: W, c + 1 => by simpa [wsAt] using wsAt_get W c

theorem lenB_length : ∀ L : List Blk, lenB L = L.length
  | [] => rfl
  | _ :: L => by simp [lenB, lenB_length L]

theorem revL_eq {α : Type} : ∀ (l acc : List α), revL l acc = l.reverse ++ acc
  | [], _ => rfl
  | x :: l, acc => by simp [revL, revL_eq l]

theorem consO_some {a : Option (Nat × Blk)} {b : Option (List (Nat × Blk))} {l : List (Nat × Blk)} (h : consO a b = some l) : ∃ q r, a = some q ∧ b = some r ∧ l = q :: r := by
  cases a <;> cases b <;> simp [consO] at h
  exact ⟨_, _, rfl, rfl, h.symm⟩

/-- What stands behind an id. -/
def BackAt (base n : Nat) (W ws : List Whence) (R : List Blk) (c0 : Nat) (id : Nat) (b : Blk) : Prop :=
  (∃ (c : Nat) (i : Nat) (u : Ty) (x : u.den) (toks : List (Nat × Nat)) (o : Nat) (b0 : Blk), ws[c]? = some (.box i u x toks o) ∧ id = i ∧ R[c]? = some b0 ∧ backBox base n i o W u x toks b0 = some (i, b)) ∨
  (∃ (c k : Nat), ws[c]? = some (.tok k) ∧ id = k ∧ b = .dead) ∨
  (∃ (c : Nat) (b0 : Blk), R[c]? = some b0 ∧ id = base + (c0 + c) ∧ (∀ i u x toks o, ws[c]? ≠ some (.box i u x toks o)) ∧ backNew base n (c0 + c) W b0 = some (id, b))

theorem BackAt.succ {base n : Nat} {W : List Whence} {wh : Whence} {ws : List Whence} {b0 : Blk} {R : List Blk} {c0 id : Nat} {b : Blk} (h : BackAt base n W ws R (c0 + 1) id b) : BackAt base n W (wh :: ws) (b0 :: R) c0 id b := by
  rcases h with ⟨c, i, u, x, toks, o, b1, h1, h2, h3, h4⟩ | ⟨c, k, h1, h2, h3⟩ | ⟨c, b1, h1, h2, h3, h4⟩
  · exact .inl ⟨c + 1, i, u, x, toks, o, b1, by simpa using h1, h2, by simpa using h3, h4⟩
  · exact .inr (.inl ⟨c + 1, k, by simpa using h1, h2, h3⟩)
  · exact .inr (.inr ⟨c + 1, b1, by simpa using h1, by rw [h2]; omega, fun i u x toks o => by simpa using h3 i u x toks o, by rw [show c0 + (c + 1) = c0 + 1 + c from by omega]; exact h4⟩)

theorem BackAt.succ0 {base n : Nat} {W : List Whence} {b0 : Blk} {R : List Blk} {c0 id : Nat} {b : Blk} (h : BackAt base n W [] R (c0 + 1) id b) : BackAt base n W [] (b0 :: R) c0 id b := by
  rcases h with ⟨c, i, u, x, toks, o, b1, h1, _⟩ | ⟨c, k, h1, _⟩ | ⟨c, b1, h1, h2, h3, h4⟩
  · simp at h1
  · simp at h1
  · exact .inr (.inr ⟨c + 1, b1, by simpa using h1, by rw [h2]; omega, fun i u x toks o => by simp, by rw [show c0 + (c + 1) = c0 + 1 + c from by omega]; exact h4⟩)

theorem backNew_id {base n c : Nat} {W : List Whence} {b : Blk} {q : Nat × Blk} (h : backNew base n c W b = some q) : q.1 = base + c := by
  cases b <;> simp only [backNew] at h
  · split at h
    · exact (Option.some.inj h) ▸ rfl
    · cases h
  · exact (Option.some.inj h) ▸ rfl
  · split at h
    · exact (Option.some.inj h) ▸ rfl
    · cases h
  · exact (Option.some.inj h) ▸ rfl

theorem backBox_id {base n i o : Nat} {W : List Whence} {u : Ty} {x : u.den} {toks : List (Nat × Nat)} {b : Blk} {q : Nat × Blk} (h : backBox base n i o W u x toks b = some q) : q.1 = i := by
  cases b with
  | cells t y ts =>
    simp only [backBox] at h
    cases hs : setAt t y u x o with
    | none => rw [hs] at h; simp [backCells] at h
    | some z => rw [hs] at h; simp only [backCells, Option.some.injEq] at h; exact h ▸ rfl
  | grow => simp [backBox] at h
  | row => simp [backBox] at h
  | dead => simp only [backBox, Option.some.injEq] at h; exact h ▸ rfl

theorem backHeap_spec {base n : Nat} {W : List Whence} : ∀ {ws : List Whence} {R : List Blk} {c0 : Nat} {upd : List (Nat × Blk)}, backHeap base n W c0 ws R = some upd →
    ws.length ≤ R.length ∧ (∀ id b, getH upd id = some b → BackAt base n W ws R c0 id b) ∧ (∀ id, id ∈ idsOf upd → ∃ b, getH upd id = some b) ∧
    (∀ (c : Nat) wh, ws[c]? = some wh → wh.id ∈ idsOf upd) ∧ (∀ (c : Nat) b, R[c]? = some b → (∀ i u x toks o, ws[c]? ≠ some (.box i u x toks o)) → base + (c0 + c) ∈ idsOf upd)
  | [], [], _, upd, h => by
    simp only [backHeap, Option.some.injEq] at h
    subst h
    exact ⟨Nat.le_refl _, fun _ _ h => by simp [getH] at h, fun _ h => by simp [idsOf] at h, fun _ _ h => by simp at h, fun _ _ h => by simp at h⟩
  | [], b :: R, c0, upd, h => by
    simp only [backHeap] at h
    obtain ⟨q, r, h1, h2, rfl⟩ := consO_some h
    obtain ⟨k1, k2, k3, k4, k5⟩ := backHeap_spec h2
    have hq := backNew_id h1
    obtain ⟨q1, q2⟩ := q
    simp only at hq
    subst hq
    refine ⟨by simp, fun id b' hg => ?_, fun id hi => ?_, fun c wh hw => by simp at hw, fun c b' hb hn => ?_⟩
    · simp only [getH] at hg
      split at hg
      · rename_i e
        obtain rfl := Option.some.inj hg
        subst e
        exact .inr (.inr ⟨0, b, rfl, rfl, fun _ _ _ _ _ => by simp, h1⟩)
      · exact (k2 id b' hg).succ0
    · simp only [getH]
      by_cases e : base + c0 = id
      · rw [if_pos e]; exact ⟨_, rfl⟩
      · rw [if_neg e]
        simp only [idsOf, List.mem_cons] at hi
        exact k3 id (hi.resolve_left (Ne.symm e))
    · cases c with
      | zero => simp [idsOf]
      | succ c =>
        have := k5 c b' (by simpa using hb) (fun _ _ _ _ _ => by simp)
        simp only [idsOf, List.mem_cons]
        right
        rw [show base + (c0 + (c + 1)) = base + (c0 + 1 + c) from by omega]
        exact this
  | .box i u x toks o :: ws, [], c0, upd, h => by simp [backHeap] at h
  | .tok k :: ws, [], c0, upd, h => by simp [backHeap] at h
  | .box i u x toks o :: ws, b :: R, c0, upd, h => by
    simp only [backHeap] at h
    obtain ⟨q, r, h1, h2, rfl⟩ := consO_some h
    obtain ⟨k1, k2, k3, k4, k5⟩ := backHeap_spec h2
    have hq := backBox_id h1
    obtain ⟨q1, q2⟩ := q
    simp only at hq
    subst hq
    refine ⟨by simp; omega, fun id b' hg => ?_, fun id hi => ?_, fun c wh hw => ?_, fun c b' hb hn => ?_⟩
    · simp only [getH] at hg
      split at hg
      · rename_i e
        obtain rfl := Option.some.inj hg
        subst e
        exact .inl ⟨0, q1, u, x, toks, o, b, rfl, rfl, rfl, h1⟩
      · exact (k2 id b' hg).succ
    · simp only [getH]
      by_cases e : q1 = id
      · rw [if_pos e]; exact ⟨_, rfl⟩
      · rw [if_neg e]
        simp only [idsOf, List.mem_cons] at hi
        exact k3 id (hi.resolve_left (Ne.symm e))
    · cases c with
      | zero => simp only [List.getElem?_cons_zero, Option.some.injEq] at hw; subst hw; simp [idsOf, Whence.id]
      | succ c => simp only [idsOf, List.mem_cons]; exact .inr (k4 c wh (by simpa using hw))
    · cases c with
      | zero => exact absurd rfl (hn q1 u x toks o)
      | succ c =>
        have := k5 c b' (by simpa using hb) (fun i u x toks o => by simpa using hn i u x toks o)
        simp only [idsOf, List.mem_cons]
        right
        rw [show base + (c0 + (c + 1)) = base + (c0 + 1 + c) from by omega]
        exact this
  | .tok k :: ws, b :: R, c0, upd, h => by
    simp only [backHeap] at h
    obtain ⟨q, r, h1, h2, rfl⟩ := consO_some h
    obtain ⟨q', r', h3, h4, rfl⟩ := consO_some h2
    obtain ⟨k1, k2, k3, k4, k5⟩ := backHeap_spec h4
    obtain rfl := Option.some.inj h1
    have hq := backNew_id h3
    obtain ⟨q1, q2⟩ := q'
    simp only at hq
    subst hq
    refine ⟨by simp; omega, fun id b' hg => ?_, fun id hi => ?_, fun c wh hw => ?_, fun c b' hb hn => ?_⟩
    · simp only [getH] at hg
      split at hg
      · rename_i e
        obtain rfl := Option.some.inj hg
        subst e
        exact .inr (.inl ⟨0, k, rfl, rfl, rfl⟩)
      · split at hg
        · rename_i e
          obtain rfl := Option.some.inj hg
          subst e
          exact .inr (.inr ⟨0, b, rfl, rfl, fun _ _ _ _ _ => by simp, h3⟩)
        · exact (k2 id b' hg).succ
    · simp only [getH]
      by_cases e : k = id
      · rw [if_pos e]; exact ⟨_, rfl⟩
      · rw [if_neg e]
        by_cases e2 : base + c0 = id
        · rw [if_pos e2]; exact ⟨_, rfl⟩
        · rw [if_neg e2]
          simp only [idsOf, List.mem_cons] at hi
          exact k3 id ((hi.resolve_left (Ne.symm e)).resolve_left (Ne.symm e2))
    · cases c with
      | zero => simp only [List.getElem?_cons_zero, Option.some.injEq] at hw; subst hw; simp [idsOf, Whence.id]
      | succ c => simp only [idsOf, List.mem_cons]; exact .inr (.inr (k4 c wh (by simpa using hw)))
    · cases c with
      | zero => simp [idsOf]
      | succ c =>
        have := k5 c b' (by simpa using hb) (fun i u x toks o => by simpa using hn i u x toks o)
        simp only [idsOf, List.mem_cons]
        right; right
        rw [show base + (c0 + (c + 1)) = base + (c0 + 1 + c) from by omega]
        exact this

/-- The caller's choice of places after a call. -/
def backGh (g g' : Gh) (base : Nat) (ids : List Nat) : Gh :=
  ⟨g'.S, fun i => if base ≤ i ∧ i ∈ ids then g'.J (i - base) else g.J i, fun i => if base ≤ i ∧ i ∈ ids then g'.cur (i - base) else g.cur i⟩


theorem isNew_iff {n c : Nat} {wh : Option Whence} : isNew n c wh = true ↔ c < n ∧ ∀ i u x toks o, wh ≠ some (.box i u x toks o) := by
  cases wh with
  | none => simp [isNew]
  | some wh => cases wh <;> simp [isNew]

theorem Fr.mono {A B : Nat → Nat → Prop} {w w' : World} {S S' : Nat → Nat → Prop} (h : Fr A w w' S S') (hAB : ∀ b o, A b o → B b o) : Fr B w w' S S' :=
  ⟨h.os, h.tape, h.output, h.size, fun b hb hn => h.blk b hb (fun o ho => hn o (hAB b o ho)), fun b o hb hn => h.cell b o hb (fun ho => hn (hAB b o ho)), fun b o hs => (h.new b o hs).imp id (Or.imp id (hAB b o))⟩

theorem mem_backToks {base n : Nat} {W : List Whence} {o : Nat} : ∀ {ts : List (Nat × Nat)} {q k : Nat}, (q, k) ∈ backToks base n W o ts → ∃ q' c, (q', c) ∈ ts ∧ isNew n c (wsAt W c) = true ∧ q = o + q' ∧ k = base + c
  | [], _, _, h => by simp [backToks] at h
  | (q', c) :: r, q, k, h => by
    simp only [backToks] at h
    split at h
    · rename_i hn
      rcases List.mem_cons.1 h with h | h
      · simp only [Prod.mk.injEq] at h
        exact ⟨q', c, by simp, hn, h.1, h.2⟩
      · obtain ⟨a, b, h1, h2⟩ := mem_backToks h
        exact ⟨a, b, List.mem_cons_of_mem _ h1, h2⟩
    · obtain ⟨a, b, h1, h2⟩ := mem_backToks h
      exact ⟨a, b, List.mem_cons_of_mem _ h1, h2⟩

theorem mem_app {α : Type} {x : α} : ∀ {l m : List α}, x ∈ app l m ↔ x ∈ l ∨ x ∈ m
  | [], m => by simp [app]
  | y :: l, m => by simp [app, mem_app (l := l), or_assoc]

theorem tokCut_mem' : ∀ {toks : List (Nat × Nat)} {off n q k : Nat}, (q, k) ∈ tokCut toks off n → (q, k) ∈ toks ∧ ¬ (off ≤ q ∧ q < off + n)
  | [], _, _, _, _, h => by simp [tokCut] at h
  | (q', k') :: r, off, n, q, k, h => by
    simp only [tokCut] at h
    split at h
    · obtain ⟨h1, h2⟩ := tokCut_mem' h
      exact ⟨List.mem_cons_of_mem _ h1, h2⟩
    · rename_i hn
      rcases List.mem_cons.1 h with h | h
      · cases h
        exact ⟨by simp, hn⟩
      · obtain ⟨h1, h2⟩ := tokCut_mem' h
        exact ⟨List.mem_cons_of_mem _ h1, h2⟩

/-- A part of a part that has been set. -/
theorem getAt_set_in {v t : Ty} {y : t.den} : ∀ {u : Ty} {x z : u.den} {o q : Nat} {l : (Ty.list v).den}, setAt t y u x o = some z → getAt (.list v) t y q = some l → q < t.cells → getAt (.list v) u z (o + q) = some l := by
  intro u
  induction u with
  | pair a b iha ihb =>
    intro x z o q l h g hq
    by_cases hu : o = 0 ∧ t = .pair a b
    · obtain ⟨rfl, rfl⟩ := hu
      unfold setAt at h
      rw [dif_pos rfl] at h
      simp only [castD, Option.some.injEq] at h
      subst h
      simpa using g
    · have keyh : (if o < a.cells then (setAt t y a x.1 o).map (fun q => (q, x.2)) else (setAt t y b x.2 (o - a.cells)).map (fun q => (x.1, q))) = some z := by
        cases o with
        | zero =>
          unfold setAt at h
          rw [dif_neg (fun e => hu ⟨rfl, e⟩)] at h
          simpa using h
        | succ o => simpa [setAt] using h
      have keyg : ∀ m, getAt (.list v) (.pair a b) z m = (if m < a.cells then getAt (.list v) a z.1 m else getAt (.list v) b z.2 (m - a.cells)) := by
        intro m
        cases m with
        | zero =>
          conv => lhs; unfold getAt
          rw [dif_neg (by intro e; cases e), Nat.zero_sub]
        | succ m => simp [getAt]
      rw [keyg]
      by_cases ho : o < a.cells
      · rw [if_pos ho] at keyh
        obtain ⟨z', hz', rfl⟩ := Option.map_eq_some_iff.1 keyh
        have hfit : o + t.cells ≤ a.cells := by
          have : ∀ {u : Ty} {x z : u.den} {o : Nat}, setAt t y u x o = some z → o + t.cells ≤ u.cells := by
            intro u
            induction u with
            | pair a b iha ihb =>
              intro x z o h
              have key : ∀ o, (if o < a.cells then (setAt t y a x.1 o).map (fun q => (q, x.2)) else (setAt t y b x.2 (o - a.cells)).map (fun q => (x.1, q))) = some z → o + t.cells ≤ a.cells + b.cells := by
                intro o h
                by_cases ho : o < a.cells
                · rw [if_pos ho] at h; obtain ⟨z', hz', _⟩ := Option.map_eq_some_iff.1 h; have := iha hz'; omega
                · rw [if_neg ho] at h; obtain ⟨z', hz', _⟩ := Option.map_eq_some_iff.1 h; have := ihb hz'; omega
              cases o with
              | zero =>
                unfold setAt at h
                split at h
                · rename_i e; subst e; simp
                · exact key 0 (by simpa using h)
              | succ o => exact key (o + 1) (by simpa [setAt] using h)
            | _ =>
              intro x z o h
              cases o with
              | zero =>
                unfold setAt at h
                split at h
                · rename_i e; subst e; simp
                · simp at h
              | succ o => simp [setAt] at h
          exact this hz'
        rw [if_pos (by omega)]
        exact iha hz' g hq
      · rw [if_neg ho] at keyh
        obtain ⟨z', hz', rfl⟩ := Option.map_eq_some_iff.1 keyh
        rw [if_neg (by omega), show o + q - a.cells = o - a.cells + q from by omega]
        exact ihb hz' g hq
  | _ =>
    intro x z o q l h g hq
    cases o with
    | zero =>
      unfold setAt at h
      split at h
      · rename_i e
        subst e
        simp only [castD, Option.some.injEq] at h
        try subst h
        simpa using g
      · simp at h
    | succ o => simp [setAt] at h

theorem getAt_lt {v : Ty} : ∀ {t : Ty} {x : t.den} {q : Nat} {l : (Ty.list v).den}, getAt (.list v) t x q = some l → q < t.cells := by
  intro t
  induction t with
  | pair s t ihs iht =>
    intro x q l g
    have key : ∀ q, (if q < s.cells then getAt (.list v) s x.1 q else getAt (.list v) t x.2 (q - s.cells)) = some l → q < s.cells + t.cells := by
      intro q g
      by_cases h : q < s.cells
      · omega
      · rw [if_neg h] at g
        have := iht g
        omega
    cases q with
    | zero =>
      unfold getAt at g
      rw [dif_neg (by intro e; cases e)] at g
      exact key 0 (by simpa using g)
    | succ q => exact key (q + 1) (by simpa [getAt] using g)
  | unit =>
    intro x q l g
    cases q with
    | zero => unfold getAt at g; rw [dif_neg (by intro e; cases e)] at g; cases g
    | succ q => simp [getAt] at g
  | _ =>
    intro x q l g
    cases q with
    | zero => simp [Ty.cells]
    | succ q => simp [getAt] at g

section
variable {g g' : Gh} {w w' : World} {H : Heap} {W : List Whence} {L : List Blk} {r : Ret} {v : Value} {base : Nat} {upd : List (Nat × Blk)}
variable (hH : HeapOk g w H) (hm : Matched H W L) (hr : RetOk (canGh g W) w L r g' w' v) (hb : backHeap base r.H.length W 0 W r.H = some upd) (hf : ∀ i, i ∈ idsOf upd → base ≤ i → g.J i = none ∧ ∀ n, g.cur i n = none)
include hH hm hr hb hf

/-- The caller's ids are below the new ones. -/
theorem back_old {c : Nat} {wh : Whence} (hw : W[c]? = some wh) : wh.id ∈ idsOf upd ∧ wh.id < base ∧ ∃ b, L[c]? = some b ∧ WOk H W wh b := by
  have hin := (backHeap_spec hb).2.2.2.1 c wh hw
  have hlt : c < L.length := hm.len ▸ (List.getElem?_eq_some_iff.1 hw).1
  have hok := hm.ok c wh _ hw (List.getElem?_eq_getElem hlt)
  refine ⟨hin, Nat.lt_of_not_le fun hle => ?_, _, List.getElem?_eq_getElem hlt, hok⟩
  have hfr := hf _ hin hle
  cases wh with
  | box i u x toks o =>
    cases hL : L[c] with
    | cells t y ts =>
      rw [hL] at hok
      obtain ⟨p, cs, hp, _⟩ := hH.blk i _ hok.1
      rw [show (Whence.box i u x toks o).id = i from rfl] at hfr
      rw [hfr.1] at hp; cases hp
    | _ => rw [hL] at hok; exact hok.elim
  | tok k =>
    cases hL : L[c] with
    | grow e cc m =>
      rw [hL] at hok
      obtain ⟨v, xs, hv, _⟩ := hH.blk k _ hok
      rw [show (Whence.tok k).id = k from rfl] at hfr
      rw [hfr.2] at hv; cases hv
    | _ => rw [hL] at hok; exact hok.elim

theorem back_new {c : Nat} (hc : c < r.H.length) (hn : ∀ i u x toks o, W[c]? ≠ some (.box i u x toks o)) : base + c ∈ idsOf upd := by
  have := (backHeap_spec hb).2.2.2.2 c _ (List.getElem?_eq_getElem hc) hn
  simpa using this

theorem backGh_new {c : Nat} (hc : c < r.H.length) (hn : ∀ i u x toks o, W[c]? ≠ some (.box i u x toks o)) : (backGh g g' base (idsOf upd)).J (base + c) = g'.J c ∧ (backGh g g' base (idsOf upd)).cur (base + c) = g'.cur c := by
  have hin := back_new hH hm hr hb hf hc hn
  refine ⟨?_, ?_⟩
  · show (if base ≤ base + c ∧ base + c ∈ idsOf upd then _ else _) = _
    rw [if_pos ⟨by omega, hin⟩, Nat.add_sub_cancel_left]
  · show (if base ≤ base + c ∧ base + c ∈ idsOf upd then _ else _) = _
    rw [if_pos ⟨by omega, hin⟩, Nat.add_sub_cancel_left]

theorem backGh_old {i : Nat} (hi : i < base) : (backGh g g' base (idsOf upd)).J i = g.J i ∧ (backGh g g' base (idsOf upd)).cur i = g.cur i := by
  refine ⟨?_, ?_⟩
  · show (if base ≤ i ∧ i ∈ idsOf upd then _ else _) = _
    rw [if_neg (by omega)]
  · show (if base ≤ i ∧ i ∈ idsOf upd then _ else _) = _
    rw [if_neg (by omega)]

theorem back_le : Le g w (backGh g g' base (idsOf upd)) w' := by
  refine ⟨fun b o h => (hr.shut b o h).1, fun b o h => (hr.shut b o h).2, fun i p h => ?_, fun i n u h => ?_⟩
  · show (if base ≤ i ∧ i ∈ idsOf upd then _ else _) = _
    rw [if_neg (fun ⟨h1, h2⟩ => by rw [(hf i h2 h1).1] at h; cases h)]
    exact h
  · show (if base ≤ i ∧ i ∈ idsOf upd then g'.cur (i - base) else g.cur i) n = _
    rw [if_neg (fun ⟨h1, h2⟩ => by rw [(hf i h2 h1).2] at h; cases h)]
    exact h

theorem back_slot {s : Slot} {u : Value} (h : RdS g' w' s u) : RdS (backGh g g' base (idsOf upd)) w' (backSlot base r.H.length W s) u := by
  obtain ⟨d, k⟩ := s
  have tokk : ∀ {t : Ty} (hp : t.pure = true) {x : t.den}, RdS g' w' (.val t x, k) u → RdS (backGh g g' base (idsOf upd)) w' (.val t x, backTok base r.H.length W k) u := by
    intro t hp x h
    cases k with
    | none => exact RdS_pure (g := g') (g' := backGh g g' base (idsOf upd)) (k := none) (k' := none) rfl hp h (fun c e => by cases e) (fun _ => rfl)
    | some c =>
      simp only [backTok]
      by_cases hn : isNew r.H.length c (wsAt W c) = true
      · rw [if_pos hn]
        obtain ⟨h1, h2⟩ := isNew_iff.1 hn
        rw [wsAt_get] at h2
        refine RdS_pure (g := g') (g' := backGh g g' base (idsOf upd)) (k := some c) (k' := some (base + c)) rfl hp h (fun c' e => ?_) (fun e => by cases e)
        cases e
        refine ⟨_, rfl, fun n u hu => ?_⟩
        rw [(backGh_new hH hm hr hb hf h1 h2).2]; exact hu
      · rw [if_neg hn]
        exact RdS_pure (g := g') (g' := backGh g g' base (idsOf upd)) (k := none) (k' := none) rfl hp ⟨h.1, trivial⟩ (fun c e => by cases e) (fun _ => rfl)
  unfold backSlot
  split
  · rename_i c m k' heq
    simp only [Prod.mk.injEq] at heq
    obtain ⟨rfl, rfl⟩ := heq
    simp only [backTok]
    by_cases hn : isNew r.H.length c (wsAt W c) = true
    · rw [if_pos hn]
      obtain ⟨h1, h2⟩ := isNew_iff.1 hn
      rw [wsAt_get] at h2
      obtain ⟨h3, h4⟩ := h.1
      exact ⟨⟨by rw [(backGh_new hH hm hr hb hf h1 h2).2]; exact h3, h4⟩, trivial⟩
    · rw [if_neg hn]
      exact ⟨trivial, trivial⟩
  · rename_i c o k' heq
    simp only [Prod.mk.injEq] at heq
    obtain ⟨rfl, rfl⟩ := heq
    obtain ⟨p, hp, hv⟩ := RdV_ref h.1
    unfold backRef
    split
    · rename_i i uu x toks o' hwh
      rw [wsAt_get] at hwh
      obtain ⟨_, hlt, b, hL, hok⟩ := back_old hH hm hr hb hf hwh
      cases b with
      | cells t y ts =>
        have hJ := hr.J c t y ts hL
        rw [hp] at hJ
        have hJ' : canJ g W[c]? = some p := hJ.symm
        rw [hwh] at hJ'
        obtain ⟨p0, hp0, rfl⟩ := Option.map_eq_some_iff.1 hJ'
        refine ⟨.inr ⟨rfl, p0, by rw [(backGh_old hH hm hr hb hf (i := i) hlt).1]; exact hp0, ?_⟩, trivial⟩
        rw [hv]; simp [Nat.add_assoc]
      | _ => exact hok.elim
    · split
      · rename_i hn
        obtain ⟨h1, h2⟩ := isNew_iff.1 hn
        rw [wsAt_get] at h2
        exact ⟨.inr ⟨rfl, p, by rw [(backGh_new hH hm hr hb hf h1 h2).1]; exact hp, by rw [hv]⟩, trivial⟩
      · exact ⟨trivial, trivial⟩
  · rename_i t x k' hno heq
    simp only [Prod.mk.injEq] at heq
    obtain ⟨rfl, rfl⟩ := heq
    split
    · rename_i hp
      exact tokk hp h
    · exact ⟨trivial, trivial⟩
  · exact ⟨trivial, trivial⟩

end

end Go.Proofs.Ytfcibaiiobihnaa.Vc
