/- WHAT A CALLEE IS HANDED. -/
import Derived.Test.YtfcibaiiobihnaaVcK
namespace Go.Proofs.Ytfcibaiiobihnaa.Vc
open Go.RowKit
set_option linter.unusedSectionVars false

def canJ (g : Gh) : Option Whence → Option (Nat × Nat)
  | some (.box i _ _ _ o) => (g.J i).map fun p => (p.1, p.2 + o)
  | _ => none

def canCur (g : Gh) : Option Whence → Nat → Option Value
  | some (.tok k), n => g.cur k n
  | _, _ => none

/-- The callee's choice of places, by the caller's. -/
def canGh (g : Gh) (ws : List Whence) : Gh := ⟨g.S, fun c => canJ g ws[c]?, fun c n => canCur g ws[c]? n⟩

def WOk (H : Heap) (ws : List Whence) : Whence → Blk → Prop
  | .box i u x toks o, .cells t y ts => getH H i = some (.cells u x toks) ∧ getAt t u x o = some y ∧ t.pure = true ∧ ∀ q n, (q, n) ∈ ts → ∃ k, ws[n]? = some (.tok k) ∧ tokAt toks (o + q) = some k ∧ q < t.cells
  | .tok k, .grow e c m => getH H k = some (.grow e c m)
  | _, _ => False

structure Matched (H : Heap) (ws : List Whence) (L : List Blk) : Prop where
  len : ws.length = L.length
  ok : ∀ (c : Nat) wh b, ws[c]? = some wh → L[c]? = some b → WOk H ws wh b
  nodup : (wsIds ws).Nodup

theorem wsIds_get : ∀ (ws : List Whence) (c : Nat), (wsIds ws)[c]? = (ws[c]?).map Whence.id
  | [], c => by simp [wsIds]
  | w :: ws, 0 => rfl
  | w :: ws, c + 1 => by simpa [wsIds] using wsIds_get ws c

theorem wsIds_length : ∀ ws : List Whence, (wsIds ws).length = ws.length
  | [] => rfl
  | w :: ws => by simp [wsIds, wsIds_length ws]

theorem wsIds_append : ∀ ws ws' : List Whence, wsIds (ws ++ ws') = wsIds ws ++ wsIds ws'
  | [], _ => rfl
  | w :: ws, ws' => by simp [wsIds, wsIds_append ws ws']

theorem memN_iff : ∀ {i : Nat} {l : List Nat}, memN i l = true ↔ i ∈ l
  | i, [] => by simp [memN]
  | i, j :: r => by
    simp only [memN, List.mem_cons]
    by_cases h : i = j
    · simp [h]
    · rw [if_neg h, memN_iff]; simp [h]

theorem id_inj {ws : List Whence} (h : (wsIds ws).Nodup) {c c' : Nat} {x y : Whence} (hx : ws[c]? = some x) (hy : ws[c']? = some y) (he : x.id = y.id) : c = c' := by
  have h1 : (wsIds ws)[c]? = some x.id := by rw [wsIds_get, hx]; rfl
  have h2 : (wsIds ws)[c']? = some x.id := by rw [wsIds_get, hy, he]; rfl
  obtain ⟨l1, e1⟩ := List.getElem?_eq_some_iff.1 h1
  obtain ⟨l2, e2⟩ := List.getElem?_eq_some_iff.1 h2
  have hp := List.pairwise_iff_getElem.1 h
  rcases Nat.lt_trichotomy c c' with h3 | h3 | h3
  · exact absurd (e1.trans e2.symm) (hp c c' l1 l2 h3)
  · exact h3
  · exact absurd (e2.trans e1.symm) (hp c' c l2 l1 h3)

theorem mem_of_tokAt : ∀ {toks : List (Nat × Nat)} {q k : Nat}, tokAt toks q = some k → (q, k) ∈ toks
  | [], _, _, h => by simp [tokAt] at h
  | (q', k') :: r, q, k, h => by
    simp only [tokAt] at h
    split at h
    · rename_i e
      subst e
      simp only [Option.some.injEq] at h
      subst h
      simp
    · exact List.mem_cons_of_mem _ (mem_of_tokAt h)

theorem getAt_sub {v t : Ty} : ∀ {u : Ty} {x : u.den} {o q : Nat} {y : t.den} {l : (Ty.list v).den}, getAt t u x o = some y → getAt (.list v) u x (o + q) = some l → q < t.cells → getAt (.list v) t y q = some l := by
  intro u
  induction u with
  | pair a b iha ihb =>
    intro x o q y l h g hq
    by_cases hu : o = 0 ∧ t = .pair a b
    · obtain ⟨rfl, rfl⟩ := hu
      unfold getAt at h
      rw [dif_pos rfl] at h
      simp only [castD, Option.some.injEq] at h
      subst h
      simpa using g
    · have keyh : (if o < a.cells then getAt t a x.1 o else getAt t b x.2 (o - a.cells)) = some y := by
        cases o with
        | zero =>
          unfold getAt at h
          rw [dif_neg (fun e => hu ⟨rfl, e.symm⟩)] at h
          simpa using h
        | succ o => simpa [getAt] using h
      have keyg : ∀ z, getAt (.list v) (.pair a b) x z = (if z < a.cells then getAt (.list v) a x.1 z else getAt (.list v) b x.2 (z - a.cells)) := by
        intro z
        cases z with
        | zero =>
          conv => lhs; unfold getAt
          rw [dif_neg (by intro e; cases e), Nat.zero_sub]
        | succ z => simp [getAt]
      rw [keyg] at g
      by_cases ho : o < a.cells
      · rw [if_pos ho] at keyh
        have hfit : o + t.cells ≤ a.cells := by
          have : ∀ {u : Ty} {x : u.den} {o : Nat} {y : t.den}, getAt t u x o = some y → o + t.cells ≤ u.cells := by
            intro u
            induction u with
            | pair a b iha ihb =>
              intro x o y h
              have key : ∀ o, (if o < a.cells then getAt t a x.1 o else getAt t b x.2 (o - a.cells)) = some y → o + t.cells ≤ a.cells + b.cells := by
                intro o h
                by_cases ho : o < a.cells
                · rw [if_pos ho] at h; have := iha h; omega
                · rw [if_neg ho] at h; have := ihb h; omega
              cases o with
              | zero =>
                unfold getAt at h
                split at h
                · rename_i e; subst e; simp
                · exact key 0 (by simpa using h)
              | succ o => exact key (o + 1) (by simpa [getAt] using h)
            | _ =>
              intro x o y h
              cases o with
              | zero =>
                unfold getAt at h
                split at h
                · rename_i e; subst e; simp
                · simp at h
              | succ o => simp [getAt] at h
          exact this keyh
        rw [if_pos (by omega)] at g
        exact iha keyh g hq
      · rw [if_neg ho] at keyh
        rw [if_neg (by omega), show o + q - a.cells = o - a.cells + q from by omega] at g
        exact ihb keyh g hq
  | _ =>
    intro x o q y l h g hq
    cases o with
    | zero =>
      unfold getAt at h
      split at h
      · rename_i e
        subst e
        simp only [castD, Option.some.injEq] at h
        try subst h
        simpa using g
      · simp at h
    | succ o => simp [getAt] at h

/-- The callee's objects are as it may ask. -/
theorem canHeapOk {g : Gh} {w : World} {H : Heap} {ws : List Whence} {L : List Blk} (hH : HeapOk g w H) (hm : Matched H ws L) : HeapOk (canGh g ws) w (enumH 0 L) := by
  have wsL : ∀ c b, getH (enumH 0 L) c = some b → ∃ wh, ws[c]? = some wh ∧ WOk H ws wh b := by
    intro c b h
    rw [getH_enum0] at h
    have hlt : c < ws.length := hm.len ▸ (List.getElem?_eq_some_iff.1 h).1
    exact ⟨ws[c], List.getElem?_eq_getElem hlt, hm.ok c _ b (List.getElem?_eq_getElem hlt) h⟩
  have own : ∀ c b wh, ws[c]? = some wh → WOk H ws wh b → ∀ bb oo, owns (canGh g ws) c b bb oo → ∃ blk, getH H wh.id = some blk ∧ owns g wh.id blk bb oo := by
    intro c b wh hwh hw bb oo ho
    cases wh with
    | box i u x toks off =>
      cases b with
      | cells t y ts =>
        obtain ⟨h1, h2, h3, h4⟩ := hw
        obtain ⟨p, hp, e1, e2, e3⟩ := ho
        have hp' : canJ g ws[c]? = some p := hp
        rw [hwh] at hp'
        obtain ⟨p0, hp0, rfl⟩ := Option.map_eq_some_iff.1 hp'
        obtain ⟨p1, cs, hp1, hR, _⟩ := hH.blk i _ h1
        obtain ⟨c1, c2, c3, hcs, hl, hR2⟩ := getAt_Rd hR h2
        have l1 := Rd_length hR
        have l2 := Rd_length hR2
        rw [hcs] at l1
        simp only [List.length_append] at l1
        exact ⟨_, h1, p0, hp0, e1, by simp at e2; omega, by simp at e3; omega⟩
      | _ => exact hw.elim
    | tok k =>
      cases b with
      | grow e cc m =>
        obtain ⟨v, hv, hb⟩ := ho
        have hv' : canCur g ws[c]? m = some v := hv
        rw [hwh] at hv'
        exact ⟨_, hw, v, hv', hb⟩
      | _ => exact hw.elim
  refine ⟨fun c b h => ?_, fun c c' b b' bb oo hne h1 h2 o1 o2 => ?_, hH.sl⟩
  · obtain ⟨wh, hwh, hw⟩ := wsL c b h
    cases wh with
    | box i u x toks off =>
      cases b with
      | cells t y ts =>
        obtain ⟨h1, h2, h3, h4⟩ := hw
        obtain ⟨p, cs, hp, hR, hra, hth, hns, htk⟩ := hH.blk i _ h1
        obtain ⟨c1, c2, c3, rfl, rfl, hR2⟩ := getAt_Rd hR h2
        have l1 := Rd_length hR
        have l2 := Rd_length hR2
        simp only [List.length_append] at l1
        refine ⟨(p.1, p.2 + c1.length), c2, ?_, Rd_pure (g := g) (g' := canGh g ws) rfl h3 hR2, fun j v hv => ?_, fun j hj => ?_, fun j hj hs => ?_, fun q n hm' => ?_⟩
        · show canJ g ws[c]? = _
          rw [hwh]
          simp [canJ, hp]
        · have := hra (c1.length + j) v (by
            have hj' := (List.getElem?_eq_some_iff.1 hv).1
            rw [List.append_assoc, List.getElem?_append_right (by omega), Nat.add_sub_cancel_left, List.getElem?_append_left hj']; exact hv)
          rw [Nat.add_assoc]; exact this
        · have := hth (c1.length + j) (by omega)
          rw [Nat.add_assoc]; exact this
        · exact hns (c1.length + j) (by omega) (by rw [← Nat.add_assoc]; exact hs)
        · obtain ⟨k, k1, k2, k3⟩ := h4 q n hm'
          have hmem : (c1.length + q, k) ∈ toks := mem_of_tokAt k2
          obtain ⟨u', l, v, g1, g2, g3⟩ := htk _ _ hmem
          refine ⟨u', l, v, getAt_sub h2 g1 k3, ?_, ?_⟩
          · rw [List.append_assoc, List.getElem?_append_right (by omega), Nat.add_sub_cancel_left, List.getElem?_append_left (by omega)] at g2
            exact g2
          · show canCur g ws[n]? _ = _
            rw [k1]
            exact g3
      | _ => exact hw.elim
    | tok k =>
      cases b with
      | grow e cc m =>
        have e1 : (canGh g ws).cur c = g.cur k := by
          funext n
          show canCur g ws[c]? n = _
          rw [hwh]; rfl
        obtain ⟨v, xs, hv, hr, hn, hs⟩ := hH.blk k _ hw
        exact ⟨v, xs, by rw [e1]; exact hv, hr, fun m hm' => by rw [e1]; exact hn m hm', hs⟩
      | _ => exact hw.elim
  · obtain ⟨wh, hwh, hw⟩ := wsL c b h1
    obtain ⟨wh', hwh', hw'⟩ := wsL c' b' h2
    obtain ⟨k1, g1, p1⟩ := own c b wh hwh hw bb oo o1
    obtain ⟨k2, g2, p2⟩ := own c' b' wh' hwh' hw' bb oo o2
    exact hH.dis wh.id wh'.id k1 k2 bb oo (fun e => hne (id_inj hm.nodup hwh hwh' e)) g1 g2 p1 p2

end Go.Proofs.Ytfcibaiiobihnaa.Vc
