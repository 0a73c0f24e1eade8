/- HANDING OVER. -/
import Derived.Test.YtfcibaiiobihnaaVcL
namespace Go.Proofs.Ytfcibaiiobihnaa.Vc
open Go.RowKit
set_option linter.unusedSectionVars false

theorem WOk_ext {H : Heap} {ws more : List Whence} : ∀ {wh : Whence} {b : Blk}, WOk H ws wh b → WOk H (ws ++ more) wh b
  | .box _ _ _ _ _, .cells _ _ _, ⟨h1, h2, h3, h4⟩ => ⟨h1, h2, h3, fun q n h => let ⟨k, k1, k2⟩ := h4 q n h; ⟨k, by rw [List.getElem?_append_left (List.getElem?_eq_some_iff.1 k1).1]; exact k1, k2⟩⟩
  | .box _ _ _ _ _, .grow _ _ _, h => h.elim
  | .box _ _ _ _ _, .dead, h => h.elim
  | .box _ _ _ _ _, .row _ _ _ _, h => h.elim
  | .tok _, .row _ _ _ _, h => h.elim
  | .tok _, .grow _ _ _, h => h
  | .tok _, .cells _ _ _, h => h.elim
  | .tok _, .dead, h => h.elim

theorem canGh_ext (g : Gh) (w : World) (ws more : List Whence) : Le (canGh g ws) w (canGh g (ws ++ more)) w := by
  refine ⟨fun _ _ h => h, fun _ _ _ => rfl, fun c p h => ?_, fun c n v h => ?_⟩
  · have h' : canJ g ws[c]? = some p := h
    show canJ g (ws ++ more)[c]? = some p
    cases hc : ws[c]? with
    | none => rw [hc] at h'; cases h'
    | some wh => rw [List.getElem?_append_left (List.getElem?_eq_some_iff.1 hc).1]; exact h'
  · have h' : canCur g ws[c]? n = some v := h
    show canCur g (ws ++ more)[c]? n = some v
    cases hc : ws[c]? with
    | none => rw [hc] at h'; cases h'
    | some wh => rw [List.getElem?_append_left (List.getElem?_eq_some_iff.1 hc).1]; exact h'

theorem ArgsOk_mono {g g' : Gh} {w w' : World} (h : Le g w g' w') : ∀ {ss : List Slot} {vs : List Value}, ArgsOk g w ss vs → ArgsOk g' w' ss vs
  | [], _, r => r
  | _ :: _, _, ⟨v, vs', e, r1, r2⟩ => ⟨v, vs', e, RdS_mono h r1, ArgsOk_mono h r2⟩

theorem ArgsOk_snoc {g : Gh} {w : World} : ∀ {ss : List Slot} {vs : List Value} {s : Slot} {v : Value}, ArgsOk g w ss vs → RdS g w s v → ArgsOk g w (ss ++ [s]) (vs ++ [v])
  | [], _, _, _, h, k => by rw [show _ = [] from h]; exact ⟨_, _, rfl, k, rfl⟩
  | _ :: _, _, _, _, ⟨v, vs', e, r1, r2⟩, k => ⟨v, vs' ++ _, by rw [e]; rfl, r1, ArgsOk_snoc r2 k⟩

theorem Matched.tok {H : Heap} {ws : List Whence} {L : List Blk} (h : Matched H ws L) {k e c m : Nat} (hk : getH H k = some (.grow e c m)) (hn : k ∉ wsIds ws) : Matched H (ws ++ [.tok k]) (L ++ [.grow e c m]) := by
  refine ⟨by simp [h.len], fun i wh b h1 h2 => ?_, ?_⟩
  · by_cases hi : i < ws.length
    · rw [List.getElem?_append_left hi] at h1
      rw [List.getElem?_append_left (h.len ▸ hi)] at h2
      exact WOk_ext (h.ok i wh b h1 h2)
    · rw [List.getElem?_append_right (by omega)] at h1
      rw [List.getElem?_append_right (by rw [← h.len]; omega), ← h.len] at h2
      obtain ⟨d, hd⟩ : ∃ d, i - ws.length = d := ⟨_, rfl⟩
      rw [hd] at h1 h2
      cases d with
      | zero =>
        simp only [List.getElem?_cons_zero, Option.some.injEq] at h1 h2
        subst h1
        subst h2
        exact hk
      | succ d => simp at h1
  · rw [wsIds_append]
    exact List.nodup_append.2 ⟨h.nodup, by simp [wsIds], fun a ha b hb => by
      simp only [wsIds, Whence.id, List.mem_singleton] at hb
      subst hb
      intro e
      exact hn (e ▸ ha)⟩

theorem numToks_mem : ∀ {os : List Nat} {n q m : Nat}, (q, m) ∈ numToks os n → ∃ j : Nat, os[j]? = some q ∧ m = n + j
  | [], _, _, _, h => by simp [numToks] at h
  | q' :: os, n, q, m, h => by
    simp only [numToks, List.mem_cons, Prod.mk.injEq] at h
    rcases h with ⟨rfl, rfl⟩ | h
    · exact ⟨0, rfl, rfl⟩
    · obtain ⟨j, h1, h2⟩ := numToks_mem h
      exact ⟨j + 1, by simpa using h1, by omega⟩

theorem allLt_mem {n : Nat} : ∀ {os : List Nat} {j q : Nat}, allLt n os = true → os[j]? = some q → q < n
  | [], _, _, _, h => by simp at h
  | q' :: os, 0, q, h, h2 => by
    simp only [allLt, Bool.and_eq_true, decide_eq_true_eq] at h
    simp only [List.getElem?_cons_zero, Option.some.injEq] at h2
    exact h2 ▸ h.1
  | q' :: os, j + 1, q, h, h2 => by
    simp only [allLt, Bool.and_eq_true] at h
    exact allLt_mem h.2 (by simpa using h2)

theorem passToks_spec {H : Heap} {toks : List (Nat × Nat)} {o : Nat} : ∀ {os : List Nat} {a a' : Pass}, passToks H toks o os (some a) = some a' →
    ∃ (ks : List Nat) (bs : List Blk), ks.length = os.length ∧ bs.length = os.length ∧ a'.args = a.args ∧ a'.H.reverse = a.H.reverse ++ bs ∧ a'.ws.reverse = a.ws.reverse ++ ks.map Whence.tok ∧ a'.n = a.n + os.length ∧
      (∀ (j : Nat) q k, os[j]? = some q → ks[j]? = some k → tokAt toks (o + q) = some k) ∧ (∀ (j : Nat) k b, ks[j]? = some k → bs[j]? = some b → getH H k = some b ∧ ∃ e c m, b = .grow e c m) ∧ (∀ k ∈ ks, k ∉ wsIds a.ws.reverse) ∧ ks.Nodup
  | [], a, a', h => by
    simp only [passToks, Option.some.injEq] at h
    subst h
    exact ⟨[], [], rfl, rfl, rfl, by simp, by simp, rfl, by simp, by simp, by simp, by simp⟩
  | q :: os, a, a', h => by
    simp only [passToks] at h
    have none_no : ∀ os, passToks H toks o os none = none := by
      intro os
      induction os with
      | nil => rfl
      | cons q os ih =>
        have : passTok H (tokAt toks (o + q)) none = none := by
          cases tokAt toks (o + q) with
          | none => rfl
          | some k => simp only [passTok]; cases getH H k with
            | none => rfl
            | some b => cases b <;> rfl
        simp only [passToks, this, ih]
    cases hk : tokAt toks (o + q) with
    | none => rw [hk] at h; simp only [passTok, none_no] at h; cases h
    | some k =>
      rw [hk] at h
      simp only [passTok] at h
      cases hb : getH H k with
      | none => rw [hb] at h; simp only [passTok2, none_no] at h; cases h
      | some b =>
        rw [hb] at h
        cases b with
        | grow e c m =>
          simp only [passTok2] at h
          by_cases hm : memN k (wsIds a.ws) = true
          · rw [if_pos hm, none_no] at h; cases h
          · rw [if_neg hm] at h
            obtain ⟨ks, bs, h1, h2, h3, h4, h5, h6, h7, h8, h9, h10⟩ := passToks_spec h
            simp only [List.reverse_cons] at h4 h5 h9
            have hrev : ∀ ws : List Whence, ∀ i, i ∈ wsIds ws.reverse ↔ i ∈ wsIds ws := by
              intro ws i
              induction ws with
              | nil => simp
              | cons x r ih => rw [List.reverse_cons, wsIds_append]; simp [wsIds, ih, or_comm]
            refine ⟨k :: ks, .grow e c m :: bs, by simp [h1], by simp [h2], h3, by rw [h4]; simp, by rw [h5]; simp, by rw [h6]; simp; omega, fun j q' k' => ?_, fun j k' b' => ?_, fun k' hk' => ?_, ?_⟩
            · cases j with
              | zero => intro e1 e2; simp only [List.getElem?_cons_zero, Option.some.injEq] at e1 e2; subst e1; subst e2; exact hk
              | succ j => intro e1 e2; exact h7 j q' k' (by simpa using e1) (by simpa using e2)
            · cases j with
              | zero => intro e1 e2; simp only [List.getElem?_cons_zero, Option.some.injEq] at e1 e2; subst e1; subst e2; exact ⟨hb, _, _, _, rfl⟩
              | succ j => intro e1 e2; exact h8 j k' b' (by simpa using e1) (by simpa using e2)
            · rcases List.mem_cons.1 hk' with rfl | hk'
              · rw [hrev]; exact fun hmem => hm (memN_iff.2 hmem)
              · intro hmem
                exact h9 k' hk' (by rw [wsIds_append]; exact List.mem_append_left _ hmem)
            · refine List.nodup_cons.2 ⟨fun hmem => h9 k hmem (by rw [wsIds_append]; simp [wsIds, Whence.id]), h10⟩
        | cells t y ts => simp only [passTok2, none_no] at h; cases h
        | row => simp only [passTok2, none_no] at h; cases h
        | dead => simp only [passTok2, none_no] at h; cases h

theorem wsIds_toks : ∀ ks : List Nat, wsIds (ks.map Whence.tok) = ks
  | [] => rfl
  | k :: ks => by simp [wsIds, Whence.id, wsIds_toks ks]

theorem Matched.box {H : Heap} {ws : List Whence} {L : List Blk} (h : Matched H ws L) {t u : Ty} {x : u.den} {y : t.den} {toks : List (Nat × Nat)} {i o : Nat} {os ks : List Nat} {bs : List Blk} (hi : getH H i = some (.cells u x toks)) (hy : getAt t u x o = some y) (hp : t.pure = true) (hlt : allLt t.cells os = true) (hn : i ∉ wsIds ws)
    (h1 : ks.length = os.length) (h2 : bs.length = os.length) (h7 : ∀ (j : Nat) q k, os[j]? = some q → ks[j]? = some k → tokAt toks (o + q) = some k) (h8 : ∀ (j : Nat) k b, ks[j]? = some k → bs[j]? = some b → getH H k = some b ∧ ∃ e c m, b = .grow e c m) (h9 : ∀ k ∈ ks, k ∉ wsIds (ws ++ [.box i u x toks o])) (h10 : ks.Nodup) :
    Matched H ((ws ++ [.box i u x toks o]) ++ ks.map Whence.tok) ((L ++ [.cells t y (numToks os (ws.length + 1))]) ++ bs) := by
  have hlen1 : (ws ++ [Whence.box i u x toks o]).length = ws.length + 1 := by simp
  have hlen2 : (L ++ [Blk.cells t y (numToks os (ws.length + 1))]).length = ws.length + 1 := by simp [h.len]
  refine ⟨by simp [h.len, h1, h2], fun c wh b e1 e2 => ?_, ?_⟩
  · by_cases hc : c < ws.length
    · rw [List.getElem?_append_left (by omega), List.getElem?_append_left hc] at e1
      rw [List.getElem?_append_left (by omega), List.getElem?_append_left (h.len ▸ hc)] at e2
      rw [List.append_assoc]
      exact WOk_ext (h.ok c wh b e1 e2)
    · by_cases hc2 : c = ws.length
      · subst hc2
        rw [List.getElem?_append_left (by omega), List.getElem?_append_right (Nat.le_refl _), Nat.sub_self] at e1
        rw [List.getElem?_append_left (by omega), List.getElem?_append_right (by rw [h.len]; exact Nat.le_refl _), h.len, Nat.sub_self] at e2
        simp only [List.getElem?_cons_zero, Option.some.injEq] at e1 e2
        subst e1
        subst e2
        refine ⟨hi, hy, hp, fun q n hm => ?_⟩
        rw [← h.len] at hm
        obtain ⟨j, hj, rfl⟩ := numToks_mem hm
        have hjl : j < ks.length := by rw [h1]; exact (List.getElem?_eq_some_iff.1 hj).1
        refine ⟨ks[j], ?_, h7 j q _ hj (List.getElem?_eq_getElem hjl), allLt_mem hlt hj⟩
        rw [List.getElem?_append_right (by omega), hlen1, show ws.length + 1 + j - (ws.length + 1) = j from by omega]
        simp [hjl]
      · rw [List.getElem?_append_right (by omega), hlen1] at e1
        rw [List.getElem?_append_right (by omega), hlen2] at e2
        rw [List.getElem?_map] at e1
        obtain ⟨k, hk, rfl⟩ := Option.map_eq_some_iff.1 e1
        obtain ⟨hg, e, cc, m, rfl⟩ := h8 _ k b hk e2
        exact hg
  · rw [wsIds_append, wsIds_toks]
    refine List.nodup_append.2 ⟨?_, h10, fun a ha b hb e => h9 b hb (e ▸ ha)⟩
    rw [wsIds_append]
    exact List.nodup_append.2 ⟨h.nodup, by simp [wsIds], fun a ha b hb => by
      simp only [wsIds, Whence.id, List.mem_singleton] at hb
      subst hb
      intro e
      exact hn (e ▸ ha)⟩

theorem mem_revIds (ws : List Whence) (i : Nat) : i ∈ wsIds ws.reverse ↔ i ∈ wsIds ws := by
  induction ws with
  | nil => simp
  | cons x r ih => rw [List.reverse_cons, wsIds_append]; simp [wsIds, ih, or_comm]

structure PassOk (g : Gh) (w : World) (H : Heap) (vals : List Value) (a : Pass) : Prop where
  n : a.n = a.ws.reverse.length
  m : Matched H a.ws.reverse a.H.reverse
  args : ArgsOk (canGh g a.ws.reverse) w a.args.reverse vals

theorem RdS_can {g : Gh} {w : World} {ws : List Whence} {t : Ty} (hp : t.pure = true) {x : t.den} {v : Value} {k : Option Nat} (h : RdS g w (.val t x, k) v) : RdS (canGh g ws) w (.val t x, none) v :=
  ⟨h.1.imp (fun ⟨a, cs, e, q⟩ => ⟨a, cs, e, Rd_pure (g := g) (g' := canGh g ws) rfl hp q⟩) (fun ⟨a, q⟩ => ⟨a, Rd_pure (g := g) (g' := canGh g ws) rfl hp q⟩), trivial⟩

theorem passOne_ok {g : Gh} {w : World} {H : Heap} (hH : HeapOk g w H) {p : PK} {s : Slot} {v : Value} {vals : List Value} {a a' : Pass} (ha : PassOk g w H vals a) (hs : RdS g w s v) (h : passOne H a p s = some a') : PassOk g w H (vals ++ [v]) a' := by
  unfold passOne at h
  split at h
  · rename_i f k
    simp only [passClo, Option.some.injEq] at h
    subst h
    refine ⟨ha.n, ha.m, ?_⟩
    simp only [List.reverse_cons]
    refine ArgsOk_snoc ha.args ⟨?_, trivial⟩
    rcases hs.1 with ⟨h1, _⟩ | ⟨h1, vs, h2, h3⟩
    · cases h1
    · rw [show vs = [] from h2] at h3
      exact .inr ⟨rfl, [], rfl, h3⟩
  · rename_i t x k _
    simp only [passVal] at h
    split at h
    · rename_i hp
      simp only [Option.some.injEq] at h
      subst h
      refine ⟨ha.n, ha.m, ?_⟩
      simp only [List.reverse_cons]
      exact ArgsOk_snoc ha.args (RdS_can hp hs)
    · cases h
  · rename_i t x k
    cases hb : getH H k with
    | none => rw [hb] at h; simp [passOwn] at h
    | some b =>
      rw [hb] at h
      cases b with
      | grow e c m =>
        simp only [passOwn] at h
        split at h
        · rename_i hc
          simp only [Bool.and_eq_true, Bool.not_eq_true'] at hc
          simp only [Option.some.injEq] at h
          subst h
          have hnm : k ∉ wsIds a.ws.reverse := fun hmem => by
            have := memN_iff.2 ((mem_revIds _ _).1 hmem)
            rw [hc.2] at this; cases this
          refine ⟨by simp [ha.n], by simpa using ha.m.tok hb hnm, ?_⟩
          simp only [List.reverse_cons]
          refine ArgsOk_snoc (ArgsOk_mono (canGh_ext g w _ _) ha.args) (RdS_pure (g := g) (g' := canGh g (a.ws.reverse ++ [.tok k])) (k' := some a.n) rfl hc.1 hs (fun c' e1 => ?_) (fun e1 => by cases e1))
          cases e1
          refine ⟨_, rfl, fun n u hu => ?_⟩
          show canCur g (a.ws.reverse ++ [Whence.tok k])[a.n]? n = some u
          rw [ha.n, List.getElem?_append_right (Nat.le_refl _), Nat.sub_self]
          exact hu
        · cases h
      | cells => simp [passOwn] at h
      | row => simp [passOwn] at h
      | dead => simp [passOwn] at h
  · rename_i t os i o k
    cases hb : getH H i with
    | none => rw [hb] at h; simp [passPtr] at h
    | some b =>
      rw [hb] at h
      cases b with
      | cells u x toks =>
        simp only [passPtr] at h
        cases hy : getAt t u x o with
        | none => rw [hy] at h; simp [passBox] at h
        | some y =>
          rw [hy] at h
          simp only [passBox] at h
          split at h
          · rename_i hc
            simp only [Bool.and_eq_true, Bool.not_eq_true'] at hc
            obtain ⟨ks, bs, h1, h2, h3, h4, h5, h6, h7, h8, h9, h10⟩ := passToks_spec h
            simp only [List.reverse_cons] at h3 h4 h5 h6 h9
            have hnm : i ∉ wsIds a.ws.reverse := fun hmem => by
              have := memN_iff.2 ((mem_revIds _ _).1 hmem)
              rw [hc.2] at this; cases this
            refine ⟨by rw [h6, h5, ha.n]; simp [h1]; omega, ?_, ?_⟩
            · rw [h4, h5, ha.n]
              exact ha.m.box hb hy hc.1.1 hc.1.2 hnm h1 h2 h7 h8 h9 h10
            · rw [h3, h5]
              simp only [List.reverse_cons, List.append_assoc]
              obtain ⟨p, hp, hv⟩ := RdV_ref hs.1
              refine ArgsOk_snoc (ArgsOk_mono (canGh_ext g w _ _) ha.args) ⟨.inr ⟨rfl, (p.1, p.2 + o), ?_, ?_⟩, trivial⟩
              · show canJ g (a.ws.reverse ++ ([Whence.box i u x toks o] ++ ks.map Whence.tok))[a.n]? = _
                rw [ha.n, List.getElem?_append_right (Nat.le_refl _), Nat.sub_self]
                show (g.J i).map _ = _
                rw [hp]; rfl
              · rw [hv]; rfl
          · cases h
      | grow => simp [passPtr] at h
      | row => simp [passPtr] at h
      | dead => simp [passPtr] at h
  · cases h

theorem passArgs_ok {g : Gh} {w : World} {H : Heap} (hH : HeapOk g w H) : ∀ {ps : List PK} {ss : List Slot} {vs vals : List Value} {a a' : Pass}, PassOk g w H vals a → ArgsOk g w ss vs → passArgs H ps ss (some a) = some a' → PassOk g w H (vals ++ vs) a'
  | [], [], vs, vals, a, a', ha, hs, h => by
    simp only [passArgs, Option.some.injEq] at h
    subst h
    rw [show vs = [] from hs, List.append_nil]
    exact ha
  | p :: ps, s :: ss, vs, vals, a, a', ha, ⟨v, vs', e, h1, h2⟩, h => by
    simp only [passArgs] at h
    cases ho : passOne H a p s with
    | none => rw [ho] at h; cases ps <;> cases ss <;> simp [passArgs] at h
    | some a1 =>
      rw [ho] at h
      have := passArgs_ok hH (passOne_ok hH ha h1 ho) h2 h
      rw [e]
      simpa using this
  | [], _ :: _, _, _, _, _, _, _, h => by simp [passArgs] at h
  | _ :: _, [], _, _, _, _, _, _, h => by simp [passArgs] at h

theorem PassOk.nil (g : Gh) (w : World) (H : Heap) : PassOk g w H [] ⟨[], [], [], 0⟩ :=
  ⟨rfl, ⟨rfl, fun c wh b h _ => by simp at h, by simp [wsIds]⟩, rfl⟩

end Go.Proofs.Ytfcibaiiobihnaa.Vc
