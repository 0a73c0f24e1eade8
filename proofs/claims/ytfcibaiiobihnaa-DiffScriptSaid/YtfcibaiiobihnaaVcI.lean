/- APPEND, literals of slices, stores: the effect. -/
import Derived.Test.YtfcibaiiobihnaaVcH
namespace Go.Proofs.Ytfcibaiiobihnaa.Vc
open Go.RowKit
set_option linter.unusedSectionVars false

/-- What an append of m > 0 elements leaves as it was, too: the elements that were there. -/
theorem run_append_k {P : Program} (w : World) (t ty e : TypeId) (i : TypeInfo) (z : Value) (size bytes : Nat) (ht : P.underlying t = some (.slice e)) (hi : P.info? e = some i) (hz : i.zero = some z)
    (hsize : i.size = size) (hby : i.bytes = bytes) (hzs : z.cells.size = size)
    (v : Value) (n : Nat) (xs : List Value) (hown : w.ownsRow 0 e size v n xs)
    (a : Addr) (m c : Nat) (news : List Value) (hl : news.length = m * size) (hnews : ∀ j u, news[j]? = some u → w.cell? (a.add j) = some u) (h1 : ∀ u ∈ news, u.oneCell' = true) (hm : 0 < m)
    (h63 : n + m ≤ maxLen) (hbytes : (n + m) * bytes ≤ 140737488355328) :
    ∃ q cap w', (Builtin.append_ #[t, t] ty #[v, .slice (some a) m c]).run P w = .ok (.slice (some ⟨q, 0, none⟩) (n + m) cap) w' ∧ w'.ownsRow 0 e size (.slice (some ⟨q, 0, none⟩) (n + m) cap) (n + m) (xs ++ news) ∧
      (q = w.heap.size ∨ v.ownBlock = some q) ∧ w.grownBy w' v.ownBlock ∧ n + m ≤ cap ∧
      ∀ b o, b < w.heap.size → (v.ownBlock = some b → o < n * size) → w'.cell? ⟨b, o, none⟩ = w.cell? ⟨b, o, none⟩ := by
  subst hsize
  subst hby
  have hsmall : n + m ≤ 9223372036854775807 := by simp only [maxLen] at h63; omega
  have hlen : (xs ++ news).length = (n + m) * i.size := by rw [List.length_append, hown.1, hl, Nat.add_mul]
  have grown : ∀ (old : Nat), old < n + m → ∀ (row : Option Nat),
      (w.drew.alloc (.cells (xs.toArray ++ news.toArray ++ Builtin.zeroCells z.cells (grownCap w (n + m) old e - (n + m))) e)).ownsRow 0 e i.size
        (.slice (some ⟨w.heap.size, 0, none⟩) (n + m) (grownCap w (n + m) old e)) (n + m) (xs ++ news) ∧
      w.grownBy (w.drew.alloc (.cells (xs.toArray ++ news.toArray ++ Builtin.zeroCells z.cells (grownCap w (n + m) old e - (n + m))) e)) row ∧ n + m ≤ grownCap w (n + m) old e ∧
      ∀ b o, b < w.heap.size → (w.drew.alloc (.cells (xs.toArray ++ news.toArray ++ Builtin.zeroCells z.cells (grownCap w (n + m) old e - (n + m))) e)).cell? ⟨b, o, none⟩ = w.cell? ⟨b, o, none⟩ := by
    intro old ho row
    have hge := grownCap_ge w (n + m) old e
    have hcm : grownCap w (n + m) old e ≤ maxLen := grownCap_le_maxLen w (n + m) old e h63
    refine ⟨⟨hlen, .inr ⟨w.heap.size, _, _, rfl, Nat.zero_le _, heap_alloc_new w.drew _, hge, hcm, ?_, ?_⟩⟩, ⟨rfl, rfl, rfl, by simp, fun k hk _ => Below.heap_alloc w.drew _ k hk⟩, hge, fun b o hb => World.cell?_of_block (w := w) (a := ⟨b, o, none⟩) (Below.heap_alloc w.drew _ b hb)⟩
    · simp only [Array.size_append, List.size_toArray, size_zeroCells, hzs, hown.1, hl, ← Nat.add_mul]
      congr 1
      omega
    · simp only [Array.toList_append, List.append_assoc]
      rw [← List.append_assoc, ← hlen]
      exact List.take_left
  rcases hown.2 with ⟨rfl, rfl⟩ | ⟨g, cap, cur, rfl, hbg, hg, hnc, hcm, hcs, htake⟩
  · have hx : xs = [] := List.eq_nil_of_length_eq_zero (by simpa using hown.1)
    subst hx
    have hr := run_append_nil (P := P) w t ty e i z ht hi hz a m c news hl hnews (by omega) (by omega) (by have hb := hbytes; simp only [Nat.zero_add] at hb; omega)
    have hgr := grown 0 (by omega) (Value.ownBlock (.slice none 0 0))
    simp only [Nat.zero_add, List.nil_append, Array.empty_append] at hgr ⊢
    exact ⟨_, _, _, hr, hgr.1, .inl rfl, hgr.2.1, hgr.2.2.1, fun b o hb _ => hgr.2.2.2 b o hb⟩
  · by_cases hroom : n + m ≤ cap
    · have hfit : n * i.size + news.length ≤ cur.size := by rw [hl, hcs, ← Nat.add_mul]; exact Nat.mul_le_mul_right _ hroom
      have hr := run_append_room (P := P) w t ty e i ht hi g n cap cur hg a m c news hl hnews h1 hroom hfit
      refine ⟨_, _, _, hr, ⟨hlen, .inr ⟨g, cap, _, rfl, hbg, setRow_heap w g cur _ e _ hg, hroom, hcm, ?_, ?_⟩⟩, .inr rfl, ⟨rfl, rfl, rfl, by simp, fun k _ hk => setRow_other w g k _ (fun e => hk (by simp [Value.ownBlock, e]))⟩, hroom, fun b o hb hso => ?_⟩
      · simp only [List.size_toArray, List.length_append, List.length_take, List.length_drop, Array.length_toList]
        omega
      · rw [htake, ← hlen]
        exact List.take_left
      · by_cases hbg' : b = g
        · subst hbg'
          have ho := hso rfl
          rw [cell_setRow_same w b o cur _ e _ hg, cell_of_row w b o cur e (0, 0) hg]
          have hlt : o < (cur.toList.take (n * i.size)).length := by rw [List.length_take, Array.length_toList]; omega
          rw [List.append_assoc, List.getElem?_toArray, List.getElem?_append_left hlt, List.getElem?_take, if_pos ho, Array.getElem?_toList]
        · exact World.cell?_of_block (w := w) (a := ⟨b, o, none⟩) (setRow_other w g b _ hbg')
    · have holds : ∀ j u, xs[j]? = some u → w.cell? ((⟨g, 0, none⟩ : Addr).add j) = some u := hown.cells (g := g) rfl
      have hr := run_append_grow (P := P) w t ty e i z ht hi hz ⟨g, 0, none⟩ n cap xs hown.1 holds a m c news hl hnews (by omega) (by omega) (growslice_fits (by omega) hbytes)
      have hgr := grown cap (by omega) (Value.ownBlock (.slice (some ⟨g, 0, none⟩) n cap))
      exact ⟨_, _, _, hr, hgr.1, .inl rfl, hgr.2.1, hgr.2.2.1, fun b o hb _ => hgr.2.2.2 b o hb⟩

/-- A row of cells that a new slice has, whole or at its beginning. -/
theorem cells_of_ownsRow {w : World} {e : TypeId} {c n : Nat} {q cap : Nat} {xs : List Value} (h : w.ownsRow 0 e c (.slice (some ⟨q, 0, none⟩) n cap) n xs) : w.rangeAt q 0 xs := fun j u hu => by
  have := h.cells (g := q) rfl j u hu
  rwa [Addr.add_mid] at this

section
variable {g : Gh} {w : World} {H : Heap} (hH : HeapOk g w H)
include hH

/-- An append. -/
theorem EffOk.append {side : List Prop} {rds : List Nat} {k e c n : Nat} {u : Ty} {l r : List u.den} {w' : World} {q cap : Nat} {v : Value} {xs news : List Value} (hk : getH H k = some (.grow e c n)) (hc : c = u.cells)
    (hln : l.length = n) (hv : g.cur k n = some v) (hown : w.ownsRow 0 e c v n xs) (hnone : ∀ m, n < m → g.cur k m = none) (hseal : ∀ b, v.ownBlock = some b → ∀ o, g.S b o → o < n * c) (hl : RdF (Rd g w u) c l xs) (hr : RdF (Rd g w u) c r news) (hm : 0 < r.length)
    (ho : w'.ownsRow 0 e c (.slice (some ⟨q, 0, none⟩) (n + r.length) cap) (n + r.length) (xs ++ news)) (hq : q = w.heap.size ∨ v.ownBlock = some q) (hg : w.grownBy w' v.ownBlock) (hcap : n + r.length ≤ cap)
    (hcell : ∀ b o, b < w.heap.size → (v.ownBlock = some b → o < n * c) → w'.cell? ⟨b, o, none⟩ = w.cell? ⟨b, o, none⟩) :
    EffOk g w H ⟨side, (.val (.list u) (l ++ r), some k), [(k, .grow e c (n + r.length))], rds⟩ ((g.tok k (n + r.length) (.slice (some ⟨q, 0, none⟩) (n + r.length) cap)).shut q ((n + r.length) * c)) w' (.slice (some ⟨q, 0, none⟩) (n + r.length) cap) := by
  have hnb := hnone (n + r.length) (by omega)
  have hownk : ∀ o b, v.ownBlock = some b → ownsIn g H (idsOf [(k, Blk.grow e c (n + r.length))]) b o := fun o b hb => ⟨k, _, by simp [idsOf], hk, v, hv, hb⟩
  have hqlt : q < w'.heap.size := (ho.lt q rfl).2
  have le : Le g w ((g.tok k (n + r.length) (.slice (some ⟨q, 0, none⟩) (n + r.length) cap)).shut q ((n + r.length) * c)) w' := ⟨fun _ _ h => .inl h, fun b o h => hcell b o (hH.sl b o h) (fun hb => hseal b hb o h), fun _ _ h => h, fun k' n' v' h => by
    show (if k' = k ∧ n' = n + r.length then _ else _) = _
    rw [if_neg (fun ⟨e1, e2⟩ => by rw [e1, e2, hnb] at h; cases h)]; exact h⟩
  have fr : Fr (ownsIn g H (idsOf [(k, Blk.grow e c (n + r.length))])) w w' g.S ((g.tok k (n + r.length) (.slice (some ⟨q, 0, none⟩) (n + r.length) cap)).shut q ((n + r.length) * c)).S := by
    have hbk : ∀ b, b < w.heap.size → ∀ o, ¬ ownsIn g H (idsOf [(k, Blk.grow e c (n + r.length))]) b o → w'.heap[b]? = w.heap[b]? := fun b hb o hno => hg.block b hb (fun e1 => hno (hownk o b e1.symm))
    refine ⟨hg.os, hg.tape, hg.output, hg.size, fun b hb hno => hbk b hb 0 (hno 0), fun b o hb hno => ⟨World.cell?_of_block (a := ⟨b, o, none⟩) (hbk b hb o hno), World.frozen?_of_block (a := ⟨b, o, none⟩) (hbk b hb o hno)⟩, fun b o h => ?_⟩
    rcases h with h | ⟨rfl, _⟩
    · exact .inl h
    · rcases hq with h | h
      · exact .inr (.inl (Nat.le_of_eq h.symm))
      · exact .inr (.inr (hownk o b h))
  have gho : ∀ i, i ∉ idsOf [(k, Blk.grow e c (n + r.length))] → ((g.tok k (n + r.length) (.slice (some ⟨q, 0, none⟩) (n + r.length) cap)).shut q ((n + r.length) * c)).J i = g.J i ∧ ((g.tok k (n + r.length) (.slice (some ⟨q, 0, none⟩) (n + r.length) cap)).shut q ((n + r.length) * c)).cur i = g.cur i := fun i hi => ⟨rfl, by
    funext n'
    show (if i = k ∧ n' = n + r.length then _ else _) = _
    rw [if_neg (fun ⟨e1, _⟩ => hi (by simp [idsOf, e1]))]⟩
  have cur1 : ((g.tok k (n + r.length) (.slice (some ⟨q, 0, none⟩) (n + r.length) cap)).shut q ((n + r.length) * c)).cur k (n + r.length) = some (.slice (some ⟨q, 0, none⟩) (n + r.length) cap) := by
    show (if k = k ∧ n + r.length = n + r.length then _ else _) = _
    simp
  have get : ∀ i blk, i ∈ idsOf [(k, Blk.grow e c (n + r.length))] → getH (app [(k, Blk.grow e c (n + r.length))] H) i = some blk → i = k ∧ blk = .grow e c (n + r.length) := by
    intro i blk hi hg
    simp only [idsOf, List.mem_singleton] at hi
    subst hi
    simp only [app, getH, if_true, Option.some.injEq] at hg
    exact ⟨rfl, hg.symm⟩
  have perm : ∀ i blk b o, i ∈ idsOf [(k, Blk.grow e c (n + r.length))] → getH (app [(k, Blk.grow e c (n + r.length))] H) i = some blk → owns ((g.tok k (n + r.length) (.slice (some ⟨q, 0, none⟩) (n + r.length) cap)).shut q ((n + r.length) * c)) i blk b o → w.heap.size ≤ b ∨ ownsIn g H (idsOf [(k, Blk.grow e c (n + r.length))]) b o := by
    intro i blk b o hi hgt ho'
    obtain ⟨rfl, rfl⟩ := get i blk hi hgt
    obtain ⟨v', hv', hb⟩ := ho'
    rw [cur1] at hv'
    obtain rfl := Option.some.inj hv'
    cases hb
    rcases hq with h | h
    · exact .inl (Nat.le_of_eq h.symm)
    · exact .inr (hownk o _ h)
  have hF : RdF (Rd ((g.tok k (n + r.length) (.slice (some ⟨q, 0, none⟩) (n + r.length) cap)).shut q ((n + r.length) * c)) w' u) u.cells (l ++ r) (xs ++ news) := hc ▸ RdF_mono (fun _ _ h => Rd_mono le h) (RdF_append hl hr)
  have hlr : (l ++ r).length = n + r.length := by rw [List.length_append, hln]
  refine ⟨le, ⟨.inr ⟨rfl, some ⟨q, 0, none⟩, cap, by rw [hlr], by rw [hlr]; exact hcap, .inr ⟨q, 0, rfl, RdL_ofF hF (cells_of_ownsRow ho) (fun j hj => ?_)⟩⟩, ?_⟩, hH.upd le fr perm gho (fun i blk hi hgt => ?_) (fun i j bi bj b o hi hj hij hgi hgj _ _ => hij ((get i bi hi hgi).1.trans (get j bj hj hgj).1.symm)) (fun b o h => ?_), fr, perm, gho, fun i u' y us h => by
    simp only [app, getH] at h
    split at h
    · cases h
    · exact .inl ⟨y, us, h⟩⟩
  · right
    rw [hlr] at hj
    exact ⟨rfl, by rw [hc]; omega⟩
  · show _ = _
    rw [hlr]
    exact cur1
  · obtain ⟨rfl, rfl⟩ := get i blk hi hgt
    refine ⟨_, _, cur1, ho, fun m hm' => ?_, fun b hb o h => ?_⟩
    · show (if i = i ∧ m = n + r.length then _ else _) = _
      rw [if_neg (by omega)]
      exact hnone m (by omega)
    · cases hb
      rcases h with h | ⟨_, h⟩
      · rcases hq with h2 | h2
        · have : q < w.heap.size := hH.sl _ _ h
          omega
        · have := hseal _ h2 o h
          rw [Nat.add_mul]; omega
      · exact h
  · rcases h with h | ⟨rfl, _⟩
    · exact Nat.lt_of_lt_of_le (hH.sl b o h) hg.size
    · exact hqlt

/-- A literal of a slice. -/
theorem EffOk.lit {side : List Prop} {rds : List Nat} {base e c n : Nat} {u : Ty} {l : List u.den} {cs : List Value} (hc : c = u.cells) (hln : l.length = n) (hl : RdF (Rd g w u) c l cs) (hn : n ≤ maxLen) (hf : ∀ m, g.cur base m = none) :
    EffOk g w H ⟨side, (.val (.list u) l, some base), [(base, .grow e c n)], rds⟩ ((g.tok base n (.slice (some ⟨w.heap.size, 0, none⟩) n n)).shut w.heap.size (n * c)) (w.alloc (.cells cs.toArray e)) (.slice (some ⟨w.heap.size, 0, none⟩) n n) := by
  have hlen := RdF_length hl
  have le : Le g w ((g.tok base n (.slice (some ⟨w.heap.size, 0, none⟩) n n)).shut w.heap.size (n * c)) (w.alloc (.cells cs.toArray e)) := ⟨fun _ _ h => .inl h, fun b o h => World.cell?_of_block (a := ⟨b, o, none⟩) (Below.heap_alloc _ _ _ (hH.sl b o h)), fun _ _ h => h, fun k' n' v' h => by
    show (if k' = base ∧ n' = n then _ else _) = _
    rw [if_neg (fun ⟨e1, e2⟩ => by rw [e1, hf] at h; cases h)]; exact h⟩
  have fr : Fr (ownsIn g H (idsOf [(base, Blk.grow e c n)])) w (w.alloc (.cells cs.toArray e)) g.S ((g.tok base n (.slice (some ⟨w.heap.size, 0, none⟩) n n)).shut w.heap.size (n * c)).S :=
    ⟨rfl, rfl, rfl, by simp, fun b hb _ => Below.heap_alloc _ _ _ hb, fun b o hb _ => ⟨World.cell?_of_block (a := ⟨b, o, none⟩) (Below.heap_alloc _ _ _ hb), World.frozen?_of_block (a := ⟨b, o, none⟩) (Below.heap_alloc _ _ _ hb)⟩, fun b o h => h.imp id fun h => .inl (Nat.le_of_eq h.1.symm)⟩
  have gho : ∀ i, i ∉ idsOf [(base, Blk.grow e c n)] → ((g.tok base n (.slice (some ⟨w.heap.size, 0, none⟩) n n)).shut w.heap.size (n * c)).J i = g.J i ∧ ((g.tok base n (.slice (some ⟨w.heap.size, 0, none⟩) n n)).shut w.heap.size (n * c)).cur i = g.cur i := fun i hi => ⟨rfl, by
    funext n'
    show (if i = base ∧ n' = n then _ else _) = _
    rw [if_neg (fun ⟨e1, _⟩ => hi (by simp [idsOf, e1]))]⟩
  have cur1 : ((g.tok base n (.slice (some ⟨w.heap.size, 0, none⟩) n n)).shut w.heap.size (n * c)).cur base n = some (.slice (some ⟨w.heap.size, 0, none⟩) n n) := by
    show (if base = base ∧ n = n then _ else _) = _
    simp
  have get : ∀ i blk, i ∈ idsOf [(base, Blk.grow e c n)] → getH (app [(base, Blk.grow e c n)] H) i = some blk → i = base ∧ blk = .grow e c n := by
    intro i blk hi hg
    simp only [idsOf, List.mem_singleton] at hi
    subst hi
    simp only [app, getH, if_true, Option.some.injEq] at hg
    exact ⟨rfl, hg.symm⟩
  have perm : ∀ i blk b o, i ∈ idsOf [(base, Blk.grow e c n)] → getH (app [(base, Blk.grow e c n)] H) i = some blk → owns ((g.tok base n (.slice (some ⟨w.heap.size, 0, none⟩) n n)).shut w.heap.size (n * c)) i blk b o → w.heap.size ≤ b ∨ ownsIn g H (idsOf [(base, Blk.grow e c n)]) b o := by
    intro i blk b o hi hgt ho'
    obtain ⟨rfl, rfl⟩ := get i blk hi hgt
    obtain ⟨v', hv', hb⟩ := ho'
    rw [cur1] at hv'
    obtain rfl := Option.some.inj hv'
    cases hb
    exact .inl (Nat.le_refl _)
  have hF : RdF (Rd ((g.tok base n (.slice (some ⟨w.heap.size, 0, none⟩) n n)).shut w.heap.size (n * c)) (w.alloc (.cells cs.toArray e)) u) u.cells l cs := hc ▸ RdF_mono (fun _ _ h => Rd_mono le h) hl
  have hra : (w.alloc (.cells cs.toArray e)).rangeAt w.heap.size 0 cs := fun j v hv => by
    rw [Nat.zero_add, World.cell?_alloc_new]; simpa using hv
  refine ⟨le, ⟨.inr ⟨rfl, some ⟨w.heap.size, 0, none⟩, n, by rw [hln], by rw [hln]; exact Nat.le_refl _, .inr ⟨w.heap.size, 0, rfl, RdL_ofF hF hra (fun j hj => ?_)⟩⟩, ?_⟩, hH.upd le fr perm gho (fun i blk hi hgt => ?_) (fun i j bi bj b o hi hj hij hgi hgj _ _ => hij ((get i bi hi hgi).1.trans (get j bj hj hgj).1.symm)) (fun b o h => ?_), fr, perm, gho, fun i u' y us h => by
    simp only [app, getH] at h
    split at h
    · cases h
    · exact .inl ⟨y, us, h⟩⟩
  · right
    rw [hln] at hj
    exact ⟨rfl, by rw [hc]; omega⟩
  · show _ = _
    rw [hln]
    exact cur1
  · obtain ⟨rfl, rfl⟩ := get i blk hi hgt
    refine ⟨_, cs, cur1, ⟨by rw [hlen, hln], .inr ⟨w.heap.size, n, cs.toArray, rfl, Nat.zero_le _, heap_alloc_new w _, Nat.le_refl _, hn, by simp [hlen, hln], by simp [← hln, ← hlen]⟩⟩, fun m hm' => ?_, fun b hb o h => ?_⟩
    · show (if i = i ∧ m = n then _ else _) = _
      rw [if_neg (by omega)]
      exact hf m
    · cases hb
      rcases h with h | ⟨_, h⟩
      · exact absurd (hH.sl _ _ h) (Nat.lt_irrefl _)
      · exact h
  · rcases h with h | ⟨rfl, _⟩
    · exact Nat.lt_of_lt_of_le (hH.sl b o h) (by simp)
    · simp


theorem tokCut_mem : ∀ {toks : List (Nat × Nat)} {off n q k : Nat}, (q, k) ∈ tokCut toks off n → (q, k) ∈ toks ∧ ¬ (off ≤ q ∧ q < off + n)
  | [], _, _, _, _, h => by simp [tokCut] at h
  | (q', k') :: r, off, n, q, k, h => by
    simp only [tokCut] at h
    split at h
    · obtain ⟨h1, h2⟩ := tokCut_mem h
      exact ⟨List.mem_cons_of_mem _ h1, h2⟩
    · rename_i hn
      rcases List.mem_cons.1 h with h | h
      · cases h
        exact ⟨by simp, hn⟩
      · obtain ⟨h1, h2⟩ := tokCut_mem h
        exact ⟨List.mem_cons_of_mem _ h1, h2⟩

theorem getAt_setAt_same {u : Ty} {y : u.den} : ∀ {t : Ty} {x z : t.den} {o : Nat}, u.isRow = false → setAt u y t x o = some z → getAt u t z o = some y := by
  intro t
  induction t with
  | pair a b iha ihb =>
    intro x z o hu h
    have hne : u ≠ .pair a b := by intro e; rw [e] at hu; cases hu
    have key : ∀ o, (if o < a.cells then (setAt u y a x.1 o).map (fun q => (q, x.2)) else (setAt u y b x.2 (o - a.cells)).map (fun q => (x.1, q))) = some z →
        (if o < a.cells then getAt u a z.1 o else getAt u b z.2 (o - a.cells)) = some y := by
      intro o h
      by_cases ho : o < a.cells
      · rw [if_pos ho] at h ⊢
        obtain ⟨q, hq, rfl⟩ := Option.map_eq_some_iff.1 h
        exact iha hu hq
      · rw [if_neg ho] at h ⊢
        obtain ⟨q, hq, rfl⟩ := Option.map_eq_some_iff.1 h
        exact ihb hu hq
    cases o with
    | zero =>
      unfold setAt at h
      unfold getAt
      rw [dif_neg hne] at h
      rw [dif_neg (Ne.symm hne)]
      have := key 0 (by simpa using h)
      simpa using this
    | succ o =>
      have := key (o + 1) (by simpa [setAt] using h)
      simpa [getAt] using this
  | _ =>
    intro x z o hu h
    cases o with
    | zero =>
      unfold setAt at h
      split at h
      · rename_i e
        subst e
        simp only [castD, Option.some.injEq] at h
        try subst h
        unfold getAt
        simp [castD]
      · simp at h
    | succ o => simp [setAt] at h

theorem getAt_setAt_other {u v : Ty} {y : u.den} : ∀ {t : Ty} {x z : t.den} {o q : Nat} {l : (Ty.list v).den}, setAt u y t x o = some z → getAt (.list v) t x q = some l → ¬ (o ≤ q ∧ q < o + u.cells) → getAt (.list v) t z q = some l := by
  intro t
  induction t with
  | pair a b iha ihb =>
    intro x z o q l h g hq
    by_cases hu : o = 0 ∧ u = .pair a b
    · obtain ⟨rfl, rfl⟩ := hu
      exfalso
      apply hq
      have : ∀ (t : Ty) (x : t.den) (q : Nat) (l : (Ty.list v).den), getAt (.list v) t x q = some l → q < t.cells := by
        intro t
        induction t with
        | pair s t ihs iht =>
          intro x q l g
          have key : ∀ q, (if q < s.cells then getAt (.list v) s x.1 q else getAt (.list v) t x.2 (q - s.cells)) = some l → q < s.cells + t.cells := by
            intro q g
            by_cases h : q < s.cells
            · omega
            · rw [if_neg h] at g
              have := iht _ _ _ g
              omega
          cases q with
          | zero =>
            unfold getAt at g
            rw [dif_neg (by intro e; cases e)] at g
            exact key 0 (by simpa using g)
          | succ q => exact key (q + 1) (by simpa [getAt] using g)
        | _ =>
          intro x q l g
          cases q with
          | zero => first | (simp [Ty.cells]; done) | (unfold getAt at g; simp at g)
          | succ q => simp [getAt] at g
      exact ⟨Nat.zero_le _, by simpa using this _ _ _ _ g⟩
    · have keyh : (if o < a.cells then (setAt u y a x.1 o).map (fun q => (q, x.2)) else (setAt u y b x.2 (o - a.cells)).map (fun q => (x.1, q))) = some z := by
        cases o with
        | zero =>
          unfold setAt at h
          rw [dif_neg (fun e => hu ⟨rfl, e⟩)] at h
          simpa using h
        | succ o => simpa [setAt] using h
      have keyg : ∀ x : (Ty.pair a b).den, getAt (.list v) (.pair a b) x q = (if q < a.cells then getAt (.list v) a x.1 q else getAt (.list v) b x.2 (q - a.cells)) := by
        intro x
        cases q with
        | zero =>
          conv => lhs; unfold getAt
          rw [dif_neg (by intro e; cases e), Nat.zero_sub]
        | succ q => simp [getAt]
      rw [keyg] at g ⊢
      by_cases ho : o < a.cells
      · rw [if_pos ho] at keyh
        obtain ⟨z', hz', rfl⟩ := Option.map_eq_some_iff.1 keyh
        by_cases hqa : q < a.cells
        · rw [if_pos hqa] at g ⊢
          exact iha hz' g hq
        · rw [if_neg hqa] at g ⊢
          exact g
      · rw [if_neg ho] at keyh
        obtain ⟨z', hz', rfl⟩ := Option.map_eq_some_iff.1 keyh
        by_cases hqa : q < a.cells
        · rw [if_pos hqa] at g ⊢
          exact g
        · rw [if_neg hqa] at g ⊢
          exact ihb hz' g (by omega)
  | unit =>
    intro x z o q l h g hq
    cases q with
    | zero =>
      unfold getAt at g
      rw [dif_neg (by intro e; cases e)] at g
      cases g
    | succ q => simp [getAt] at g
  | _ =>
    intro x z o q l h g hq
    cases o with
    | zero =>
      unfold setAt at h
      split at h
      · rename_i e
        subst e
        cases q with
        | zero => exact absurd ⟨Nat.le_refl _, Nat.zero_lt_one⟩ hq
        | succ q => simp [getAt] at g
      · simp at h
    | succ o => simp [setAt] at h

/-- A store into a variable. -/
theorem EffOk.store {side : List Prop} {rds : List Nat} {i : Nat} {u t : Ty} {x z : u.den} {y : t.den} {off : Nat} {toks : List (Nat × Nat)} {k : Option Nat} {p : Nat × Nat} {cy : List Value} {v : Value} (hb : getH H i = some (.cells u x toks)) (hp : g.J i = some p)
    (hset : setAt t y u x off = some z) (hy : Rd g w t y cy) (hk : RdK g t y v k) (hv : t.isRow = false → cy = [v]) :
    EffOk g w H ⟨side, (.any, none), [(i, .cells u z (app (tokOf k off) (tokCut toks off t.cells)))], rds⟩ g (w.setCells p.1 (p.2 + off) cy) undef ∧ w.there p.1 (p.2 + off) cy.length := by
  obtain ⟨p', cs, hp', hR, hra, hth, hns, htk⟩ := hH.blk i _ hb
  rw [hp] at hp'
  obtain rfl := Option.some.inj hp'
  obtain ⟨c1, c2, c3, hcs, hl1, hl2, hz⟩ := setAt_Rd hy hR hset
  subst hcs
  subst hl1
  have hcl := Rd_length hR
  have hyl := Rd_length hy
  simp only [List.length_append] at hcl
  have hthere : w.there p.1 (p.2 + c1.length) cy.length := fun j hj => by
    have := hth (c1.length + j) (by omega)
    rwa [← Nat.add_assoc] at this
  have hout : ∀ b o, (b = p.1 → o < p.2 + c1.length ∨ p.2 + c1.length + cy.length ≤ o) → (w.setCells p.1 (p.2 + c1.length) cy).cell? ⟨b, o, none⟩ = w.cell? ⟨b, o, none⟩ := fun b o h => World.cell?_setCells_out p.1 cy _ w ⟨b, o, none⟩ (fun e _ => h e)
  have hin : ∀ b o, b = p.1 → p.2 + c1.length ≤ o → o < p.2 + c1.length + cy.length → owns g i (.cells u x toks) b o := fun b o e h1 h2 => ⟨p, hp, e, by omega, by omega⟩
  have hsz : (w.setCells p.1 (p.2 + c1.length) cy).heap.size = w.heap.size := by
    have : ∀ (l : List Value) (o : Nat) (w : World), (w.setCells p.1 o l).heap.size = w.heap.size := by
      intro l
      induction l with
      | nil => intro o w; rfl
      | cons v l ih => intro o w; rw [World.setCells, ih]; simp [World.setCell]
    exact this _ _ _
  have hbk : ∀ b, b ≠ p.1 → (w.setCells p.1 (p.2 + c1.length) cy).heap[b]? = w.heap[b]? := by
    intro b hb
    have : ∀ (l : List Value) (o : Nat) (w : World), (w.setCells p.1 o l).heap[b]? = w.heap[b]? := by
      intro l
      induction l with
      | nil => intro o w; rfl
      | cons v l ih => intro o w; rw [World.setCells, ih]; exact Below.heap_setCell _ _ _ _ hb
    exact this _ _ _
  have hos : (w.setCells p.1 (p.2 + c1.length) cy).os = w.os ∧ (w.setCells p.1 (p.2 + c1.length) cy).tape = w.tape ∧ (w.setCells p.1 (p.2 + c1.length) cy).output = w.output := by
    have : ∀ (l : List Value) (o : Nat) (w : World), (w.setCells p.1 o l).os = w.os ∧ (w.setCells p.1 o l).tape = w.tape ∧ (w.setCells p.1 o l).output = w.output := by
      intro l
      induction l with
      | nil => intro o w; exact ⟨rfl, rfl, rfl⟩
      | cons v l ih => intro o w; rw [World.setCells]; exact ih _ _
    exact this _ _ _
  have hiS : ∀ b o, g.S b o → ¬ (b = p.1 ∧ p.2 ≤ o ∧ o < p.2 + u.cells) := fun b o hs ⟨e, h1, h2⟩ => hns (o - p.2) (by omega) (by rw [show p.2 + (o - p.2) = o from by omega, ← e]; exact hs)
  have le : Le g w g (w.setCells p.1 (p.2 + c1.length) cy) := ⟨fun _ _ h => h, fun b o h => hout b o (fun e => by
    have := hiS b o h
    rcases Nat.lt_or_ge o (p.2 + c1.length) with h1 | h1
    · exact .inl h1
    · rcases Nat.lt_or_ge o (p.2 + c1.length + cy.length) with h2 | h2
      · exact absurd ⟨e, by omega, by omega⟩ this
      · exact .inr h2), fun _ _ h => h, fun _ _ _ h => h⟩
  have hofI : ∀ b o, owns g i (.cells u x toks) b o → ownsIn g H (idsOf [(i, Blk.cells u z (app (tokOf k c1.length) (tokCut toks c1.length t.cells)))]) b o := fun b o h => ⟨i, _, by simp [idsOf], hb, h⟩
  have fr : Fr (ownsIn g H (idsOf [(i, Blk.cells u z (app (tokOf k c1.length) (tokCut toks c1.length t.cells)))])) w (w.setCells p.1 (p.2 + c1.length) cy) g.S g.S := by
    refine ⟨hos.1, hos.2.1, hos.2.2, Nat.le_of_eq hsz.symm, fun b hb' hno => ?_, fun b o hb' hno => ⟨hout b o (fun e => ?_), World.frozen?_setCells _ _ _ _ _⟩, fun b o h => .inl h⟩
    · by_cases e : b = p.1
      · cases hcy : cy with
        | nil => rfl
        | cons q l => exact absurd (hofI b (p.2 + c1.length) (hin b _ e (Nat.le_refl _) (by rw [hcy]; simp))) (hno _)
      · exact hbk b e
    · rcases Nat.lt_or_ge o (p.2 + c1.length) with h1 | h1
      · exact .inl h1
      · rcases Nat.lt_or_ge o (p.2 + c1.length + cy.length) with h2 | h2
        · exact absurd (hofI b o (hin b o e h1 h2)) hno
        · exact .inr h2
  have gho : ∀ j, j ∉ idsOf [(i, Blk.cells u z (app (tokOf k c1.length) (tokCut toks c1.length t.cells)))] → g.J j = g.J j ∧ g.cur j = g.cur j := fun _ _ => ⟨rfl, rfl⟩
  have get : ∀ j blk, j ∈ idsOf [(i, Blk.cells u z (app (tokOf k c1.length) (tokCut toks c1.length t.cells)))] → getH (app [(i, Blk.cells u z (app (tokOf k c1.length) (tokCut toks c1.length t.cells)))] H) j = some blk → j = i ∧ blk = .cells u z (app (tokOf k c1.length) (tokCut toks c1.length t.cells)) := by
    intro j blk hi hg
    simp only [idsOf, List.mem_singleton] at hi
    subst hi
    simp only [app, getH, if_true, Option.some.injEq] at hg
    exact ⟨rfl, hg.symm⟩
  have perm : ∀ j blk b o, j ∈ idsOf [(i, Blk.cells u z (app (tokOf k c1.length) (tokCut toks c1.length t.cells)))] → getH (app [(i, Blk.cells u z (app (tokOf k c1.length) (tokCut toks c1.length t.cells)))] H) j = some blk → owns g j blk b o → w.heap.size ≤ b ∨ ownsIn g H (idsOf [(i, Blk.cells u z (app (tokOf k c1.length) (tokCut toks c1.length t.cells)))]) b o := by
    intro j blk b o hi hg ho
    obtain ⟨rfl, rfl⟩ := get j blk hi hg
    exact .inr (hofI b o ho)
  refine ⟨⟨le, ⟨trivial, trivial⟩, hH.upd le fr perm gho (fun j blk hi hg => ?_) (fun i j bi bj b o hi hj hij hgi hgj _ _ => hij ((get i bi hi hgi).1.trans (get j bj hj hgj).1.symm)) (fun b o h => by rw [hsz]; exact hH.sl b o h), fr, perm, gho, fun j u' y' us h => by
    simp only [app, getH] at h
    split at h
    · rename_i e1
      subst e1
      simp only [Option.some.injEq, Blk.cells.injEq] at h
      obtain ⟨rfl, _⟩ := h
      exact .inl ⟨x, toks, hb⟩
    · exact .inl ⟨y', us, h⟩⟩, hthere⟩
  obtain ⟨rfl, rfl⟩ := get j blk hi hg
  refine ⟨p, _, hp, Rd_mono le hz, fun q v hq => ?_, fun q hq => ?_, hns, ?_⟩
  · by_cases h1 : q < c1.length
    · rw [hout _ _ (fun _ => .inl (by omega))]
      refine hra q v ?_
      rw [List.append_assoc, List.getElem?_append_left h1] at hq ⊢
      exact hq
    · by_cases h2 : q < c1.length + cy.length
      · have := World.cell?_setCells_in p.1 cy (p.2 + c1.length) w (fun j hj => (hthere j hj).1) (q - c1.length) (by omega)
        rw [show p.2 + c1.length + (q - c1.length) = p.2 + q from by omega] at this
        rw [this]
        rw [List.append_assoc, List.getElem?_append_right (by omega), List.getElem?_append_left (by omega)] at hq
        rw [← hq, List.getElem?_eq_getElem (by omega)]
      · rw [hout _ _ (fun _ => .inr (by omega))]
        refine hra q v ?_
        rw [List.append_assoc, List.getElem?_append_right (by omega), List.getElem?_append_right (by omega)] at hq ⊢
        rw [hl2]
        rw [hyl] at hq
        exact hq
  · have hh := hth q hq
    refine ⟨?_, by rw [World.frozen?_setCells]; exact hh.2⟩
    by_cases h1 : q < c1.length ∨ c1.length + cy.length ≤ q
    · rw [hout _ _ (fun _ => by omega)]
      exact hh.1
    · have := World.cell?_setCells_in p.1 cy (p.2 + c1.length) w (fun j hj => (hthere j hj).1) (q - c1.length) (by omega)
      rw [show p.2 + c1.length + (q - c1.length) = p.2 + q from by omega] at this
      rw [this]; rfl
  · intro q kk hm
    have hsplit : (q, kk) ∈ tokOf k c1.length ∨ (q, kk) ∈ tokCut toks c1.length t.cells := by
      cases k with
      | none => exact .inr (by simpa [tokOf, app] using hm)
      | some k =>
        simp only [tokOf, app, List.mem_cons] at hm
        rcases hm with hm | hm
        · exact .inl (by simp [tokOf, hm])
        · exact .inr hm
    rcases hsplit with hm | hm
    · cases k with
      | none => simp [tokOf] at hm
      | some k =>
        simp only [tokOf, List.mem_singleton, Prod.mk.injEq] at hm
        obtain ⟨rfl, rfl⟩ := hm
        cases t with
        | list t =>
          obtain rfl := hv rfl
          exact ⟨t, y, v, getAt_setAt_same hH rfl hset, by simp, hk⟩
        | _ => exact hk.elim
    · obtain ⟨h1, h2⟩ := tokCut_mem hH hm
      obtain ⟨v', l, v1, g1, g2, g3⟩ := htk q kk h1
      refine ⟨v', l, v1, getAt_setAt_other hH hset g1 h2, ?_, g3⟩
      rcases Nat.lt_or_ge q c1.length with h3 | h3
      · rw [List.append_assoc, List.getElem?_append_left h3] at g2 ⊢
        exact g2
      · have h4 : c1.length + t.cells ≤ q := by omega
        rw [List.append_assoc, List.getElem?_append_right (by omega), List.getElem?_append_right (by omega)] at g2 ⊢
        rw [hyl]
        rw [hl2] at g2
        exact g2

end

end Go.Proofs.Ytfcibaiiobihnaa.Vc
