/- calqueref05.longest AS A CONTRACT. -/
import Derived.Test.YtfcibaiiobihnaaVk
import Derived.Test.YtfcibaiiobihnaaRefTable
namespace Go.Proofs.Ytfcibaiiobihnaa
open Vc Go.RowKit
set_option linter.unusedSimpArgs false
set_option linter.unusedVariables false

def tabL (n m : Nat) (T : Nat → Nat → Nat) : List (List Int) := (List.range (n + 1)).map fun x => (List.range (m + 1)).map fun y => (T x y : Int)

theorem ret_tab {g : Gh} {w w' : World} {n m : Nat} {T : Nat → Nat → Nat} {v : Value} (hsl : ∀ b o, g.S b o → b < w.heap.size) (hb : Below w.heap.size w w') (ht : TabNew w.heap.size w' v n m T) :
    ∃ g', RetOk g w [] ⟨[], [(.val (.list (.list (.int .i64))) (tabL n m T), none)], []⟩ g' w' v := by
  refine ⟨⟨fun b o => g.S b o ∨ (w.heap.size ≤ b ∧ b < w'.heap.size), g.J, g.cur⟩, ⟨fun b o h => ⟨.inl h, hb.cell (p := ⟨b, o, none⟩) (hsl b o h)⟩, ⟨(fun i b h => by cases h), (fun i j bi bj b o _ h => by cases h), fun b o h => ?_⟩, ⟨?_, trivial⟩, ⟨hb.os, hb.tape, hb.output, hb.size, fun b h _ => hb.block b h, fun b o h _ => ⟨hb.cell (p := ⟨b, o, none⟩) h, hb.frozen (p := ⟨b, o, none⟩) h⟩, fun b o h => h.imp id fun h => .inl h.1⟩, (fun i blk b o h => by simp at h), (fun i t x ts h => by simp at h), (fun i t x ts u y us h => by simp at h)⟩⟩
  · rcases h with h | h
    · exact Nat.lt_of_lt_of_le (hsl b o h) hb.size
    · exact h.2
  · obtain ⟨R, rfl, h1, h2, h3⟩ := ht
    have hl : (tabL n m T).length = n + 1 := by unfold tabL; rw [List.length_map, List.length_range]
    refine .inr ⟨rfl, _, n + 1, by rw [hl], by rw [hl]; exact Nat.le_refl _, .inr ⟨R, 0, rfl, RdL_of fun i x hx => ?_⟩⟩
    unfold tabL at hx
    rw [List.getElem?_map, Option.map_eq_some_iff] at hx
    obtain ⟨k, hk, rfl⟩ := hx
    obtain ⟨hk1, hk2⟩ := List.getElem?_eq_some_iff.1 hk
    rw [List.length_range] at hk1
    rw [List.getElem_range] at hk2
    subst hk2
    obtain ⟨A, k1, k2, k3, k4⟩ := h3 i (by omega)
    have hl2 : ((List.range (m + 1)).map fun y => (T i y : Int)).length = m + 1 := by rw [List.length_map, List.length_range]
    refine ⟨[.slice (some ⟨A, 0, none⟩) (m + 1) (m + 1)], rfl, fun j y hy => ?_, fun j _ => .inr ⟨h1, h2⟩, _, m + 1, by rw [hl2], by rw [hl2]; exact Nat.le_refl _, .inr ⟨A, 0, rfl, RdL_of fun i' x' hx' => ?_⟩⟩
    · have hj : j < 1 := (List.getElem?_eq_some_iff.1 hy).1
      obtain rfl : j = 0 := by omega
      simp only [List.getElem?_cons_zero, Option.some.injEq] at hy
      subst hy
      rw [show 0 + i * Ty.cells (.list (.int .i64)) + 0 = i by show 0 + i * 1 + 0 = i; omega]
      exact k1
    · rw [List.getElem?_map, Option.map_eq_some_iff] at hx'
      obtain ⟨q, hq, rfl⟩ := hx'
      obtain ⟨hq1, hq2⟩ := List.getElem?_eq_some_iff.1 hq
      rw [List.length_range] at hq1
      rw [List.getElem_range] at hq2
      subst hq2
      refine ⟨[.int .i64 (T i i' : Int)], rfl, fun j y hy => ?_, fun j _ => .inr ⟨k2, k3⟩, rfl⟩
      have hj : j < 1 := (List.getElem?_eq_some_iff.1 hy).1
      obtain rfl : j = 0 := by omega
      simp only [List.getElem?_cons_zero, Option.some.injEq] at hy
      subst hy
      rw [show 0 + i' * Ty.cells (.int .i64) + 0 = i' by show 0 + i' * 1 + 0 = i'; omega]
      exact k4 i' (by omega)

def tabD (a b : List (List UInt8)) : List (Ty.den (.list (.int .i64))) := tabL a.length b.length (tab (bas a) (bas b))
@[go_sem] def C27 : List Slot → List Blk → Option Ret
  | [(.val (.list .str) a, none), (.val (.list .str) b, none)], [] => some ⟨[(List.length a : Int) ≤ 1000, (List.length b : Int) ≤ 1000], [(.val (.list (.list (.int .i64))) (tabD a b), none)], []⟩
  | _, _ => none
theorem con27 : ConOk Try.prog 27 C27 := by
  refine ⟨fun _ _ => rfl, fun g w args vals L r hH ha hC hs => ?_⟩
  unfold C27 at hC
  split at hC
  · rename_i a b
    cases hC
    have h0 : (List.length a : Int) ≤ 1000 := hs _ List.mem_cons_self
    have h1 : (List.length b : Int) ≤ 1000 := hs _ (List.mem_cons_of_mem _ List.mem_cons_self)
    obtain ⟨va, vs, rfl, ra, vb, vs', rfl, rb, hv⟩ := ha
    have hv : vs' = [] := hv
    subst hv
    have sa : Strs w va (bas a) := strs_of_rd ra.1 hH.sl (by omega)
    have sb : Strs w vb (bas b) := strs_of_rd rb.1 hH.sl (by omega)
    have la : (bas a).length = a.length := by unfold bas; rw [List.length_map]
    have lb : (bas b).length = b.length := by unfold bas; rw [List.length_map]
    obtain ⟨ao, ca, rfl, _, _, _, hca⟩ := sa.open
    obtain ⟨bo, cb, rfl, _, _, _, hcb⟩ := sb.open
    refine (longest_walk27 ao bo ca cb (bas a).length (bas b).length (bas a) (bas b) w rfl rfl (by omega) (by omega) hca hcb).mono fun e w' ⟨v, he, ht, hb⟩ => ⟨v, ?_⟩
    obtain ⟨g', hg⟩ := ret_tab (g := g) hH.sl hb ht
    rw [la, lb] at hg
    exact ⟨g', he, hg.shut, hg.heap, hg.ret, hg.fr, hg.perm, hg.J, hg.ty⟩
  · cases hC
def distD (a b : List (List UInt8)) : Int := (dist (bas a) (bas b) : Int)
@[go_sem] def C13 : List Slot → List Blk → Option Ret
  | [(.val (.list .str) a, none), (.val (.list .str) b, none)], [] => some ⟨[(List.length a : Int) ≤ 1000, (List.length b : Int) ≤ 1000], [(.val (.int .i64) (distD a b), none)], []⟩
  | _, _ => none
theorem con13 : ConOk Try.prog 14 C13 := by
  refine ⟨fun _ _ => rfl, fun g w args vals L r hH ha hC hs => ?_⟩
  unfold C13 at hC
  split at hC
  · rename_i a b
    cases hC
    have h0 : (List.length a : Int) ≤ 1000 := hs _ List.mem_cons_self
    have h1 : (List.length b : Int) ≤ 1000 := hs _ (List.mem_cons_of_mem _ List.mem_cons_self)
    obtain ⟨va, vs, rfl, ra, vb, vs', rfl, rb, hv⟩ := ha
    have hv : vs' = [] := hv
    subst hv
    have sa : Strs w va (bas a) := strs_of_rd ra.1 hH.sl (by omega)
    have sb : Strs w vb (bas b) := strs_of_rd rb.1 hH.sl (by omega)
    refine (distance_any sa sb (by unfold bas; rw [List.length_map]; omega) (by unfold bas; rw [List.length_map]; omega)).mono fun e w' ⟨he, hb⟩ => ⟨_, g, he, ⟨fun b o h => ⟨h, hb.cell (p := ⟨b, o, none⟩) (hH.sl b o h)⟩, ⟨(fun i b h => by cases h), (fun i j bi bj b o _ h => by cases h), fun b o h => Nat.lt_of_lt_of_le (hH.sl b o h) hb.size⟩, ⟨.inr ⟨rfl, rfl⟩, trivial⟩, ⟨hb.os, hb.tape, hb.output, hb.size, fun b h _ => hb.block b h, fun b o h _ => ⟨hb.cell (p := ⟨b, o, none⟩) h, hb.frozen (p := ⟨b, o, none⟩) h⟩, fun b o h => .inl h⟩, (fun i blk b o h => by simp at h), (fun i t x ts h => by simp at h), (fun i t x ts u y us h => by simp at h)⟩⟩
  · cases hC
end Go.Proofs.Ytfcibaiiobihnaa
