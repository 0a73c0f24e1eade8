/- awake and diff.Common in the evaluator, from their walks. -/
import Derived.Test.YtfcibaiiobihnaaVl
import Derived.Test.YtfcibaiiobihnaaCommon
import Derived.Test.YtfcibaiiobihnaaSmall
namespace Go.Proofs.Ytfcibaiiobihnaa
open Vc

@[go_sem] def C10 : List Slot → List Blk → Option Ret
  | [], [] => some ⟨[], [(.val .bool true, none)], []⟩
  | _, _ => none
theorem con10 : ConOk Try.prog 10 C10 := by
  refine ⟨fun _ _ => rfl, fun g w args vals L r hH ha hC hs => ?_⟩
  unfold C10 at hC
  split at hC
  · cases hC
    have hv : vals = [] := ha
    subst hv
    refine (awake_any w).mono fun e w' ⟨he, hb⟩ => ⟨_, g, he, ⟨fun b o h => ⟨h, hb.cell (p := ⟨b, o, none⟩) (hH.sl b o h)⟩, ⟨(fun i b h => by cases h), (fun i j bi bj b o _ h => by cases h), fun b o h => Nat.lt_of_lt_of_le (hH.sl b o h) hb.size⟩, ⟨mk_bool _ _ _, trivial⟩, ⟨hb.os, hb.tape, hb.output, hb.size, fun b h _ => hb.block b h, fun b o h _ => ⟨hb.cell (p := ⟨b, o, none⟩) h, hb.frozen (p := ⟨b, o, none⟩) h⟩, fun b o h => .inl h⟩, (fun i blk b o h => by simp at h), (fun i t x ts h => by simp at h), (fun i t x ts u y us h => by simp at h)⟩⟩
  · cases hC

theorem flatMap_get {α : Type} {enc : α → List Value} {c : Nat} (he : ∀ x, (enc x).length = c) : ∀ {l : List α} {i : Nat} {x : α}, l[i]? = some x → ∀ j, j < c → (l.flatMap enc)[i * c + j]? = (enc x)[j]?
  | y :: l, 0, x, h, j, hj => by
    simp only [List.getElem?_cons_zero, Option.some.injEq] at h
    subst h
    rw [List.flatMap_cons, Nat.zero_mul, Nat.zero_add, List.getElem?_append_left (by rw [he]; exact hj)]
  | y :: l, i + 1, x, h, j, hj => by
    simp only [List.getElem?_cons_succ] at h
    rw [List.flatMap_cons, List.getElem?_append_right (by rw [he, Nat.succ_mul]; omega), he, show (i + 1) * c + j - c = i * c + j by rw [Nat.succ_mul]; omega]
    exact flatMap_get he h j hj

def bas (l : List (List UInt8)) : List ByteArray := l.map fun s => ⟨s.toArray⟩
def pairsD (a b : List (List UInt8)) : List (Ty.den (.pair (.int .i64) (.pair (.int .i64) .unit))) := (pairs (bas a) 0 (bas b) 0).map fun p => ((p.1 : Int), (p.2 : Int), ())
@[go_sem] def C12 : List Slot → List Blk → Option Ret
  | [(.val (.list .str) a, none), (.val (.list .str) b, none)], [] => some ⟨[(List.length a : Int) ≤ 1000, (List.length b : Int) ≤ 1000], [(.val (.list (.pair (.int .i64) (.pair (.int .i64) .unit))) (pairsD a b), none)], []⟩
  | _, _ => none
theorem con12 : ConOk Try.prog 12 C12 := by
  refine ⟨fun _ _ => rfl, fun g w args vals L r hH ha hC hs => ?_⟩
  unfold C12 at hC
  split at hC
  · rename_i a b
    cases hC
    have h0 : (List.length a : Int) ≤ 1000 := hs _ List.mem_cons_self
    have h1 : (List.length b : Int) ≤ 1000 := hs _ (List.mem_cons_of_mem _ List.mem_cons_self)
    obtain ⟨va, vs, rfl, ra, vb, vs', rfl, rb, hv⟩ := ha
    have hv : vs' = [] := hv
    subst hv
    have sa : Strs w va (bas a) := strs_of_rd ra.1 hH.sl (by omega)
    have sb : Strs w vb (bas b) := strs_of_rd rb.1 hH.sl (by omega)
    refine (common_own sa sb (by unfold bas; rw [List.length_map]; omega) (by unfold bas; rw [List.length_map]; omega)).mono fun e w' ⟨v, he, hb, hown⟩ => ⟨v, ?_⟩
    obtain ⟨g', hg⟩ := ret_own (g := g) (u := .pair (.int .i64) (.pair (.int .i64) .unit)) (l := pairsD a b) hH.sl hb (by unfold pairsD; rw [List.length_map]; exact hown) (fun g' i x hx => by
      unfold pairsD at hx
      rw [List.getElem?_map, Option.map_eq_some_iff] at hx
      obtain ⟨p, hp, rfl⟩ := hx
      refine ⟨encPair p, rfl, fun j y hy => ?_, ⟨[.int .i64 p.1], [.int .i64 p.2], rfl, rfl, [.int .i64 p.2], [], rfl, rfl, rfl⟩⟩
      have hj : j < 2 := (List.getElem?_eq_some_iff.1 hy).1
      rw [show i * Ty.cells (.pair (.int .i64) (.pair (.int .i64) .unit)) + j = i * 2 + j from rfl, flatMap_get encPair_length hp j hj]
      exact hy)
    exact ⟨g', he, hg.shut, hg.heap, hg.ret, hg.fr, hg.perm, hg.J, hg.ty⟩
  · cases hC
end Go.Proofs.Ytfcibaiiobihnaa
