/- THE LAW's CALLS. -/
import Derived.Test.YtfcibaiiobihnaaVf
import Derived.Test.YtfcibaiiobihnaaSmall
namespace Go.Proofs.Ytfcibaiiobihnaa
open Vc
set_option linter.unusedSimpArgs false
set_option linter.unusedVariables false

theorem nxE_len (e : tE.den) (o : List (List UInt8)) : (nxE e o).length ≤ o.length + 1 := by
  unfold nxE
  split
  · omega
  · simp
theorem goE_len (a : List (List UInt8)) : ∀ (l : List tE.den) (k : Int) (o : List (List UInt8)), (goE a l k o).1.length ≤ o.length + l.length
  | [], k, o => by
    unfold goE
    split <;> simp
  | e :: r, k, o => by
    have := nxE_len e o
    unfold goE
    split
    · have := goE_len a r k (nxE e o); rw [List.length_cons]; omega
    · split
      · simp
      · have := goE_len a r (k + 1) (nxE e o); rw [List.length_cons]; omega
theorem applyE_len (a : List (List UInt8)) (l : List tE.den) : (applyE a l).1.length ≤ l.length := by
  unfold applyE
  split
  · simp
  · have := goE_len a l 0 []; simpa using this

@[go_sem] def C10 : List Slot → List Blk → Option Ret
  | [], [] => some ⟨[], [(.val .bool true, none)], []⟩
  | _, _ => none
theorem con10 : ConOk Try.prog 10 C10 := by
  refine ⟨fun _ _ => rfl, fun g w args vals L r hH ha hC hs => ?_⟩
  unfold C10 at hC
  split at hC
  · cases hC
    have hv : vals = [] := ha
    subst hv
    refine (awake_any w).mono fun e w' ⟨he, hb⟩ => ⟨_, g, he, ⟨fun b o h => ⟨h, hb.cell (p := ⟨b, o, none⟩) (hH.sl b o h)⟩, ⟨(fun i b h => by cases h), (fun i j bi bj b o _ h => by cases h), fun b o h => Nat.lt_of_lt_of_le (hH.sl b o h) hb.size⟩, ⟨mk_bool _ _ _, trivial⟩, ⟨hb.os, hb.tape, hb.output, hb.size, fun b h _ => hb.block b h, fun b o h _ => ⟨hb.cell (p := ⟨b, o, none⟩) h, hb.frozen (p := ⟨b, o, none⟩) h⟩, fun b o h => .inl h⟩, (fun i blk b o h => by simp at h), (fun i t x ts h => by simp at h), (fun i t x ts u y us h => by simp at h)⟩⟩
  · cases hC

attribute [go_sem] C11 C17 C19 C16
@[go_sem] def G4 : Ctx := fun f => if f = 10 then some ⟨[], C10⟩ else if f = 11 then some ⟨[.v], C11⟩ else if f = 17 then some ⟨[.v], C17⟩ else if f = 19 then some ⟨[.v], C19⟩
  else if f = 18 then some ⟨[.v, .v], C18⟩ else if f = 20 then some ⟨[.v, .v], C18⟩ else if f = 16 then some ⟨[.v, .v], C16⟩ else none
theorem G4_ok : CtxOk Try.prog G4 := by
  intro f s h
  unfold G4 at h
  split at h
  · rename_i e; subst e; cases h; exact con10
  split at h
  · rename_i e; subst e; cases h; exact con11
  split at h
  · rename_i e; subst e; cases h; exact con17
  split at h
  · rename_i e; subst e; cases h; exact con19
  split at h
  · rename_i e; subst e; cases h; exact con18
  split at h
  · rename_i e; subst e; cases h; exact con20
  split at h
  · rename_i e; subst e; cases h; exact con16
  · cases h
def C7 : List Slot → List Blk → Option Ret
  | [(.val (.list .str) a, none), (.val (.list (.pair (.int .i64) (.pair .str .unit))) l, none)], [] => some ⟨[(List.length a : Int) ≤ 9223372036854775807, (List.length l : Int) ≤ 9223372036854775807], [(.val .bool true, none)], []⟩
  | _, _ => none

set_option maxRecDepth 100000 in
set_option maxHeartbeats 4000000 in
theorem con7 : ConOk Try.prog 7 C7 := by
  refine con_ok TT_ok G4_ok mixed Try.func7 (c := _) rfl (N := 49) (by kernel_rfl) (ts := [4]) (fun _ _ => rfl) (res1 rfl) ?_
  intro args L r hC hs
  unfold C7 at hC
  split at hC
  · rename_i a l
    cases hC
    have h0 : (List.length a : Int) ≤ 9223372036854775807 := hs _ List.mem_cons_self
    have h01 : (List.length l : Int) ≤ 9223372036854775807 := hs _ (List.mem_cons_of_mem _ List.mem_cons_self)
    refine ⟨by simp only [List.length_cons, List.length_nil]; omega, by simp only [go_sem, reduceIte, Nat.reduceEqDiff, Bool.and_self, and_self], trivial, ?_⟩
    simp only [enumE, enumH, lenB, Nat.reduceAdd]
    refine ev_seq ?_
    refine ev_region (by simp only [go_sem, List.nil_append, Nat.reduceEqDiff, reduceIte, reduceDIte, reduceCtorEq, Nat.reduceAdd, Nat.reduceLT, Nat.reduceLeDiff, decide_true, decide_false, Bool.and_self, Bool.or_self, Bool.or_false, Bool.false_or, Bool.and_true, Bool.true_and, Bool.not_true, Bool.not_false]; rfl) (by first | exact trivial | (simp only [go_sem, Nat.reduceEqDiff, reduceIte, reduceCtorEq, Nat.reduceAdd, Bool.and_self]; first | omega | (repeat' (first | apply And.intro | intro hG)) <;> (try simp only [beq_iff_eq, decide_eq_true_eq, decide_eq_false_iff_not, Bool.false_eq_true, Bool.true_eq_false] at hG) <;> (first | omega | (show (0:Int) ≤ (_:Int); omega) | (show (_:Int) < (_:Int); omega) | assumption | (simp only [List.length_append, List.length_cons, List.length_nil]; omega) | (simp only [beq_iff_eq, decide_eq_false_iff_not, decide_eq_true_eq]; omega) | (simp only [beq_iff_eq, decide_eq_false_iff_not, decide_eq_true_eq]; first | exact hG | assumption)))) ?_
    refine q_seqn ?_
    refine ev_seq ?_
    refine ev_seq ?_
    refine ev_region (by simp only [go_sem, List.nil_append, Nat.reduceEqDiff, reduceIte, reduceDIte, reduceCtorEq, Nat.reduceAdd, Nat.reduceLT, Nat.reduceLeDiff, decide_true, decide_false, Bool.and_self, Bool.or_self, Bool.or_false, Bool.false_or, Bool.and_true, Bool.true_and, Bool.not_true, Bool.not_false]; rfl) (by first | exact trivial | (simp only [go_sem, Nat.reduceEqDiff, reduceIte, reduceCtorEq, Nat.reduceAdd, Bool.and_self]; first | omega | (repeat' (first | apply And.intro | intro hG)) <;> (try simp only [beq_iff_eq, decide_eq_true_eq, decide_eq_false_iff_not, Bool.false_eq_true, Bool.true_eq_false] at hG) <;> (first | omega | (show (0:Int) ≤ (_:Int); omega) | (show (_:Int) < (_:Int); omega) | assumption | (simp only [List.length_append, List.length_cons, List.length_nil]; omega) | (simp only [beq_iff_eq, decide_eq_false_iff_not, decide_eq_true_eq]; omega) | (simp only [beq_iff_eq, decide_eq_false_iff_not, decide_eq_true_eq]; first | exact hG | assumption)))) ?_
    refine q_seqn ?_
    refine ev_cond (by simp only [go_sem, List.nil_append, Nat.reduceEqDiff, reduceIte, reduceDIte, reduceCtorEq, Nat.reduceAdd, Nat.reduceLT, Nat.reduceLeDiff, decide_true, decide_false, Bool.and_self, Bool.or_self, Bool.or_false, Bool.false_or, Bool.and_true, Bool.true_and, Bool.not_true, Bool.not_false]; rfl) (fun hc1 => ?_) (fun hc1 => ?_)
    · exact absurd hc1 (by decide)
    · skip
      refine ev_skip ?_
      refine q_seqn ?_
      refine ev_seq ?_
      refine ev_seq ?_
      refine ev_region (by simp only [go_sem, List.nil_append, Nat.reduceEqDiff, reduceIte, reduceDIte, reduceCtorEq, Nat.reduceAdd, Nat.reduceLT, Nat.reduceLeDiff, decide_true, decide_false, Bool.and_self, Bool.or_self, Bool.or_false, Bool.false_or, Bool.and_true, Bool.true_and, Bool.not_true, Bool.not_false]; rfl) ?_ ?_
      · simp only [go_sem, Nat.reduceEqDiff, reduceIte, reduceCtorEq, Nat.reduceAdd, Bool.and_self]
        exact ⟨h0, fun h => h, fun _ => h01, fun h => h, fun h => by rw [h]; rfl⟩
      refine q_seqn ?_
      refine ev_cond (by simp only [go_sem, List.nil_append, Nat.reduceEqDiff, reduceIte, reduceDIte, reduceCtorEq, Nat.reduceAdd, Nat.reduceLT, Nat.reduceLeDiff, decide_true, decide_false, Bool.and_self, Bool.or_self, Bool.or_false, Bool.false_or, Bool.and_true, Bool.true_and, Bool.not_true, Bool.not_false]; rfl) (fun hc2 => ?_) (fun hc2 => ?_)
      · skip
        refine ev_seq ?_
        refine ev_region (by simp only [go_sem, List.nil_append, Nat.reduceEqDiff, reduceIte, reduceDIte, reduceCtorEq, Nat.reduceAdd, Nat.reduceLT, Nat.reduceLeDiff, decide_true, decide_false, Bool.and_self, Bool.or_self, Bool.or_false, Bool.false_or, Bool.and_true, Bool.true_and, Bool.not_true, Bool.not_false]; rfl) (by first | exact trivial | (simp only [go_sem, Nat.reduceEqDiff, reduceIte, reduceCtorEq, Nat.reduceAdd, Bool.and_self]; first | omega | (repeat' (first | apply And.intro | intro hG)) <;> (try simp only [beq_iff_eq, decide_eq_true_eq, decide_eq_false_iff_not, Bool.false_eq_true, Bool.true_eq_false] at hG) <;> (first | omega | (show (0:Int) ≤ (_:Int); omega) | (show (_:Int) < (_:Int); omega) | assumption | (simp only [List.length_append, List.length_cons, List.length_nil]; omega) | (simp only [beq_iff_eq, decide_eq_false_iff_not, decide_eq_true_eq]; omega) | (simp only [beq_iff_eq, decide_eq_false_iff_not, decide_eq_true_eq]; first | exact hG | assumption)))) ?_
        refine q_seqn ?_
        refine ev_ret ?_
        refine q_seqr ?_
        refine ⟨⟨[4], []⟩, by simp only [go_sem, reduceIte, Nat.reduceEqDiff], ?_⟩
        simp only [go_sem, Nat.reduceEqDiff, reduceIte, reduceCtorEq]
        try rfl
      · skip
        have hf : few a = true ∧ shortE l = true := by revert hc2; cases few a <;> cases shortE l <;> decide
        have hl1 : (List.length a : Int) ≤ 30 := by
          have := hf.1; unfold few at this; simp only [Bool.and_eq_true, decide_eq_true_eq] at this; omega
        have hl2 : (List.length l : Int) ≤ 60 := by
          have := hf.2; unfold shortE at this; simp only [Bool.and_eq_true, decide_eq_true_eq] at this; omega
        refine ev_skip ?_
        refine q_seqn ?_
        refine ev_seq ?_
        refine ev_region (by simp only [go_sem, List.nil_append, Nat.reduceEqDiff, reduceIte, reduceDIte, reduceCtorEq, Nat.reduceAdd, Nat.reduceLT, Nat.reduceLeDiff, decide_true, decide_false, Bool.and_self, Bool.or_self, Bool.or_false, Bool.false_or, Bool.and_true, Bool.true_and, Bool.not_true, Bool.not_false]; rfl) ?_ ?_
        · simp only [go_sem, Nat.reduceEqDiff, reduceIte, reduceCtorEq, Nat.reduceAdd, Bool.and_self]
          first | exact ⟨rfl, by simp only [List.length_nil]; omega⟩ | (simp only [List.length_nil, true_and]; omega)
        refine q_seqn ?_
        refine ev_seq ?_
        refine ev_region (by simp only [go_sem, List.nil_append, Nat.reduceEqDiff, reduceIte, reduceDIte, reduceCtorEq, Nat.reduceAdd, Nat.reduceLT, Nat.reduceLeDiff, decide_true, decide_false, Bool.and_self, Bool.or_self, Bool.or_false, Bool.false_or, Bool.and_true, Bool.true_and, Bool.not_true, Bool.not_false]; rfl) ?_ ?_
        · simp only [go_sem, Nat.reduceEqDiff, reduceIte, reduceCtorEq, Nat.reduceAdd, Bool.and_self]
          omega
        refine q_seqn ?_
        refine ev_seq ?_
        refine ev_region (by simp only [go_sem, List.nil_append, Nat.reduceEqDiff, reduceIte, reduceDIte, reduceCtorEq, Nat.reduceAdd, Nat.reduceLT, Nat.reduceLeDiff, decide_true, decide_false, Bool.and_self, Bool.or_self, Bool.or_false, Bool.false_or, Bool.and_true, Bool.true_and, Bool.not_true, Bool.not_false]; rfl) ?_ ?_
        · simp only [go_sem, Nat.reduceEqDiff, reduceIte, reduceCtorEq, Nat.reduceAdd, Bool.and_self]
          omega
        refine q_seqn ?_
        refine ev_seq ?_
        refine ev_region (by simp only [go_sem, List.nil_append, Nat.reduceEqDiff, reduceIte, reduceDIte, reduceCtorEq, Nat.reduceAdd, Nat.reduceLT, Nat.reduceLeDiff, decide_true, decide_false, Bool.and_self, Bool.or_self, Bool.or_false, Bool.false_or, Bool.and_true, Bool.true_and, Bool.not_true, Bool.not_false]; rfl) ?_ ?_
        · simp only [go_sem, Nat.reduceEqDiff, reduceIte, reduceCtorEq, Nat.reduceAdd, Bool.and_self]
          have hz := applyE_len a l
          exact ⟨fun h => h, fun h => h, fun _ => by omega, fun _ => by omega, fun _ => rfl, fun h => h, fun h => h, fun _ => by omega, fun _ => by omega, fun h => by rw [h]; rfl⟩
        refine q_seqn ?_
        refine ev_ret ?_
        refine ⟨⟨[4], []⟩, by simp only [go_sem, reduceIte, Nat.reduceEqDiff], ?_⟩
        simp only [go_sem, Nat.reduceEqDiff, reduceIte, reduceCtorEq]
        simp
  · cases hC

end Go.Proofs.Ytfcibaiiobihnaa
