/- APPLY in the evaluator: the program's and the reference's. -/
import Derived.Test.YtfcibaiiobihnaaVe
namespace Go.Proofs.Ytfcibaiiobihnaa
open Vc
set_option linter.unusedSimpArgs false
set_option linter.unusedVariables false

def idxE : List tE.den → Int → Int
  | [], _ => -1
  | e :: r, n => if badE e = true then n else idxE r (n + 1)
def nxE (e : tE.den) (o : List (List UInt8)) : List (List UInt8) := if e.1 = 2 then o else o ++ [e.2.1]
def chkE (a : List (List UInt8)) (k : Int) (s : List UInt8) : Bool := if decide ((List.length a : Int) ≤ k) = true then true else !decide (nth .str a k = s)
def goE (a : List (List UInt8)) : List tE.den → Int → List (List UInt8) → List (List UInt8) × Int
  | [], k, o => if k < (List.length a : Int) then ([], 14) else (o, 0)
  | e :: r, k, o => if e.1 = 3 then goE a r k (nxE e o) else if chkE a k e.2.1 = true then ([], 14) else goE a r (k + 1) (nxE e o)
def applyE (a : List (List UInt8)) (es : List tE.den) : List (List UInt8) × Int := if 0 ≤ idxE es 0 then ([], 1) else goE a es 0 []

attribute [go_sem] C30
@[go_sem] def G1 : Ctx := fun f => if f = 30 then some ⟨[.v], C30⟩ else none
theorem G1_ok : CtxOk Try.prog G1 := by
  intro f s h
  unfold G1 at h
  split at h
  · rename_i e; subst e; cases h; exact con30
  · cases h
@[go_sem] def C34 : List Slot → List Blk → Option Ret
  | [(.val (.list (.pair (.int .i64) (.pair .str .unit))) l, none), (.val .clo (some (30, [])), none)], [] => some ⟨[(List.length l : Int) ≤ 9223372036854775807], [(.val (.int .i64) (idxE l 0), none)], []⟩
  | _, _ => none
@[go_sem] def C29 : List Slot → List Blk → Option Ret
  | [(.val (.list (.pair (.int .i64) (.pair .str .unit))) l, none), (.val .clo (some (30, [])), none)], [] => some ⟨[(List.length l : Int) ≤ 9223372036854775807], [(.val .bool (decide (0 ≤ idxE l 0)), none)], []⟩
  | _, _ => none
@[go_sem] def C18 : List Slot → List Blk → Option Ret
  | [(.val (.list .str) a, none), (.val (.list (.pair (.int .i64) (.pair .str .unit))) l, none)], [] => some ⟨[(List.length a : Int) ≤ 1000, (List.length l : Int) ≤ 1000], [(.val (.list .str) (applyE a l).1, none), (.val (.int .i64) (applyE a l).2, none)], []⟩
  | _, _ => none

set_option maxRecDepth 100000 in
set_option maxHeartbeats 4000000 in
theorem con34 : ConOk Try.prog 34 C34 := by
  refine con_ok TT_ok G1_ok mixed Try.func34 (c := _) rfl (N := 19) (by kernel_rfl) (ts := [4]) (fun _ _ => rfl) (res1 rfl) ?_
  intro args L r hC hs
  unfold C34 at hC
  split at hC
  · rename_i l
    cases hC
    have h0 : (List.length l : Int) ≤ 9223372036854775807 := hs _ (List.mem_singleton.2 rfl)
    refine ⟨by simp only [List.length_cons, List.length_nil]; omega, by simp only [go_sem, reduceIte, Nat.reduceEqDiff, Bool.and_self, and_self], trivial, ?_⟩
    simp only [enumE, enumH, lenB, Nat.reduceAdd]
    refine ev_seq ?_
    refine ev_region (by simp only [go_sem, Nat.reduceEqDiff, reduceIte, reduceDIte, reduceCtorEq, Nat.reduceAdd, Nat.reduceLT, Nat.reduceLeDiff, decide_true, decide_false, Bool.and_self, Bool.or_self, Bool.or_false, Bool.false_or, Bool.and_true, Bool.true_and, Bool.not_true, Bool.not_false]; rfl) (by first | exact trivial | (simp only [go_sem, Nat.reduceEqDiff, reduceIte, reduceCtorEq, Nat.reduceAdd, Bool.and_self]; first | omega | (repeat' (first | apply And.intro | intro hG)) <;> (try simp only [beq_iff_eq, decide_eq_true_eq, decide_eq_false_iff_not, Bool.false_eq_true, Bool.true_eq_false] at hG) <;> (first | omega | (show (0:Int) ≤ (_:Int); omega) | (show (_:Int) < (_:Int); omega) | assumption | (simp only [List.length_append, List.length_cons, List.length_nil]; omega) | (simp only [beq_iff_eq, decide_eq_false_iff_not, decide_eq_true_eq]; omega) | (simp only [beq_iff_eq, decide_eq_false_iff_not, decide_eq_true_eq]; first | exact hG | assumption)))) ?_
    refine q_seqn ?_
    refine ev_seq ?_
    refine ev_seq ?_
    refine ev_region (by simp only [go_sem, Nat.reduceEqDiff, reduceIte, reduceDIte, reduceCtorEq, Nat.reduceAdd, Nat.reduceLT, Nat.reduceLeDiff, decide_true, decide_false, Bool.and_self, Bool.or_self, Bool.or_false, Bool.false_or, Bool.and_true, Bool.true_and, Bool.not_true, Bool.not_false]; rfl) (by first | exact trivial | (simp only [go_sem, Nat.reduceEqDiff, reduceIte, reduceCtorEq, Nat.reduceAdd, Bool.and_self]; first | omega | (repeat' (first | apply And.intro | intro hG)) <;> (try simp only [beq_iff_eq, decide_eq_true_eq, decide_eq_false_iff_not, Bool.false_eq_true, Bool.true_eq_false] at hG) <;> (first | omega | (show (0:Int) ≤ (_:Int); omega) | (show (_:Int) < (_:Int); omega) | assumption | (simp only [List.length_append, List.length_cons, List.length_nil]; omega) | (simp only [beq_iff_eq, decide_eq_false_iff_not, decide_eq_true_eq]; omega) | (simp only [beq_iff_eq, decide_eq_false_iff_not, decide_eq_true_eq]; first | exact hG | assumption)))) ?_
    refine q_seqn ?_
    refine ev_block ?_
    refine ev_loop ⟨[0, 1, 7, 8], []⟩ (fun s => ∃ i : Int, 0 ≤ i ∧ i ≤ (List.length l : Int) ∧ idxE l 0 = idxE (l.drop i.toNat) i ∧ s = ⟨[(0, (.val (.list (.pair (.int .i64) (.pair .str .unit))) l, none)), (1, (.val .clo (some (30, [])), none)), (7, (.val (.int .i64) (List.length l : Int), none)), (8, (.val (.int .i64) i, none))], [], 0, 19, 0⟩) (fun s => l.length - (intAt s 8).toNat) ?_ ?_
    · exact ⟨0, by omega, by omega, rfl, by rfl⟩
    · rintro s ⟨i, h1, h2, h3, rfl⟩
      refine ev_seq ?_
      refine ev_region (by simp only [go_sem, Nat.reduceEqDiff, reduceIte, reduceDIte, reduceCtorEq, Nat.reduceAdd, Nat.reduceLT, Nat.reduceLeDiff, decide_true, decide_false, Bool.and_self, Bool.or_self, Bool.or_false, Bool.false_or, Bool.and_true, Bool.true_and, Bool.not_true, Bool.not_false]; rfl) (by first | exact trivial | (simp only [go_sem, Nat.reduceEqDiff, reduceIte, reduceCtorEq, Nat.reduceAdd, Bool.and_self]; first | omega | (repeat' (first | apply And.intro | intro hG)) <;> (try simp only [beq_iff_eq, decide_eq_true_eq, decide_eq_false_iff_not, Bool.false_eq_true, Bool.true_eq_false] at hG) <;> (first | omega | (show (0:Int) ≤ (_:Int); omega) | (show (_:Int) < (_:Int); omega) | assumption | (simp only [List.length_append, List.length_cons, List.length_nil]; omega) | (simp only [beq_iff_eq, decide_eq_false_iff_not, decide_eq_true_eq]; omega) | (simp only [beq_iff_eq, decide_eq_false_iff_not, decide_eq_true_eq]; first | exact hG | assumption)))) ?_
      refine q_seqn ?_
      refine ev_seq ?_
      refine ev_cond (by simp only [go_sem, Nat.reduceEqDiff, reduceIte, reduceDIte, reduceCtorEq, Nat.reduceAdd, Nat.reduceLT, Nat.reduceLeDiff, decide_true, decide_false, Bool.and_self, Bool.or_self, Bool.or_false, Bool.false_or, Bool.and_true, Bool.true_and, Bool.not_true, Bool.not_false]; rfl) (fun hc1 => ?_) (fun hc1 => ?_)
      · try simp only [go_sem, decide_eq_true_eq, decide_eq_false_iff_not, Bool.not_eq_true', Bool.not_eq_false', Bool.or_eq_true, Bool.or_eq_false_iff, Bool.and_eq_true] at hc1
        refine ev_skip ?_
        refine q_seqn ?_
        refine ev_seq ?_
        refine ev_block ?_
        refine ev_seq ?_
        refine ev_region (by simp only [go_sem, Nat.reduceEqDiff, reduceIte, reduceDIte, reduceCtorEq, Nat.reduceAdd, Nat.reduceLT, Nat.reduceLeDiff, decide_true, decide_false, Bool.and_self, Bool.or_self, Bool.or_false, Bool.false_or, Bool.and_true, Bool.true_and, Bool.not_true, Bool.not_false]; rfl) (by first | exact trivial | (simp only [go_sem, Nat.reduceEqDiff, reduceIte, reduceCtorEq, Nat.reduceAdd, Bool.and_self]; first | omega | (repeat' (first | apply And.intro | intro hG)) <;> (try simp only [beq_iff_eq, decide_eq_true_eq, decide_eq_false_iff_not, Bool.false_eq_true, Bool.true_eq_false] at hG) <;> (first | omega | (show (0:Int) ≤ (_:Int); omega) | (show (_:Int) < (_:Int); omega) | assumption | (simp only [List.length_append, List.length_cons, List.length_nil]; omega) | (simp only [beq_iff_eq, decide_eq_false_iff_not, decide_eq_true_eq]; omega) | (simp only [beq_iff_eq, decide_eq_false_iff_not, decide_eq_true_eq]; first | exact hG | assumption)))) ?_
        refine q_seqn ?_
        refine ev_seq ?_
        refine ev_region (by simp only [go_sem, Nat.reduceEqDiff, reduceIte, reduceDIte, reduceCtorEq, Nat.reduceAdd, Nat.reduceLT, Nat.reduceLeDiff, decide_true, decide_false, Bool.and_self, Bool.or_self, Bool.or_false, Bool.false_or, Bool.and_true, Bool.true_and, Bool.not_true, Bool.not_false]; rfl) (by first | exact trivial | (simp only [go_sem, Nat.reduceEqDiff, reduceIte, reduceCtorEq, Nat.reduceAdd, Bool.and_self]; first | omega | (repeat' (first | apply And.intro | intro hG)) <;> (try simp only [beq_iff_eq, decide_eq_true_eq, decide_eq_false_iff_not, Bool.false_eq_true, Bool.true_eq_false] at hG) <;> (first | omega | (show (0:Int) ≤ (_:Int); omega) | (show (_:Int) < (_:Int); omega) | assumption | (simp only [List.length_append, List.length_cons, List.length_nil]; omega) | (simp only [beq_iff_eq, decide_eq_false_iff_not, decide_eq_true_eq]; omega) | (simp only [beq_iff_eq, decide_eq_false_iff_not, decide_eq_true_eq]; first | exact hG | assumption)))) ?_
        refine q_seqn ?_
        refine ev_cond (by simp only [go_sem, Nat.reduceEqDiff, reduceIte, reduceDIte, reduceCtorEq, Nat.reduceAdd, Nat.reduceLT, Nat.reduceLeDiff, decide_true, decide_false, Bool.and_self, Bool.or_self, Bool.or_false, Bool.false_or, Bool.and_true, Bool.true_and, Bool.not_true, Bool.not_false]; rfl) (fun hc2 => ?_) (fun hc2 => ?_)
        · try simp only [go_sem, decide_eq_true_eq, decide_eq_false_iff_not, Bool.not_eq_true', Bool.not_eq_false', Bool.or_eq_true, Bool.or_eq_false_iff, Bool.and_eq_true] at hc2
          refine ev_seq ?_
          refine ev_region (by simp only [go_sem, Nat.reduceEqDiff, reduceIte, reduceDIte, reduceCtorEq, Nat.reduceAdd, Nat.reduceLT, Nat.reduceLeDiff, decide_true, decide_false, Bool.and_self, Bool.or_self, Bool.or_false, Bool.false_or, Bool.and_true, Bool.true_and, Bool.not_true, Bool.not_false]; rfl) (by first | exact trivial | (simp only [go_sem, Nat.reduceEqDiff, reduceIte, reduceCtorEq, Nat.reduceAdd, Bool.and_self]; first | omega | (repeat' (first | apply And.intro | intro hG)) <;> (try simp only [beq_iff_eq, decide_eq_true_eq, decide_eq_false_iff_not, Bool.false_eq_true, Bool.true_eq_false] at hG) <;> (first | omega | (show (0:Int) ≤ (_:Int); omega) | (show (_:Int) < (_:Int); omega) | assumption | (simp only [List.length_append, List.length_cons, List.length_nil]; omega) | (simp only [beq_iff_eq, decide_eq_false_iff_not, decide_eq_true_eq]; omega) | (simp only [beq_iff_eq, decide_eq_false_iff_not, decide_eq_true_eq]; first | exact hG | assumption)))) ?_
          refine q_seqn ?_
          refine ev_ret ?_
          refine q_blkr ?_
          refine q_seqr ?_
          refine q_loopr ?_
          refine q_blkr ?_
          refine q_seqr ?_
          refine ⟨⟨[4], []⟩, by simp only [go_sem, reduceIte, Nat.reduceEqDiff], ?_⟩
          simp only [go_sem, Nat.reduceEqDiff, reduceIte, reduceCtorEq]
          rw [show idxE l 0 = i by rw [h3, nth_drop (t := (.pair (.int .i64) (.pair .str .unit))) h1 hc1, idxE, if_pos hc2]]
        · try simp only [go_sem, decide_eq_true_eq, decide_eq_false_iff_not, Bool.not_eq_true', Bool.not_eq_false', Bool.or_eq_true, Bool.or_eq_false_iff, Bool.and_eq_true] at hc2
          refine ev_skip ?_
          refine q_blkn ?_
          refine q_seqn ?_
          refine ev_region (by simp only [go_sem, Nat.reduceEqDiff, reduceIte, reduceDIte, reduceCtorEq, Nat.reduceAdd, Nat.reduceLT, Nat.reduceLeDiff, decide_true, decide_false, Bool.and_self, Bool.or_self, Bool.or_false, Bool.false_or, Bool.and_true, Bool.true_and, Bool.not_true, Bool.not_false]; rfl) (by first | exact trivial | (simp only [go_sem, Nat.reduceEqDiff, reduceIte, reduceCtorEq, Nat.reduceAdd, Bool.and_self]; first | omega | (repeat' (first | apply And.intro | intro hG)) <;> (try simp only [beq_iff_eq, decide_eq_true_eq, decide_eq_false_iff_not, Bool.false_eq_true, Bool.true_eq_false] at hG) <;> (first | omega | (show (0:Int) ≤ (_:Int); omega) | (show (_:Int) < (_:Int); omega) | assumption | (simp only [List.length_append, List.length_cons, List.length_nil]; omega) | (simp only [beq_iff_eq, decide_eq_false_iff_not, decide_eq_true_eq]; omega) | (simp only [beq_iff_eq, decide_eq_false_iff_not, decide_eq_true_eq]; first | exact hG | assumption)))) ?_
          refine q_loopn ⟨[0, 1, 7, 8], []⟩ ?_ ?_
          · exact ⟨i + 1, by omega, by omega, by rw [h3, nth_drop (t := (.pair (.int .i64) (.pair .str .unit))) h1 hc1, idxE, if_neg (by rw [hc2]; exact Bool.false_ne_true)], by rfl⟩
          · show (List.length l - (i + 1).toNat : Nat) < List.length l - i.toNat
            omega
      · try simp only [go_sem, decide_eq_true_eq, decide_eq_false_iff_not, Bool.not_eq_true', Bool.not_eq_false', Bool.or_eq_true, Bool.or_eq_false_iff, Bool.and_eq_true] at hc1
        refine ev_exit ?_
        refine q_seqx ?_
        refine q_loopx ?_
        refine q_blkx ?_
        refine q_seqn ?_
        refine ev_seq ?_
        refine ev_region (by simp only [go_sem, Nat.reduceEqDiff, reduceIte, reduceDIte, reduceCtorEq, Nat.reduceAdd, Nat.reduceLT, Nat.reduceLeDiff, decide_true, decide_false, Bool.and_self, Bool.or_self, Bool.or_false, Bool.false_or, Bool.and_true, Bool.true_and, Bool.not_true, Bool.not_false]; rfl) (by first | exact trivial | (simp only [go_sem, Nat.reduceEqDiff, reduceIte, reduceCtorEq, Nat.reduceAdd, Bool.and_self]; first | omega | (repeat' (first | apply And.intro | intro hG)) <;> (try simp only [beq_iff_eq, decide_eq_true_eq, decide_eq_false_iff_not, Bool.false_eq_true, Bool.true_eq_false] at hG) <;> (first | omega | (show (0:Int) ≤ (_:Int); omega) | (show (_:Int) < (_:Int); omega) | assumption | (simp only [List.length_append, List.length_cons, List.length_nil]; omega) | (simp only [beq_iff_eq, decide_eq_false_iff_not, decide_eq_true_eq]; omega) | (simp only [beq_iff_eq, decide_eq_false_iff_not, decide_eq_true_eq]; first | exact hG | assumption)))) ?_
        refine q_seqn ?_
        refine ev_ret ?_
        refine ⟨⟨[4], []⟩, by simp only [go_sem, reduceIte, Nat.reduceEqDiff], ?_⟩
        simp only [go_sem, Nat.reduceEqDiff, reduceIte, reduceCtorEq]
        rw [show idxE l 0 = -1 by rw [h3, drop_end hc1]; rfl]
  · cases hC

@[go_sem] def G2 : Ctx := fun f => if f = 34 then some ⟨[.v, .v], C34⟩ else none
theorem G2_ok : CtxOk Try.prog G2 := by
  intro f s h
  unfold G2 at h
  split at h
  · rename_i e; subst e; cases h; exact con34
  · cases h

set_option maxRecDepth 100000 in
set_option maxHeartbeats 4000000 in
theorem con29 : ConOk Try.prog 29 C29 := by
  refine con_ok TT_ok G2_ok mixed Try.func29 (c := _) rfl (N := 9) (by kernel_rfl) (ts := [4]) (fun _ _ => rfl) (res1 rfl) ?_
  intro args L r hC hs
  unfold C29 at hC
  split at hC
  · rename_i l
    cases hC
    have h0 : (List.length l : Int) ≤ 9223372036854775807 := hs _ (List.mem_singleton.2 rfl)
    refine ⟨by simp only [List.length_cons, List.length_nil]; omega, by simp only [go_sem, reduceIte, Nat.reduceEqDiff, Bool.and_self, and_self], trivial, ?_⟩
    simp only [enumE, enumH, lenB, Nat.reduceAdd]
    refine ev_seq ?_
    refine ev_region (by simp only [go_sem, Nat.reduceEqDiff, reduceIte, reduceDIte, reduceCtorEq, Nat.reduceAdd, Nat.reduceLT, Nat.reduceLeDiff, decide_true, decide_false, Bool.and_self, Bool.or_self, Bool.or_false, Bool.false_or, Bool.and_true, Bool.true_and, Bool.not_true, Bool.not_false]; rfl) (by first | exact trivial | (simp only [go_sem, Nat.reduceEqDiff, reduceIte, reduceCtorEq, Nat.reduceAdd, Bool.and_self]; first | omega | (repeat' (first | apply And.intro | intro hG)) <;> (try simp only [beq_iff_eq, decide_eq_true_eq, decide_eq_false_iff_not, Bool.false_eq_true, Bool.true_eq_false] at hG) <;> (first | omega | (show (0:Int) ≤ (_:Int); omega) | (show (_:Int) < (_:Int); omega) | assumption | (simp only [List.length_append, List.length_cons, List.length_nil]; omega) | (simp only [beq_iff_eq, decide_eq_false_iff_not, decide_eq_true_eq]; omega) | (simp only [beq_iff_eq, decide_eq_false_iff_not, decide_eq_true_eq]; first | exact hG | assumption)))) ?_
    refine q_seqn ?_
    refine ev_seq ?_
    refine ev_region (by simp only [go_sem, Nat.reduceEqDiff, reduceIte, reduceDIte, reduceCtorEq, Nat.reduceAdd, Nat.reduceLT, Nat.reduceLeDiff, decide_true, decide_false, Bool.and_self, Bool.or_self, Bool.or_false, Bool.false_or, Bool.and_true, Bool.true_and, Bool.not_true, Bool.not_false]; rfl) (by first | exact trivial | (simp only [go_sem, Nat.reduceEqDiff, reduceIte, reduceCtorEq, Nat.reduceAdd, Bool.and_self]; first | omega | (repeat' (first | apply And.intro | intro hG)) <;> (try simp only [beq_iff_eq, decide_eq_true_eq, decide_eq_false_iff_not, Bool.false_eq_true, Bool.true_eq_false] at hG) <;> (first | omega | (show (0:Int) ≤ (_:Int); omega) | (show (_:Int) < (_:Int); omega) | assumption | (simp only [List.length_append, List.length_cons, List.length_nil]; omega) | (simp only [beq_iff_eq, decide_eq_false_iff_not, decide_eq_true_eq]; omega) | (simp only [beq_iff_eq, decide_eq_false_iff_not, decide_eq_true_eq]; first | exact hG | assumption)))) ?_
    refine q_seqn ?_
    refine ev_ret ?_
    refine ⟨⟨[4], []⟩, by simp only [go_sem, reduceIte, Nat.reduceEqDiff], ?_⟩
    simp only [go_sem, Nat.reduceEqDiff, reduceIte, reduceCtorEq]
    try rfl
  · cases hC

@[go_sem] def G3 : Ctx := fun f => if f = 29 then some ⟨[.v, .v], C29⟩ else none
theorem G3_ok : CtxOk Try.prog G3 := by
  intro f s h
  unfold G3 at h
  split at h
  · rename_i e; subst e; cases h; exact con29
  · cases h

set_option maxRecDepth 100000 in
set_option maxHeartbeats 4000000 in
theorem con18 : ConOk Try.prog 18 C18 := by
  refine con_ok TT_ok G3_ok mixed Try.func18 (c := _) rfl (N := 50) (by kernel_rfl) (ts := [4, 5]) (fun _ _ => rfl) (res2 rfl) ?_
  intro args L r hC hs
  unfold C18 at hC
  split at hC
  · rename_i a l
    cases hC
    have h0 : (List.length a : Int) ≤ 1000 := hs _ List.mem_cons_self
    have h01 : (List.length l : Int) ≤ 1000 := hs _ (List.mem_cons_of_mem _ List.mem_cons_self)
    refine ⟨by simp only [List.length_cons, List.length_nil]; omega, by simp only [go_sem, reduceIte, Nat.reduceEqDiff, Bool.and_self, and_self], trivial, ?_⟩
    simp only [enumE, enumH, lenB, Nat.reduceAdd]
    refine ev_seq ?_
    refine ev_region (by simp only [go_sem, Nat.reduceEqDiff, reduceIte, reduceDIte, reduceCtorEq, Nat.reduceAdd, Nat.reduceLT, Nat.reduceLeDiff, decide_true, decide_false, Bool.and_self, Bool.or_self, Bool.or_false, Bool.false_or, Bool.and_true, Bool.true_and, Bool.not_true, Bool.not_false]; rfl) (by first | exact trivial | (simp only [go_sem, Nat.reduceEqDiff, reduceIte, reduceCtorEq, Nat.reduceAdd, Bool.and_self]; first | omega | (repeat' (first | apply And.intro | intro hG)) <;> (try simp only [beq_iff_eq, decide_eq_true_eq, decide_eq_false_iff_not, Bool.false_eq_true, Bool.true_eq_false] at hG) <;> (first | omega | (show (0:Int) ≤ (_:Int); omega) | (show (_:Int) < (_:Int); omega) | assumption | (simp only [List.length_append, List.length_cons, List.length_nil]; omega) | (simp only [beq_iff_eq, decide_eq_false_iff_not, decide_eq_true_eq]; omega) | (simp only [beq_iff_eq, decide_eq_false_iff_not, decide_eq_true_eq]; first | exact hG | assumption)))) ?_
    refine q_seqn ?_
    refine ev_seq ?_
    refine ev_seq ?_
    refine ev_region (by simp only [go_sem, Nat.reduceEqDiff, reduceIte, reduceDIte, reduceCtorEq, Nat.reduceAdd, Nat.reduceLT, Nat.reduceLeDiff, decide_true, decide_false, Bool.and_self, Bool.or_self, Bool.or_false, Bool.false_or, Bool.and_true, Bool.true_and, Bool.not_true, Bool.not_false]; rfl) (by first | exact trivial | (simp only [go_sem, Nat.reduceEqDiff, reduceIte, reduceCtorEq, Nat.reduceAdd, Bool.and_self]; first | omega | (repeat' (first | apply And.intro | intro hG)) <;> (try simp only [beq_iff_eq, decide_eq_true_eq, decide_eq_false_iff_not, Bool.false_eq_true, Bool.true_eq_false] at hG) <;> (first | omega | (show (0:Int) ≤ (_:Int); omega) | (show (_:Int) < (_:Int); omega) | assumption | (simp only [List.length_append, List.length_cons, List.length_nil]; omega) | (simp only [beq_iff_eq, decide_eq_false_iff_not, decide_eq_true_eq]; omega) | (simp only [beq_iff_eq, decide_eq_false_iff_not, decide_eq_true_eq]; first | exact hG | assumption)))) ?_
    refine q_seqn ?_
    refine ev_cond (by simp only [go_sem, Nat.reduceEqDiff, reduceIte, reduceDIte, reduceCtorEq, Nat.reduceAdd, Nat.reduceLT, Nat.reduceLeDiff, decide_true, decide_false, Bool.and_self, Bool.or_self, Bool.or_false, Bool.false_or, Bool.and_true, Bool.true_and, Bool.not_true, Bool.not_false]; rfl) (fun hc1 => ?_) (fun hc1 => ?_)
    · try simp only [go_sem, decide_eq_true_eq, decide_eq_false_iff_not, Bool.not_eq_true', Bool.not_eq_false', Bool.or_eq_true, Bool.or_eq_false_iff, Bool.and_eq_true] at hc1
      refine ev_seq ?_
      refine ev_region (by simp only [go_sem, Nat.reduceEqDiff, reduceIte, reduceDIte, reduceCtorEq, Nat.reduceAdd, Nat.reduceLT, Nat.reduceLeDiff, decide_true, decide_false, Bool.and_self, Bool.or_self, Bool.or_false, Bool.false_or, Bool.and_true, Bool.true_and, Bool.not_true, Bool.not_false]; rfl) (by first | exact trivial | (simp only [go_sem, Nat.reduceEqDiff, reduceIte, reduceCtorEq, Nat.reduceAdd, Bool.and_self]; first | omega | (repeat' (first | apply And.intro | intro hG)) <;> (try simp only [beq_iff_eq, decide_eq_true_eq, decide_eq_false_iff_not, Bool.false_eq_true, Bool.true_eq_false] at hG) <;> (first | omega | (show (0:Int) ≤ (_:Int); omega) | (show (_:Int) < (_:Int); omega) | assumption | (simp only [List.length_append, List.length_cons, List.length_nil]; omega) | (simp only [beq_iff_eq, decide_eq_false_iff_not, decide_eq_true_eq]; omega) | (simp only [beq_iff_eq, decide_eq_false_iff_not, decide_eq_true_eq]; first | exact hG | assumption)))) ?_
      refine q_seqn ?_
      refine ev_ret ?_
      refine q_seqr ?_
      refine ⟨⟨[4, 5], []⟩, by simp only [go_sem, reduceIte, Nat.reduceEqDiff], ?_⟩
      simp only [go_sem, Nat.reduceEqDiff, reduceIte, reduceCtorEq]
      rw [show applyE a l = ([], 1) from if_pos hc1]; try rfl
    · try simp only [go_sem, decide_eq_true_eq, decide_eq_false_iff_not, Bool.not_eq_true', Bool.not_eq_false', Bool.or_eq_true, Bool.or_eq_false_iff, Bool.and_eq_true] at hc1
      refine ev_skip ?_
      refine q_seqn ?_
      refine ev_seq ?_
      refine ev_region (by simp only [go_sem, Nat.reduceEqDiff, reduceIte, reduceDIte, reduceCtorEq, Nat.reduceAdd, Nat.reduceLT, Nat.reduceLeDiff, decide_true, decide_false, Bool.and_self, Bool.or_self, Bool.or_false, Bool.false_or, Bool.and_true, Bool.true_and, Bool.not_true, Bool.not_false]; rfl) (by first | exact trivial | (simp only [go_sem, Nat.reduceEqDiff, reduceIte, reduceCtorEq, Nat.reduceAdd, Bool.and_self]; first | omega | (repeat' (first | apply And.intro | intro hG)) <;> (try simp only [beq_iff_eq, decide_eq_true_eq, decide_eq_false_iff_not, Bool.false_eq_true, Bool.true_eq_false] at hG) <;> (first | omega | (show (0:Int) ≤ (_:Int); omega) | (show (_:Int) < (_:Int); omega) | assumption | (simp only [List.length_append, List.length_cons, List.length_nil]; omega) | (simp only [beq_iff_eq, decide_eq_false_iff_not, decide_eq_true_eq]; omega) | (simp only [beq_iff_eq, decide_eq_false_iff_not, decide_eq_true_eq]; first | exact hG | assumption)))) ?_
      refine q_seqn ?_
      refine ev_seq ?_
      refine ev_region (by simp only [go_sem, Nat.reduceEqDiff, reduceIte, reduceDIte, reduceCtorEq, Nat.reduceAdd, Nat.reduceLT, Nat.reduceLeDiff, decide_true, decide_false, Bool.and_self, Bool.or_self, Bool.or_false, Bool.false_or, Bool.and_true, Bool.true_and, Bool.not_true, Bool.not_false]; rfl) (by first | exact trivial | (simp only [go_sem, Nat.reduceEqDiff, reduceIte, reduceCtorEq, Nat.reduceAdd, Bool.and_self]; first | omega | (repeat' (first | apply And.intro | intro hG)) <;> (try simp only [beq_iff_eq, decide_eq_true_eq, decide_eq_false_iff_not, Bool.false_eq_true, Bool.true_eq_false] at hG) <;> (first | omega | (show (0:Int) ≤ (_:Int); omega) | (show (_:Int) < (_:Int); omega) | assumption | (simp only [List.length_append, List.length_cons, List.length_nil]; omega) | (simp only [beq_iff_eq, decide_eq_false_iff_not, decide_eq_true_eq]; omega) | (simp only [beq_iff_eq, decide_eq_false_iff_not, decide_eq_true_eq]; first | exact hG | assumption)))) ?_
      refine q_seqn ?_
      refine ev_seq ?_
      refine ev_seq ?_
      refine ev_region (by simp only [go_sem, Nat.reduceEqDiff, reduceIte, reduceDIte, reduceCtorEq, Nat.reduceAdd, Nat.reduceLT, Nat.reduceLeDiff, decide_true, decide_false, Bool.and_self, Bool.or_self, Bool.or_false, Bool.false_or, Bool.and_true, Bool.true_and, Bool.not_true, Bool.not_false]; rfl) (by first | exact trivial | (simp only [go_sem, Nat.reduceEqDiff, reduceIte, reduceCtorEq, Nat.reduceAdd, Bool.and_self]; first | omega | (repeat' (first | apply And.intro | intro hG)) <;> (try simp only [beq_iff_eq, decide_eq_true_eq, decide_eq_false_iff_not, Bool.false_eq_true, Bool.true_eq_false] at hG) <;> (first | omega | (show (0:Int) ≤ (_:Int); omega) | (show (_:Int) < (_:Int); omega) | assumption | (simp only [List.length_append, List.length_cons, List.length_nil]; omega) | (simp only [beq_iff_eq, decide_eq_false_iff_not, decide_eq_true_eq]; omega) | (simp only [beq_iff_eq, decide_eq_false_iff_not, decide_eq_true_eq]; first | exact hG | assumption)))) ?_
      refine q_seqn ?_
      refine ev_block ?_
      refine ev_loop ⟨[0, 6, 7, 12, 13, 14], [(0, 64)]⟩ (fun s => ∃ (i k : Int) (o : List (List UInt8)) (n : Nat), 0 ≤ i ∧ i ≤ (List.length l : Int) ∧ 0 ≤ k ∧ k ≤ i ∧ (o.length : Int) ≤ i ∧ n = o.length ∧ goE a l 0 [] = goE a (l.drop i.toNat) k o ∧ s = ⟨[(0, (.val (.list .str) a, none)), (6, (.val (.list .str) o, some 0)), (7, (.val (.int .i64) k, none)), (12, (.val (.list (.pair (.int .i64) (.pair .str .unit))) l, none)), (13, (.val (.int .i64) (List.length l : Int), none)), (14, (.val (.int .i64) i, none))], [(0, .grow 9 1 n)], 1, 50, 0⟩) (fun s => l.length - (intAt s 14).toNat) ?_ ?_
      · exact ⟨0, 0, [], 0, by omega, by omega, by omega, by omega, by exact Int.le_refl 0, rfl, rfl, by rfl⟩
      · rintro s ⟨i, k, o, n, g1, g2, g3, g4, g5, g6, g7, rfl⟩
        refine ev_seq ?_
        refine ev_region (by simp only [go_sem, Nat.reduceEqDiff, reduceIte, reduceDIte, reduceCtorEq, Nat.reduceAdd, Nat.reduceLT, Nat.reduceLeDiff, decide_true, decide_false, Bool.and_self, Bool.or_self, Bool.or_false, Bool.false_or, Bool.and_true, Bool.true_and, Bool.not_true, Bool.not_false]; rfl) (by first | exact trivial | (simp only [go_sem, Nat.reduceEqDiff, reduceIte, reduceCtorEq, Nat.reduceAdd, Bool.and_self]; first | omega | (repeat' (first | apply And.intro | intro hG)) <;> (try simp only [beq_iff_eq, decide_eq_true_eq, decide_eq_false_iff_not, Bool.false_eq_true, Bool.true_eq_false] at hG) <;> (first | omega | (show (0:Int) ≤ (_:Int); omega) | (show (_:Int) < (_:Int); omega) | assumption | (simp only [List.length_append, List.length_cons, List.length_nil]; omega) | (simp only [beq_iff_eq, decide_eq_false_iff_not, decide_eq_true_eq]; omega) | (simp only [beq_iff_eq, decide_eq_false_iff_not, decide_eq_true_eq]; first | exact hG | assumption)))) ?_
        refine q_seqn ?_
        refine ev_seq ?_
        refine ev_cond (by simp only [go_sem, Nat.reduceEqDiff, reduceIte, reduceDIte, reduceCtorEq, Nat.reduceAdd, Nat.reduceLT, Nat.reduceLeDiff, decide_true, decide_false, Bool.and_self, Bool.or_self, Bool.or_false, Bool.false_or, Bool.and_true, Bool.true_and, Bool.not_true, Bool.not_false]; rfl) (fun hc2 => ?_) (fun hc2 => ?_)
        · try simp only [go_sem, decide_eq_true_eq, decide_eq_false_iff_not, Bool.not_eq_true', Bool.not_eq_false', Bool.or_eq_true, Bool.or_eq_false_iff, Bool.and_eq_true] at hc2
          refine ev_skip ?_
          refine q_seqn ?_
          refine ev_seq ?_
          refine ev_block ?_
          refine ev_seq ?_
          refine ev_region (by simp only [go_sem, Nat.reduceEqDiff, reduceIte, reduceDIte, reduceCtorEq, Nat.reduceAdd, Nat.reduceLT, Nat.reduceLeDiff, decide_true, decide_false, Bool.and_self, Bool.or_self, Bool.or_false, Bool.false_or, Bool.and_true, Bool.true_and, Bool.not_true, Bool.not_false]; rfl) (by first | exact trivial | (simp only [go_sem, Nat.reduceEqDiff, reduceIte, reduceCtorEq, Nat.reduceAdd, Bool.and_self]; first | omega | (repeat' (first | apply And.intro | intro hG)) <;> (try simp only [beq_iff_eq, decide_eq_true_eq, decide_eq_false_iff_not, Bool.false_eq_true, Bool.true_eq_false] at hG) <;> (first | omega | (show (0:Int) ≤ (_:Int); omega) | (show (_:Int) < (_:Int); omega) | assumption | (simp only [List.length_append, List.length_cons, List.length_nil]; omega) | (simp only [beq_iff_eq, decide_eq_false_iff_not, decide_eq_true_eq]; omega) | (simp only [beq_iff_eq, decide_eq_false_iff_not, decide_eq_true_eq]; first | exact hG | assumption)))) ?_
          refine q_seqn ?_
          refine ev_seq ?_
          refine ev_seq ?_
          refine ev_region (by simp only [go_sem, Nat.reduceEqDiff, reduceIte, reduceDIte, reduceCtorEq, Nat.reduceAdd, Nat.reduceLT, Nat.reduceLeDiff, decide_true, decide_false, Bool.and_self, Bool.or_self, Bool.or_false, Bool.false_or, Bool.and_true, Bool.true_and, Bool.not_true, Bool.not_false]; rfl) (by first | exact trivial | (simp only [go_sem, Nat.reduceEqDiff, reduceIte, reduceCtorEq, Nat.reduceAdd, Bool.and_self]; first | omega | (repeat' (first | apply And.intro | intro hG)) <;> (try simp only [beq_iff_eq, decide_eq_true_eq, decide_eq_false_iff_not, Bool.false_eq_true, Bool.true_eq_false] at hG) <;> (first | omega | (show (0:Int) ≤ (_:Int); omega) | (show (_:Int) < (_:Int); omega) | assumption | (simp only [List.length_append, List.length_cons, List.length_nil]; omega) | (simp only [beq_iff_eq, decide_eq_false_iff_not, decide_eq_true_eq]; omega) | (simp only [beq_iff_eq, decide_eq_false_iff_not, decide_eq_true_eq]; first | exact hG | assumption)))) ?_
          refine q_seqn ?_
          refine ev_cond (by simp only [go_sem, Nat.reduceEqDiff, reduceIte, reduceDIte, reduceCtorEq, Nat.reduceAdd, Nat.reduceLT, Nat.reduceLeDiff, decide_true, decide_false, Bool.and_self, Bool.or_self, Bool.or_false, Bool.false_or, Bool.and_true, Bool.true_and, Bool.not_true, Bool.not_false]; rfl) (fun hc3 => ?_) (fun hc3 => ?_)
          · try simp only [go_sem, decide_eq_true_eq, decide_eq_false_iff_not, Bool.not_eq_true', Bool.not_eq_false', Bool.or_eq_true, Bool.or_eq_false_iff, Bool.and_eq_true] at hc3
            refine ev_seq ?_
            refine ev_seq ?_
            refine ev_drawn (by simp only [go_sem, Nat.reduceEqDiff, reduceIte, reduceDIte, reduceCtorEq, Nat.reduceAdd, Nat.reduceLT, Nat.reduceLeDiff, decide_true, decide_false, Bool.and_self, Bool.or_self, Bool.or_false, Bool.false_or, Bool.and_true, Bool.true_and, Bool.not_true, Bool.not_false]; rfl) (by kernel_rfl) (by first | exact trivial | (simp only [go_sem, Nat.reduceEqDiff, reduceIte, reduceCtorEq, Nat.reduceAdd, Bool.and_self]; first | omega | (repeat' (first | apply And.intro | intro hG)) <;> (try simp only [beq_iff_eq, decide_eq_true_eq, decide_eq_false_iff_not, Bool.false_eq_true, Bool.true_eq_false] at hG) <;> (first | omega | (show (0:Int) ≤ (_:Int); omega) | (show (_:Int) < (_:Int); omega) | assumption | (simp only [List.length_append, List.length_cons, List.length_nil]; omega) | (simp only [beq_iff_eq, decide_eq_false_iff_not, decide_eq_true_eq]; omega) | (simp only [beq_iff_eq, decide_eq_false_iff_not, decide_eq_true_eq]; first | exact hG | assumption)))) ?_
            refine q_seqn ?_
            refine ev_cond (by simp only [go_sem, Nat.reduceEqDiff, reduceIte, reduceDIte, reduceCtorEq, Nat.reduceAdd, Nat.reduceLT, Nat.reduceLeDiff, decide_true, decide_false, Bool.and_self, Bool.or_self, Bool.or_false, Bool.false_or, Bool.and_true, Bool.true_and, Bool.not_true, Bool.not_false]; rfl) (fun hc4 => ?_) (fun hc4 => ?_)
            · skip
              refine ev_seq ?_
              refine ev_region (by simp only [go_sem, Nat.reduceEqDiff, reduceIte, reduceDIte, reduceCtorEq, Nat.reduceAdd, Nat.reduceLT, Nat.reduceLeDiff, decide_true, decide_false, Bool.and_self, Bool.or_self, Bool.or_false, Bool.false_or, Bool.and_true, Bool.true_and, Bool.not_true, Bool.not_false]; rfl) (by first | exact trivial | (simp only [go_sem, Nat.reduceEqDiff, reduceIte, reduceCtorEq, Nat.reduceAdd, Bool.and_self]; first | omega | (repeat' (first | apply And.intro | intro hG)) <;> (try simp only [beq_iff_eq, decide_eq_true_eq, decide_eq_false_iff_not, Bool.false_eq_true, Bool.true_eq_false] at hG) <;> (first | omega | (show (0:Int) ≤ (_:Int); omega) | (show (_:Int) < (_:Int); omega) | assumption | (simp only [List.length_append, List.length_cons, List.length_nil]; omega) | (simp only [beq_iff_eq, decide_eq_false_iff_not, decide_eq_true_eq]; omega) | (simp only [beq_iff_eq, decide_eq_false_iff_not, decide_eq_true_eq]; first | exact hG | assumption)))) ?_
              refine q_seqn ?_
              refine ev_ret ?_
              refine q_seqr ?_
              refine q_seqr ?_
              refine q_blkr ?_
              refine q_seqr ?_
              refine q_loopr ?_
              refine q_blkr ?_
              refine q_seqr ?_
              refine ⟨⟨[4, 5], []⟩, by simp only [go_sem, reduceIte, Nat.reduceEqDiff], ?_⟩
              simp only [go_sem, Nat.reduceEqDiff, reduceIte, reduceCtorEq]
              rw [show applyE a l = ([], 14) by unfold applyE; rw [if_neg hc1, g7, nth_drop (t := (.pair (.int .i64) (.pair .str .unit))) g1 hc2, goE, if_neg hc3, if_pos (show chkE a k (nth (.pair (.int .i64) (.pair .str .unit)) l i).2.1 = true from hc4)]]; try rfl
            · skip
              refine ev_skip ?_
              refine q_seqn ?_
              refine ev_region (by simp only [go_sem, Nat.reduceEqDiff, reduceIte, reduceDIte, reduceCtorEq, Nat.reduceAdd, Nat.reduceLT, Nat.reduceLeDiff, decide_true, decide_false, Bool.and_self, Bool.or_self, Bool.or_false, Bool.false_or, Bool.and_true, Bool.true_and, Bool.not_true, Bool.not_false]; rfl) (by first | exact trivial | (simp only [go_sem, Nat.reduceEqDiff, reduceIte, reduceCtorEq, Nat.reduceAdd, Bool.and_self]; first | omega | (repeat' (first | apply And.intro | intro hG)) <;> (try simp only [beq_iff_eq, decide_eq_true_eq, decide_eq_false_iff_not, Bool.false_eq_true, Bool.true_eq_false] at hG) <;> (first | omega | (show (0:Int) ≤ (_:Int); omega) | (show (_:Int) < (_:Int); omega) | assumption | (simp only [List.length_append, List.length_cons, List.length_nil]; omega) | (simp only [beq_iff_eq, decide_eq_false_iff_not, decide_eq_true_eq]; omega) | (simp only [beq_iff_eq, decide_eq_false_iff_not, decide_eq_true_eq]; first | exact hG | assumption)))) ?_
              refine q_seqn ?_
              refine ev_seq ?_
              refine ev_region (by simp only [go_sem, Nat.reduceEqDiff, reduceIte, reduceDIte, reduceCtorEq, Nat.reduceAdd, Nat.reduceLT, Nat.reduceLeDiff, decide_true, decide_false, Bool.and_self, Bool.or_self, Bool.or_false, Bool.false_or, Bool.and_true, Bool.true_and, Bool.not_true, Bool.not_false]; rfl) (by first | exact trivial | (simp only [go_sem, Nat.reduceEqDiff, reduceIte, reduceCtorEq, Nat.reduceAdd, Bool.and_self]; first | omega | (repeat' (first | apply And.intro | intro hG)) <;> (try simp only [beq_iff_eq, decide_eq_true_eq, decide_eq_false_iff_not, Bool.false_eq_true, Bool.true_eq_false] at hG) <;> (first | omega | (show (0:Int) ≤ (_:Int); omega) | (show (_:Int) < (_:Int); omega) | assumption | (simp only [List.length_append, List.length_cons, List.length_nil]; omega) | (simp only [beq_iff_eq, decide_eq_false_iff_not, decide_eq_true_eq]; omega) | (simp only [beq_iff_eq, decide_eq_false_iff_not, decide_eq_true_eq]; first | exact hG | assumption)))) ?_
              refine q_seqn ?_
              refine ev_cond (by simp only [go_sem, Nat.reduceEqDiff, reduceIte, reduceDIte, reduceCtorEq, Nat.reduceAdd, Nat.reduceLT, Nat.reduceLeDiff, decide_true, decide_false, Bool.and_self, Bool.or_self, Bool.or_false, Bool.false_or, Bool.and_true, Bool.true_and, Bool.not_true, Bool.not_false]; rfl) (fun hc5 => ?_) (fun hc5 => ?_)
              · try simp only [go_sem, decide_eq_true_eq, decide_eq_false_iff_not, Bool.not_eq_true', Bool.not_eq_false', Bool.or_eq_true, Bool.or_eq_false_iff, Bool.and_eq_true] at hc5
                refine ev_region (by simp only [go_sem, Nat.reduceEqDiff, reduceIte, reduceDIte, reduceCtorEq, Nat.reduceAdd, Nat.reduceLT, Nat.reduceLeDiff, decide_true, decide_false, Bool.and_self, Bool.or_self, Bool.or_false, Bool.false_or, Bool.and_true, Bool.true_and, Bool.not_true, Bool.not_false]; rfl) (by first | exact trivial | (simp only [go_sem, Nat.reduceEqDiff, reduceIte, reduceCtorEq, Nat.reduceAdd, Bool.and_self]; first | omega | (repeat' (first | apply And.intro | intro hG)) <;> (try simp only [beq_iff_eq, decide_eq_true_eq, decide_eq_false_iff_not, Bool.false_eq_true, Bool.true_eq_false] at hG) <;> (first | omega | (show (0:Int) ≤ (_:Int); omega) | (show (_:Int) < (_:Int); omega) | assumption | (simp only [List.length_append, List.length_cons, List.length_nil]; omega) | (simp only [beq_iff_eq, decide_eq_false_iff_not, decide_eq_true_eq]; omega) | (simp only [beq_iff_eq, decide_eq_false_iff_not, decide_eq_true_eq]; first | exact hG | assumption)))) ?_
                refine q_blkn ?_
                refine q_seqn ?_
                refine ev_region (by simp only [go_sem, Nat.reduceEqDiff, reduceIte, reduceDIte, reduceCtorEq, Nat.reduceAdd, Nat.reduceLT, Nat.reduceLeDiff, decide_true, decide_false, Bool.and_self, Bool.or_self, Bool.or_false, Bool.false_or, Bool.and_true, Bool.true_and, Bool.not_true, Bool.not_false]; rfl) (by first | exact trivial | (simp only [go_sem, Nat.reduceEqDiff, reduceIte, reduceCtorEq, Nat.reduceAdd, Bool.and_self]; first | omega | (repeat' (first | apply And.intro | intro hG)) <;> (try simp only [beq_iff_eq, decide_eq_true_eq, decide_eq_false_iff_not, Bool.false_eq_true, Bool.true_eq_false] at hG) <;> (first | omega | (show (0:Int) ≤ (_:Int); omega) | (show (_:Int) < (_:Int); omega) | assumption | (simp only [List.length_append, List.length_cons, List.length_nil]; omega) | (simp only [beq_iff_eq, decide_eq_false_iff_not, decide_eq_true_eq]; omega) | (simp only [beq_iff_eq, decide_eq_false_iff_not, decide_eq_true_eq]; first | exact hG | assumption)))) ?_
                refine q_loopn ⟨[0, 6, 7, 12, 13, 14], [(0, 0)]⟩ ?_ ?_
                · exact ⟨i + 1, k + 1, o ++ [(nth (.pair (.int .i64) (.pair .str .unit)) l i).2.1], o.length + 1, by omega, by omega, by omega, by omega, by (try simp only [List.length_append, List.length_cons, List.length_nil]); omega, by first | rfl | simp only [List.length_append, List.length_cons, List.length_nil], by rw [g7, nth_drop (t := (.pair (.int .i64) (.pair .str .unit))) g1 hc2, goE, if_neg hc3, if_neg (by rw [show chkE a k (nth (.pair (.int .i64) (.pair .str .unit)) l i).2.1 = false from hc4]; exact Bool.false_ne_true), nxE, if_neg hc5], by (try subst g6); rfl⟩
                · show (List.length l - (i + 1).toNat : Nat) < List.length l - i.toNat
                  omega
              · try simp only [go_sem, decide_eq_true_eq, decide_eq_false_iff_not, Bool.not_eq_true', Bool.not_eq_false', Bool.or_eq_true, Bool.or_eq_false_iff, Bool.and_eq_true] at hc5
                refine ev_skip ?_
                refine q_blkn ?_
                refine q_seqn ?_
                refine ev_region (by simp only [go_sem, Nat.reduceEqDiff, reduceIte, reduceDIte, reduceCtorEq, Nat.reduceAdd, Nat.reduceLT, Nat.reduceLeDiff, decide_true, decide_false, Bool.and_self, Bool.or_self, Bool.or_false, Bool.false_or, Bool.and_true, Bool.true_and, Bool.not_true, Bool.not_false]; rfl) (by first | exact trivial | (simp only [go_sem, Nat.reduceEqDiff, reduceIte, reduceCtorEq, Nat.reduceAdd, Bool.and_self]; first | omega | (repeat' (first | apply And.intro | intro hG)) <;> (try simp only [beq_iff_eq, decide_eq_true_eq, decide_eq_false_iff_not, Bool.false_eq_true, Bool.true_eq_false] at hG) <;> (first | omega | (show (0:Int) ≤ (_:Int); omega) | (show (_:Int) < (_:Int); omega) | assumption | (simp only [List.length_append, List.length_cons, List.length_nil]; omega) | (simp only [beq_iff_eq, decide_eq_false_iff_not, decide_eq_true_eq]; omega) | (simp only [beq_iff_eq, decide_eq_false_iff_not, decide_eq_true_eq]; first | exact hG | assumption)))) ?_
                refine q_loopn ⟨[0, 6, 7, 12, 13, 14], [(0, 0)]⟩ ?_ ?_
                · exact ⟨i + 1, k + 1, o, o.length, by omega, by omega, by omega, by omega, by (try simp only [List.length_append, List.length_cons, List.length_nil]); omega, by first | rfl | simp only [List.length_append, List.length_cons, List.length_nil], by rw [g7, nth_drop (t := (.pair (.int .i64) (.pair .str .unit))) g1 hc2, goE, if_neg hc3, if_neg (by rw [show chkE a k (nth (.pair (.int .i64) (.pair .str .unit)) l i).2.1 = false from hc4]; exact Bool.false_ne_true), nxE, if_pos hc5], by (try subst g6); rfl⟩
                · show (List.length l - (i + 1).toNat : Nat) < List.length l - i.toNat
                  omega
          · try simp only [go_sem, decide_eq_true_eq, decide_eq_false_iff_not, Bool.not_eq_true', Bool.not_eq_false', Bool.or_eq_true, Bool.or_eq_false_iff, Bool.and_eq_true] at hc3
            refine ev_skip ?_
            refine q_seqn ?_
            refine ev_seq ?_
            refine ev_region (by simp only [go_sem, Nat.reduceEqDiff, reduceIte, reduceDIte, reduceCtorEq, Nat.reduceAdd, Nat.reduceLT, Nat.reduceLeDiff, decide_true, decide_false, Bool.and_self, Bool.or_self, Bool.or_false, Bool.false_or, Bool.and_true, Bool.true_and, Bool.not_true, Bool.not_false]; rfl) (by first | exact trivial | (simp only [go_sem, Nat.reduceEqDiff, reduceIte, reduceCtorEq, Nat.reduceAdd, Bool.and_self]; first | omega | (repeat' (first | apply And.intro | intro hG)) <;> (try simp only [beq_iff_eq, decide_eq_true_eq, decide_eq_false_iff_not, Bool.false_eq_true, Bool.true_eq_false] at hG) <;> (first | omega | (show (0:Int) ≤ (_:Int); omega) | (show (_:Int) < (_:Int); omega) | assumption | (simp only [List.length_append, List.length_cons, List.length_nil]; omega) | (simp only [beq_iff_eq, decide_eq_false_iff_not, decide_eq_true_eq]; omega) | (simp only [beq_iff_eq, decide_eq_false_iff_not, decide_eq_true_eq]; first | exact hG | assumption)))) ?_
            refine q_seqn ?_
            refine ev_cond (by simp only [go_sem, Nat.reduceEqDiff, reduceIte, reduceDIte, reduceCtorEq, Nat.reduceAdd, Nat.reduceLT, Nat.reduceLeDiff, decide_true, decide_false, Bool.and_self, Bool.or_self, Bool.or_false, Bool.false_or, Bool.and_true, Bool.true_and, Bool.not_true, Bool.not_false]; rfl) (fun hc6 => ?_) (fun hc6 => ?_)
            · try simp only [go_sem, decide_eq_true_eq, decide_eq_false_iff_not, Bool.not_eq_true', Bool.not_eq_false', Bool.or_eq_true, Bool.or_eq_false_iff, Bool.and_eq_true] at hc6
              refine ev_region (by simp only [go_sem, Nat.reduceEqDiff, reduceIte, reduceDIte, reduceCtorEq, Nat.reduceAdd, Nat.reduceLT, Nat.reduceLeDiff, decide_true, decide_false, Bool.and_self, Bool.or_self, Bool.or_false, Bool.false_or, Bool.and_true, Bool.true_and, Bool.not_true, Bool.not_false]; rfl) (by first | exact trivial | (simp only [go_sem, Nat.reduceEqDiff, reduceIte, reduceCtorEq, Nat.reduceAdd, Bool.and_self]; first | omega | (repeat' (first | apply And.intro | intro hG)) <;> (try simp only [beq_iff_eq, decide_eq_true_eq, decide_eq_false_iff_not, Bool.false_eq_true, Bool.true_eq_false] at hG) <;> (first | omega | (show (0:Int) ≤ (_:Int); omega) | (show (_:Int) < (_:Int); omega) | assumption | (simp only [List.length_append, List.length_cons, List.length_nil]; omega) | (simp only [beq_iff_eq, decide_eq_false_iff_not, decide_eq_true_eq]; omega) | (simp only [beq_iff_eq, decide_eq_false_iff_not, decide_eq_true_eq]; first | exact hG | assumption)))) ?_
              refine q_blkn ?_
              refine q_seqn ?_
              refine ev_region (by simp only [go_sem, Nat.reduceEqDiff, reduceIte, reduceDIte, reduceCtorEq, Nat.reduceAdd, Nat.reduceLT, Nat.reduceLeDiff, decide_true, decide_false, Bool.and_self, Bool.or_self, Bool.or_false, Bool.false_or, Bool.and_true, Bool.true_and, Bool.not_true, Bool.not_false]; rfl) (by first | exact trivial | (simp only [go_sem, Nat.reduceEqDiff, reduceIte, reduceCtorEq, Nat.reduceAdd, Bool.and_self]; first | omega | (repeat' (first | apply And.intro | intro hG)) <;> (try simp only [beq_iff_eq, decide_eq_true_eq, decide_eq_false_iff_not, Bool.false_eq_true, Bool.true_eq_false] at hG) <;> (first | omega | (show (0:Int) ≤ (_:Int); omega) | (show (_:Int) < (_:Int); omega) | assumption | (simp only [List.length_append, List.length_cons, List.length_nil]; omega) | (simp only [beq_iff_eq, decide_eq_false_iff_not, decide_eq_true_eq]; omega) | (simp only [beq_iff_eq, decide_eq_false_iff_not, decide_eq_true_eq]; first | exact hG | assumption)))) ?_
              refine q_loopn ⟨[0, 6, 7, 12, 13, 14], [(0, 0)]⟩ ?_ ?_
              · exact ⟨i + 1, k, o ++ [(nth (.pair (.int .i64) (.pair .str .unit)) l i).2.1], o.length + 1, by omega, by omega, by omega, by omega, by (try simp only [List.length_append, List.length_cons, List.length_nil]); omega, by first | rfl | simp only [List.length_append, List.length_cons, List.length_nil], by rw [g7, nth_drop (t := (.pair (.int .i64) (.pair .str .unit))) g1 hc2, goE, if_pos hc3, nxE, if_neg hc6], by (try subst g6); rfl⟩
              · show (List.length l - (i + 1).toNat : Nat) < List.length l - i.toNat
                omega
            · try simp only [go_sem, decide_eq_true_eq, decide_eq_false_iff_not, Bool.not_eq_true', Bool.not_eq_false', Bool.or_eq_true, Bool.or_eq_false_iff, Bool.and_eq_true] at hc6
              refine ev_skip ?_
              refine q_blkn ?_
              refine q_seqn ?_
              refine ev_region (by simp only [go_sem, Nat.reduceEqDiff, reduceIte, reduceDIte, reduceCtorEq, Nat.reduceAdd, Nat.reduceLT, Nat.reduceLeDiff, decide_true, decide_false, Bool.and_self, Bool.or_self, Bool.or_false, Bool.false_or, Bool.and_true, Bool.true_and, Bool.not_true, Bool.not_false]; rfl) (by first | exact trivial | (simp only [go_sem, Nat.reduceEqDiff, reduceIte, reduceCtorEq, Nat.reduceAdd, Bool.and_self]; first | omega | (repeat' (first | apply And.intro | intro hG)) <;> (try simp only [beq_iff_eq, decide_eq_true_eq, decide_eq_false_iff_not, Bool.false_eq_true, Bool.true_eq_false] at hG) <;> (first | omega | (show (0:Int) ≤ (_:Int); omega) | (show (_:Int) < (_:Int); omega) | assumption | (simp only [List.length_append, List.length_cons, List.length_nil]; omega) | (simp only [beq_iff_eq, decide_eq_false_iff_not, decide_eq_true_eq]; omega) | (simp only [beq_iff_eq, decide_eq_false_iff_not, decide_eq_true_eq]; first | exact hG | assumption)))) ?_
              refine q_loopn ⟨[0, 6, 7, 12, 13, 14], [(0, 0)]⟩ ?_ ?_
              · exact ⟨i + 1, k, o, o.length, by omega, by omega, by omega, by omega, by (try simp only [List.length_append, List.length_cons, List.length_nil]); omega, by first | rfl | simp only [List.length_append, List.length_cons, List.length_nil], by rw [g7, nth_drop (t := (.pair (.int .i64) (.pair .str .unit))) g1 hc2, goE, if_pos hc3, nxE, if_pos hc6], by (try subst g6); rfl⟩
              · show (List.length l - (i + 1).toNat : Nat) < List.length l - i.toNat
                omega
        · try simp only [go_sem, decide_eq_true_eq, decide_eq_false_iff_not, Bool.not_eq_true', Bool.not_eq_false', Bool.or_eq_true, Bool.or_eq_false_iff, Bool.and_eq_true] at hc2
          refine ev_exit ?_
          refine q_seqx ?_
          refine q_loopx ?_
          refine q_blkx ?_
          refine q_seqn ?_
          refine ev_seq ?_
          refine ev_seq ?_
          refine ev_region (by simp only [go_sem, Nat.reduceEqDiff, reduceIte, reduceDIte, reduceCtorEq, Nat.reduceAdd, Nat.reduceLT, Nat.reduceLeDiff, decide_true, decide_false, Bool.and_self, Bool.or_self, Bool.or_false, Bool.false_or, Bool.and_true, Bool.true_and, Bool.not_true, Bool.not_false]; rfl) (by first | exact trivial | (simp only [go_sem, Nat.reduceEqDiff, reduceIte, reduceCtorEq, Nat.reduceAdd, Bool.and_self]; first | omega | (repeat' (first | apply And.intro | intro hG)) <;> (try simp only [beq_iff_eq, decide_eq_true_eq, decide_eq_false_iff_not, Bool.false_eq_true, Bool.true_eq_false] at hG) <;> (first | omega | (show (0:Int) ≤ (_:Int); omega) | (show (_:Int) < (_:Int); omega) | assumption | (simp only [List.length_append, List.length_cons, List.length_nil]; omega) | (simp only [beq_iff_eq, decide_eq_false_iff_not, decide_eq_true_eq]; omega) | (simp only [beq_iff_eq, decide_eq_false_iff_not, decide_eq_true_eq]; first | exact hG | assumption)))) ?_
          refine q_seqn ?_
          refine ev_cond (by simp only [go_sem, Nat.reduceEqDiff, reduceIte, reduceDIte, reduceCtorEq, Nat.reduceAdd, Nat.reduceLT, Nat.reduceLeDiff, decide_true, decide_false, Bool.and_self, Bool.or_self, Bool.or_false, Bool.false_or, Bool.and_true, Bool.true_and, Bool.not_true, Bool.not_false]; rfl) (fun hc7 => ?_) (fun hc7 => ?_)
          · try simp only [go_sem, decide_eq_true_eq, decide_eq_false_iff_not, Bool.not_eq_true', Bool.not_eq_false', Bool.or_eq_true, Bool.or_eq_false_iff, Bool.and_eq_true] at hc7
            refine ev_seq ?_
            refine ev_region (by simp only [go_sem, Nat.reduceEqDiff, reduceIte, reduceDIte, reduceCtorEq, Nat.reduceAdd, Nat.reduceLT, Nat.reduceLeDiff, decide_true, decide_false, Bool.and_self, Bool.or_self, Bool.or_false, Bool.false_or, Bool.and_true, Bool.true_and, Bool.not_true, Bool.not_false]; rfl) (by first | exact trivial | (simp only [go_sem, Nat.reduceEqDiff, reduceIte, reduceCtorEq, Nat.reduceAdd, Bool.and_self]; first | omega | (repeat' (first | apply And.intro | intro hG)) <;> (try simp only [beq_iff_eq, decide_eq_true_eq, decide_eq_false_iff_not, Bool.false_eq_true, Bool.true_eq_false] at hG) <;> (first | omega | (show (0:Int) ≤ (_:Int); omega) | (show (_:Int) < (_:Int); omega) | assumption | (simp only [List.length_append, List.length_cons, List.length_nil]; omega) | (simp only [beq_iff_eq, decide_eq_false_iff_not, decide_eq_true_eq]; omega) | (simp only [beq_iff_eq, decide_eq_false_iff_not, decide_eq_true_eq]; first | exact hG | assumption)))) ?_
            refine q_seqn ?_
            refine ev_ret ?_
            refine q_seqr ?_
            refine ⟨⟨[4, 5], []⟩, by simp only [go_sem, reduceIte, Nat.reduceEqDiff], ?_⟩
            simp only [go_sem, Nat.reduceEqDiff, reduceIte, reduceCtorEq]
            rw [show applyE a l = ([], 14) by unfold applyE; rw [if_neg hc1, g7, drop_end hc2, goE, if_pos hc7]]; try rfl
          · try simp only [go_sem, decide_eq_true_eq, decide_eq_false_iff_not, Bool.not_eq_true', Bool.not_eq_false', Bool.or_eq_true, Bool.or_eq_false_iff, Bool.and_eq_true] at hc7
            refine ev_skip ?_
            refine q_seqn ?_
            refine ev_seq ?_
            refine ev_region (by simp only [go_sem, Nat.reduceEqDiff, reduceIte, reduceDIte, reduceCtorEq, Nat.reduceAdd, Nat.reduceLT, Nat.reduceLeDiff, decide_true, decide_false, Bool.and_self, Bool.or_self, Bool.or_false, Bool.false_or, Bool.and_true, Bool.true_and, Bool.not_true, Bool.not_false]; rfl) (by first | exact trivial | (simp only [go_sem, Nat.reduceEqDiff, reduceIte, reduceCtorEq, Nat.reduceAdd, Bool.and_self]; first | omega | (repeat' (first | apply And.intro | intro hG)) <;> (try simp only [beq_iff_eq, decide_eq_true_eq, decide_eq_false_iff_not, Bool.false_eq_true, Bool.true_eq_false] at hG) <;> (first | omega | (show (0:Int) ≤ (_:Int); omega) | (show (_:Int) < (_:Int); omega) | assumption | (simp only [List.length_append, List.length_cons, List.length_nil]; omega) | (simp only [beq_iff_eq, decide_eq_false_iff_not, decide_eq_true_eq]; omega) | (simp only [beq_iff_eq, decide_eq_false_iff_not, decide_eq_true_eq]; first | exact hG | assumption)))) ?_
            refine q_seqn ?_
            refine ev_ret ?_
            refine ⟨⟨[4, 5], []⟩, by simp only [go_sem, reduceIte, Nat.reduceEqDiff], ?_⟩
            simp only [go_sem, Nat.reduceEqDiff, reduceIte, reduceCtorEq]
            rw [show applyE a l = (o, 0) by unfold applyE; rw [if_neg hc1, g7, drop_end hc2, goE, if_neg hc7]]; try rfl
  · cases hC


set_option maxRecDepth 100000 in
set_option maxHeartbeats 4000000 in
theorem con20 : ConOk Try.prog 20 C18 := by
  refine con_ok TT_ok G0_ok mixed Try.func20 (c := _) rfl (N := 72) (by kernel_rfl) (ts := [4, 5]) (fun _ _ => rfl) (res2 rfl) ?_
  intro args L r hC hs
  unfold C18 at hC
  split at hC
  · rename_i a l
    cases hC
    have h0 : (List.length a : Int) ≤ 1000 := hs _ List.mem_cons_self
    have h01 : (List.length l : Int) ≤ 1000 := hs _ (List.mem_cons_of_mem _ List.mem_cons_self)
    refine ⟨by simp only [List.length_cons, List.length_nil]; omega, by simp only [go_sem, reduceIte, Nat.reduceEqDiff, Bool.and_self, and_self], trivial, ?_⟩
    simp only [enumE, enumH, lenB, Nat.reduceAdd]
    refine ev_seq ?_
    refine ev_region (by simp only [go_sem, Nat.reduceEqDiff, reduceIte, reduceDIte, reduceCtorEq, Nat.reduceAdd, Nat.reduceLT, Nat.reduceLeDiff, decide_true, decide_false, Bool.and_self, Bool.or_self, Bool.or_false, Bool.false_or, Bool.and_true, Bool.true_and, Bool.not_true, Bool.not_false]; rfl) (by first | exact trivial | (simp only [go_sem, Nat.reduceEqDiff, reduceIte, reduceCtorEq, Nat.reduceAdd, Bool.and_self]; first | omega | (repeat' (first | apply And.intro | intro hG)) <;> (try simp only [beq_iff_eq, decide_eq_true_eq, decide_eq_false_iff_not, Bool.false_eq_true, Bool.true_eq_false] at hG) <;> (first | omega | (show (0:Int) ≤ (_:Int); omega) | (show (_:Int) < (_:Int); omega) | assumption | (simp only [List.length_append, List.length_cons, List.length_nil]; omega) | (simp only [beq_iff_eq, decide_eq_false_iff_not, decide_eq_true_eq]; omega) | (simp only [beq_iff_eq, decide_eq_false_iff_not, decide_eq_true_eq]; first | exact hG | assumption)))) ?_
    refine q_seqn ?_
    refine ev_seq ?_
    refine ev_seq ?_
    refine ev_region (by simp only [go_sem, Nat.reduceEqDiff, reduceIte, reduceDIte, reduceCtorEq, Nat.reduceAdd, Nat.reduceLT, Nat.reduceLeDiff, decide_true, decide_false, Bool.and_self, Bool.or_self, Bool.or_false, Bool.false_or, Bool.and_true, Bool.true_and, Bool.not_true, Bool.not_false]; rfl) (by first | exact trivial | (simp only [go_sem, Nat.reduceEqDiff, reduceIte, reduceCtorEq, Nat.reduceAdd, Bool.and_self]; first | omega | (repeat' (first | apply And.intro | intro hG)) <;> (try simp only [beq_iff_eq, decide_eq_true_eq, decide_eq_false_iff_not, Bool.false_eq_true, Bool.true_eq_false] at hG) <;> (first | omega | (show (0:Int) ≤ (_:Int); omega) | (show (_:Int) < (_:Int); omega) | assumption | (simp only [List.length_append, List.length_cons, List.length_nil]; omega) | (simp only [beq_iff_eq, decide_eq_false_iff_not, decide_eq_true_eq]; omega) | (simp only [beq_iff_eq, decide_eq_false_iff_not, decide_eq_true_eq]; first | exact hG | assumption)))) ?_
    refine q_seqn ?_
    refine ev_block ?_
    refine ev_loop ⟨[0, 1, 6], []⟩ (fun s => ∃ i : Int, 0 ≤ i ∧ i ≤ (List.length l : Int) ∧ idxE l 0 = idxE (l.drop i.toNat) i ∧ s = ⟨[(0, (.val (.list .str) a, none)), (1, (.val (.list (.pair (.int .i64) (.pair .str .unit))) l, none)), (6, (.val (.int .i64) i, none))], [], 0, 72, 0⟩) (fun s => l.length - (intAt s 6).toNat) ?_ ?_
    · exact ⟨0, by omega, by omega, rfl, by rfl⟩
    · rintro s ⟨i, k1, k2, k3, rfl⟩
      refine ev_seq ?_
      refine ev_seq ?_
      refine ev_region (by simp only [go_sem, Nat.reduceEqDiff, reduceIte, reduceDIte, reduceCtorEq, Nat.reduceAdd, Nat.reduceLT, Nat.reduceLeDiff, decide_true, decide_false, Bool.and_self, Bool.or_self, Bool.or_false, Bool.false_or, Bool.and_true, Bool.true_and, Bool.not_true, Bool.not_false]; rfl) (by first | exact trivial | (simp only [go_sem, Nat.reduceEqDiff, reduceIte, reduceCtorEq, Nat.reduceAdd, Bool.and_self]; first | omega | (repeat' (first | apply And.intro | intro hG)) <;> (try simp only [beq_iff_eq, decide_eq_true_eq, decide_eq_false_iff_not, Bool.false_eq_true, Bool.true_eq_false] at hG) <;> (first | omega | (show (0:Int) ≤ (_:Int); omega) | (show (_:Int) < (_:Int); omega) | assumption | (simp only [List.length_append, List.length_cons, List.length_nil]; omega) | (simp only [beq_iff_eq, decide_eq_false_iff_not, decide_eq_true_eq]; omega) | (simp only [beq_iff_eq, decide_eq_false_iff_not, decide_eq_true_eq]; first | exact hG | assumption)))) ?_
      refine q_seqn ?_
      refine ev_cond (by simp only [go_sem, Nat.reduceEqDiff, reduceIte, reduceDIte, reduceCtorEq, Nat.reduceAdd, Nat.reduceLT, Nat.reduceLeDiff, decide_true, decide_false, Bool.and_self, Bool.or_self, Bool.or_false, Bool.false_or, Bool.and_true, Bool.true_and, Bool.not_true, Bool.not_false]; rfl) (fun hc1 => ?_) (fun hc1 => ?_)
      · try simp only [go_sem, decide_eq_true_eq, decide_eq_false_iff_not, Bool.not_eq_true', Bool.not_eq_false', Bool.or_eq_true, Bool.or_eq_false_iff, Bool.and_eq_true] at hc1
        refine ev_skip ?_
        refine q_seqn ?_
        refine ev_seq ?_
        refine ev_block ?_
        refine ev_seq ?_
        refine ev_region (by simp only [go_sem, Nat.reduceEqDiff, reduceIte, reduceDIte, reduceCtorEq, Nat.reduceAdd, Nat.reduceLT, Nat.reduceLeDiff, decide_true, decide_false, Bool.and_self, Bool.or_self, Bool.or_false, Bool.false_or, Bool.and_true, Bool.true_and, Bool.not_true, Bool.not_false]; rfl) (by first | exact trivial | (simp only [go_sem, Nat.reduceEqDiff, reduceIte, reduceCtorEq, Nat.reduceAdd, Bool.and_self]; first | omega | (repeat' (first | apply And.intro | intro hG)) <;> (try simp only [beq_iff_eq, decide_eq_true_eq, decide_eq_false_iff_not, Bool.false_eq_true, Bool.true_eq_false] at hG) <;> (first | omega | (show (0:Int) ≤ (_:Int); omega) | (show (_:Int) < (_:Int); omega) | assumption | (simp only [List.length_append, List.length_cons, List.length_nil]; omega) | (simp only [beq_iff_eq, decide_eq_false_iff_not, decide_eq_true_eq]; omega) | (simp only [beq_iff_eq, decide_eq_false_iff_not, decide_eq_true_eq]; first | exact hG | assumption)))) ?_
        refine q_seqn ?_
        refine ev_cond (by simp only [go_sem, Nat.reduceEqDiff, reduceIte, reduceDIte, reduceCtorEq, Nat.reduceAdd, Nat.reduceLT, Nat.reduceLeDiff, decide_true, decide_false, Bool.and_self, Bool.or_self, Bool.or_false, Bool.false_or, Bool.and_true, Bool.true_and, Bool.not_true, Bool.not_false]; rfl) (fun hc2 => ?_) (fun hc2 => ?_)
        · skip
          refine ev_seq ?_
          refine ev_region (by simp only [go_sem, Nat.reduceEqDiff, reduceIte, reduceDIte, reduceCtorEq, Nat.reduceAdd, Nat.reduceLT, Nat.reduceLeDiff, decide_true, decide_false, Bool.and_self, Bool.or_self, Bool.or_false, Bool.false_or, Bool.and_true, Bool.true_and, Bool.not_true, Bool.not_false]; rfl) (by first | exact trivial | (simp only [go_sem, Nat.reduceEqDiff, reduceIte, reduceCtorEq, Nat.reduceAdd, Bool.and_self]; first | omega | (repeat' (first | apply And.intro | intro hG)) <;> (try simp only [beq_iff_eq, decide_eq_true_eq, decide_eq_false_iff_not, Bool.false_eq_true, Bool.true_eq_false] at hG) <;> (first | omega | (show (0:Int) ≤ (_:Int); omega) | (show (_:Int) < (_:Int); omega) | assumption | (simp only [List.length_append, List.length_cons, List.length_nil]; omega) | (simp only [beq_iff_eq, decide_eq_false_iff_not, decide_eq_true_eq]; omega) | (simp only [beq_iff_eq, decide_eq_false_iff_not, decide_eq_true_eq]; first | exact hG | assumption)))) ?_
          refine q_seqn ?_
          refine ev_ret ?_
          refine q_blkr ?_
          refine q_seqr ?_
          refine q_loopr ?_
          refine q_blkr ?_
          refine q_seqr ?_
          refine ⟨⟨[4, 5], []⟩, by simp only [go_sem, reduceIte, Nat.reduceEqDiff], ?_⟩
          simp only [go_sem, Nat.reduceEqDiff, reduceIte, reduceCtorEq]
          rw [show applyE a l = ([], 1) by unfold applyE; rw [if_pos (by rw [k3, nth_drop (t := (.pair (.int .i64) (.pair .str .unit))) k1 hc1, idxE, if_pos (show badE (nth (.pair (.int .i64) (.pair .str .unit)) l i) = true by rw [← hc2]; unfold badE; cases decide ((nth (.pair (.int .i64) (.pair .str .unit)) l i).1 < 1) <;> rfl)]; exact k1)]]; try rfl
        · skip
          refine ev_skip ?_
          refine q_blkn ?_
          refine q_seqn ?_
          refine ev_region (by simp only [go_sem, Nat.reduceEqDiff, reduceIte, reduceDIte, reduceCtorEq, Nat.reduceAdd, Nat.reduceLT, Nat.reduceLeDiff, decide_true, decide_false, Bool.and_self, Bool.or_self, Bool.or_false, Bool.false_or, Bool.and_true, Bool.true_and, Bool.not_true, Bool.not_false]; rfl) (by first | exact trivial | (simp only [go_sem, Nat.reduceEqDiff, reduceIte, reduceCtorEq, Nat.reduceAdd, Bool.and_self]; first | omega | (repeat' (first | apply And.intro | intro hG)) <;> (try simp only [beq_iff_eq, decide_eq_true_eq, decide_eq_false_iff_not, Bool.false_eq_true, Bool.true_eq_false] at hG) <;> (first | omega | (show (0:Int) ≤ (_:Int); omega) | (show (_:Int) < (_:Int); omega) | assumption | (simp only [List.length_append, List.length_cons, List.length_nil]; omega) | (simp only [beq_iff_eq, decide_eq_false_iff_not, decide_eq_true_eq]; omega) | (simp only [beq_iff_eq, decide_eq_false_iff_not, decide_eq_true_eq]; first | exact hG | assumption)))) ?_
          refine q_loopn ⟨[0, 1, 6], []⟩ ?_ ?_
          · exact ⟨i + 1, by omega, by omega, by rw [k3, nth_drop (t := (.pair (.int .i64) (.pair .str .unit))) k1 hc1, idxE, if_neg (by rw [show badE (nth (.pair (.int .i64) (.pair .str .unit)) l i) = false by rw [← hc2]; unfold badE; cases decide ((nth (.pair (.int .i64) (.pair .str .unit)) l i).1 < 1) <;> rfl]; exact Bool.false_ne_true)], by rfl⟩
          · show (List.length l - (i + 1).toNat : Nat) < List.length l - i.toNat
            omega
      · try simp only [go_sem, decide_eq_true_eq, decide_eq_false_iff_not, Bool.not_eq_true', Bool.not_eq_false', Bool.or_eq_true, Bool.or_eq_false_iff, Bool.and_eq_true] at hc1
        have hn : ¬ (0 ≤ idxE l 0) := by rw [k3, drop_end hc1]; show ¬ ((0:Int) ≤ -1); omega
        refine ev_exit ?_
        refine q_seqx ?_
        refine q_loopx ?_
        refine q_blkx ?_
        refine q_seqn ?_
        refine ev_seq ?_
        refine ev_region (by simp only [go_sem, Nat.reduceEqDiff, reduceIte, reduceDIte, reduceCtorEq, Nat.reduceAdd, Nat.reduceLT, Nat.reduceLeDiff, decide_true, decide_false, Bool.and_self, Bool.or_self, Bool.or_false, Bool.false_or, Bool.and_true, Bool.true_and, Bool.not_true, Bool.not_false]; rfl) (by first | exact trivial | (simp only [go_sem, Nat.reduceEqDiff, reduceIte, reduceCtorEq, Nat.reduceAdd, Bool.and_self]; first | omega | (repeat' (first | apply And.intro | intro hG)) <;> (try simp only [beq_iff_eq, decide_eq_true_eq, decide_eq_false_iff_not, Bool.false_eq_true, Bool.true_eq_false] at hG) <;> (first | omega | (show (0:Int) ≤ (_:Int); omega) | (show (_:Int) < (_:Int); omega) | assumption | (simp only [List.length_append, List.length_cons, List.length_nil]; omega) | (simp only [beq_iff_eq, decide_eq_false_iff_not, decide_eq_true_eq]; omega) | (simp only [beq_iff_eq, decide_eq_false_iff_not, decide_eq_true_eq]; first | exact hG | assumption)))) ?_
        refine q_seqn ?_
        refine ev_seq ?_
        refine ev_region (by simp only [go_sem, Nat.reduceEqDiff, reduceIte, reduceDIte, reduceCtorEq, Nat.reduceAdd, Nat.reduceLT, Nat.reduceLeDiff, decide_true, decide_false, Bool.and_self, Bool.or_self, Bool.or_false, Bool.false_or, Bool.and_true, Bool.true_and, Bool.not_true, Bool.not_false]; rfl) (by first | exact trivial | (simp only [go_sem, Nat.reduceEqDiff, reduceIte, reduceCtorEq, Nat.reduceAdd, Bool.and_self]; first | omega | (repeat' (first | apply And.intro | intro hG)) <;> (try simp only [beq_iff_eq, decide_eq_true_eq, decide_eq_false_iff_not, Bool.false_eq_true, Bool.true_eq_false] at hG) <;> (first | omega | (show (0:Int) ≤ (_:Int); omega) | (show (_:Int) < (_:Int); omega) | assumption | (simp only [List.length_append, List.length_cons, List.length_nil]; omega) | (simp only [beq_iff_eq, decide_eq_false_iff_not, decide_eq_true_eq]; omega) | (simp only [beq_iff_eq, decide_eq_false_iff_not, decide_eq_true_eq]; first | exact hG | assumption)))) ?_
        refine q_seqn ?_
        refine ev_seq ?_
        refine ev_seq ?_
        refine ev_region (by simp only [go_sem, Nat.reduceEqDiff, reduceIte, reduceDIte, reduceCtorEq, Nat.reduceAdd, Nat.reduceLT, Nat.reduceLeDiff, decide_true, decide_false, Bool.and_self, Bool.or_self, Bool.or_false, Bool.false_or, Bool.and_true, Bool.true_and, Bool.not_true, Bool.not_false]; rfl) (by first | exact trivial | (simp only [go_sem, Nat.reduceEqDiff, reduceIte, reduceCtorEq, Nat.reduceAdd, Bool.and_self]; first | omega | (repeat' (first | apply And.intro | intro hG)) <;> (try simp only [beq_iff_eq, decide_eq_true_eq, decide_eq_false_iff_not, Bool.false_eq_true, Bool.true_eq_false] at hG) <;> (first | omega | (show (0:Int) ≤ (_:Int); omega) | (show (_:Int) < (_:Int); omega) | assumption | (simp only [List.length_append, List.length_cons, List.length_nil]; omega) | (simp only [beq_iff_eq, decide_eq_false_iff_not, decide_eq_true_eq]; omega) | (simp only [beq_iff_eq, decide_eq_false_iff_not, decide_eq_true_eq]; first | exact hG | assumption)))) ?_
        refine q_seqn ?_
        refine ev_block ?_
        refine ev_loop ⟨[0, 1, 7, 8, 9], [(0, 64)]⟩ (fun s => ∃ (i k : Int) (o : List (List UInt8)) (n : Nat), 0 ≤ i ∧ i ≤ (List.length l : Int) ∧ 0 ≤ k ∧ k ≤ i ∧ (o.length : Int) ≤ i ∧ n = o.length ∧ goE a l 0 [] = goE a (l.drop i.toNat) k o ∧ s = ⟨[(0, (.val (.list .str) a, none)), (1, (.val (.list (.pair (.int .i64) (.pair .str .unit))) l, none)), (7, (.val (.list .str) o, some 0)), (8, (.val (.int .i64) k, none)), (9, (.val (.int .i64) i, none))], [(0, .grow 9 1 n)], 1, 72, 0⟩) (fun s => l.length - (intAt s 9).toNat) ?_ ?_
        · exact ⟨0, 0, [], 0, by omega, by omega, by omega, by omega, by exact Int.le_refl 0, rfl, rfl, by rfl⟩
        · rintro s ⟨i, k, o, n, g1, g2, g3, g4, g5, g6, g7, rfl⟩
          refine ev_seq ?_
          refine ev_seq ?_
          refine ev_region (by simp only [go_sem, Nat.reduceEqDiff, reduceIte, reduceDIte, reduceCtorEq, Nat.reduceAdd, Nat.reduceLT, Nat.reduceLeDiff, decide_true, decide_false, Bool.and_self, Bool.or_self, Bool.or_false, Bool.false_or, Bool.and_true, Bool.true_and, Bool.not_true, Bool.not_false]; rfl) (by first | exact trivial | (simp only [go_sem, Nat.reduceEqDiff, reduceIte, reduceCtorEq, Nat.reduceAdd, Bool.and_self]; first | omega | (repeat' (first | apply And.intro | intro hG)) <;> (try simp only [beq_iff_eq, decide_eq_true_eq, decide_eq_false_iff_not, Bool.false_eq_true, Bool.true_eq_false] at hG) <;> (first | omega | (show (0:Int) ≤ (_:Int); omega) | (show (_:Int) < (_:Int); omega) | assumption | (simp only [List.length_append, List.length_cons, List.length_nil]; omega) | (simp only [beq_iff_eq, decide_eq_false_iff_not, decide_eq_true_eq]; omega) | (simp only [beq_iff_eq, decide_eq_false_iff_not, decide_eq_true_eq]; first | exact hG | assumption)))) ?_
          refine q_seqn ?_
          refine ev_cond (by simp only [go_sem, Nat.reduceEqDiff, reduceIte, reduceDIte, reduceCtorEq, Nat.reduceAdd, Nat.reduceLT, Nat.reduceLeDiff, decide_true, decide_false, Bool.and_self, Bool.or_self, Bool.or_false, Bool.false_or, Bool.and_true, Bool.true_and, Bool.not_true, Bool.not_false]; rfl) (fun hc3 => ?_) (fun hc3 => ?_)
          · try simp only [go_sem, decide_eq_true_eq, decide_eq_false_iff_not, Bool.not_eq_true', Bool.not_eq_false', Bool.or_eq_true, Bool.or_eq_false_iff, Bool.and_eq_true] at hc3
            refine ev_skip ?_
            refine q_seqn ?_
            refine ev_seq ?_
            refine ev_block ?_
            refine ev_seq ?_
            refine ev_region (by simp only [go_sem, Nat.reduceEqDiff, reduceIte, reduceDIte, reduceCtorEq, Nat.reduceAdd, Nat.reduceLT, Nat.reduceLeDiff, decide_true, decide_false, Bool.and_self, Bool.or_self, Bool.or_false, Bool.false_or, Bool.and_true, Bool.true_and, Bool.not_true, Bool.not_false]; rfl) (by first | exact trivial | (simp only [go_sem, Nat.reduceEqDiff, reduceIte, reduceCtorEq, Nat.reduceAdd, Bool.and_self]; first | omega | (repeat' (first | apply And.intro | intro hG)) <;> (try simp only [beq_iff_eq, decide_eq_true_eq, decide_eq_false_iff_not, Bool.false_eq_true, Bool.true_eq_false] at hG) <;> (first | omega | (show (0:Int) ≤ (_:Int); omega) | (show (_:Int) < (_:Int); omega) | assumption | (simp only [List.length_append, List.length_cons, List.length_nil]; omega) | (simp only [beq_iff_eq, decide_eq_false_iff_not, decide_eq_true_eq]; omega) | (simp only [beq_iff_eq, decide_eq_false_iff_not, decide_eq_true_eq]; first | exact hG | assumption)))) ?_
            refine q_seqn ?_
            refine ev_seq ?_
            refine ev_seq ?_
            refine ev_region (by simp only [go_sem, Nat.reduceEqDiff, reduceIte, reduceDIte, reduceCtorEq, Nat.reduceAdd, Nat.reduceLT, Nat.reduceLeDiff, decide_true, decide_false, Bool.and_self, Bool.or_self, Bool.or_false, Bool.false_or, Bool.and_true, Bool.true_and, Bool.not_true, Bool.not_false]; rfl) (by first | exact trivial | (simp only [go_sem, Nat.reduceEqDiff, reduceIte, reduceCtorEq, Nat.reduceAdd, Bool.and_self]; first | omega | (repeat' (first | apply And.intro | intro hG)) <;> (try simp only [beq_iff_eq, decide_eq_true_eq, decide_eq_false_iff_not, Bool.false_eq_true, Bool.true_eq_false] at hG) <;> (first | omega | (show (0:Int) ≤ (_:Int); omega) | (show (_:Int) < (_:Int); omega) | assumption | (simp only [List.length_append, List.length_cons, List.length_nil]; omega) | (simp only [beq_iff_eq, decide_eq_false_iff_not, decide_eq_true_eq]; omega) | (simp only [beq_iff_eq, decide_eq_false_iff_not, decide_eq_true_eq]; first | exact hG | assumption)))) ?_
            refine q_seqn ?_
            refine ev_cond (by simp only [go_sem, Nat.reduceEqDiff, reduceIte, reduceDIte, reduceCtorEq, Nat.reduceAdd, Nat.reduceLT, Nat.reduceLeDiff, decide_true, decide_false, Bool.and_self, Bool.or_self, Bool.or_false, Bool.false_or, Bool.and_true, Bool.true_and, Bool.not_true, Bool.not_false]; rfl) (fun hc4 => ?_) (fun hc4 => ?_)
            · try simp only [go_sem, decide_eq_true_eq, decide_eq_false_iff_not, Bool.not_eq_true', Bool.not_eq_false', Bool.or_eq_true, Bool.or_eq_false_iff, Bool.and_eq_true] at hc4
              refine ev_seq ?_
              refine ev_seq ?_
              refine ev_drawn (by simp only [go_sem, Nat.reduceEqDiff, reduceIte, reduceDIte, reduceCtorEq, Nat.reduceAdd, Nat.reduceLT, Nat.reduceLeDiff, decide_true, decide_false, Bool.and_self, Bool.or_self, Bool.or_false, Bool.false_or, Bool.and_true, Bool.true_and, Bool.not_true, Bool.not_false]; rfl) (by kernel_rfl) (by first | exact trivial | (simp only [go_sem, Nat.reduceEqDiff, reduceIte, reduceCtorEq, Nat.reduceAdd, Bool.and_self]; first | omega | (repeat' (first | apply And.intro | intro hG)) <;> (try simp only [beq_iff_eq, decide_eq_true_eq, decide_eq_false_iff_not, Bool.false_eq_true, Bool.true_eq_false] at hG) <;> (first | omega | (show (0:Int) ≤ (_:Int); omega) | (show (_:Int) < (_:Int); omega) | assumption | (simp only [List.length_append, List.length_cons, List.length_nil]; omega) | (simp only [beq_iff_eq, decide_eq_false_iff_not, decide_eq_true_eq]; omega) | (simp only [beq_iff_eq, decide_eq_false_iff_not, decide_eq_true_eq]; first | exact hG | assumption)))) ?_
              refine q_seqn ?_
              refine ev_cond (by simp only [go_sem, Nat.reduceEqDiff, reduceIte, reduceDIte, reduceCtorEq, Nat.reduceAdd, Nat.reduceLT, Nat.reduceLeDiff, decide_true, decide_false, Bool.and_self, Bool.or_self, Bool.or_false, Bool.false_or, Bool.and_true, Bool.true_and, Bool.not_true, Bool.not_false]; rfl) (fun hc5 => ?_) (fun hc5 => ?_)
              · skip
                refine ev_seq ?_
                refine ev_region (by simp only [go_sem, Nat.reduceEqDiff, reduceIte, reduceDIte, reduceCtorEq, Nat.reduceAdd, Nat.reduceLT, Nat.reduceLeDiff, decide_true, decide_false, Bool.and_self, Bool.or_self, Bool.or_false, Bool.false_or, Bool.and_true, Bool.true_and, Bool.not_true, Bool.not_false]; rfl) (by first | exact trivial | (simp only [go_sem, Nat.reduceEqDiff, reduceIte, reduceCtorEq, Nat.reduceAdd, Bool.and_self]; first | omega | (repeat' (first | apply And.intro | intro hG)) <;> (try simp only [beq_iff_eq, decide_eq_true_eq, decide_eq_false_iff_not, Bool.false_eq_true, Bool.true_eq_false] at hG) <;> (first | omega | (show (0:Int) ≤ (_:Int); omega) | (show (_:Int) < (_:Int); omega) | assumption | (simp only [List.length_append, List.length_cons, List.length_nil]; omega) | (simp only [beq_iff_eq, decide_eq_false_iff_not, decide_eq_true_eq]; omega) | (simp only [beq_iff_eq, decide_eq_false_iff_not, decide_eq_true_eq]; first | exact hG | assumption)))) ?_
                refine q_seqn ?_
                refine ev_ret ?_
                refine q_seqr ?_
                refine q_seqr ?_
                refine q_blkr ?_
                refine q_seqr ?_
                refine q_loopr ?_
                refine q_blkr ?_
                refine q_seqr ?_
                refine ⟨⟨[4, 5], []⟩, by simp only [go_sem, reduceIte, Nat.reduceEqDiff], ?_⟩
                simp only [go_sem, Nat.reduceEqDiff, reduceIte, reduceCtorEq]
                rw [show applyE a l = ([], 14) by unfold applyE; rw [if_neg hn, g7, nth_drop (t := (.pair (.int .i64) (.pair .str .unit))) g1 hc3, goE, if_neg hc4, if_pos (show chkE a k (nth (.pair (.int .i64) (.pair .str .unit)) l i).2.1 = true from hc5)]]; try rfl
              · skip
                refine ev_skip ?_
                refine q_seqn ?_
                refine ev_region (by simp only [go_sem, Nat.reduceEqDiff, reduceIte, reduceDIte, reduceCtorEq, Nat.reduceAdd, Nat.reduceLT, Nat.reduceLeDiff, decide_true, decide_false, Bool.and_self, Bool.or_self, Bool.or_false, Bool.false_or, Bool.and_true, Bool.true_and, Bool.not_true, Bool.not_false]; rfl) (by first | exact trivial | (simp only [go_sem, Nat.reduceEqDiff, reduceIte, reduceCtorEq, Nat.reduceAdd, Bool.and_self]; first | omega | (repeat' (first | apply And.intro | intro hG)) <;> (try simp only [beq_iff_eq, decide_eq_true_eq, decide_eq_false_iff_not, Bool.false_eq_true, Bool.true_eq_false] at hG) <;> (first | omega | (show (0:Int) ≤ (_:Int); omega) | (show (_:Int) < (_:Int); omega) | assumption | (simp only [List.length_append, List.length_cons, List.length_nil]; omega) | (simp only [beq_iff_eq, decide_eq_false_iff_not, decide_eq_true_eq]; omega) | (simp only [beq_iff_eq, decide_eq_false_iff_not, decide_eq_true_eq]; first | exact hG | assumption)))) ?_
                refine q_seqn ?_
                refine ev_seq ?_
                refine ev_region (by simp only [go_sem, Nat.reduceEqDiff, reduceIte, reduceDIte, reduceCtorEq, Nat.reduceAdd, Nat.reduceLT, Nat.reduceLeDiff, decide_true, decide_false, Bool.and_self, Bool.or_self, Bool.or_false, Bool.false_or, Bool.and_true, Bool.true_and, Bool.not_true, Bool.not_false]; rfl) (by first | exact trivial | (simp only [go_sem, Nat.reduceEqDiff, reduceIte, reduceCtorEq, Nat.reduceAdd, Bool.and_self]; first | omega | (repeat' (first | apply And.intro | intro hG)) <;> (try simp only [beq_iff_eq, decide_eq_true_eq, decide_eq_false_iff_not, Bool.false_eq_true, Bool.true_eq_false] at hG) <;> (first | omega | (show (0:Int) ≤ (_:Int); omega) | (show (_:Int) < (_:Int); omega) | assumption | (simp only [List.length_append, List.length_cons, List.length_nil]; omega) | (simp only [beq_iff_eq, decide_eq_false_iff_not, decide_eq_true_eq]; omega) | (simp only [beq_iff_eq, decide_eq_false_iff_not, decide_eq_true_eq]; first | exact hG | assumption)))) ?_
                refine q_seqn ?_
                refine ev_cond (by simp only [go_sem, Nat.reduceEqDiff, reduceIte, reduceDIte, reduceCtorEq, Nat.reduceAdd, Nat.reduceLT, Nat.reduceLeDiff, decide_true, decide_false, Bool.and_self, Bool.or_self, Bool.or_false, Bool.false_or, Bool.and_true, Bool.true_and, Bool.not_true, Bool.not_false]; rfl) (fun hc6 => ?_) (fun hc6 => ?_)
                · try simp only [go_sem, decide_eq_true_eq, decide_eq_false_iff_not, Bool.not_eq_true', Bool.not_eq_false', Bool.or_eq_true, Bool.or_eq_false_iff, Bool.and_eq_true] at hc6
                  refine ev_region (by simp only [go_sem, Nat.reduceEqDiff, reduceIte, reduceDIte, reduceCtorEq, Nat.reduceAdd, Nat.reduceLT, Nat.reduceLeDiff, decide_true, decide_false, Bool.and_self, Bool.or_self, Bool.or_false, Bool.false_or, Bool.and_true, Bool.true_and, Bool.not_true, Bool.not_false]; rfl) (by first | exact trivial | (simp only [go_sem, Nat.reduceEqDiff, reduceIte, reduceCtorEq, Nat.reduceAdd, Bool.and_self]; first | omega | (repeat' (first | apply And.intro | intro hG)) <;> (try simp only [beq_iff_eq, decide_eq_true_eq, decide_eq_false_iff_not, Bool.false_eq_true, Bool.true_eq_false] at hG) <;> (first | omega | (show (0:Int) ≤ (_:Int); omega) | (show (_:Int) < (_:Int); omega) | assumption | (simp only [List.length_append, List.length_cons, List.length_nil]; omega) | (simp only [beq_iff_eq, decide_eq_false_iff_not, decide_eq_true_eq]; omega) | (simp only [beq_iff_eq, decide_eq_false_iff_not, decide_eq_true_eq]; first | exact hG | assumption)))) ?_
                  refine q_blkn ?_
                  refine q_seqn ?_
                  refine ev_region (by simp only [go_sem, Nat.reduceEqDiff, reduceIte, reduceDIte, reduceCtorEq, Nat.reduceAdd, Nat.reduceLT, Nat.reduceLeDiff, decide_true, decide_false, Bool.and_self, Bool.or_self, Bool.or_false, Bool.false_or, Bool.and_true, Bool.true_and, Bool.not_true, Bool.not_false]; rfl) (by first | exact trivial | (simp only [go_sem, Nat.reduceEqDiff, reduceIte, reduceCtorEq, Nat.reduceAdd, Bool.and_self]; first | omega | (repeat' (first | apply And.intro | intro hG)) <;> (try simp only [beq_iff_eq, decide_eq_true_eq, decide_eq_false_iff_not, Bool.false_eq_true, Bool.true_eq_false] at hG) <;> (first | omega | (show (0:Int) ≤ (_:Int); omega) | (show (_:Int) < (_:Int); omega) | assumption | (simp only [List.length_append, List.length_cons, List.length_nil]; omega) | (simp only [beq_iff_eq, decide_eq_false_iff_not, decide_eq_true_eq]; omega) | (simp only [beq_iff_eq, decide_eq_false_iff_not, decide_eq_true_eq]; first | exact hG | assumption)))) ?_
                  refine q_loopn ⟨[0, 1, 7, 8, 9], [(0, 0)]⟩ ?_ ?_
                  · exact ⟨i + 1, k + 1, o ++ [(nth (.pair (.int .i64) (.pair .str .unit)) l i).2.1], o.length + 1, by omega, by omega, by omega, by omega, by (try simp only [List.length_append, List.length_cons, List.length_nil]); omega, by first | rfl | simp only [List.length_append, List.length_cons, List.length_nil], by rw [g7, nth_drop (t := (.pair (.int .i64) (.pair .str .unit))) g1 hc3, goE, if_neg hc4, if_neg (by rw [show chkE a k (nth (.pair (.int .i64) (.pair .str .unit)) l i).2.1 = false from hc5]; exact Bool.false_ne_true), nxE, if_neg hc6], by (try subst g6); rfl⟩
                  · show (List.length l - (i + 1).toNat : Nat) < List.length l - i.toNat
                    omega
                · try simp only [go_sem, decide_eq_true_eq, decide_eq_false_iff_not, Bool.not_eq_true', Bool.not_eq_false', Bool.or_eq_true, Bool.or_eq_false_iff, Bool.and_eq_true] at hc6
                  refine ev_skip ?_
                  refine q_blkn ?_
                  refine q_seqn ?_
                  refine ev_region (by simp only [go_sem, Nat.reduceEqDiff, reduceIte, reduceDIte, reduceCtorEq, Nat.reduceAdd, Nat.reduceLT, Nat.reduceLeDiff, decide_true, decide_false, Bool.and_self, Bool.or_self, Bool.or_false, Bool.false_or, Bool.and_true, Bool.true_and, Bool.not_true, Bool.not_false]; rfl) (by first | exact trivial | (simp only [go_sem, Nat.reduceEqDiff, reduceIte, reduceCtorEq, Nat.reduceAdd, Bool.and_self]; first | omega | (repeat' (first | apply And.intro | intro hG)) <;> (try simp only [beq_iff_eq, decide_eq_true_eq, decide_eq_false_iff_not, Bool.false_eq_true, Bool.true_eq_false] at hG) <;> (first | omega | (show (0:Int) ≤ (_:Int); omega) | (show (_:Int) < (_:Int); omega) | assumption | (simp only [List.length_append, List.length_cons, List.length_nil]; omega) | (simp only [beq_iff_eq, decide_eq_false_iff_not, decide_eq_true_eq]; omega) | (simp only [beq_iff_eq, decide_eq_false_iff_not, decide_eq_true_eq]; first | exact hG | assumption)))) ?_
                  refine q_loopn ⟨[0, 1, 7, 8, 9], [(0, 0)]⟩ ?_ ?_
                  · exact ⟨i + 1, k + 1, o, o.length, by omega, by omega, by omega, by omega, by (try simp only [List.length_append, List.length_cons, List.length_nil]); omega, by first | rfl | simp only [List.length_append, List.length_cons, List.length_nil], by rw [g7, nth_drop (t := (.pair (.int .i64) (.pair .str .unit))) g1 hc3, goE, if_neg hc4, if_neg (by rw [show chkE a k (nth (.pair (.int .i64) (.pair .str .unit)) l i).2.1 = false from hc5]; exact Bool.false_ne_true), nxE, if_pos hc6], by (try subst g6); rfl⟩
                  · show (List.length l - (i + 1).toNat : Nat) < List.length l - i.toNat
                    omega
            · try simp only [go_sem, decide_eq_true_eq, decide_eq_false_iff_not, Bool.not_eq_true', Bool.not_eq_false', Bool.or_eq_true, Bool.or_eq_false_iff, Bool.and_eq_true] at hc4
              refine ev_skip ?_
              refine q_seqn ?_
              refine ev_seq ?_
              refine ev_region (by simp only [go_sem, Nat.reduceEqDiff, reduceIte, reduceDIte, reduceCtorEq, Nat.reduceAdd, Nat.reduceLT, Nat.reduceLeDiff, decide_true, decide_false, Bool.and_self, Bool.or_self, Bool.or_false, Bool.false_or, Bool.and_true, Bool.true_and, Bool.not_true, Bool.not_false]; rfl) (by first | exact trivial | (simp only [go_sem, Nat.reduceEqDiff, reduceIte, reduceCtorEq, Nat.reduceAdd, Bool.and_self]; first | omega | (repeat' (first | apply And.intro | intro hG)) <;> (try simp only [beq_iff_eq, decide_eq_true_eq, decide_eq_false_iff_not, Bool.false_eq_true, Bool.true_eq_false] at hG) <;> (first | omega | (show (0:Int) ≤ (_:Int); omega) | (show (_:Int) < (_:Int); omega) | assumption | (simp only [List.length_append, List.length_cons, List.length_nil]; omega) | (simp only [beq_iff_eq, decide_eq_false_iff_not, decide_eq_true_eq]; omega) | (simp only [beq_iff_eq, decide_eq_false_iff_not, decide_eq_true_eq]; first | exact hG | assumption)))) ?_
              refine q_seqn ?_
              refine ev_cond (by simp only [go_sem, Nat.reduceEqDiff, reduceIte, reduceDIte, reduceCtorEq, Nat.reduceAdd, Nat.reduceLT, Nat.reduceLeDiff, decide_true, decide_false, Bool.and_self, Bool.or_self, Bool.or_false, Bool.false_or, Bool.and_true, Bool.true_and, Bool.not_true, Bool.not_false]; rfl) (fun hc7 => ?_) (fun hc7 => ?_)
              · try simp only [go_sem, decide_eq_true_eq, decide_eq_false_iff_not, Bool.not_eq_true', Bool.not_eq_false', Bool.or_eq_true, Bool.or_eq_false_iff, Bool.and_eq_true] at hc7
                refine ev_region (by simp only [go_sem, Nat.reduceEqDiff, reduceIte, reduceDIte, reduceCtorEq, Nat.reduceAdd, Nat.reduceLT, Nat.reduceLeDiff, decide_true, decide_false, Bool.and_self, Bool.or_self, Bool.or_false, Bool.false_or, Bool.and_true, Bool.true_and, Bool.not_true, Bool.not_false]; rfl) (by first | exact trivial | (simp only [go_sem, Nat.reduceEqDiff, reduceIte, reduceCtorEq, Nat.reduceAdd, Bool.and_self]; first | omega | (repeat' (first | apply And.intro | intro hG)) <;> (try simp only [beq_iff_eq, decide_eq_true_eq, decide_eq_false_iff_not, Bool.false_eq_true, Bool.true_eq_false] at hG) <;> (first | omega | (show (0:Int) ≤ (_:Int); omega) | (show (_:Int) < (_:Int); omega) | assumption | (simp only [List.length_append, List.length_cons, List.length_nil]; omega) | (simp only [beq_iff_eq, decide_eq_false_iff_not, decide_eq_true_eq]; omega) | (simp only [beq_iff_eq, decide_eq_false_iff_not, decide_eq_true_eq]; first | exact hG | assumption)))) ?_
                refine q_blkn ?_
                refine q_seqn ?_
                refine ev_region (by simp only [go_sem, Nat.reduceEqDiff, reduceIte, reduceDIte, reduceCtorEq, Nat.reduceAdd, Nat.reduceLT, Nat.reduceLeDiff, decide_true, decide_false, Bool.and_self, Bool.or_self, Bool.or_false, Bool.false_or, Bool.and_true, Bool.true_and, Bool.not_true, Bool.not_false]; rfl) (by first | exact trivial | (simp only [go_sem, Nat.reduceEqDiff, reduceIte, reduceCtorEq, Nat.reduceAdd, Bool.and_self]; first | omega | (repeat' (first | apply And.intro | intro hG)) <;> (try simp only [beq_iff_eq, decide_eq_true_eq, decide_eq_false_iff_not, Bool.false_eq_true, Bool.true_eq_false] at hG) <;> (first | omega | (show (0:Int) ≤ (_:Int); omega) | (show (_:Int) < (_:Int); omega) | assumption | (simp only [List.length_append, List.length_cons, List.length_nil]; omega) | (simp only [beq_iff_eq, decide_eq_false_iff_not, decide_eq_true_eq]; omega) | (simp only [beq_iff_eq, decide_eq_false_iff_not, decide_eq_true_eq]; first | exact hG | assumption)))) ?_
                refine q_loopn ⟨[0, 1, 7, 8, 9], [(0, 0)]⟩ ?_ ?_
                · exact ⟨i + 1, k, o ++ [(nth (.pair (.int .i64) (.pair .str .unit)) l i).2.1], o.length + 1, by omega, by omega, by omega, by omega, by (try simp only [List.length_append, List.length_cons, List.length_nil]); omega, by first | rfl | simp only [List.length_append, List.length_cons, List.length_nil], by rw [g7, nth_drop (t := (.pair (.int .i64) (.pair .str .unit))) g1 hc3, goE, if_pos hc4, nxE, if_neg hc7], by (try subst g6); rfl⟩
                · show (List.length l - (i + 1).toNat : Nat) < List.length l - i.toNat
                  omega
              · try simp only [go_sem, decide_eq_true_eq, decide_eq_false_iff_not, Bool.not_eq_true', Bool.not_eq_false', Bool.or_eq_true, Bool.or_eq_false_iff, Bool.and_eq_true] at hc7
                refine ev_skip ?_
                refine q_blkn ?_
                refine q_seqn ?_
                refine ev_region (by simp only [go_sem, Nat.reduceEqDiff, reduceIte, reduceDIte, reduceCtorEq, Nat.reduceAdd, Nat.reduceLT, Nat.reduceLeDiff, decide_true, decide_false, Bool.and_self, Bool.or_self, Bool.or_false, Bool.false_or, Bool.and_true, Bool.true_and, Bool.not_true, Bool.not_false]; rfl) (by first | exact trivial | (simp only [go_sem, Nat.reduceEqDiff, reduceIte, reduceCtorEq, Nat.reduceAdd, Bool.and_self]; first | omega | (repeat' (first | apply And.intro | intro hG)) <;> (try simp only [beq_iff_eq, decide_eq_true_eq, decide_eq_false_iff_not, Bool.false_eq_true, Bool.true_eq_false] at hG) <;> (first | omega | (show (0:Int) ≤ (_:Int); omega) | (show (_:Int) < (_:Int); omega) | assumption | (simp only [List.length_append, List.length_cons, List.length_nil]; omega) | (simp only [beq_iff_eq, decide_eq_false_iff_not, decide_eq_true_eq]; omega) | (simp only [beq_iff_eq, decide_eq_false_iff_not, decide_eq_true_eq]; first | exact hG | assumption)))) ?_
                refine q_loopn ⟨[0, 1, 7, 8, 9], [(0, 0)]⟩ ?_ ?_
                · exact ⟨i + 1, k, o, o.length, by omega, by omega, by omega, by omega, by (try simp only [List.length_append, List.length_cons, List.length_nil]); omega, by first | rfl | simp only [List.length_append, List.length_cons, List.length_nil], by rw [g7, nth_drop (t := (.pair (.int .i64) (.pair .str .unit))) g1 hc3, goE, if_pos hc4, nxE, if_pos hc7], by (try subst g6); rfl⟩
                · show (List.length l - (i + 1).toNat : Nat) < List.length l - i.toNat
                  omega
          · try simp only [go_sem, decide_eq_true_eq, decide_eq_false_iff_not, Bool.not_eq_true', Bool.not_eq_false', Bool.or_eq_true, Bool.or_eq_false_iff, Bool.and_eq_true] at hc3
            refine ev_exit ?_
            refine q_seqx ?_
            refine q_loopx ?_
            refine q_blkx ?_
            refine q_seqn ?_
            refine ev_seq ?_
            refine ev_seq ?_
            refine ev_region (by simp only [go_sem, Nat.reduceEqDiff, reduceIte, reduceDIte, reduceCtorEq, Nat.reduceAdd, Nat.reduceLT, Nat.reduceLeDiff, decide_true, decide_false, Bool.and_self, Bool.or_self, Bool.or_false, Bool.false_or, Bool.and_true, Bool.true_and, Bool.not_true, Bool.not_false]; rfl) (by first | exact trivial | (simp only [go_sem, Nat.reduceEqDiff, reduceIte, reduceCtorEq, Nat.reduceAdd, Bool.and_self]; first | omega | (repeat' (first | apply And.intro | intro hG)) <;> (try simp only [beq_iff_eq, decide_eq_true_eq, decide_eq_false_iff_not, Bool.false_eq_true, Bool.true_eq_false] at hG) <;> (first | omega | (show (0:Int) ≤ (_:Int); omega) | (show (_:Int) < (_:Int); omega) | assumption | (simp only [List.length_append, List.length_cons, List.length_nil]; omega) | (simp only [beq_iff_eq, decide_eq_false_iff_not, decide_eq_true_eq]; omega) | (simp only [beq_iff_eq, decide_eq_false_iff_not, decide_eq_true_eq]; first | exact hG | assumption)))) ?_
            refine q_seqn ?_
            refine ev_cond (by simp only [go_sem, Nat.reduceEqDiff, reduceIte, reduceDIte, reduceCtorEq, Nat.reduceAdd, Nat.reduceLT, Nat.reduceLeDiff, decide_true, decide_false, Bool.and_self, Bool.or_self, Bool.or_false, Bool.false_or, Bool.and_true, Bool.true_and, Bool.not_true, Bool.not_false]; rfl) (fun hc8 => ?_) (fun hc8 => ?_)
            · try simp only [go_sem, decide_eq_true_eq, decide_eq_false_iff_not, Bool.not_eq_true', Bool.not_eq_false', Bool.or_eq_true, Bool.or_eq_false_iff, Bool.and_eq_true] at hc8
              refine ev_seq ?_
              refine ev_region (by simp only [go_sem, Nat.reduceEqDiff, reduceIte, reduceDIte, reduceCtorEq, Nat.reduceAdd, Nat.reduceLT, Nat.reduceLeDiff, decide_true, decide_false, Bool.and_self, Bool.or_self, Bool.or_false, Bool.false_or, Bool.and_true, Bool.true_and, Bool.not_true, Bool.not_false]; rfl) (by first | exact trivial | (simp only [go_sem, Nat.reduceEqDiff, reduceIte, reduceCtorEq, Nat.reduceAdd, Bool.and_self]; first | omega | (repeat' (first | apply And.intro | intro hG)) <;> (try simp only [beq_iff_eq, decide_eq_true_eq, decide_eq_false_iff_not, Bool.false_eq_true, Bool.true_eq_false] at hG) <;> (first | omega | (show (0:Int) ≤ (_:Int); omega) | (show (_:Int) < (_:Int); omega) | assumption | (simp only [List.length_append, List.length_cons, List.length_nil]; omega) | (simp only [beq_iff_eq, decide_eq_false_iff_not, decide_eq_true_eq]; omega) | (simp only [beq_iff_eq, decide_eq_false_iff_not, decide_eq_true_eq]; first | exact hG | assumption)))) ?_
              refine q_seqn ?_
              refine ev_ret ?_
              refine q_seqr ?_
              refine ⟨⟨[4, 5], []⟩, by simp only [go_sem, reduceIte, Nat.reduceEqDiff], ?_⟩
              simp only [go_sem, Nat.reduceEqDiff, reduceIte, reduceCtorEq]
              rw [show applyE a l = ([], 14) by unfold applyE; rw [if_neg hn, g7, drop_end hc3, goE, if_pos hc8]]; try rfl
            · try simp only [go_sem, decide_eq_true_eq, decide_eq_false_iff_not, Bool.not_eq_true', Bool.not_eq_false', Bool.or_eq_true, Bool.or_eq_false_iff, Bool.and_eq_true] at hc8
              refine ev_skip ?_
              refine q_seqn ?_
              refine ev_seq ?_
              refine ev_region (by simp only [go_sem, Nat.reduceEqDiff, reduceIte, reduceDIte, reduceCtorEq, Nat.reduceAdd, Nat.reduceLT, Nat.reduceLeDiff, decide_true, decide_false, Bool.and_self, Bool.or_self, Bool.or_false, Bool.false_or, Bool.and_true, Bool.true_and, Bool.not_true, Bool.not_false]; rfl) (by first | exact trivial | (simp only [go_sem, Nat.reduceEqDiff, reduceIte, reduceCtorEq, Nat.reduceAdd, Bool.and_self]; first | omega | (repeat' (first | apply And.intro | intro hG)) <;> (try simp only [beq_iff_eq, decide_eq_true_eq, decide_eq_false_iff_not, Bool.false_eq_true, Bool.true_eq_false] at hG) <;> (first | omega | (show (0:Int) ≤ (_:Int); omega) | (show (_:Int) < (_:Int); omega) | assumption | (simp only [List.length_append, List.length_cons, List.length_nil]; omega) | (simp only [beq_iff_eq, decide_eq_false_iff_not, decide_eq_true_eq]; omega) | (simp only [beq_iff_eq, decide_eq_false_iff_not, decide_eq_true_eq]; first | exact hG | assumption)))) ?_
              refine q_seqn ?_
              refine ev_ret ?_
              refine ⟨⟨[4, 5], []⟩, by simp only [go_sem, reduceIte, Nat.reduceEqDiff], ?_⟩
              simp only [go_sem, Nat.reduceEqDiff, reduceIte, reduceCtorEq]
              rw [show applyE a l = (o, 0) by unfold applyE; rw [if_neg hn, g7, drop_end hc3, goE, if_neg hc8]]; try rfl
  · cases hC

end Go.Proofs.Ytfcibaiiobihnaa
