/- THE DIFF SEAT in the evaluator: types, the smallest functions. -/
import Derived.Test.YtfcibaiiobihnaaVcW
import Derived.Test.YtfcibaiiobihnaaProg
import Derived.Test.YtfcibaiiobihnaaChecked
import Derived.KernelRfl
namespace Go.Proofs.Ytfcibaiiobihnaa
open Vc
set_option linter.unusedSimpArgs false
set_option linter.unusedVariables false

abbrev tS : Ty := .list .str
abbrev tE : Ty := .pair (.int .i64) (.pair .str .unit)
def TT : Types := [(22, ⟨tS, 9, 16, false⟩), (3, ⟨.int .i64, 0, 8, false⟩), (4, ⟨.bool, 0, 1, false⟩), (9, ⟨.str, 0, 16, false⟩),
  (58, ⟨tE, 0, 0, false⟩), (40, ⟨.list tE, 58, 24, false⟩),
  (56, ⟨tE, 0, 0, false⟩), (35, ⟨.list tE, 56, 24, false⟩)]
attribute [go_sem] TT
theorem TT_ok : TypesOk Try.prog TT := ⟨
  ⟨by kernel_rfl, (show _ ∧ _ ∧ _ from ⟨by kernel_rfl, by kernel_rfl, by kernel_rfl⟩)⟩,
  ⟨by kernel_rfl, (show Try.prog.underlying _ = _ from by kernel_rfl)⟩,
  ⟨by kernel_rfl, (show Try.prog.underlying _ = _ from by kernel_rfl)⟩,
  ⟨by kernel_rfl, (show Try.prog.underlying _ = _ from by kernel_rfl)⟩,
  ⟨by kernel_rfl, (show (_ ∧ ∃ _, _ ∧ _) ∨ _ from .inl ⟨rfl, _, Try.underlying58, (show _ ∧ _ ∧ _ ∧ _ from ⟨rfl, by kernel_rfl, by kernel_rfl, (show _ ∧ _ ∧ _ ∧ _ from ⟨rfl, by kernel_rfl, by kernel_rfl, trivial⟩)⟩)⟩)⟩,
  ⟨by kernel_rfl, (show _ ∧ _ ∧ _ from ⟨by kernel_rfl, by kernel_rfl, by kernel_rfl⟩)⟩,
  ⟨by kernel_rfl, (show (_ ∧ ∃ _, _ ∧ _) ∨ _ from .inl ⟨rfl, _, Try.underlying56, (show _ ∧ _ ∧ _ ∧ _ from ⟨rfl, by kernel_rfl, by kernel_rfl, (show _ ∧ _ ∧ _ ∧ _ from ⟨rfl, by kernel_rfl, by kernel_rfl, trivial⟩)⟩)⟩)⟩,
  ⟨by kernel_rfl, (show _ ∧ _ ∧ _ from ⟨by kernel_rfl, by kernel_rfl, by kernel_rfl⟩)⟩, trivial⟩
theorem mixed : Try.prog.follows .mixedOrders = true := by kernel_rfl
def G0 : Ctx := fun _ => none
theorem G0_ok : CtxOk Try.prog G0 := fun _ _ h => by cases h

theorem res1 {P : Program} {fn : Func} {t : Nat} (h : fn.results = #[.tmp t]) (tmps : Array Value) (w : World) : (results fn tmps).run P w = .ok (resVal ([t].map fun t => tmps.getD t undef)) w := by
  simp [results, h, resVal]
theorem res2 {P : Program} {fn : Func} {t u : Nat} (h : fn.results = #[.tmp t, .tmp u]) (tmps : Array Value) (w : World) : (results fn tmps).run P w = .ok (resVal ([t, u].map fun t => tmps.getD t undef)) w := by
  simp [results, h, resVal]

/-! ### Lists -/
theorem nth_get {t : Ty} {l : List t.den} {i : Int} (h0 : 0 ≤ i) (h : i < (l.length : Int)) : l[i.toNat]? = some (nth t l i) := by
  have hl : i.toNat < l.length := by omega
  unfold nth
  rw [List.getD_eq_getElem?_getD, List.getElem?_eq_getElem hl]
  rfl
theorem nth_drop {t : Ty} {l : List t.den} {i : Int} (h0 : 0 ≤ i) (h : i < (l.length : Int)) : l.drop i.toNat = nth t l i :: l.drop (i + 1).toNat := by
  have hl : i.toNat < l.length := by omega
  rw [List.drop_eq_getElem_cons hl]
  have := nth_get h0 h
  rw [List.getElem?_eq_getElem hl] at this
  rw [Option.some.inj this, show (i + 1).toNat = i.toNat + 1 by omega]
theorem nth_take {t : Ty} {l : List t.den} {i : Int} (h0 : 0 ≤ i) (h : i < (l.length : Int)) : l.take (i + 1).toNat = l.take i.toNat ++ [nth t l i] := by
  rw [show (i + 1).toNat = i.toNat + 1 by omega, List.take_add_one, nth_get h0 h]
  rfl
theorem drop_end {α : Type} {l : List α} {i : Int} (h : ¬ i < (l.length : Int)) : l.drop i.toNat = [] := List.drop_of_length_le (by omega)
theorem take_end {α : Type} {l : List α} {i : Int} (h : ¬ i < (l.length : Int)) : l.take i.toNat = l := List.take_of_length_le (by omega)

/-! ### The plain functions -/
def few (l : List (List UInt8)) : Bool := l.all (fun s => decide (s.length ≤ 100)) && decide (l.length ≤ 30)
def C11 : List Slot → List Blk → Option Ret
  | [(.val (.list .str) l, none)], [] => some ⟨[(List.length l : Int) ≤ 9223372036854775807], [(.val .bool (few l), none)], []⟩
  | _, _ => none
def shortE (l : List tE.den) : Bool := l.all (fun s => decide (s.2.1.length ≤ 100)) && decide (l.length ≤ 60)
def C17 : List Slot → List Blk → Option Ret
  | [(.val (.list (.pair (.int .i64) (.pair .str .unit))) l, none)], [] => some ⟨[(List.length l : Int) ≤ 9223372036854775807], [(.val .bool (shortE l), none)], []⟩
  | _, _ => none
def C16 : List Slot → List Blk → Option Ret
  | [(.val (.list .str) a, none), (.val (.list .str) b, none)], [] => some ⟨[(List.length a : Int) ≤ 9223372036854775807, (List.length b : Int) ≤ 9223372036854775807], [(.val .bool (decide (a = b)), none)], []⟩
  | _, _ => none
def C19 : List Slot → List Blk → Option Ret
  | [(.val (.list (.pair (.int .i64) (.pair .str .unit))) l, none)], [] => some ⟨[(List.length l : Int) ≤ 1000], [(.val (.list tE) l, none)], []⟩
  | _, _ => none
def badE (e : tE.den) : Bool := decide (e.1 < 1) || decide (3 < e.1)
def C30 : List Slot → List Blk → Option Ret
  | [(.val (.pair (.int .i64) (.pair .str .unit)) e, none)], [] => some ⟨[], [(.val .bool (badE e), none)], []⟩
  | _, _ => none

set_option maxRecDepth 100000 in
set_option maxHeartbeats 4000000 in
theorem con11 : ConOk Try.prog 11 C11 := by
  refine con_ok TT_ok G0_ok mixed Try.func11 (c := _) rfl (N := 19) (by kernel_rfl) (ts := [2]) (fun _ _ => rfl) (res1 rfl) ?_
  intro args L r hC hs
  unfold C11 at hC
  split at hC
  · rename_i l
    cases hC
    have h0 := hs _ (List.mem_singleton.2 rfl)
    refine ⟨by simp only [List.length_cons, List.length_nil]; omega, by simp only [go_sem, reduceIte, Nat.reduceEqDiff, Bool.and_self, and_self], trivial, ?_⟩
    simp only [enumE, enumH, lenB, Nat.reduceAdd]
    refine ev_seq ?_
    refine ev_region (by simp only [go_sem, Nat.reduceEqDiff, reduceIte, reduceDIte, reduceCtorEq, Nat.reduceAdd, Nat.reduceLT, Nat.reduceLeDiff, decide_true, decide_false, Bool.and_self, Bool.or_self, Bool.or_false, Bool.false_or, Bool.and_true, Bool.true_and, Bool.not_true, Bool.not_false]; rfl) (by first | exact trivial | (simp only [go_sem, Nat.reduceEqDiff, reduceIte, reduceCtorEq, Nat.reduceAdd, Bool.and_self]; first | omega | (repeat' (first | apply And.intro | intro hG)) <;> (try simp only [beq_iff_eq, decide_eq_true_eq, decide_eq_false_iff_not, Bool.false_eq_true, Bool.true_eq_false] at hG) <;> (first | omega | (show (0:Int) ≤ (_:Int); omega) | (show (_:Int) < (_:Int); omega) | assumption | (simp only [List.length_append, List.length_cons, List.length_nil]; omega) | (simp only [beq_iff_eq, decide_eq_false_iff_not, decide_eq_true_eq]; omega) | (simp only [beq_iff_eq, decide_eq_false_iff_not, decide_eq_true_eq]; first | exact hG | assumption)))) ?_
    refine q_seqn ?_
    refine ev_seq ?_
    refine ev_seq ?_
    refine ev_region (by simp only [go_sem, Nat.reduceEqDiff, reduceIte, reduceDIte, reduceCtorEq, Nat.reduceAdd, Nat.reduceLT, Nat.reduceLeDiff, decide_true, decide_false, Bool.and_self, Bool.or_self, Bool.or_false, Bool.false_or, Bool.and_true, Bool.true_and, Bool.not_true, Bool.not_false]; rfl) (by first | exact trivial | (simp only [go_sem, Nat.reduceEqDiff, reduceIte, reduceCtorEq, Nat.reduceAdd, Bool.and_self]; first | omega | (repeat' (first | apply And.intro | intro hG)) <;> (try simp only [beq_iff_eq, decide_eq_true_eq, decide_eq_false_iff_not, Bool.false_eq_true, Bool.true_eq_false] at hG) <;> (first | omega | (show (0:Int) ≤ (_:Int); omega) | (show (_:Int) < (_:Int); omega) | assumption | (simp only [List.length_append, List.length_cons, List.length_nil]; omega) | (simp only [beq_iff_eq, decide_eq_false_iff_not, decide_eq_true_eq]; omega) | (simp only [beq_iff_eq, decide_eq_false_iff_not, decide_eq_true_eq]; first | exact hG | assumption)))) ?_
    refine q_seqn ?_
    refine ev_block ?_
    refine ev_loop ⟨[0, 3], []⟩ (fun s => ∃ i : Int, 0 ≤ i ∧ i ≤ (List.length l : Int) ∧ l.all (fun s => decide (s.length ≤ 100)) = (l.drop i.toNat).all (fun s => decide (s.length ≤ 100)) ∧ s = ⟨[(0, (.val tS l, none)), (3, (.val (.int .i64) i, none))], [], 0, 19, 0⟩) (fun s => l.length - (intAt s 3).toNat) ?_ ?_
    · exact ⟨0, by omega, by omega, rfl, by rfl⟩
    · rintro s ⟨i, h1, h2, h3, rfl⟩
      refine ev_seq ?_
      refine ev_seq ?_
      refine ev_region (by simp only [go_sem, Nat.reduceEqDiff, reduceIte, reduceDIte, reduceCtorEq, Nat.reduceAdd, Nat.reduceLT, Nat.reduceLeDiff, decide_true, decide_false, Bool.and_self, Bool.or_self, Bool.or_false, Bool.false_or, Bool.and_true, Bool.true_and, Bool.not_true, Bool.not_false]; rfl) (by first | exact trivial | (simp only [go_sem, Nat.reduceEqDiff, reduceIte, reduceCtorEq, Nat.reduceAdd, Bool.and_self]; first | omega | (repeat' (first | apply And.intro | intro hG)) <;> (try simp only [beq_iff_eq, decide_eq_true_eq, decide_eq_false_iff_not, Bool.false_eq_true, Bool.true_eq_false] at hG) <;> (first | omega | (show (0:Int) ≤ (_:Int); omega) | (show (_:Int) < (_:Int); omega) | assumption | (simp only [List.length_append, List.length_cons, List.length_nil]; omega) | (simp only [beq_iff_eq, decide_eq_false_iff_not, decide_eq_true_eq]; omega) | (simp only [beq_iff_eq, decide_eq_false_iff_not, decide_eq_true_eq]; first | exact hG | assumption)))) ?_
      refine q_seqn ?_
      refine ev_cond (by simp only [go_sem, Nat.reduceEqDiff, reduceIte, reduceDIte, reduceCtorEq, Nat.reduceAdd, Nat.reduceLT, Nat.reduceLeDiff, decide_true, decide_false, Bool.and_self, Bool.or_self, Bool.or_false, Bool.false_or, Bool.and_true, Bool.true_and, Bool.not_true, Bool.not_false]; rfl) (fun hc1 => ?_) (fun hc1 => ?_)
      · try simp only [go_sem, decide_eq_true_eq, decide_eq_false_iff_not, Bool.not_eq_true', Bool.not_eq_false', Bool.or_eq_true, Bool.or_eq_false_iff, Bool.and_eq_true] at hc1
        refine ev_skip ?_
        refine q_seqn ?_
        refine ev_seq ?_
        refine ev_block ?_
        refine ev_seq ?_
        refine ev_region (by simp only [go_sem, Nat.reduceEqDiff, reduceIte, reduceDIte, reduceCtorEq, Nat.reduceAdd, Nat.reduceLT, Nat.reduceLeDiff, decide_true, decide_false, Bool.and_self, Bool.or_self, Bool.or_false, Bool.false_or, Bool.and_true, Bool.true_and, Bool.not_true, Bool.not_false]; rfl) (by first | exact trivial | (simp only [go_sem, Nat.reduceEqDiff, reduceIte, reduceCtorEq, Nat.reduceAdd, Bool.and_self]; first | omega | (repeat' (first | apply And.intro | intro hG)) <;> (try simp only [beq_iff_eq, decide_eq_true_eq, decide_eq_false_iff_not, Bool.false_eq_true, Bool.true_eq_false] at hG) <;> (first | omega | (show (0:Int) ≤ (_:Int); omega) | (show (_:Int) < (_:Int); omega) | assumption | (simp only [List.length_append, List.length_cons, List.length_nil]; omega) | (simp only [beq_iff_eq, decide_eq_false_iff_not, decide_eq_true_eq]; omega) | (simp only [beq_iff_eq, decide_eq_false_iff_not, decide_eq_true_eq]; first | exact hG | assumption)))) ?_
        refine q_seqn ?_
        refine ev_cond (by simp only [go_sem, Nat.reduceEqDiff, reduceIte, reduceDIte, reduceCtorEq, Nat.reduceAdd, Nat.reduceLT, Nat.reduceLeDiff, decide_true, decide_false, Bool.and_self, Bool.or_self, Bool.or_false, Bool.false_or, Bool.and_true, Bool.true_and, Bool.not_true, Bool.not_false]; rfl) (fun hc2 => ?_) (fun hc2 => ?_)
        · try simp only [go_sem, decide_eq_true_eq, decide_eq_false_iff_not, Bool.not_eq_true', Bool.not_eq_false', Bool.or_eq_true, Bool.or_eq_false_iff, Bool.and_eq_true] at hc2
          refine ev_seq ?_
          refine ev_region (by simp only [go_sem, Nat.reduceEqDiff, reduceIte, reduceDIte, reduceCtorEq, Nat.reduceAdd, Nat.reduceLT, Nat.reduceLeDiff, decide_true, decide_false, Bool.and_self, Bool.or_self, Bool.or_false, Bool.false_or, Bool.and_true, Bool.true_and, Bool.not_true, Bool.not_false]; rfl) (by first | exact trivial | (simp only [go_sem, Nat.reduceEqDiff, reduceIte, reduceCtorEq, Nat.reduceAdd, Bool.and_self]; first | omega | (repeat' (first | apply And.intro | intro hG)) <;> (try simp only [beq_iff_eq, decide_eq_true_eq, decide_eq_false_iff_not, Bool.false_eq_true, Bool.true_eq_false] at hG) <;> (first | omega | (show (0:Int) ≤ (_:Int); omega) | (show (_:Int) < (_:Int); omega) | assumption | (simp only [List.length_append, List.length_cons, List.length_nil]; omega) | (simp only [beq_iff_eq, decide_eq_false_iff_not, decide_eq_true_eq]; omega) | (simp only [beq_iff_eq, decide_eq_false_iff_not, decide_eq_true_eq]; first | exact hG | assumption)))) ?_
          refine q_seqn ?_
          refine ev_ret ?_
          refine q_blkr ?_
          refine q_seqr ?_
          refine q_loopr ?_
          refine q_blkr ?_
          refine q_seqr ?_
          refine ⟨⟨[2], []⟩, by simp only [go_sem, reduceIte, Nat.reduceEqDiff], ?_⟩
          simp only [go_sem, Nat.reduceEqDiff, reduceIte, reduceCtorEq]
          rw [show few l = false by unfold few; rw [h3, nth_drop h1 hc1, List.all_cons, decide_eq_false (by omega)]; rfl]
        · try simp only [go_sem, decide_eq_true_eq, decide_eq_false_iff_not, Bool.not_eq_true', Bool.not_eq_false', Bool.or_eq_true, Bool.or_eq_false_iff, Bool.and_eq_true] at hc2
          refine ev_skip ?_
          refine q_blkn ?_
          refine q_seqn ?_
          refine ev_region (by simp only [go_sem, Nat.reduceEqDiff, reduceIte, reduceDIte, reduceCtorEq, Nat.reduceAdd, Nat.reduceLT, Nat.reduceLeDiff, decide_true, decide_false, Bool.and_self, Bool.or_self, Bool.or_false, Bool.false_or, Bool.and_true, Bool.true_and, Bool.not_true, Bool.not_false]; rfl) (by first | exact trivial | (simp only [go_sem, Nat.reduceEqDiff, reduceIte, reduceCtorEq, Nat.reduceAdd, Bool.and_self]; first | omega | (repeat' (first | apply And.intro | intro hG)) <;> (try simp only [beq_iff_eq, decide_eq_true_eq, decide_eq_false_iff_not, Bool.false_eq_true, Bool.true_eq_false] at hG) <;> (first | omega | (show (0:Int) ≤ (_:Int); omega) | (show (_:Int) < (_:Int); omega) | assumption | (simp only [List.length_append, List.length_cons, List.length_nil]; omega) | (simp only [beq_iff_eq, decide_eq_false_iff_not, decide_eq_true_eq]; omega) | (simp only [beq_iff_eq, decide_eq_false_iff_not, decide_eq_true_eq]; first | exact hG | assumption)))) ?_
          refine q_loopn ⟨[0, 3], []⟩ ?_ ?_
          · exact ⟨i + 1, by omega, by omega, (by
              rw [h3, nth_drop h1 hc1, List.all_cons, decide_eq_true (by omega)]; rfl), by rfl⟩
          · show (List.length l - (i + 1).toNat : Nat) < List.length l - i.toNat
            omega
      · try simp only [go_sem, decide_eq_true_eq, decide_eq_false_iff_not, Bool.not_eq_true', Bool.not_eq_false', Bool.or_eq_true, Bool.or_eq_false_iff, Bool.and_eq_true] at hc1
        refine ev_exit ?_
        refine q_seqx ?_
        refine q_loopx ?_
        refine q_blkx ?_
        refine q_seqn ?_
        refine ev_seq ?_
        refine ev_region (by simp only [go_sem, Nat.reduceEqDiff, reduceIte, reduceDIte, reduceCtorEq, Nat.reduceAdd, Nat.reduceLT, Nat.reduceLeDiff, decide_true, decide_false, Bool.and_self, Bool.or_self, Bool.or_false, Bool.false_or, Bool.and_true, Bool.true_and, Bool.not_true, Bool.not_false]; rfl) (by first | exact trivial | (simp only [go_sem, Nat.reduceEqDiff, reduceIte, reduceCtorEq, Nat.reduceAdd, Bool.and_self]; first | omega | (repeat' (first | apply And.intro | intro hG)) <;> (try simp only [beq_iff_eq, decide_eq_true_eq, decide_eq_false_iff_not, Bool.false_eq_true, Bool.true_eq_false] at hG) <;> (first | omega | (show (0:Int) ≤ (_:Int); omega) | (show (_:Int) < (_:Int); omega) | assumption | (simp only [List.length_append, List.length_cons, List.length_nil]; omega) | (simp only [beq_iff_eq, decide_eq_false_iff_not, decide_eq_true_eq]; omega) | (simp only [beq_iff_eq, decide_eq_false_iff_not, decide_eq_true_eq]; first | exact hG | assumption)))) ?_
        refine q_seqn ?_
        refine ev_ret ?_
        refine ⟨⟨[2], []⟩, by simp only [go_sem, reduceIte, Nat.reduceEqDiff], ?_⟩
        simp only [go_sem, Nat.reduceEqDiff, reduceIte, reduceCtorEq]
        rw [show few l = decide ((List.length l : Int) ≤ 30) by
            unfold few; rw [h3, drop_end hc1]; simp only [List.all_nil, Bool.true_and, decide_eq_decide]; omega]
  · cases hC


set_option maxRecDepth 100000 in
set_option maxHeartbeats 4000000 in
theorem con17 : ConOk Try.prog 17 C17 := by
  refine con_ok TT_ok G0_ok mixed Try.func17 (c := _) rfl (N := 20) (by kernel_rfl) (ts := [2]) (fun _ _ => rfl) (res1 rfl) ?_
  intro args L r hC hs
  unfold C17 at hC
  split at hC
  · rename_i l
    cases hC
    have h0 := hs _ (List.mem_singleton.2 rfl)
    refine ⟨by simp only [List.length_cons, List.length_nil]; omega, by simp only [go_sem, reduceIte, Nat.reduceEqDiff, Bool.and_self, and_self], trivial, ?_⟩
    simp only [enumE, enumH, lenB, Nat.reduceAdd]
    refine ev_seq ?_
    refine ev_region (by simp only [go_sem, Nat.reduceEqDiff, reduceIte, reduceDIte, reduceCtorEq, Nat.reduceAdd, Nat.reduceLT, Nat.reduceLeDiff, decide_true, decide_false, Bool.and_self, Bool.or_self, Bool.or_false, Bool.false_or, Bool.and_true, Bool.true_and, Bool.not_true, Bool.not_false]; rfl) (by first | exact trivial | (simp only [go_sem, Nat.reduceEqDiff, reduceIte, reduceCtorEq, Nat.reduceAdd, Bool.and_self]; first | omega | (repeat' (first | apply And.intro | intro hG)) <;> (try simp only [beq_iff_eq, decide_eq_true_eq, decide_eq_false_iff_not, Bool.false_eq_true, Bool.true_eq_false] at hG) <;> (first | omega | (show (0:Int) ≤ (_:Int); omega) | (show (_:Int) < (_:Int); omega) | assumption | (simp only [List.length_append, List.length_cons, List.length_nil]; omega) | (simp only [beq_iff_eq, decide_eq_false_iff_not, decide_eq_true_eq]; omega) | (simp only [beq_iff_eq, decide_eq_false_iff_not, decide_eq_true_eq]; first | exact hG | assumption)))) ?_
    refine q_seqn ?_
    refine ev_seq ?_
    refine ev_seq ?_
    refine ev_region (by simp only [go_sem, Nat.reduceEqDiff, reduceIte, reduceDIte, reduceCtorEq, Nat.reduceAdd, Nat.reduceLT, Nat.reduceLeDiff, decide_true, decide_false, Bool.and_self, Bool.or_self, Bool.or_false, Bool.false_or, Bool.and_true, Bool.true_and, Bool.not_true, Bool.not_false]; rfl) (by first | exact trivial | (simp only [go_sem, Nat.reduceEqDiff, reduceIte, reduceCtorEq, Nat.reduceAdd, Bool.and_self]; first | omega | (repeat' (first | apply And.intro | intro hG)) <;> (try simp only [beq_iff_eq, decide_eq_true_eq, decide_eq_false_iff_not, Bool.false_eq_true, Bool.true_eq_false] at hG) <;> (first | omega | (show (0:Int) ≤ (_:Int); omega) | (show (_:Int) < (_:Int); omega) | assumption | (simp only [List.length_append, List.length_cons, List.length_nil]; omega) | (simp only [beq_iff_eq, decide_eq_false_iff_not, decide_eq_true_eq]; omega) | (simp only [beq_iff_eq, decide_eq_false_iff_not, decide_eq_true_eq]; first | exact hG | assumption)))) ?_
    refine q_seqn ?_
    refine ev_block ?_
    refine ev_loop ⟨[0, 3], []⟩ (fun s => ∃ i : Int, 0 ≤ i ∧ i ≤ (List.length l : Int) ∧ l.all (fun s => decide (s.2.1.length ≤ 100)) = (l.drop i.toNat).all (fun s => decide (s.2.1.length ≤ 100)) ∧ s = ⟨[(0, (.val (.list (.pair (.int .i64) (.pair .str .unit))) l, none)), (3, (.val (.int .i64) i, none))], [], 0, 20, 0⟩) (fun s => l.length - (intAt s 3).toNat) ?_ ?_
    · exact ⟨0, by omega, by omega, rfl, by rfl⟩
    · rintro s ⟨i, h1, h2, h3, rfl⟩
      refine ev_seq ?_
      refine ev_seq ?_
      refine ev_region (by simp only [go_sem, Nat.reduceEqDiff, reduceIte, reduceDIte, reduceCtorEq, Nat.reduceAdd, Nat.reduceLT, Nat.reduceLeDiff, decide_true, decide_false, Bool.and_self, Bool.or_self, Bool.or_false, Bool.false_or, Bool.and_true, Bool.true_and, Bool.not_true, Bool.not_false]; rfl) (by first | exact trivial | (simp only [go_sem, Nat.reduceEqDiff, reduceIte, reduceCtorEq, Nat.reduceAdd, Bool.and_self]; first | omega | (repeat' (first | apply And.intro | intro hG)) <;> (try simp only [beq_iff_eq, decide_eq_true_eq, decide_eq_false_iff_not, Bool.false_eq_true, Bool.true_eq_false] at hG) <;> (first | omega | (show (0:Int) ≤ (_:Int); omega) | (show (_:Int) < (_:Int); omega) | assumption | (simp only [List.length_append, List.length_cons, List.length_nil]; omega) | (simp only [beq_iff_eq, decide_eq_false_iff_not, decide_eq_true_eq]; omega) | (simp only [beq_iff_eq, decide_eq_false_iff_not, decide_eq_true_eq]; first | exact hG | assumption)))) ?_
      refine q_seqn ?_
      refine ev_cond (by simp only [go_sem, Nat.reduceEqDiff, reduceIte, reduceDIte, reduceCtorEq, Nat.reduceAdd, Nat.reduceLT, Nat.reduceLeDiff, decide_true, decide_false, Bool.and_self, Bool.or_self, Bool.or_false, Bool.false_or, Bool.and_true, Bool.true_and, Bool.not_true, Bool.not_false]; rfl) (fun hc1 => ?_) (fun hc1 => ?_)
      · try simp only [go_sem, decide_eq_true_eq, decide_eq_false_iff_not, Bool.not_eq_true', Bool.not_eq_false', Bool.or_eq_true, Bool.or_eq_false_iff, Bool.and_eq_true] at hc1
        refine ev_skip ?_
        refine q_seqn ?_
        refine ev_seq ?_
        refine ev_block ?_
        refine ev_seq ?_
        refine ev_region (by simp only [go_sem, Nat.reduceEqDiff, reduceIte, reduceDIte, reduceCtorEq, Nat.reduceAdd, Nat.reduceLT, Nat.reduceLeDiff, decide_true, decide_false, Bool.and_self, Bool.or_self, Bool.or_false, Bool.false_or, Bool.and_true, Bool.true_and, Bool.not_true, Bool.not_false]; rfl) (by first | exact trivial | (simp only [go_sem, Nat.reduceEqDiff, reduceIte, reduceCtorEq, Nat.reduceAdd, Bool.and_self]; first | omega | (repeat' (first | apply And.intro | intro hG)) <;> (try simp only [beq_iff_eq, decide_eq_true_eq, decide_eq_false_iff_not, Bool.false_eq_true, Bool.true_eq_false] at hG) <;> (first | omega | (show (0:Int) ≤ (_:Int); omega) | (show (_:Int) < (_:Int); omega) | assumption | (simp only [List.length_append, List.length_cons, List.length_nil]; omega) | (simp only [beq_iff_eq, decide_eq_false_iff_not, decide_eq_true_eq]; omega) | (simp only [beq_iff_eq, decide_eq_false_iff_not, decide_eq_true_eq]; first | exact hG | assumption)))) ?_
        refine q_seqn ?_
        refine ev_cond (by simp only [go_sem, Nat.reduceEqDiff, reduceIte, reduceDIte, reduceCtorEq, Nat.reduceAdd, Nat.reduceLT, Nat.reduceLeDiff, decide_true, decide_false, Bool.and_self, Bool.or_self, Bool.or_false, Bool.false_or, Bool.and_true, Bool.true_and, Bool.not_true, Bool.not_false]; rfl) (fun hc2 => ?_) (fun hc2 => ?_)
        · try simp only [go_sem, decide_eq_true_eq, decide_eq_false_iff_not, Bool.not_eq_true', Bool.not_eq_false', Bool.or_eq_true, Bool.or_eq_false_iff, Bool.and_eq_true] at hc2
          refine ev_seq ?_
          refine ev_region (by simp only [go_sem, Nat.reduceEqDiff, reduceIte, reduceDIte, reduceCtorEq, Nat.reduceAdd, Nat.reduceLT, Nat.reduceLeDiff, decide_true, decide_false, Bool.and_self, Bool.or_self, Bool.or_false, Bool.false_or, Bool.and_true, Bool.true_and, Bool.not_true, Bool.not_false]; rfl) (by first | exact trivial | (simp only [go_sem, Nat.reduceEqDiff, reduceIte, reduceCtorEq, Nat.reduceAdd, Bool.and_self]; first | omega | (repeat' (first | apply And.intro | intro hG)) <;> (try simp only [beq_iff_eq, decide_eq_true_eq, decide_eq_false_iff_not, Bool.false_eq_true, Bool.true_eq_false] at hG) <;> (first | omega | (show (0:Int) ≤ (_:Int); omega) | (show (_:Int) < (_:Int); omega) | assumption | (simp only [List.length_append, List.length_cons, List.length_nil]; omega) | (simp only [beq_iff_eq, decide_eq_false_iff_not, decide_eq_true_eq]; omega) | (simp only [beq_iff_eq, decide_eq_false_iff_not, decide_eq_true_eq]; first | exact hG | assumption)))) ?_
          refine q_seqn ?_
          refine ev_ret ?_
          refine q_blkr ?_
          refine q_seqr ?_
          refine q_loopr ?_
          refine q_blkr ?_
          refine q_seqr ?_
          refine ⟨⟨[2], []⟩, by simp only [go_sem, reduceIte, Nat.reduceEqDiff], ?_⟩
          simp only [go_sem, Nat.reduceEqDiff, reduceIte, reduceCtorEq]
          rw [show shortE l = false by unfold shortE; rw [h3, nth_drop (t := (.pair (.int .i64) (.pair .str .unit))) h1 hc1, List.all_cons, decide_eq_false (by omega)]; rfl]
        · try simp only [go_sem, decide_eq_true_eq, decide_eq_false_iff_not, Bool.not_eq_true', Bool.not_eq_false', Bool.or_eq_true, Bool.or_eq_false_iff, Bool.and_eq_true] at hc2
          refine ev_skip ?_
          refine q_blkn ?_
          refine q_seqn ?_
          refine ev_region (by simp only [go_sem, Nat.reduceEqDiff, reduceIte, reduceDIte, reduceCtorEq, Nat.reduceAdd, Nat.reduceLT, Nat.reduceLeDiff, decide_true, decide_false, Bool.and_self, Bool.or_self, Bool.or_false, Bool.false_or, Bool.and_true, Bool.true_and, Bool.not_true, Bool.not_false]; rfl) (by first | exact trivial | (simp only [go_sem, Nat.reduceEqDiff, reduceIte, reduceCtorEq, Nat.reduceAdd, Bool.and_self]; first | omega | (repeat' (first | apply And.intro | intro hG)) <;> (try simp only [beq_iff_eq, decide_eq_true_eq, decide_eq_false_iff_not, Bool.false_eq_true, Bool.true_eq_false] at hG) <;> (first | omega | (show (0:Int) ≤ (_:Int); omega) | (show (_:Int) < (_:Int); omega) | assumption | (simp only [List.length_append, List.length_cons, List.length_nil]; omega) | (simp only [beq_iff_eq, decide_eq_false_iff_not, decide_eq_true_eq]; omega) | (simp only [beq_iff_eq, decide_eq_false_iff_not, decide_eq_true_eq]; first | exact hG | assumption)))) ?_
          refine q_loopn ⟨[0, 3], []⟩ ?_ ?_
          · exact ⟨i + 1, by omega, by omega, (by
              rw [h3, nth_drop (t := (.pair (.int .i64) (.pair .str .unit))) h1 hc1, List.all_cons, decide_eq_true (by omega)]; rfl), by rfl⟩
          · show (List.length l - (i + 1).toNat : Nat) < List.length l - i.toNat
            omega
      · try simp only [go_sem, decide_eq_true_eq, decide_eq_false_iff_not, Bool.not_eq_true', Bool.not_eq_false', Bool.or_eq_true, Bool.or_eq_false_iff, Bool.and_eq_true] at hc1
        refine ev_exit ?_
        refine q_seqx ?_
        refine q_loopx ?_
        refine q_blkx ?_
        refine q_seqn ?_
        refine ev_seq ?_
        refine ev_region (by simp only [go_sem, Nat.reduceEqDiff, reduceIte, reduceDIte, reduceCtorEq, Nat.reduceAdd, Nat.reduceLT, Nat.reduceLeDiff, decide_true, decide_false, Bool.and_self, Bool.or_self, Bool.or_false, Bool.false_or, Bool.and_true, Bool.true_and, Bool.not_true, Bool.not_false]; rfl) (by first | exact trivial | (simp only [go_sem, Nat.reduceEqDiff, reduceIte, reduceCtorEq, Nat.reduceAdd, Bool.and_self]; first | omega | (repeat' (first | apply And.intro | intro hG)) <;> (try simp only [beq_iff_eq, decide_eq_true_eq, decide_eq_false_iff_not, Bool.false_eq_true, Bool.true_eq_false] at hG) <;> (first | omega | (show (0:Int) ≤ (_:Int); omega) | (show (_:Int) < (_:Int); omega) | assumption | (simp only [List.length_append, List.length_cons, List.length_nil]; omega) | (simp only [beq_iff_eq, decide_eq_false_iff_not, decide_eq_true_eq]; omega) | (simp only [beq_iff_eq, decide_eq_false_iff_not, decide_eq_true_eq]; first | exact hG | assumption)))) ?_
        refine q_seqn ?_
        refine ev_ret ?_
        refine ⟨⟨[2], []⟩, by simp only [go_sem, reduceIte, Nat.reduceEqDiff], ?_⟩
        simp only [go_sem, Nat.reduceEqDiff, reduceIte, reduceCtorEq]
        rw [show shortE l = decide ((List.length l : Int) ≤ 60) by
            unfold shortE; rw [h3, drop_end hc1]; simp only [List.all_nil, Bool.true_and, decide_eq_decide]; omega]
  · cases hC


set_option maxRecDepth 100000 in
set_option maxHeartbeats 4000000 in
theorem con16 : ConOk Try.prog 16 C16 := by
  refine con_ok TT_ok G0_ok mixed Try.func16 (c := _) rfl (N := 26) (by kernel_rfl) (ts := [4]) (fun _ _ => rfl) (res1 rfl) ?_
  intro args L r hC hs
  unfold C16 at hC
  split at hC
  · rename_i a b
    cases hC
    have h0 := hs _ (List.mem_cons_self)
    have h01 := hs _ (List.mem_cons_of_mem _ List.mem_cons_self)
    refine ⟨by simp only [List.length_cons, List.length_nil]; omega, by simp only [go_sem, reduceIte, Nat.reduceEqDiff, Bool.and_self, and_self], trivial, ?_⟩
    simp only [enumE, enumH, lenB, Nat.reduceAdd]
    refine ev_seq ?_
    refine ev_region (by simp only [go_sem, Nat.reduceEqDiff, reduceIte, reduceDIte, reduceCtorEq, Nat.reduceAdd, Nat.reduceLT, Nat.reduceLeDiff, decide_true, decide_false, Bool.and_self, Bool.or_self, Bool.or_false, Bool.false_or, Bool.and_true, Bool.true_and, Bool.not_true, Bool.not_false]; rfl) (by first | exact trivial | (simp only [go_sem, Nat.reduceEqDiff, reduceIte, reduceCtorEq, Nat.reduceAdd, Bool.and_self]; first | omega | (repeat' (first | apply And.intro | intro hG)) <;> (try simp only [beq_iff_eq, decide_eq_true_eq, decide_eq_false_iff_not, Bool.false_eq_true, Bool.true_eq_false] at hG) <;> (first | omega | (show (0:Int) ≤ (_:Int); omega) | (show (_:Int) < (_:Int); omega) | assumption | (simp only [List.length_append, List.length_cons, List.length_nil]; omega) | (simp only [beq_iff_eq, decide_eq_false_iff_not, decide_eq_true_eq]; omega) | (simp only [beq_iff_eq, decide_eq_false_iff_not, decide_eq_true_eq]; first | exact hG | assumption)))) ?_
    refine q_seqn ?_
    refine ev_seq ?_
    refine ev_seq ?_
    refine ev_region (by simp only [go_sem, Nat.reduceEqDiff, reduceIte, reduceDIte, reduceCtorEq, Nat.reduceAdd, Nat.reduceLT, Nat.reduceLeDiff, decide_true, decide_false, Bool.and_self, Bool.or_self, Bool.or_false, Bool.false_or, Bool.and_true, Bool.true_and, Bool.not_true, Bool.not_false]; rfl) (by first | exact trivial | (simp only [go_sem, Nat.reduceEqDiff, reduceIte, reduceCtorEq, Nat.reduceAdd, Bool.and_self]; first | omega | (repeat' (first | apply And.intro | intro hG)) <;> (try simp only [beq_iff_eq, decide_eq_true_eq, decide_eq_false_iff_not, Bool.false_eq_true, Bool.true_eq_false] at hG) <;> (first | omega | (show (0:Int) ≤ (_:Int); omega) | (show (_:Int) < (_:Int); omega) | assumption | (simp only [List.length_append, List.length_cons, List.length_nil]; omega) | (simp only [beq_iff_eq, decide_eq_false_iff_not, decide_eq_true_eq]; omega) | (simp only [beq_iff_eq, decide_eq_false_iff_not, decide_eq_true_eq]; first | exact hG | assumption)))) ?_
    refine q_seqn ?_
    refine ev_cond (by simp only [go_sem, Nat.reduceEqDiff, reduceIte, reduceDIte, reduceCtorEq, Nat.reduceAdd, Nat.reduceLT, Nat.reduceLeDiff, decide_true, decide_false, Bool.and_self, Bool.or_self, Bool.or_false, Bool.false_or, Bool.and_true, Bool.true_and, Bool.not_true, Bool.not_false]; rfl) (fun hc1 => ?_) (fun hc1 => ?_)
    · try simp only [go_sem, decide_eq_true_eq, decide_eq_false_iff_not, Bool.not_eq_true', Bool.not_eq_false', Bool.or_eq_true, Bool.or_eq_false_iff, Bool.and_eq_true] at hc1
      refine ev_seq ?_
      refine ev_region (by simp only [go_sem, Nat.reduceEqDiff, reduceIte, reduceDIte, reduceCtorEq, Nat.reduceAdd, Nat.reduceLT, Nat.reduceLeDiff, decide_true, decide_false, Bool.and_self, Bool.or_self, Bool.or_false, Bool.false_or, Bool.and_true, Bool.true_and, Bool.not_true, Bool.not_false]; rfl) (by first | exact trivial | (simp only [go_sem, Nat.reduceEqDiff, reduceIte, reduceCtorEq, Nat.reduceAdd, Bool.and_self]; first | omega | (repeat' (first | apply And.intro | intro hG)) <;> (try simp only [beq_iff_eq, decide_eq_true_eq, decide_eq_false_iff_not, Bool.false_eq_true, Bool.true_eq_false] at hG) <;> (first | omega | (show (0:Int) ≤ (_:Int); omega) | (show (_:Int) < (_:Int); omega) | assumption | (simp only [List.length_append, List.length_cons, List.length_nil]; omega) | (simp only [beq_iff_eq, decide_eq_false_iff_not, decide_eq_true_eq]; omega) | (simp only [beq_iff_eq, decide_eq_false_iff_not, decide_eq_true_eq]; first | exact hG | assumption)))) ?_
      refine q_seqn ?_
      refine ev_ret ?_
      refine q_seqr ?_
      refine ⟨⟨[4], []⟩, by simp only [go_sem, reduceIte, Nat.reduceEqDiff], ?_⟩
      simp only [go_sem, Nat.reduceEqDiff, reduceIte, reduceCtorEq]
      rw [show decide (a = b) = false from decide_eq_false fun h => hc1 (by rw [h])]
    · try simp only [go_sem, decide_eq_true_eq, decide_eq_false_iff_not, Bool.not_eq_true', Bool.not_eq_false', Bool.or_eq_true, Bool.or_eq_false_iff, Bool.and_eq_true] at hc1
      refine ev_skip ?_
      refine q_seqn ?_
      refine ev_seq ?_
      refine ev_seq ?_
      refine ev_region (by simp only [go_sem, Nat.reduceEqDiff, reduceIte, reduceDIte, reduceCtorEq, Nat.reduceAdd, Nat.reduceLT, Nat.reduceLeDiff, decide_true, decide_false, Bool.and_self, Bool.or_self, Bool.or_false, Bool.false_or, Bool.and_true, Bool.true_and, Bool.not_true, Bool.not_false]; rfl) (by first | exact trivial | (simp only [go_sem, Nat.reduceEqDiff, reduceIte, reduceCtorEq, Nat.reduceAdd, Bool.and_self]; first | omega | (repeat' (first | apply And.intro | intro hG)) <;> (try simp only [beq_iff_eq, decide_eq_true_eq, decide_eq_false_iff_not, Bool.false_eq_true, Bool.true_eq_false] at hG) <;> (first | omega | (show (0:Int) ≤ (_:Int); omega) | (show (_:Int) < (_:Int); omega) | assumption | (simp only [List.length_append, List.length_cons, List.length_nil]; omega) | (simp only [beq_iff_eq, decide_eq_false_iff_not, decide_eq_true_eq]; omega) | (simp only [beq_iff_eq, decide_eq_false_iff_not, decide_eq_true_eq]; first | exact hG | assumption)))) ?_
      refine q_seqn ?_
      refine ev_block ?_
      refine ev_loop ⟨[0, 1, 5], []⟩ (fun s => ∃ i : Int, 0 ≤ i ∧ i ≤ (List.length a : Int) ∧ decide (a = b) = decide (a.drop i.toNat = b.drop i.toNat) ∧ s = ⟨[(0, (.val tS a, none)), (1, (.val tS b, none)), (5, (.val (.int .i64) i, none))], [], 0, 26, 0⟩) (fun s => a.length - (intAt s 5).toNat) ?_ ?_
      · exact ⟨0, by omega, by omega, rfl, by rfl⟩
      · rintro s ⟨i, h1, h2, h3, rfl⟩
        refine ev_seq ?_
        refine ev_seq ?_
        refine ev_region (by simp only [go_sem, Nat.reduceEqDiff, reduceIte, reduceDIte, reduceCtorEq, Nat.reduceAdd, Nat.reduceLT, Nat.reduceLeDiff, decide_true, decide_false, Bool.and_self, Bool.or_self, Bool.or_false, Bool.false_or, Bool.and_true, Bool.true_and, Bool.not_true, Bool.not_false]; rfl) (by first | exact trivial | (simp only [go_sem, Nat.reduceEqDiff, reduceIte, reduceCtorEq, Nat.reduceAdd, Bool.and_self]; first | omega | (repeat' (first | apply And.intro | intro hG)) <;> (try simp only [beq_iff_eq, decide_eq_true_eq, decide_eq_false_iff_not, Bool.false_eq_true, Bool.true_eq_false] at hG) <;> (first | omega | (show (0:Int) ≤ (_:Int); omega) | (show (_:Int) < (_:Int); omega) | assumption | (simp only [List.length_append, List.length_cons, List.length_nil]; omega) | (simp only [beq_iff_eq, decide_eq_false_iff_not, decide_eq_true_eq]; omega) | (simp only [beq_iff_eq, decide_eq_false_iff_not, decide_eq_true_eq]; first | exact hG | assumption)))) ?_
        refine q_seqn ?_
        refine ev_cond (by simp only [go_sem, Nat.reduceEqDiff, reduceIte, reduceDIte, reduceCtorEq, Nat.reduceAdd, Nat.reduceLT, Nat.reduceLeDiff, decide_true, decide_false, Bool.and_self, Bool.or_self, Bool.or_false, Bool.false_or, Bool.and_true, Bool.true_and, Bool.not_true, Bool.not_false]; rfl) (fun hc2 => ?_) (fun hc2 => ?_)
        · try simp only [go_sem, decide_eq_true_eq, decide_eq_false_iff_not, Bool.not_eq_true', Bool.not_eq_false', Bool.or_eq_true, Bool.or_eq_false_iff, Bool.and_eq_true] at hc2
          refine ev_skip ?_
          refine q_seqn ?_
          refine ev_seq ?_
          refine ev_block ?_
          refine ev_seq ?_
          refine ev_drawn (by simp only [go_sem, Nat.reduceEqDiff, reduceIte, reduceDIte, reduceCtorEq, Nat.reduceAdd, Nat.reduceLT, Nat.reduceLeDiff, decide_true, decide_false, Bool.and_self, Bool.or_self, Bool.or_false, Bool.false_or, Bool.and_true, Bool.true_and, Bool.not_true, Bool.not_false]; rfl) (by kernel_rfl) (by first | exact trivial | (simp only [go_sem, Nat.reduceEqDiff, reduceIte, reduceCtorEq, Nat.reduceAdd, Bool.and_self]; first | omega | (repeat' (first | apply And.intro | intro hG)) <;> (try simp only [beq_iff_eq, decide_eq_true_eq, decide_eq_false_iff_not, Bool.false_eq_true, Bool.true_eq_false] at hG) <;> (first | omega | (show (0:Int) ≤ (_:Int); omega) | (show (_:Int) < (_:Int); omega) | assumption | (simp only [List.length_append, List.length_cons, List.length_nil]; omega) | (simp only [beq_iff_eq, decide_eq_false_iff_not, decide_eq_true_eq]; omega) | (simp only [beq_iff_eq, decide_eq_false_iff_not, decide_eq_true_eq]; first | exact hG | assumption)))) ?_
          refine q_seqn ?_
          refine ev_cond (by simp only [go_sem, Nat.reduceEqDiff, reduceIte, reduceDIte, reduceCtorEq, Nat.reduceAdd, Nat.reduceLT, Nat.reduceLeDiff, decide_true, decide_false, Bool.and_self, Bool.or_self, Bool.or_false, Bool.false_or, Bool.and_true, Bool.true_and, Bool.not_true, Bool.not_false]; rfl) (fun hc3 => ?_) (fun hc3 => ?_)
          · try simp only [go_sem, decide_eq_true_eq, decide_eq_false_iff_not, Bool.not_eq_true', Bool.not_eq_false', Bool.or_eq_true, Bool.or_eq_false_iff, Bool.and_eq_true] at hc3
            refine ev_seq ?_
            refine ev_region (by simp only [go_sem, Nat.reduceEqDiff, reduceIte, reduceDIte, reduceCtorEq, Nat.reduceAdd, Nat.reduceLT, Nat.reduceLeDiff, decide_true, decide_false, Bool.and_self, Bool.or_self, Bool.or_false, Bool.false_or, Bool.and_true, Bool.true_and, Bool.not_true, Bool.not_false]; rfl) (by first | exact trivial | (simp only [go_sem, Nat.reduceEqDiff, reduceIte, reduceCtorEq, Nat.reduceAdd, Bool.and_self]; first | omega | (repeat' (first | apply And.intro | intro hG)) <;> (try simp only [beq_iff_eq, decide_eq_true_eq, decide_eq_false_iff_not, Bool.false_eq_true, Bool.true_eq_false] at hG) <;> (first | omega | (show (0:Int) ≤ (_:Int); omega) | (show (_:Int) < (_:Int); omega) | assumption | (simp only [List.length_append, List.length_cons, List.length_nil]; omega) | (simp only [beq_iff_eq, decide_eq_false_iff_not, decide_eq_true_eq]; omega) | (simp only [beq_iff_eq, decide_eq_false_iff_not, decide_eq_true_eq]; first | exact hG | assumption)))) ?_
            refine q_seqn ?_
            refine ev_ret ?_
            refine q_blkr ?_
            refine q_seqr ?_
            refine q_loopr ?_
            refine q_blkr ?_
            refine q_seqr ?_
            refine ⟨⟨[4], []⟩, by simp only [go_sem, reduceIte, Nat.reduceEqDiff], ?_⟩
            simp only [go_sem, Nat.reduceEqDiff, reduceIte, reduceCtorEq]
            rw [show decide (a = b) = false by
                rw [h3, nth_drop (t := .str) h1 hc2, nth_drop (t := .str) (l := b) h1 (by omega)]; exact decide_eq_false fun h => hc3 (List.cons.inj h).1]
          · try simp only [go_sem, decide_eq_true_eq, decide_eq_false_iff_not, Bool.not_eq_true', Bool.not_eq_false', Bool.or_eq_true, Bool.or_eq_false_iff, Bool.and_eq_true] at hc3
            refine ev_skip ?_
            refine q_blkn ?_
            refine q_seqn ?_
            refine ev_region (by simp only [go_sem, Nat.reduceEqDiff, reduceIte, reduceDIte, reduceCtorEq, Nat.reduceAdd, Nat.reduceLT, Nat.reduceLeDiff, decide_true, decide_false, Bool.and_self, Bool.or_self, Bool.or_false, Bool.false_or, Bool.and_true, Bool.true_and, Bool.not_true, Bool.not_false]; rfl) (by first | exact trivial | (simp only [go_sem, Nat.reduceEqDiff, reduceIte, reduceCtorEq, Nat.reduceAdd, Bool.and_self]; first | omega | (repeat' (first | apply And.intro | intro hG)) <;> (try simp only [beq_iff_eq, decide_eq_true_eq, decide_eq_false_iff_not, Bool.false_eq_true, Bool.true_eq_false] at hG) <;> (first | omega | (show (0:Int) ≤ (_:Int); omega) | (show (_:Int) < (_:Int); omega) | assumption | (simp only [List.length_append, List.length_cons, List.length_nil]; omega) | (simp only [beq_iff_eq, decide_eq_false_iff_not, decide_eq_true_eq]; omega) | (simp only [beq_iff_eq, decide_eq_false_iff_not, decide_eq_true_eq]; first | exact hG | assumption)))) ?_
            refine q_loopn ⟨[0, 1, 5], []⟩ ?_ ?_
            · exact ⟨i + 1, by omega, by omega, (by
                rw [h3, nth_drop (t := .str) h1 hc2, nth_drop (t := .str) (l := b) h1 (by omega), hc3]; simp only [List.cons.injEq, true_and]), by rfl⟩
            · show (List.length a - (i + 1).toNat : Nat) < List.length a - i.toNat
              omega
        · try simp only [go_sem, decide_eq_true_eq, decide_eq_false_iff_not, Bool.not_eq_true', Bool.not_eq_false', Bool.or_eq_true, Bool.or_eq_false_iff, Bool.and_eq_true] at hc2
          refine ev_exit ?_
          refine q_seqx ?_
          refine q_loopx ?_
          refine q_blkx ?_
          refine q_seqn ?_
          refine ev_seq ?_
          refine ev_region (by simp only [go_sem, Nat.reduceEqDiff, reduceIte, reduceDIte, reduceCtorEq, Nat.reduceAdd, Nat.reduceLT, Nat.reduceLeDiff, decide_true, decide_false, Bool.and_self, Bool.or_self, Bool.or_false, Bool.false_or, Bool.and_true, Bool.true_and, Bool.not_true, Bool.not_false]; rfl) (by first | exact trivial | (simp only [go_sem, Nat.reduceEqDiff, reduceIte, reduceCtorEq, Nat.reduceAdd, Bool.and_self]; first | omega | (repeat' (first | apply And.intro | intro hG)) <;> (try simp only [beq_iff_eq, decide_eq_true_eq, decide_eq_false_iff_not, Bool.false_eq_true, Bool.true_eq_false] at hG) <;> (first | omega | (show (0:Int) ≤ (_:Int); omega) | (show (_:Int) < (_:Int); omega) | assumption | (simp only [List.length_append, List.length_cons, List.length_nil]; omega) | (simp only [beq_iff_eq, decide_eq_false_iff_not, decide_eq_true_eq]; omega) | (simp only [beq_iff_eq, decide_eq_false_iff_not, decide_eq_true_eq]; first | exact hG | assumption)))) ?_
          refine q_seqn ?_
          refine ev_ret ?_
          refine ⟨⟨[4], []⟩, by simp only [go_sem, reduceIte, Nat.reduceEqDiff], ?_⟩
          simp only [go_sem, Nat.reduceEqDiff, reduceIte, reduceCtorEq]
          rw [show decide (a = b) = true by
              rw [h3, drop_end hc2, drop_end (l := b) (by omega)]; rfl]
  · cases hC


set_option maxRecDepth 100000 in
set_option maxHeartbeats 4000000 in
theorem con19 : ConOk Try.prog 19 C19 := by
  refine con_ok TT_ok G0_ok mixed Try.func19 (c := _) rfl (N := 19) (by kernel_rfl) (ts := [2]) (fun _ _ => rfl) (res1 rfl) ?_
  intro args L r hC hs
  unfold C19 at hC
  split at hC
  · rename_i l
    cases hC
    have h0 : (List.length l : Int) ≤ 1000 := hs _ (List.mem_singleton.2 rfl)
    refine ⟨by simp only [List.length_cons, List.length_nil]; omega, by simp only [go_sem, reduceIte, Nat.reduceEqDiff, Bool.and_self, and_self], trivial, ?_⟩
    simp only [enumE, enumH, lenB, Nat.reduceAdd]
    refine ev_seq ?_
    refine ev_region (by simp only [go_sem, Nat.reduceEqDiff, reduceIte, reduceDIte, reduceCtorEq, Nat.reduceAdd, Nat.reduceLT, Nat.reduceLeDiff, decide_true, decide_false, Bool.and_self, Bool.or_self, Bool.or_false, Bool.false_or, Bool.and_true, Bool.true_and, Bool.not_true, Bool.not_false]; rfl) (by first | exact trivial | (simp only [go_sem, Nat.reduceEqDiff, reduceIte, reduceCtorEq, Nat.reduceAdd, Bool.and_self]; first | omega | (repeat' (first | apply And.intro | intro hG)) <;> (try simp only [beq_iff_eq, decide_eq_true_eq, decide_eq_false_iff_not, Bool.false_eq_true, Bool.true_eq_false] at hG) <;> (first | omega | (show (0:Int) ≤ (_:Int); omega) | (show (_:Int) < (_:Int); omega) | assumption | (simp only [List.length_append, List.length_cons, List.length_nil]; omega) | (simp only [beq_iff_eq, decide_eq_false_iff_not, decide_eq_true_eq]; omega) | (simp only [beq_iff_eq, decide_eq_false_iff_not, decide_eq_true_eq]; first | exact hG | assumption)))) ?_
    refine q_seqn ?_
    refine ev_seq ?_
    refine ev_region (by simp only [go_sem, Nat.reduceEqDiff, reduceIte, reduceDIte, reduceCtorEq, Nat.reduceAdd, Nat.reduceLT, Nat.reduceLeDiff, decide_true, decide_false, Bool.and_self, Bool.or_self, Bool.or_false, Bool.false_or, Bool.and_true, Bool.true_and, Bool.not_true, Bool.not_false]; rfl) (by first | exact trivial | (simp only [go_sem, Nat.reduceEqDiff, reduceIte, reduceCtorEq, Nat.reduceAdd, Bool.and_self]; first | omega | (repeat' (first | apply And.intro | intro hG)) <;> (try simp only [beq_iff_eq, decide_eq_true_eq, decide_eq_false_iff_not, Bool.false_eq_true, Bool.true_eq_false] at hG) <;> (first | omega | (show (0:Int) ≤ (_:Int); omega) | (show (_:Int) < (_:Int); omega) | assumption | (simp only [List.length_append, List.length_cons, List.length_nil]; omega) | (simp only [beq_iff_eq, decide_eq_false_iff_not, decide_eq_true_eq]; omega) | (simp only [beq_iff_eq, decide_eq_false_iff_not, decide_eq_true_eq]; first | exact hG | assumption)))) ?_
    refine q_seqn ?_
    refine ev_seq ?_
    refine ev_seq ?_
    refine ev_region (by simp only [go_sem, Nat.reduceEqDiff, reduceIte, reduceDIte, reduceCtorEq, Nat.reduceAdd, Nat.reduceLT, Nat.reduceLeDiff, decide_true, decide_false, Bool.and_self, Bool.or_self, Bool.or_false, Bool.false_or, Bool.and_true, Bool.true_and, Bool.not_true, Bool.not_false]; rfl) (by first | exact trivial | (simp only [go_sem, Nat.reduceEqDiff, reduceIte, reduceCtorEq, Nat.reduceAdd, Bool.and_self]; first | omega | (repeat' (first | apply And.intro | intro hG)) <;> (try simp only [beq_iff_eq, decide_eq_true_eq, decide_eq_false_iff_not, Bool.false_eq_true, Bool.true_eq_false] at hG) <;> (first | omega | (show (0:Int) ≤ (_:Int); omega) | (show (_:Int) < (_:Int); omega) | assumption | (simp only [List.length_append, List.length_cons, List.length_nil]; omega) | (simp only [beq_iff_eq, decide_eq_false_iff_not, decide_eq_true_eq]; omega) | (simp only [beq_iff_eq, decide_eq_false_iff_not, decide_eq_true_eq]; first | exact hG | assumption)))) ?_
    refine q_seqn ?_
    refine ev_block ?_
    refine ev_loop ⟨[0, 3, 4], [(0, 16)]⟩ (fun s => ∃ (i : Int) (o : List (Ty.den (.pair (.int .i64) (.pair .str .unit)))) (n : Nat), 0 ≤ i ∧ i ≤ (List.length l : Int) ∧ o = l.take i.toNat ∧ (o.length : Int) = i ∧ n = o.length ∧ s = ⟨[(0, (.val (.list (.pair (.int .i64) (.pair .str .unit))) l, none)), (3, (.val (.list (.pair (.int .i64) (.pair .str .unit))) o, some 0)), (4, (.val (.int .i64) i, none))], [(0, .grow 58 2 n)], 1, 19, 0⟩) (fun s => l.length - (intAt s 4).toNat) ?_ ?_
    · exact ⟨0, [], 0, by omega, by omega, rfl, rfl, rfl, by rfl⟩
    · rintro s ⟨i, o, n, h1, h2, h3, h4, h5, rfl⟩
      refine ev_seq ?_
      refine ev_seq ?_
      refine ev_region (by simp only [go_sem, Nat.reduceEqDiff, reduceIte, reduceDIte, reduceCtorEq, Nat.reduceAdd, Nat.reduceLT, Nat.reduceLeDiff, decide_true, decide_false, Bool.and_self, Bool.or_self, Bool.or_false, Bool.false_or, Bool.and_true, Bool.true_and, Bool.not_true, Bool.not_false]; rfl) (by first | exact trivial | (simp only [go_sem, Nat.reduceEqDiff, reduceIte, reduceCtorEq, Nat.reduceAdd, Bool.and_self]; first | omega | (repeat' (first | apply And.intro | intro hG)) <;> (try simp only [beq_iff_eq, decide_eq_true_eq, decide_eq_false_iff_not, Bool.false_eq_true, Bool.true_eq_false] at hG) <;> (first | omega | (show (0:Int) ≤ (_:Int); omega) | (show (_:Int) < (_:Int); omega) | assumption | (simp only [List.length_append, List.length_cons, List.length_nil]; omega) | (simp only [beq_iff_eq, decide_eq_false_iff_not, decide_eq_true_eq]; omega) | (simp only [beq_iff_eq, decide_eq_false_iff_not, decide_eq_true_eq]; first | exact hG | assumption)))) ?_
      refine q_seqn ?_
      refine ev_cond (by simp only [go_sem, Nat.reduceEqDiff, reduceIte, reduceDIte, reduceCtorEq, Nat.reduceAdd, Nat.reduceLT, Nat.reduceLeDiff, decide_true, decide_false, Bool.and_self, Bool.or_self, Bool.or_false, Bool.false_or, Bool.and_true, Bool.true_and, Bool.not_true, Bool.not_false]; rfl) (fun hc1 => ?_) (fun hc1 => ?_)
      · try simp only [go_sem, decide_eq_true_eq, decide_eq_false_iff_not, Bool.not_eq_true', Bool.not_eq_false', Bool.or_eq_true, Bool.or_eq_false_iff, Bool.and_eq_true] at hc1
        refine ev_skip ?_
        refine q_seqn ?_
        refine ev_seq ?_
        refine ev_block ?_
        refine ev_region (by simp only [go_sem, Nat.reduceEqDiff, reduceIte, reduceDIte, reduceCtorEq, Nat.reduceAdd, Nat.reduceLT, Nat.reduceLeDiff, decide_true, decide_false, Bool.and_self, Bool.or_self, Bool.or_false, Bool.false_or, Bool.and_true, Bool.true_and, Bool.not_true, Bool.not_false]; rfl) (by first | exact trivial | (simp only [go_sem, Nat.reduceEqDiff, reduceIte, reduceCtorEq, Nat.reduceAdd, Bool.and_self]; first | omega | (repeat' (first | apply And.intro | intro hG)) <;> (try simp only [beq_iff_eq, decide_eq_true_eq, decide_eq_false_iff_not, Bool.false_eq_true, Bool.true_eq_false] at hG) <;> (first | omega | (show (0:Int) ≤ (_:Int); omega) | (show (_:Int) < (_:Int); omega) | assumption | (simp only [List.length_append, List.length_cons, List.length_nil]; omega) | (simp only [beq_iff_eq, decide_eq_false_iff_not, decide_eq_true_eq]; omega) | (simp only [beq_iff_eq, decide_eq_false_iff_not, decide_eq_true_eq]; first | exact hG | assumption)))) ?_
        refine q_blkn ?_
        refine q_seqn ?_
        refine ev_region (by simp only [go_sem, Nat.reduceEqDiff, reduceIte, reduceDIte, reduceCtorEq, Nat.reduceAdd, Nat.reduceLT, Nat.reduceLeDiff, decide_true, decide_false, Bool.and_self, Bool.or_self, Bool.or_false, Bool.false_or, Bool.and_true, Bool.true_and, Bool.not_true, Bool.not_false]; rfl) (by first | exact trivial | (simp only [go_sem, Nat.reduceEqDiff, reduceIte, reduceCtorEq, Nat.reduceAdd, Bool.and_self]; first | omega | (repeat' (first | apply And.intro | intro hG)) <;> (try simp only [beq_iff_eq, decide_eq_true_eq, decide_eq_false_iff_not, Bool.false_eq_true, Bool.true_eq_false] at hG) <;> (first | omega | (show (0:Int) ≤ (_:Int); omega) | (show (_:Int) < (_:Int); omega) | assumption | (simp only [List.length_append, List.length_cons, List.length_nil]; omega) | (simp only [beq_iff_eq, decide_eq_false_iff_not, decide_eq_true_eq]; omega) | (simp only [beq_iff_eq, decide_eq_false_iff_not, decide_eq_true_eq]; first | exact hG | assumption)))) ?_
        refine q_loopn ⟨[0, 3, 4], [(0, 0)]⟩ ?_ ?_
        · exact ⟨i + 1, o ++ [nth (.pair (.int .i64) (.pair .str .unit)) l i], o.length + 1, by omega, by omega, by rw [nth_take (t := (.pair (.int .i64) (.pair .str .unit))) h1 hc1, ← h3], by simp only [List.length_append, List.length_cons, List.length_nil]; omega, by simp only [List.length_append, List.length_cons, List.length_nil], by rfl⟩
        · show (List.length l - (i + 1).toNat : Nat) < List.length l - i.toNat
          omega
      · try simp only [go_sem, decide_eq_true_eq, decide_eq_false_iff_not, Bool.not_eq_true', Bool.not_eq_false', Bool.or_eq_true, Bool.or_eq_false_iff, Bool.and_eq_true] at hc1
        refine ev_exit ?_
        refine q_seqx ?_
        refine q_loopx ?_
        refine q_blkx ?_
        refine q_seqn ?_
        refine ev_seq ?_
        refine ev_region (by simp only [go_sem, Nat.reduceEqDiff, reduceIte, reduceDIte, reduceCtorEq, Nat.reduceAdd, Nat.reduceLT, Nat.reduceLeDiff, decide_true, decide_false, Bool.and_self, Bool.or_self, Bool.or_false, Bool.false_or, Bool.and_true, Bool.true_and, Bool.not_true, Bool.not_false]; rfl) (by first | exact trivial | (simp only [go_sem, Nat.reduceEqDiff, reduceIte, reduceCtorEq, Nat.reduceAdd, Bool.and_self]; first | omega | (repeat' (first | apply And.intro | intro hG)) <;> (try simp only [beq_iff_eq, decide_eq_true_eq, decide_eq_false_iff_not, Bool.false_eq_true, Bool.true_eq_false] at hG) <;> (first | omega | (show (0:Int) ≤ (_:Int); omega) | (show (_:Int) < (_:Int); omega) | assumption | (simp only [List.length_append, List.length_cons, List.length_nil]; omega) | (simp only [beq_iff_eq, decide_eq_false_iff_not, decide_eq_true_eq]; omega) | (simp only [beq_iff_eq, decide_eq_false_iff_not, decide_eq_true_eq]; first | exact hG | assumption)))) ?_
        refine q_seqn ?_
        refine ev_ret ?_
        refine ⟨⟨[2], []⟩, by simp only [go_sem, reduceIte, Nat.reduceEqDiff], ?_⟩
        simp only [go_sem, Nat.reduceEqDiff, reduceIte, reduceCtorEq]
        rw [h3, take_end hc1]; try rfl
  · cases hC


set_option maxRecDepth 100000 in
set_option maxHeartbeats 4000000 in
theorem con30 : ConOk Try.prog 30 C30 := by
  refine con_ok TT_ok G0_ok mixed Try.func30 (c := _) rfl (N := 11) (by kernel_rfl) (ts := [2]) (fun _ _ => rfl) (res1 rfl) ?_
  intro args L r hC hs
  unfold C30 at hC
  split at hC
  · rename_i e
    cases hC
    refine ⟨by simp only [List.length_cons, List.length_nil]; omega, by simp only [go_sem, reduceIte, Nat.reduceEqDiff, Bool.and_self, and_self], trivial, ?_⟩
    simp only [enumE, enumH, lenB, Nat.reduceAdd]
    refine ev_seq ?_
    refine ev_region (by simp only [go_sem, Nat.reduceEqDiff, reduceIte, reduceDIte, reduceCtorEq, Nat.reduceAdd, Nat.reduceLT, Nat.reduceLeDiff, decide_true, decide_false, Bool.and_self, Bool.or_self, Bool.or_false, Bool.false_or, Bool.and_true, Bool.true_and, Bool.not_true, Bool.not_false]; rfl) (by first | exact trivial | (simp only [go_sem, Nat.reduceEqDiff, reduceIte, reduceCtorEq, Nat.reduceAdd, Bool.and_self]; first | omega | (repeat' (first | apply And.intro | intro hG)) <;> (try simp only [beq_iff_eq, decide_eq_true_eq, decide_eq_false_iff_not, Bool.false_eq_true, Bool.true_eq_false] at hG) <;> (first | omega | (show (0:Int) ≤ (_:Int); omega) | (show (_:Int) < (_:Int); omega) | assumption | (simp only [List.length_append, List.length_cons, List.length_nil]; omega) | (simp only [beq_iff_eq, decide_eq_false_iff_not, decide_eq_true_eq]; omega) | (simp only [beq_iff_eq, decide_eq_false_iff_not, decide_eq_true_eq]; first | exact hG | assumption)))) ?_
    refine q_seqn ?_
    refine ev_seq ?_
    refine ev_region (by simp only [go_sem, Nat.reduceEqDiff, reduceIte, reduceDIte, reduceCtorEq, Nat.reduceAdd, Nat.reduceLT, Nat.reduceLeDiff, decide_true, decide_false, Bool.and_self, Bool.or_self, Bool.or_false, Bool.false_or, Bool.and_true, Bool.true_and, Bool.not_true, Bool.not_false]; rfl) (by first | exact trivial | (simp only [go_sem, Nat.reduceEqDiff, reduceIte, reduceCtorEq, Nat.reduceAdd, Bool.and_self]; first | omega | (repeat' (first | apply And.intro | intro hG)) <;> (try simp only [beq_iff_eq, decide_eq_true_eq, decide_eq_false_iff_not, Bool.false_eq_true, Bool.true_eq_false] at hG) <;> (first | omega | (show (0:Int) ≤ (_:Int); omega) | (show (_:Int) < (_:Int); omega) | assumption | (simp only [List.length_append, List.length_cons, List.length_nil]; omega) | (simp only [beq_iff_eq, decide_eq_false_iff_not, decide_eq_true_eq]; omega) | (simp only [beq_iff_eq, decide_eq_false_iff_not, decide_eq_true_eq]; first | exact hG | assumption)))) ?_
    refine q_seqn ?_
    refine ev_ret ?_
    refine ⟨⟨[2], []⟩, by simp only [go_sem, reduceIte, Nat.reduceEqDiff], ?_⟩
    simp only [go_sem, Nat.reduceEqDiff, reduceIte, reduceCtorEq]
    unfold badE
    cases decide (e.1 < 1) <;> rfl
  · cases hC

end Go.Proofs.Ytfcibaiiobihnaa
