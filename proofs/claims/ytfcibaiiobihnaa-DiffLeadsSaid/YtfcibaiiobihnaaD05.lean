/- PLAIN FORMS of the program's functions, and that the code computes them. -/
import Derived.Test.YtfcibaiiobihnaaDty
import Derived.Test.YtfcibaiiobihnaaD00
import Derived.Test.YtfcibaiiobihnaaD01
import Derived.Test.YtfcibaiiobihnaaD02
import Derived.Test.YtfcibaiiobihnaaVk
import Derived.Test.YtfcibaiiobihnaaD03
import Derived.Test.YtfcibaiiobihnaaD04
import Derived.KernelRfl
namespace Go.Proofs.Ytfcibaiiobihnaa
open Vc
set_option linter.unusedSimpArgs false
set_option linter.unusedVariables false


attribute [local irreducible] diff_ScriptF1 r05_Few r05_Same l05_short l05_own diff_Apply diff_Reverse loopM pairsD diff_Script
set_option maxRecDepth 100000 in
set_option maxHeartbeats 4000000 in
theorem l05_DiffLeads_con : ConOk Try.prog 9 l05_DiffLeadsC := by
  refine con_okR E_l05_DiffLeads.T Try.func9 (c := _) rfl (N := 92) (by kernel_rfl) (ts := [(6, none)]) (fun _ _ => rfl) rfl ?_
  intro args L r hC hs
  unfold l05_DiffLeadsC at hC
  split at hC
  · rename_i toArray_v1 p1_v2 p2_v3; cases hC
    obtain ⟨z0, hC0⟩ := Option.isSome_iff_exists.1 (show ((l05_DiffLeads toArray_v1 p1_v2 p2_v3)).isSome = true from hs _ (by simp))
    try rw [val_eq hC0]
    clear hs
    unfold l05_DiffLeads at hC0
    refine ⟨by simp only [List.length_cons, List.length_nil]; omega, by repeat (first | exact trivial | refine And.intro rfl ?_), by repeat (first | exact trivial | refine And.intro rfl ?_), ?_⟩
    simp only [enumE, enumH, lenB, Nat.reduceAdd]
    refine e_seq ?_
    refine e_region E_l05_DiffLeads (by simp only [go_sem, List.toList_toArray, Nat.reduceEqDiff, reduceIte, reduceDIte, reduceCtorEq, Nat.reduceAdd, Nat.reduceLT, Nat.reduceLeDiff, decide_true, decide_false, Bool.and_self, Bool.or_self, Bool.or_false, Bool.false_or, Bool.and_true, Bool.true_and, Bool.not_true, Bool.not_false]; rfl) (by exact trivial) ?_
    refine q_seqn ?_
    refine e_seq ?_
    refine e_seq ?_
    refine e_region E_l05_DiffLeads (by simp only [go_sem, List.toList_toArray, Nat.reduceEqDiff, reduceIte, reduceDIte, reduceCtorEq, Nat.reduceAdd, Nat.reduceLT, Nat.reduceLeDiff, decide_true, decide_false, Bool.and_self, Bool.or_self, Bool.or_false, Bool.false_or, Bool.and_true, Bool.true_and, Bool.not_true, Bool.not_false]; rfl) (by exact trivial) ?_
    refine q_seqn ?_
    refine e_cond (by simp only [go_sem, List.toList_toArray, Nat.reduceEqDiff, reduceIte, reduceDIte, reduceCtorEq, Nat.reduceAdd, Nat.reduceLT, Nat.reduceLeDiff, decide_true, decide_false, Bool.and_self, Bool.or_self, Bool.or_false, Bool.false_or, Bool.and_true, Bool.true_and, Bool.not_true, Bool.not_false]; rfl) (fun hc1 => ?_) (fun hc1 => ?_)
    · replace hC0 := ite_t hC0 hc1
      refine e_seq ?_
      refine e_region E_l05_DiffLeads (by simp only [go_sem, List.toList_toArray, Nat.reduceEqDiff, reduceIte, reduceDIte, reduceCtorEq, Nat.reduceAdd, Nat.reduceLT, Nat.reduceLeDiff, decide_true, decide_false, Bool.and_self, Bool.or_self, Bool.or_false, Bool.false_or, Bool.and_true, Bool.true_and, Bool.not_true, Bool.not_false]; rfl) (by exact trivial) ?_
      refine q_seqn ?_
      refine e_ret ?_
      refine q_seqr ?_
      cases hC0
      exact ⟨[], by rfl, by rfl, by rfl⟩
    · replace hC0 := ite_f hC0 hc1
      refine e_skip ?_
      refine q_seqn ?_
      refine e_seq ?_
      refine e_seq ?_
      obtain ⟨r_v14, hv1, hC0⟩ := bind_some hC0
      obtain rfl := val_eq hv1
      obtain ⟨hg2, hC0⟩ := ite_some hC0
      obtain ⟨hg3, hC0⟩ := ite_some hC0
      refine e_region E_l05_DiffLeads (by simp only [go_sem, List.toList_toArray, Nat.reduceEqDiff, reduceIte, reduceDIte, reduceCtorEq, Nat.reduceAdd, Nat.reduceLT, Nat.reduceLeDiff, decide_true, decide_false, Bool.and_self, Bool.or_self, Bool.or_false, Bool.false_or, Bool.and_true, Bool.true_and, Bool.not_true, Bool.not_false]; rfl) (by exact And.intro (isSome_eq hv1) (And.intro (fun hh => hh) (And.intro hg2 (And.intro (fun hh => hh) (And.intro (fun hh => beq_selfF hh) (And.intro (fun hh => hh) (And.intro hg3 (And.intro (fun hh => hh) ((fun hh => beq_selfF hh)))))))))) ?_
      refine q_seqn ?_
      refine e_cond (by simp only [go_sem, List.toList_toArray, Nat.reduceEqDiff, reduceIte, reduceDIte, reduceCtorEq, Nat.reduceAdd, Nat.reduceLT, Nat.reduceLeDiff, decide_true, decide_false, Bool.and_self, Bool.or_self, Bool.or_false, Bool.false_or, Bool.and_true, Bool.true_and, Bool.not_true, Bool.not_false]; rfl) (fun hc2 => ?_) (fun hc2 => ?_)
      · replace hC0 := ite_t hC0 hc2
        refine e_seq ?_
        refine e_region E_l05_DiffLeads (by simp only [go_sem, List.toList_toArray, Nat.reduceEqDiff, reduceIte, reduceDIte, reduceCtorEq, Nat.reduceAdd, Nat.reduceLT, Nat.reduceLeDiff, decide_true, decide_false, Bool.and_self, Bool.or_self, Bool.or_false, Bool.false_or, Bool.and_true, Bool.true_and, Bool.not_true, Bool.not_false]; rfl) (by exact trivial) ?_
        refine q_seqn ?_
        refine e_ret ?_
        refine q_seqr ?_
        cases hC0
        exact ⟨[], by rfl, by rfl, by rfl⟩
      · replace hC0 := ite_f hC0 hc2
        refine e_skip ?_
        refine q_seqn ?_
        refine e_seq ?_
        obtain ⟨r_v15, hv4, hC0⟩ := bind_some hC0
        obtain rfl := val_eq hv4
        refine e_region E_l05_DiffLeads (by simp only [go_sem, List.toList_toArray, Nat.reduceEqDiff, reduceIte, reduceDIte, reduceCtorEq, Nat.reduceAdd, Nat.reduceLT, Nat.reduceLeDiff, decide_true, decide_false, Bool.and_self, Bool.or_self, Bool.or_false, Bool.false_or, Bool.and_true, Bool.true_and, Bool.not_true, Bool.not_false]; rfl) (by exact (isSome_eq hv4)) ?_
        refine q_seqn ?_
        refine e_seq ?_
        obtain ⟨r_v16, hv5, hC0⟩ := bind_some hC0
        obtain rfl := val_eq hv5
        refine e_region E_l05_DiffLeads (by simp only [go_sem, List.toList_toArray, Nat.reduceEqDiff, reduceIte, reduceDIte, reduceCtorEq, Nat.reduceAdd, Nat.reduceLT, Nat.reduceLeDiff, decide_true, decide_false, Bool.and_self, Bool.or_self, Bool.or_false, Bool.false_or, Bool.and_true, Bool.true_and, Bool.not_true, Bool.not_false]; rfl) (by exact (isSome_eq hv5)) ?_
        refine q_seqn ?_
        refine e_seq ?_
        obtain ⟨r_v17, hv6, hC0⟩ := bind_some hC0
        obtain rfl := val_eq hv6
        obtain ⟨r_v18, hv7, hC0⟩ := bind_some hC0
        obtain rfl := val_eq hv7
        refine e_region E_l05_DiffLeads (by simp only [go_sem, List.toList_toArray, Nat.reduceEqDiff, reduceIte, reduceDIte, reduceCtorEq, Nat.reduceAdd, Nat.reduceLT, Nat.reduceLeDiff, decide_true, decide_false, Bool.and_self, Bool.or_self, Bool.or_false, Bool.false_or, Bool.and_true, Bool.true_and, Bool.not_true, Bool.not_false]; rfl) (by exact And.intro (isSome_eq hv6) ((isSome_eq hv7))) ?_
        refine q_seqn ?_
        refine e_seq ?_
        refine e_seq ?_
        obtain ⟨hg8, hC0⟩ := ite_some hC0
        obtain ⟨hg9, hC0⟩ := ite_some hC0
        refine e_region E_l05_DiffLeads (by simp only [go_sem, List.toList_toArray, Nat.reduceEqDiff, reduceIte, reduceDIte, reduceCtorEq, Nat.reduceAdd, Nat.reduceLT, Nat.reduceLeDiff, decide_true, decide_false, Bool.and_self, Bool.or_self, Bool.or_false, Bool.false_or, Bool.and_true, Bool.true_and, Bool.not_true, Bool.not_false]; rfl) (by exact And.intro (fun hh => hh) (And.intro (fun hh => beq_selfF hh) (And.intro (fun hh => hh) (And.intro (fun hh => hh) (And.intro hg8 (And.intro (fun hh => hh) (And.intro (fun hh => beq_selfF hh) (And.intro (fun hh => hh) (And.intro (fun hh => hh) (And.intro hg9 (And.intro (fun hh => hh) ((fun hh => beq_selfF hh))))))))))))) ?_
        refine q_seqn ?_
        refine e_cond (by simp only [go_sem, List.toList_toArray, Nat.reduceEqDiff, reduceIte, reduceDIte, reduceCtorEq, Nat.reduceAdd, Nat.reduceLT, Nat.reduceLeDiff, decide_true, decide_false, Bool.and_self, Bool.or_self, Bool.or_false, Bool.false_or, Bool.and_true, Bool.true_and, Bool.not_true, Bool.not_false]; rfl) (fun hc3 => ?_) (fun hc3 => ?_)
        · replace hC0 := ite_t hC0 hc3
          refine e_seq ?_
          refine e_region E_l05_DiffLeads (by simp only [go_sem, List.toList_toArray, Nat.reduceEqDiff, reduceIte, reduceDIte, reduceCtorEq, Nat.reduceAdd, Nat.reduceLT, Nat.reduceLeDiff, decide_true, decide_false, Bool.and_self, Bool.or_self, Bool.or_false, Bool.false_or, Bool.and_true, Bool.true_and, Bool.not_true, Bool.not_false]; rfl) (by exact trivial) ?_
          refine q_seqn ?_
          refine e_ret ?_
          refine q_seqr ?_
          cases hC0
          exact ⟨[], by rfl, by rfl, by rfl⟩
        · replace hC0 := ite_f hC0 hc3
          refine e_skip ?_
          refine q_seqn ?_
          refine e_seq ?_
          obtain ⟨r_v19, hv10, hC0⟩ := bind_some hC0
          obtain rfl := val_eq hv10
          obtain ⟨r_v20, hv11, hC0⟩ := bind_some hC0
          obtain rfl := val_eq hv11
          refine e_region E_l05_DiffLeads (by simp only [go_sem, List.toList_toArray, Nat.reduceEqDiff, reduceIte, reduceDIte, reduceCtorEq, Nat.reduceAdd, Nat.reduceLT, Nat.reduceLeDiff, decide_true, decide_false, Bool.and_self, Bool.or_self, Bool.or_false, Bool.false_or, Bool.and_true, Bool.true_and, Bool.not_true, Bool.not_false]; rfl) (by exact And.intro (isSome_eq hv10) ((isSome_eq hv11))) ?_
          refine q_seqn ?_
          refine e_seq ?_
          refine e_seq ?_
          refine e_region E_l05_DiffLeads (by simp only [go_sem, List.toList_toArray, Nat.reduceEqDiff, reduceIte, reduceDIte, reduceCtorEq, Nat.reduceAdd, Nat.reduceLT, Nat.reduceLeDiff, decide_true, decide_false, Bool.and_self, Bool.or_self, Bool.or_false, Bool.false_or, Bool.and_true, Bool.true_and, Bool.not_true, Bool.not_false]; rfl) (by exact trivial) ?_
          refine q_seqn ?_
          refine e_cond (by simp only [go_sem, List.toList_toArray, Nat.reduceEqDiff, reduceIte, reduceDIte, reduceCtorEq, Nat.reduceAdd, Nat.reduceLT, Nat.reduceLeDiff, decide_true, decide_false, Bool.and_self, Bool.or_self, Bool.or_false, Bool.false_or, Bool.and_true, Bool.true_and, Bool.not_true, Bool.not_false]; rfl) (fun hc4 => ?_) (fun hc4 => ?_)
          · replace hC0 := ite_t hC0 hc4
            refine e_seq ?_
            refine e_region E_l05_DiffLeads (by simp only [go_sem, List.toList_toArray, Nat.reduceEqDiff, reduceIte, reduceDIte, reduceCtorEq, Nat.reduceAdd, Nat.reduceLT, Nat.reduceLeDiff, decide_true, decide_false, Bool.and_self, Bool.or_self, Bool.or_false, Bool.false_or, Bool.and_true, Bool.true_and, Bool.not_true, Bool.not_false]; rfl) (by exact trivial) ?_
            refine q_seqn ?_
            refine e_ret ?_
            refine q_seqr ?_
            cases hC0
            exact ⟨[], by rfl, by rfl, by rfl⟩
          · replace hC0 := ite_f hC0 hc4
            refine e_skip ?_
            refine q_seqn ?_
            refine e_seq ?_
            obtain ⟨r_v21, hv12, hC0⟩ := bind_some hC0
            obtain rfl := val_eq hv12
            obtain ⟨r_v22, hv13, hC0⟩ := bind_some hC0
            obtain rfl := val_eq hv13
            obtain ⟨r_v23, hv14, hC0⟩ := bind_some hC0
            obtain rfl := val_eq hv14
            refine e_region E_l05_DiffLeads (by simp only [go_sem, List.toList_toArray, Nat.reduceEqDiff, reduceIte, reduceDIte, reduceCtorEq, Nat.reduceAdd, Nat.reduceLT, Nat.reduceLeDiff, decide_true, decide_false, Bool.and_self, Bool.or_self, Bool.or_false, Bool.false_or, Bool.and_true, Bool.true_and, Bool.not_true, Bool.not_false]; rfl) (by exact And.intro (isSome_eq hv12) (And.intro (isSome_eq hv13) ((isSome_eq hv14)))) ?_
            refine q_seqn ?_
            refine e_seq ?_
            obtain ⟨hg15, hC0⟩ := ite_some hC0
            refine e_region E_l05_DiffLeads (by simp only [go_sem, List.toList_toArray, Nat.reduceEqDiff, reduceIte, reduceDIte, reduceCtorEq, Nat.reduceAdd, Nat.reduceLT, Nat.reduceLeDiff, decide_true, decide_false, Bool.and_self, Bool.or_self, Bool.or_false, Bool.false_or, Bool.and_true, Bool.true_and, Bool.not_true, Bool.not_false]; rfl) (by exact And.intro (fun hh => hh) (And.intro (fun hh => hh) (And.intro hg15 ((fun hh => beq_selfT hh))))) ?_
            refine q_seqn ?_
            refine e_ret ?_
            cases hC0
            exact ⟨[], by rfl, by rfl, by rfl⟩
  · cases hC

end Go.Proofs.Ytfcibaiiobihnaa
