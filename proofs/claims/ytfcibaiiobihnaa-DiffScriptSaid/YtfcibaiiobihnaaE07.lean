/- PLAIN FORMS of the program's functions, and that the code computes them. -/
import Derived.Test.YtfcibaiiobihnaaEty
import Derived.Test.YtfcibaiiobihnaaE00
import Derived.Test.YtfcibaiiobihnaaE01
import Derived.Test.YtfcibaiiobihnaaE02
import Derived.Test.YtfcibaiiobihnaaE04
import Derived.Test.YtfcibaiiobihnaaE06
import Derived.Test.YtfcibaiiobihnaaVt
import Derived.KernelRfl
namespace Go.Proofs.Ytfcibaiiobihnaa
open Vc
set_option linter.unusedSimpArgs false
set_option linter.unusedVariables false


noncomputable def l05_DiffLeads (toArray_v1 : (List (List UInt8))) (p1_v2 : (List (List UInt8))) (p2_v3 : (List (Int × ((List UInt8) × Unit)))) : Option Bool :=
  if (!true) = true then
    some (false)
  else
    (r05_Few toArray_v1).bind fun r_v14 =>
    if (((!r_v14) == false) = true → ((r05_Few p1_v2)).isSome = true) then
      if ((((!r_v14) || (!(val (r05_Few p1_v2)))) == false) = true → ((l05_short p2_v3)).isSome = true) then
        if (((!r_v14) || (!(val (r05_Few p1_v2)))) || (!(val (l05_short p2_v3)))) = true then
          some (true)
        else
          (diff_Script toArray_v1 p1_v2).bind fun r_v15 =>
          (diff_Apply toArray_v1 r_v15).bind fun r_v16 =>
          (diff_Reverse r_v15).bind fun r_v17 =>
          (diff_Apply p1_v2 r_v17).bind fun r_v18 =>
          if ((((!decide (r_v16.2 = (0 : Int))) || (!decide (r_v18.2 = (0 : Int)))) == false) = true → ((r05_Same r_v16.1 p1_v2)).isSome = true) then
            if (((((!decide (r_v16.2 = (0 : Int))) || (!decide (r_v18.2 = (0 : Int)))) || (!(val (r05_Same r_v16.1 p1_v2)))) == false) = true → ((r05_Same r_v18.1 toArray_v1)).isSome = true) then
              if ((((!decide (r_v16.2 = (0 : Int))) || (!decide (r_v18.2 = (0 : Int)))) || (!(val (r05_Same r_v16.1 p1_v2)))) || (!(val (r05_Same r_v18.1 toArray_v1)))) = true then
                some (false)
              else
                (l05_own p2_v3).bind fun r_v19 =>
                (diff_Apply toArray_v1 r_v19).bind fun r_v20 =>
                if (!decide (r_v20.2 = (0 : Int))) = true then
                  some ((decide ((List.length r_v20.1 : Int) = (0 : Int))))
                else
                  (l05_own p2_v3).bind fun r_v21 =>
                  (diff_Reverse r_v21).bind fun r_v22 =>
                  (diff_Apply r_v20.1 r_v22).bind fun r_v23 =>
                  if (((decide (r_v23.2 = (0 : Int))) == true) = true → ((r05_Same r_v23.1 toArray_v1)).isSome = true) then
                    some (((decide (r_v23.2 = (0 : Int))) && (val (r05_Same r_v23.1 toArray_v1))))
                  else none
            else none
          else none
      else none
    else none

@[go_sem] noncomputable def l05_DiffLeadsC : List Slot → List Blk → Option Ret
  | [(.val (.list .str) toArray_v1, none), (.val (.list .str) p1_v2, none), (.val (.list (.pair (.int .i64) (.pair .str .unit))) p2_v3, none)], [] => some ⟨[((l05_DiffLeads toArray_v1 p1_v2 p2_v3)).isSome = true], [(.val .bool (val (l05_DiffLeads toArray_v1 p1_v2 p2_v3)), none)], []⟩
  | _, _ => none

@[go_sem] noncomputable def G_l05_DiffLeads : Ctx := fun f => if f = 10 then some ⟨[], C10⟩ else if f = 11 then some ⟨[.v], r05_FewC⟩ else if f = 17 then some ⟨[.v], l05_shortC⟩ else if f = 22 then some ⟨[.v, .v], diff_ScriptC⟩ else if f = 18 then some ⟨[.v, .v], diff_ApplyC⟩ else if f = 24 then some ⟨[.v], diff_ReverseC⟩ else if f = 16 then some ⟨[.v, .v], r05_SameC⟩ else if f = 19 then some ⟨[.v], l05_ownC⟩ else none
@[go_sem] def T_l05_DiffLeads : Types := [(22, ⟨(.list .str), 9, 16, false⟩)]
theorem K_l05_DiffLeads : CtxOk Try.prog G_l05_DiffLeads := by
  intro f s h
  unfold G_l05_DiffLeads at h
  split at h
  · rename_i e; subst e; cases h; exact con10
  split at h
  · rename_i e; subst e; cases h; exact r05_Few_con
  split at h
  · rename_i e; subst e; cases h; exact l05_short_con
  split at h
  · rename_i e; subst e; cases h; exact diff_Script_con
  split at h
  · rename_i e; subst e; cases h; exact diff_Apply_con
  split at h
  · rename_i e; subst e; cases h; exact diff_Reverse_con
  split at h
  · rename_i e; subst e; cases h; exact r05_Same_con
  split at h
  · rename_i e; subst e; cases h; exact l05_own_con
  · cases h
theorem E_l05_DiffLeads : Env Try.prog T_l05_DiffLeads G_l05_DiffLeads := ⟨⟨ty_Lstring, trivial⟩, K_l05_DiffLeads, by kernel_rfl⟩

set_option maxRecDepth 100000 in
set_option maxHeartbeats 4000000 in
theorem l05_DiffLeads_con : ConOk Try.prog 9 l05_DiffLeadsC := by
  refine con_okR E_l05_DiffLeads.T Try.func9 (c := _) rfl (N := 92) (by kernel_rfl) (ts := [(6, none)]) (fun _ _ => rfl) rfl ?_
  intro args L r hC hs
  unfold l05_DiffLeadsC at hC
  split at hC
  · rename_i toArray_v1 p1_v2 p2_v3; cases hC
    obtain ⟨z0, hC0⟩ := Option.isSome_iff_exists.1 (show ((l05_DiffLeads toArray_v1 p1_v2 p2_v3)).isSome = true from hs _ (by simp))
    try rw [val_eq hC0]
    clear hs
    unfold l05_DiffLeads at hC0
    refine ⟨by simp only [List.length_cons, List.length_nil]; omega, by repeat (first | exact trivial | refine And.intro rfl ?_), by repeat (first | exact trivial | refine And.intro rfl ?_), ?_⟩
    simp only [enumE, enumH, lenB, Nat.reduceAdd]
    refine e_seq ?_
    refine e_region E_l05_DiffLeads (by simp only [go_sem, List.toList_toArray, Nat.reduceEqDiff, reduceIte, reduceDIte, reduceCtorEq, Nat.reduceAdd, Nat.reduceLT, Nat.reduceLeDiff, decide_true, decide_false, Bool.and_self, Bool.or_self, Bool.or_false, Bool.false_or, Bool.and_true, Bool.true_and, Bool.not_true, Bool.not_false]; rfl) (by exact trivial) ?_
    refine q_seqn ?_
    refine e_seq ?_
    refine e_seq ?_
    refine e_region E_l05_DiffLeads (by simp only [go_sem, List.toList_toArray, Nat.reduceEqDiff, reduceIte, reduceDIte, reduceCtorEq, Nat.reduceAdd, Nat.reduceLT, Nat.reduceLeDiff, decide_true, decide_false, Bool.and_self, Bool.or_self, Bool.or_false, Bool.false_or, Bool.and_true, Bool.true_and, Bool.not_true, Bool.not_false]; rfl) (by exact trivial) ?_
    refine q_seqn ?_
    refine e_cond (by simp only [go_sem, List.toList_toArray, Nat.reduceEqDiff, reduceIte, reduceDIte, reduceCtorEq, Nat.reduceAdd, Nat.reduceLT, Nat.reduceLeDiff, decide_true, decide_false, Bool.and_self, Bool.or_self, Bool.or_false, Bool.false_or, Bool.and_true, Bool.true_and, Bool.not_true, Bool.not_false]; rfl) (fun hc1 => ?_) (fun hc1 => ?_)
    · replace hC0 := ite_t hC0 hc1
      refine e_seq ?_
      refine e_region E_l05_DiffLeads (by simp only [go_sem, List.toList_toArray, Nat.reduceEqDiff, reduceIte, reduceDIte, reduceCtorEq, Nat.reduceAdd, Nat.reduceLT, Nat.reduceLeDiff, decide_true, decide_false, Bool.and_self, Bool.or_self, Bool.or_false, Bool.false_or, Bool.and_true, Bool.true_and, Bool.not_true, Bool.not_false]; rfl) (by exact trivial) ?_
      refine q_seqn ?_
      refine e_ret ?_
      refine q_seqr ?_
      cases hC0
      exact ⟨[], by rfl, by rfl, by rfl⟩
    · replace hC0 := ite_f hC0 hc1
      refine e_skip ?_
      refine q_seqn ?_
      refine e_seq ?_
      refine e_seq ?_
      obtain ⟨r_v14, hv1, hC0⟩ := bind_some hC0
      obtain rfl := val_eq hv1
      obtain ⟨hg2, hC0⟩ := ite_some hC0
      obtain ⟨hg3, hC0⟩ := ite_some hC0
      refine e_region E_l05_DiffLeads (by simp only [go_sem, List.toList_toArray, Nat.reduceEqDiff, reduceIte, reduceDIte, reduceCtorEq, Nat.reduceAdd, Nat.reduceLT, Nat.reduceLeDiff, decide_true, decide_false, Bool.and_self, Bool.or_self, Bool.or_false, Bool.false_or, Bool.and_true, Bool.true_and, Bool.not_true, Bool.not_false]; rfl) (by exact And.intro (isSome_eq hv1) (And.intro (fun hh => hh) (And.intro hg2 (And.intro (fun hh => hh) (And.intro (fun hh => beq_selfF hh) (And.intro (fun hh => hh) (And.intro hg3 (And.intro (fun hh => hh) ((fun hh => beq_selfF hh)))))))))) ?_
      generalize val (r05_Few toArray_v1) = r_v14 at hC0 ⊢
      refine q_seqn ?_
      refine e_cond (by simp only [go_sem, List.toList_toArray, Nat.reduceEqDiff, reduceIte, reduceDIte, reduceCtorEq, Nat.reduceAdd, Nat.reduceLT, Nat.reduceLeDiff, decide_true, decide_false, Bool.and_self, Bool.or_self, Bool.or_false, Bool.false_or, Bool.and_true, Bool.true_and, Bool.not_true, Bool.not_false]; rfl) (fun hc2 => ?_) (fun hc2 => ?_)
      · replace hC0 := ite_t hC0 hc2
        refine e_seq ?_
        refine e_region E_l05_DiffLeads (by simp only [go_sem, List.toList_toArray, Nat.reduceEqDiff, reduceIte, reduceDIte, reduceCtorEq, Nat.reduceAdd, Nat.reduceLT, Nat.reduceLeDiff, decide_true, decide_false, Bool.and_self, Bool.or_self, Bool.or_false, Bool.false_or, Bool.and_true, Bool.true_and, Bool.not_true, Bool.not_false]; rfl) (by exact trivial) ?_
        refine q_seqn ?_
        refine e_ret ?_
        refine q_seqr ?_
        cases hC0
        exact ⟨[], by rfl, by rfl, by rfl⟩
      · replace hC0 := ite_f hC0 hc2
        refine e_skip ?_
        refine q_seqn ?_
        refine e_seq ?_
        obtain ⟨r_v15, hv4, hC0⟩ := bind_some hC0
        obtain rfl := val_eq hv4
        refine e_region E_l05_DiffLeads (by simp only [go_sem, List.toList_toArray, Nat.reduceEqDiff, reduceIte, reduceDIte, reduceCtorEq, Nat.reduceAdd, Nat.reduceLT, Nat.reduceLeDiff, decide_true, decide_false, Bool.and_self, Bool.or_self, Bool.or_false, Bool.false_or, Bool.and_true, Bool.true_and, Bool.not_true, Bool.not_false]; rfl) (by exact (isSome_eq hv4)) ?_
        generalize val (diff_Script toArray_v1 p1_v2) = r_v15 at hC0 ⊢
        refine q_seqn ?_
        refine e_seq ?_
        obtain ⟨r_v16, hv5, hC0⟩ := bind_some hC0
        obtain rfl := val_eq hv5
        refine e_region E_l05_DiffLeads (by simp only [go_sem, List.toList_toArray, Nat.reduceEqDiff, reduceIte, reduceDIte, reduceCtorEq, Nat.reduceAdd, Nat.reduceLT, Nat.reduceLeDiff, decide_true, decide_false, Bool.and_self, Bool.or_self, Bool.or_false, Bool.false_or, Bool.and_true, Bool.true_and, Bool.not_true, Bool.not_false]; rfl) (by exact (isSome_eq hv5)) ?_
        generalize val (diff_Apply toArray_v1 r_v15) = r_v16 at hC0 ⊢
        refine q_seqn ?_
        refine e_seq ?_
        obtain ⟨r_v17, hv6, hC0⟩ := bind_some hC0
        obtain rfl := val_eq hv6
        obtain ⟨r_v18, hv7, hC0⟩ := bind_some hC0
        obtain rfl := val_eq hv7
        refine e_region E_l05_DiffLeads (by simp only [go_sem, List.toList_toArray, Nat.reduceEqDiff, reduceIte, reduceDIte, reduceCtorEq, Nat.reduceAdd, Nat.reduceLT, Nat.reduceLeDiff, decide_true, decide_false, Bool.and_self, Bool.or_self, Bool.or_false, Bool.false_or, Bool.and_true, Bool.true_and, Bool.not_true, Bool.not_false]; rfl) (by exact And.intro (isSome_eq hv6) ((isSome_eq hv7))) ?_
        generalize val (diff_Reverse r_v15) = r_v17 at hC0 ⊢
        generalize val (diff_Apply p1_v2 r_v17) = r_v18 at hC0 ⊢
        refine q_seqn ?_
        refine e_seq ?_
        refine e_seq ?_
        obtain ⟨hg8, hC0⟩ := ite_some hC0
        obtain ⟨hg9, hC0⟩ := ite_some hC0
        refine e_region E_l05_DiffLeads (by simp only [go_sem, List.toList_toArray, Nat.reduceEqDiff, reduceIte, reduceDIte, reduceCtorEq, Nat.reduceAdd, Nat.reduceLT, Nat.reduceLeDiff, decide_true, decide_false, Bool.and_self, Bool.or_self, Bool.or_false, Bool.false_or, Bool.and_true, Bool.true_and, Bool.not_true, Bool.not_false]; rfl) (by exact And.intro (fun hh => hh) (And.intro (fun hh => beq_selfF hh) (And.intro (fun hh => hh) (And.intro (fun hh => hh) (And.intro hg8 (And.intro (fun hh => hh) (And.intro (fun hh => beq_selfF hh) (And.intro (fun hh => hh) (And.intro (fun hh => hh) (And.intro hg9 (And.intro (fun hh => hh) ((fun hh => beq_selfF hh))))))))))))) ?_
        refine q_seqn ?_
        refine e_cond (by simp only [go_sem, List.toList_toArray, Nat.reduceEqDiff, reduceIte, reduceDIte, reduceCtorEq, Nat.reduceAdd, Nat.reduceLT, Nat.reduceLeDiff, decide_true, decide_false, Bool.and_self, Bool.or_self, Bool.or_false, Bool.false_or, Bool.and_true, Bool.true_and, Bool.not_true, Bool.not_false]; rfl) (fun hc3 => ?_) (fun hc3 => ?_)
        · replace hC0 := ite_t hC0 hc3
          refine e_seq ?_
          refine e_region E_l05_DiffLeads (by simp only [go_sem, List.toList_toArray, Nat.reduceEqDiff, reduceIte, reduceDIte, reduceCtorEq, Nat.reduceAdd, Nat.reduceLT, Nat.reduceLeDiff, decide_true, decide_false, Bool.and_self, Bool.or_self, Bool.or_false, Bool.false_or, Bool.and_true, Bool.true_and, Bool.not_true, Bool.not_false]; rfl) (by exact trivial) ?_
          refine q_seqn ?_
          refine e_ret ?_
          refine q_seqr ?_
          cases hC0
          exact ⟨[], by rfl, by rfl, by rfl⟩
        · replace hC0 := ite_f hC0 hc3
          refine e_skip ?_
          refine q_seqn ?_
          refine e_seq ?_
          obtain ⟨r_v19, hv10, hC0⟩ := bind_some hC0
          obtain rfl := val_eq hv10
          obtain ⟨r_v20, hv11, hC0⟩ := bind_some hC0
          obtain rfl := val_eq hv11
          refine e_region E_l05_DiffLeads (by simp only [go_sem, List.toList_toArray, Nat.reduceEqDiff, reduceIte, reduceDIte, reduceCtorEq, Nat.reduceAdd, Nat.reduceLT, Nat.reduceLeDiff, decide_true, decide_false, Bool.and_self, Bool.or_self, Bool.or_false, Bool.false_or, Bool.and_true, Bool.true_and, Bool.not_true, Bool.not_false]; rfl) (by exact And.intro (isSome_eq hv10) ((isSome_eq hv11))) ?_
          generalize val (l05_own p2_v3) = r_v19 at hC0 ⊢
          generalize val (diff_Apply toArray_v1 r_v19) = r_v20 at hC0 ⊢
          refine q_seqn ?_
          refine e_seq ?_
          refine e_seq ?_
          refine e_region E_l05_DiffLeads (by simp only [go_sem, List.toList_toArray, Nat.reduceEqDiff, reduceIte, reduceDIte, reduceCtorEq, Nat.reduceAdd, Nat.reduceLT, Nat.reduceLeDiff, decide_true, decide_false, Bool.and_self, Bool.or_self, Bool.or_false, Bool.false_or, Bool.and_true, Bool.true_and, Bool.not_true, Bool.not_false]; rfl) (by exact trivial) ?_
          refine q_seqn ?_
          refine e_cond (by simp only [go_sem, List.toList_toArray, Nat.reduceEqDiff, reduceIte, reduceDIte, reduceCtorEq, Nat.reduceAdd, Nat.reduceLT, Nat.reduceLeDiff, decide_true, decide_false, Bool.and_self, Bool.or_self, Bool.or_false, Bool.false_or, Bool.and_true, Bool.true_and, Bool.not_true, Bool.not_false]; rfl) (fun hc4 => ?_) (fun hc4 => ?_)
          · replace hC0 := ite_t hC0 hc4
            refine e_seq ?_
            refine e_region E_l05_DiffLeads (by simp only [go_sem, List.toList_toArray, Nat.reduceEqDiff, reduceIte, reduceDIte, reduceCtorEq, Nat.reduceAdd, Nat.reduceLT, Nat.reduceLeDiff, decide_true, decide_false, Bool.and_self, Bool.or_self, Bool.or_false, Bool.false_or, Bool.and_true, Bool.true_and, Bool.not_true, Bool.not_false]; rfl) (by exact trivial) ?_
            refine q_seqn ?_
            refine e_ret ?_
            refine q_seqr ?_
            cases hC0
            exact ⟨[], by rfl, by rfl, by rfl⟩
          · replace hC0 := ite_f hC0 hc4
            refine e_skip ?_
            refine q_seqn ?_
            refine e_seq ?_
            obtain ⟨r_v21, hv12, hC0⟩ := bind_some hC0
            obtain rfl := val_eq hv12
            obtain ⟨r_v22, hv13, hC0⟩ := bind_some hC0
            obtain rfl := val_eq hv13
            obtain ⟨r_v23, hv14, hC0⟩ := bind_some hC0
            obtain rfl := val_eq hv14
            refine e_region E_l05_DiffLeads (by simp only [go_sem, List.toList_toArray, Nat.reduceEqDiff, reduceIte, reduceDIte, reduceCtorEq, Nat.reduceAdd, Nat.reduceLT, Nat.reduceLeDiff, decide_true, decide_false, Bool.and_self, Bool.or_self, Bool.or_false, Bool.false_or, Bool.and_true, Bool.true_and, Bool.not_true, Bool.not_false]; rfl) (by exact And.intro (isSome_eq hv12) (And.intro (isSome_eq hv13) ((isSome_eq hv14)))) ?_
            generalize val (l05_own p2_v3) = r_v21 at hC0 ⊢
            generalize val (diff_Reverse r_v21) = r_v22 at hC0 ⊢
            generalize val (diff_Apply r_v20.1 r_v22) = r_v23 at hC0 ⊢
            refine q_seqn ?_
            refine e_seq ?_
            obtain ⟨hg15, hC0⟩ := ite_some hC0
            refine e_region E_l05_DiffLeads (by simp only [go_sem, List.toList_toArray, Nat.reduceEqDiff, reduceIte, reduceDIte, reduceCtorEq, Nat.reduceAdd, Nat.reduceLT, Nat.reduceLeDiff, decide_true, decide_false, Bool.and_self, Bool.or_self, Bool.or_false, Bool.false_or, Bool.and_true, Bool.true_and, Bool.not_true, Bool.not_false]; rfl) (by exact And.intro (fun hh => hh) (And.intro (fun hh => hh) (And.intro hg15 ((fun hh => beq_selfT hh))))) ?_
            refine q_seqn ?_
            refine e_ret ?_
            cases hC0
            exact ⟨[], by rfl, by rfl, by rfl⟩
  · cases hC

attribute [irreducible] l05_DiffLeads


noncomputable def r05_Common_step1 (a_v1 : (List (List UInt8))) (b_v2 : (List (List UInt8))) : ((List (Int × (Int × Unit))) × Int × Int) → Option (((List (Int × (Int × Unit))) × Int × Int) ⊕ (List (Int × (Int × Unit)))) := fun (out_v19, i_v20, j_v21) =>
  (r05_next a_v1 b_v2 (tabD a_v1 b_v2) i_v20 j_v21).bind fun r_v26 =>
  if (decide (r_v26.1 < (0 : Int))) = true then
    some (.inr (out_v19))
  else
    if (List.length out_v19 + List.length ([(r_v26.1, (r_v26.2, ()))] : List (Int × (Int × Unit)))) * 16 ≤ 140737488355328 then
      if -9223372036854775808 ≤ (r_v26.1 + (1 : Int)) ∧ (r_v26.1 + (1 : Int)) ≤ 9223372036854775807 then
        if -9223372036854775808 ≤ (r_v26.2 + (1 : Int)) ∧ (r_v26.2 + (1 : Int)) ≤ 9223372036854775807 then
          some (.inl ((out_v19 ++ ([(r_v26.1, (r_v26.2, ()))] : List (Int × (Int × Unit)))), (r_v26.1 + (1 : Int)), (r_v26.2 + (1 : Int))))
        else none
      else none
    else none

noncomputable def r05_Common (a_v1 : (List (List UInt8))) (b_v2 : (List (List UInt8))) : Option (List (Int × (Int × Unit))) :=
  if (List.length a_v1 : Int) ≤ 1000 then
    if (List.length b_v2 : Int) ≤ 1000 then
      loopM (r05_Common_step1 a_v1 b_v2) (([] : List (Int × (Int × Unit))), (0 : Int), (0 : Int))
    else none
  else none

@[go_sem] noncomputable def r05_CommonC : List Slot → List Blk → Option Ret
  | [(.val (.list .str) a_v1, none), (.val (.list .str) b_v2, none)], [] => some ⟨[((r05_Common a_v1 b_v2)).isSome = true], [(.val (.list (.pair (.int .i64) (.pair (.int .i64) .unit))) (val (r05_Common a_v1 b_v2)), some 0)], [.grow 28 2 (List.length (val (r05_Common a_v1 b_v2)))]⟩
  | _, _ => none

@[go_sem] noncomputable def G_r05_Common : Ctx := fun f => if f = 27 then some ⟨[.v, .v], C27⟩ else if f = 28 then some ⟨[.v, .v, .v, .v, .v], r05_nextC⟩ else none
@[go_sem] def T_r05_Common : Types := [(26, ⟨(.list (.pair (.int .i64) (.pair (.int .i64) .unit))), 28, 16, false⟩), (28, ⟨(.pair (.int .i64) (.pair (.int .i64) .unit)), 0, 1, true⟩)]
theorem K_r05_Common : CtxOk Try.prog G_r05_Common := by
  intro f s h
  unfold G_r05_Common at h
  split at h
  · rename_i e; subst e; cases h; exact con27
  split at h
  · rename_i e; subst e; cases h; exact r05_next_con
  · cases h
theorem E_r05_Common : Env Try.prog T_r05_Common G_r05_Common := ⟨⟨ty_L_2_int, ⟨ty_2_int, trivial⟩⟩, K_r05_Common, by kernel_rfl⟩

set_option maxRecDepth 100000 in
set_option maxHeartbeats 4000000 in
theorem r05_Common_con : ConOk Try.prog 13 r05_CommonC := by
  refine con_okR E_r05_Common.T Try.func13 (c := _) rfl (N := 36) (by kernel_rfl) (ts := [(4, none)]) (fun _ _ => rfl) rfl ?_
  intro args L r hC hs
  unfold r05_CommonC at hC
  split at hC
  · rename_i a_v1 b_v2; cases hC
    obtain ⟨z0, hC0⟩ := Option.isSome_iff_exists.1 (show ((r05_Common a_v1 b_v2)).isSome = true from hs _ (by simp))
    try rw [val_eq hC0]
    clear hs
    unfold r05_Common at hC0
    refine ⟨by simp only [List.length_cons, List.length_nil]; omega, by repeat (first | exact trivial | refine And.intro rfl ?_), by repeat (first | exact trivial | refine And.intro rfl ?_), ?_⟩
    simp only [enumE, enumH, lenB, Nat.reduceAdd]
    refine e_seq ?_
    refine e_region E_r05_Common (by simp only [go_sem, List.toList_toArray, Nat.reduceEqDiff, reduceIte, reduceDIte, reduceCtorEq, Nat.reduceAdd, Nat.reduceLT, Nat.reduceLeDiff, decide_true, decide_false, Bool.and_self, Bool.or_self, Bool.or_false, Bool.false_or, Bool.and_true, Bool.true_and, Bool.not_true, Bool.not_false]; rfl) (by exact trivial) ?_
    refine q_seqn ?_
    refine e_seq ?_
    obtain ⟨hg1, hC0⟩ := ite_some hC0
    obtain ⟨hg2, hC0⟩ := ite_some hC0
    refine e_region E_r05_Common (by simp only [go_sem, List.toList_toArray, Nat.reduceEqDiff, reduceIte, reduceDIte, reduceCtorEq, Nat.reduceAdd, Nat.reduceLT, Nat.reduceLeDiff, decide_true, decide_false, Bool.and_self, Bool.or_self, Bool.or_false, Bool.false_or, Bool.and_true, Bool.true_and, Bool.not_true, Bool.not_false]; rfl) (by exact And.intro hg1 (hg2)) ?_
    refine q_seqn ?_
    refine e_seq ?_
    refine e_region E_r05_Common (by simp only [go_sem, List.toList_toArray, Nat.reduceEqDiff, reduceIte, reduceDIte, reduceCtorEq, Nat.reduceAdd, Nat.reduceLT, Nat.reduceLeDiff, decide_true, decide_false, Bool.and_self, Bool.or_self, Bool.or_false, Bool.false_or, Bool.and_true, Bool.true_and, Bool.not_true, Bool.not_false]; rfl) (by exact trivial) ?_
    refine q_seqn ?_
    refine e_seq ?_
    refine e_region E_r05_Common (by simp only [go_sem, List.toList_toArray, Nat.reduceEqDiff, reduceIte, reduceDIte, reduceCtorEq, Nat.reduceAdd, Nat.reduceLT, Nat.reduceLeDiff, decide_true, decide_false, Bool.and_self, Bool.or_self, Bool.or_false, Bool.false_or, Bool.and_true, Bool.true_and, Bool.not_true, Bool.not_false]; rfl) (by exact trivial) ?_
    refine q_seqn ?_
    refine e_block ?_
    have hy1 := hC0
    refine e_loopM hy1 (fun x => ⟨[(0, (.val (.list .str) a_v1, none)), (1, (.val (.list .str) b_v2, none)), (5, (.val (.list (.list (.int .i64))) (tabD a_v1 b_v2), none)), (6, (.val (.list (.pair (.int .i64) (.pair (.int .i64) .unit))) x.1, some 0)), (7, (.val (.int .i64) x.2.1, none)), (8, (.val (.int .i64) x.2.2, none))], [(0, .grow 28 2 (List.length x.1))], 1, 36, 0⟩) ⟨[0, 1, 5, 6, 7, 8], [(0, 80)]⟩ (by rfl) ?_
    intro x1 w1 n1 hC1 hN1
    obtain ⟨out_v19, i_v20, j_v21⟩ := x1
    unfold r05_Common_step1 at hC1
    dsimp only at hC1 ⊢
    refine e_block ?_
    refine e_seq ?_
    obtain ⟨r_v26, hv3, hC1⟩ := bind_some hC1
    obtain rfl := val_eq hv3
    refine e_region E_r05_Common (by simp only [go_sem, List.toList_toArray, Nat.reduceEqDiff, reduceIte, reduceDIte, reduceCtorEq, Nat.reduceAdd, Nat.reduceLT, Nat.reduceLeDiff, decide_true, decide_false, Bool.and_self, Bool.or_self, Bool.or_false, Bool.false_or, Bool.and_true, Bool.true_and, Bool.not_true, Bool.not_false]; rfl) (by exact (isSome_eq hv3)) ?_
    generalize val (r05_next a_v1 b_v2 (tabD a_v1 b_v2) i_v20 j_v21) = r_v26 at hC1 ⊢
    refine q_seqn ?_
    refine e_seq ?_
    refine e_seq ?_
    refine e_region E_r05_Common (by simp only [go_sem, List.toList_toArray, Nat.reduceEqDiff, reduceIte, reduceDIte, reduceCtorEq, Nat.reduceAdd, Nat.reduceLT, Nat.reduceLeDiff, decide_true, decide_false, Bool.and_self, Bool.or_self, Bool.or_false, Bool.false_or, Bool.and_true, Bool.true_and, Bool.not_true, Bool.not_false]; rfl) (by exact trivial) ?_
    refine q_seqn ?_
    refine e_cond (by simp only [go_sem, List.toList_toArray, Nat.reduceEqDiff, reduceIte, reduceDIte, reduceCtorEq, Nat.reduceAdd, Nat.reduceLT, Nat.reduceLeDiff, decide_true, decide_false, Bool.and_self, Bool.or_self, Bool.or_false, Bool.false_or, Bool.and_true, Bool.true_and, Bool.not_true, Bool.not_false]; rfl) (fun hc1 => ?_) (fun hc1 => ?_)
    · replace hC1 := ite_t hC1 hc1
      refine e_seq ?_
      refine e_region E_r05_Common (by simp only [go_sem, List.toList_toArray, Nat.reduceEqDiff, reduceIte, reduceDIte, reduceCtorEq, Nat.reduceAdd, Nat.reduceLT, Nat.reduceLeDiff, decide_true, decide_false, Bool.and_self, Bool.or_self, Bool.or_false, Bool.false_or, Bool.and_true, Bool.true_and, Bool.not_true, Bool.not_false]; rfl) (by exact trivial) ?_
      refine q_seqn ?_
      refine e_ret ?_
      refine q_seqr ?_
      refine q_blkr ?_
      refine q_Lr ?_
      refine q_blkr ?_
      cases hC1
      have hC0 := congrArg some (show _ = _ from hN1)
      cases hC0
      exact ⟨[(0, 0)], by rfl, by rfl, by rfl⟩
    · replace hC1 := ite_f hC1 hc1
      refine e_skip ?_
      refine q_seqn ?_
      refine e_seq ?_
      obtain ⟨hg4, hC1⟩ := ite_some hC1
      refine e_region E_r05_Common (by simp only [go_sem, List.toList_toArray, Nat.reduceEqDiff, reduceIte, reduceDIte, reduceCtorEq, Nat.reduceAdd, Nat.reduceLT, Nat.reduceLeDiff, decide_true, decide_false, Bool.and_self, Bool.or_self, Bool.or_false, Bool.false_or, Bool.and_true, Bool.true_and, Bool.not_true, Bool.not_false]; rfl) (by exact And.intro (by first | exact rfl | exact trivial) (hg4)) ?_
      refine q_seqn ?_
      obtain ⟨hg5, hC1⟩ := ite_some hC1
      obtain ⟨hg6, hC1⟩ := ite_some hC1
      refine e_region E_r05_Common (by simp only [go_sem, List.toList_toArray, Nat.reduceEqDiff, reduceIte, reduceDIte, reduceCtorEq, Nat.reduceAdd, Nat.reduceLT, Nat.reduceLeDiff, decide_true, decide_false, Bool.and_self, Bool.or_self, Bool.or_false, Bool.false_or, Bool.and_true, Bool.true_and, Bool.not_true, Bool.not_false]; rfl) (by exact And.intro hg5 (hg6)) ?_
      refine q_blkn ?_
      cases hC1
      exact q_Ln ⟨⟨[0, 1, 5, 6, 7, 8], [(0, 0)]⟩, _, by rfl, hN1⟩
  · cases hC

attribute [irreducible] r05_Common


noncomputable def r05_Distance (a_v1 : (List (List UInt8))) (b_v2 : (List (List UInt8))) : Option Int :=
  if -9223372036854775808 ≤ ((List.length a_v1 : Int) + (List.length b_v2 : Int)) ∧ ((List.length a_v1 : Int) + (List.length b_v2 : Int)) ≤ 9223372036854775807 then
    (r05_Common a_v1 b_v2).bind fun r_v4 =>
    if -9223372036854775808 ≤ ((2 : Int) * (List.length r_v4 : Int)) ∧ ((2 : Int) * (List.length r_v4 : Int)) ≤ 9223372036854775807 then
      if -9223372036854775808 ≤ (((List.length a_v1 : Int) + (List.length b_v2 : Int)) - ((2 : Int) * (List.length r_v4 : Int))) ∧ (((List.length a_v1 : Int) + (List.length b_v2 : Int)) - ((2 : Int) * (List.length r_v4 : Int))) ≤ 9223372036854775807 then
        some ((((List.length a_v1 : Int) + (List.length b_v2 : Int)) - ((2 : Int) * (List.length r_v4 : Int))))
      else none
    else none
  else none

@[go_sem] noncomputable def r05_DistanceC : List Slot → List Blk → Option Ret
  | [(.val (.list .str) a_v1, none), (.val (.list .str) b_v2, none)], [] => some ⟨[((r05_Distance a_v1 b_v2)).isSome = true], [(.val (.int .i64) (val (r05_Distance a_v1 b_v2)), none)], []⟩
  | _, _ => none

@[go_sem] noncomputable def G_r05_Distance : Ctx := fun f => if f = 13 then some ⟨[.v, .v], r05_CommonC⟩ else none
@[go_sem] def T_r05_Distance : Types := [(22, ⟨(.list .str), 9, 16, false⟩), (26, ⟨(.list (.pair (.int .i64) (.pair (.int .i64) .unit))), 28, 16, false⟩)]
theorem K_r05_Distance : CtxOk Try.prog G_r05_Distance := by
  intro f s h
  unfold G_r05_Distance at h
  split at h
  · rename_i e; subst e; cases h; exact r05_Common_con
  · cases h
theorem E_r05_Distance : Env Try.prog T_r05_Distance G_r05_Distance := ⟨⟨ty_Lstring, ⟨ty_L_2_int, trivial⟩⟩, K_r05_Distance, by kernel_rfl⟩

set_option maxRecDepth 100000 in
set_option maxHeartbeats 4000000 in
theorem r05_Distance_con : ConOk Try.prog 15 r05_DistanceC := by
  refine con_okR E_r05_Distance.T Try.func15 (c := _) rfl (N := 16) (by kernel_rfl) (ts := [(4, none)]) (fun _ _ => rfl) rfl ?_
  intro args L r hC hs
  unfold r05_DistanceC at hC
  split at hC
  · rename_i a_v1 b_v2; cases hC
    obtain ⟨z0, hC0⟩ := Option.isSome_iff_exists.1 (show ((r05_Distance a_v1 b_v2)).isSome = true from hs _ (by simp))
    try rw [val_eq hC0]
    clear hs
    unfold r05_Distance at hC0
    refine ⟨by simp only [List.length_cons, List.length_nil]; omega, by repeat (first | exact trivial | refine And.intro rfl ?_), by repeat (first | exact trivial | refine And.intro rfl ?_), ?_⟩
    simp only [enumE, enumH, lenB, Nat.reduceAdd]
    refine e_seq ?_
    refine e_region E_r05_Distance (by simp only [go_sem, List.toList_toArray, Nat.reduceEqDiff, reduceIte, reduceDIte, reduceCtorEq, Nat.reduceAdd, Nat.reduceLT, Nat.reduceLeDiff, decide_true, decide_false, Bool.and_self, Bool.or_self, Bool.or_false, Bool.false_or, Bool.and_true, Bool.true_and, Bool.not_true, Bool.not_false]; rfl) (by exact trivial) ?_
    refine q_seqn ?_
    refine e_seq ?_
    obtain ⟨hg1, hC0⟩ := ite_some hC0
    obtain ⟨r_v4, hv2, hC0⟩ := bind_some hC0
    obtain rfl := val_eq hv2
    obtain ⟨hg3, hC0⟩ := ite_some hC0
    obtain ⟨hg4, hC0⟩ := ite_some hC0
    refine e_region E_r05_Distance (by simp only [go_sem, List.toList_toArray, Nat.reduceEqDiff, reduceIte, reduceDIte, reduceCtorEq, Nat.reduceAdd, Nat.reduceLT, Nat.reduceLeDiff, decide_true, decide_false, Bool.and_self, Bool.or_self, Bool.or_false, Bool.false_or, Bool.and_true, Bool.true_and, Bool.not_true, Bool.not_false]; rfl) (by exact And.intro hg1 (And.intro (isSome_eq hv2) (And.intro hg3 (hg4)))) ?_
    generalize val (r05_Common a_v1 b_v2) = r_v4 at hC0 ⊢
    refine q_seqn ?_
    refine e_ret ?_
    cases hC0
    exact ⟨[], by rfl, by rfl, by rfl⟩
  · cases hC

attribute [irreducible] r05_Distance

end Go.Proofs.Ytfcibaiiobihnaa
