/- PLAIN FORMS of the program's functions, and that the code computes them. -/
import Derived.Test.YtfcibaiiobihnaaDty
import Derived.Test.YtfcibaiiobihnaaD00
import Derived.Test.YtfcibaiiobihnaaVk
import Derived.KernelRfl
namespace Go.Proofs.Ytfcibaiiobihnaa
open Vc
set_option linter.unusedSimpArgs false
set_option linter.unusedVariables false


noncomputable def diff_Apply_step1 (a_v1 : (List (List UInt8))) (script_v2 : (List (Int × ((List UInt8) × Unit)))) : ((List (List UInt8)) × Int × Int) → Option (((List (List UInt8)) × Int × Int) ⊕ (((List (List UInt8)) × Int) ⊕ ((List (List UInt8)) × Int))) := fun (out_v51, i_v52, x_v53) =>
  if (decide (x_v53 < (List.length script_v2 : Int))) = true then
    if 0 ≤ x_v53 ∧ x_v53 < (List.length script_v2 : Int) then
      thn (σ := Int) (
          if (!decide ((nth (.pair (.int .i64) (.pair .str .unit)) script_v2 x_v53).1 = (3 : Int))) = true then
            if (((decide ((List.length a_v1 : Int) ≤ i_v52)) == false) = true → 0 ≤ i_v52 ∧ i_v52 < (List.length a_v1 : Int)) then
              if ((decide ((List.length a_v1 : Int) ≤ i_v52)) || (!decide ((nth .str a_v1 i_v52) = (nth (.pair (.int .i64) (.pair .str .unit)) script_v2 x_v53).2.1))) = true then
                some (.inr (.inr (.inr ((([] : List (List UInt8)), (14 : Int))))))
              else
                if -9223372036854775808 ≤ (i_v52 + (1 : Int)) ∧ (i_v52 + (1 : Int)) ≤ 9223372036854775807 then
                  some (.inl (i_v52 + (1 : Int)))
                else none
            else none
          else
            some (.inl i_v52)
        ) fun i_v60 =>
      if (!decide ((nth (.pair (.int .i64) (.pair .str .unit)) script_v2 x_v53).1 = (2 : Int))) = true then
        if (List.length out_v51 + List.length ([(nth (.pair (.int .i64) (.pair .str .unit)) script_v2 x_v53).2.1] : List (List UInt8))) * 16 ≤ 140737488355328 then
          if -9223372036854775808 ≤ (x_v53 + (1 : Int)) ∧ (x_v53 + (1 : Int)) ≤ 9223372036854775807 then
            some (.inl ((out_v51 ++ ([(nth (.pair (.int .i64) (.pair .str .unit)) script_v2 x_v53).2.1] : List (List UInt8))), i_v60, (x_v53 + (1 : Int))))
          else none
        else none
      else
        if -9223372036854775808 ≤ (x_v53 + (1 : Int)) ∧ (x_v53 + (1 : Int)) ≤ 9223372036854775807 then
          some (.inl (out_v51, i_v60, (x_v53 + (1 : Int))))
        else none
    else none
  else
    some (.inr (.inl (out_v51, i_v52)))

noncomputable def diff_Apply (a_v1 : (List (List UInt8))) (script_v2 : (List (Int × ((List UInt8) × Unit)))) : Option ((List (List UInt8)) × Int) :=
  (slices_ContainsFunc_diff_Edit_diff_ApplyF1 script_v2).bind fun r_v32 =>
  if r_v32 = true then
    some ((([] : List (List UInt8)), (1 : Int)))
  else
    thn (loopM (diff_Apply_step1 a_v1 script_v2) (([] : List (List UInt8)), (0 : Int), (0 : Int))) fun (out_v58, i_v59) =>
    if (decide (i_v59 < (List.length a_v1 : Int))) = true then
      some ((([] : List (List UInt8)), (14 : Int)))
    else
      some ((out_v58, (0 : Int)))

@[go_sem] noncomputable def diff_ApplyC : List Slot → List Blk → Option Ret
  | [(.val (.list .str) a_v1, none), (.val (.list (.pair (.int .i64) (.pair .str .unit))) script_v2, none)], [] => some ⟨[((diff_Apply a_v1 script_v2)).isSome = true], [(.val (.list .str) ((val (diff_Apply a_v1 script_v2)).1), some 0), (.val (.int .i64) ((val (diff_Apply a_v1 script_v2)).2), none)], [.grow 9 1 (List.length ((val (diff_Apply a_v1 script_v2)).1))]⟩
  | _, _ => none

@[go_sem] noncomputable def G_diff_Apply : Ctx := fun f => if f = 29 then some ⟨[.v, .v], slices_ContainsFunc_diff_Edit_diff_ApplyF1C⟩ else none
@[go_sem] def T_diff_Apply : Types := [(3, ⟨(.int .i64), 0, 0, false⟩), (9, ⟨.str, 0, 0, false⟩), (22, ⟨(.list .str), 9, 16, false⟩), (40, ⟨(.list (.pair (.int .i64) (.pair .str .unit))), 58, 24, false⟩), (58, ⟨(.pair (.int .i64) (.pair .str .unit)), 0, 1, false⟩)]
theorem K_diff_Apply : CtxOk Try.prog G_diff_Apply := by
  intro f s h
  unfold G_diff_Apply at h
  split at h
  · rename_i e; subst e; cases h; exact slices_ContainsFunc_diff_Edit_diff_ApplyF1_con
  · cases h
theorem E_diff_Apply : Env Try.prog T_diff_Apply G_diff_Apply := ⟨⟨ty_int, ⟨ty_string, ⟨ty_Lstring, ⟨ty_Ldiff_Edit, ⟨ty_calque_diff_Edit, trivial⟩⟩⟩⟩⟩, K_diff_Apply, by kernel_rfl⟩

set_option maxRecDepth 100000 in
set_option maxHeartbeats 4000000 in
theorem diff_Apply_con : ConOk Try.prog 18 diff_ApplyC := by
  refine con_okR E_diff_Apply.T Try.func18 (c := _) rfl (N := 50) (by kernel_rfl) (ts := [(4, none), (5, none)]) (fun _ _ => rfl) rfl ?_
  intro args L r hC hs
  unfold diff_ApplyC at hC
  split at hC
  · rename_i a_v1 script_v2; cases hC
    obtain ⟨z0, hC0⟩ := Option.isSome_iff_exists.1 (show ((diff_Apply a_v1 script_v2)).isSome = true from hs _ (by simp))
    try rw [val_eq hC0]
    clear hs
    unfold diff_Apply at hC0
    refine ⟨by simp only [List.length_cons, List.length_nil]; omega, by repeat (first | exact trivial | refine And.intro rfl ?_), by repeat (first | exact trivial | refine And.intro rfl ?_), ?_⟩
    simp only [enumE, enumH, lenB, Nat.reduceAdd]
    refine e_seq ?_
    refine e_region E_diff_Apply (by simp only [go_sem, List.toList_toArray, Nat.reduceEqDiff, reduceIte, reduceDIte, reduceCtorEq, Nat.reduceAdd, Nat.reduceLT, Nat.reduceLeDiff, decide_true, decide_false, Bool.and_self, Bool.or_self, Bool.or_false, Bool.false_or, Bool.and_true, Bool.true_and, Bool.not_true, Bool.not_false]; rfl) (by exact trivial) ?_
    refine q_seqn ?_
    refine e_seq ?_
    refine e_seq ?_
    obtain ⟨r_v32, hv1, hC0⟩ := bind_some hC0
    obtain rfl := val_eq hv1
    refine e_region E_diff_Apply (by simp only [go_sem, List.toList_toArray, Nat.reduceEqDiff, reduceIte, reduceDIte, reduceCtorEq, Nat.reduceAdd, Nat.reduceLT, Nat.reduceLeDiff, decide_true, decide_false, Bool.and_self, Bool.or_self, Bool.or_false, Bool.false_or, Bool.and_true, Bool.true_and, Bool.not_true, Bool.not_false]; rfl) (by exact (isSome_eq hv1)) ?_
    generalize val (slices_ContainsFunc_diff_Edit_diff_ApplyF1 script_v2) = r_v32 at hC0 ⊢
    refine q_seqn ?_
    refine e_cond (by simp only [go_sem, List.toList_toArray, Nat.reduceEqDiff, reduceIte, reduceDIte, reduceCtorEq, Nat.reduceAdd, Nat.reduceLT, Nat.reduceLeDiff, decide_true, decide_false, Bool.and_self, Bool.or_self, Bool.or_false, Bool.false_or, Bool.and_true, Bool.true_and, Bool.not_true, Bool.not_false]; rfl) (fun hc1 => ?_) (fun hc1 => ?_)
    · replace hC0 := ite_t hC0 hc1
      refine e_seq ?_
      refine e_region E_diff_Apply (by simp only [go_sem, List.toList_toArray, Nat.reduceEqDiff, reduceIte, reduceDIte, reduceCtorEq, Nat.reduceAdd, Nat.reduceLT, Nat.reduceLeDiff, decide_true, decide_false, Bool.and_self, Bool.or_self, Bool.or_false, Bool.false_or, Bool.and_true, Bool.true_and, Bool.not_true, Bool.not_false]; rfl) (by exact trivial) ?_
      refine q_seqn ?_
      refine e_ret ?_
      refine q_seqr ?_
      cases hC0
      exact ⟨[(0, 64)], by rfl, by rfl, by rfl⟩
    · replace hC0 := ite_f hC0 hc1
      refine e_skip ?_
      refine q_seqn ?_
      refine e_seq ?_
      refine e_region E_diff_Apply (by simp only [go_sem, List.toList_toArray, Nat.reduceEqDiff, reduceIte, reduceDIte, reduceCtorEq, Nat.reduceAdd, Nat.reduceLT, Nat.reduceLeDiff, decide_true, decide_false, Bool.and_self, Bool.or_self, Bool.or_false, Bool.false_or, Bool.and_true, Bool.true_and, Bool.not_true, Bool.not_false]; rfl) (by exact trivial) ?_
      refine q_seqn ?_
      refine e_seq ?_
      refine e_region E_diff_Apply (by simp only [go_sem, List.toList_toArray, Nat.reduceEqDiff, reduceIte, reduceDIte, reduceCtorEq, Nat.reduceAdd, Nat.reduceLT, Nat.reduceLeDiff, decide_true, decide_false, Bool.and_self, Bool.or_self, Bool.or_false, Bool.false_or, Bool.and_true, Bool.true_and, Bool.not_true, Bool.not_false]; rfl) (by exact trivial) ?_
      refine q_seqn ?_
      refine e_seq ?_
      refine e_seq ?_
      refine e_region E_diff_Apply (by simp only [go_sem, List.toList_toArray, Nat.reduceEqDiff, reduceIte, reduceDIte, reduceCtorEq, Nat.reduceAdd, Nat.reduceLT, Nat.reduceLeDiff, decide_true, decide_false, Bool.and_self, Bool.or_self, Bool.or_false, Bool.false_or, Bool.and_true, Bool.true_and, Bool.not_true, Bool.not_false]; rfl) (by exact trivial) ?_
      refine q_seqn ?_
      refine e_block ?_
      obtain ⟨y1, hy1, hC0⟩ := thn_some hC0
      refine e_cutx 0 (fun s => ∃ v, y1 = .inl v ∧ s = (fun x => ⟨[(0, (.val (.list .str) a_v1, none)), (6, (.val (.list .str) x.1, some 0)), (7, (.val (.int .i64) x.2, none))], [(0, .grow 9 1 (List.length x.1))], 1, 50, 0⟩) v) ?_ ?_
      · skip
        refine e_loopM hy1 (fun x => ⟨[(0, (.val (.list .str) a_v1, none)), (6, (.val (.list .str) x.1, some 0)), (7, (.val (.int .i64) x.2.1, none)), (12, (.val (.list (.pair (.int .i64) (.pair .str .unit))) script_v2, none)), (13, (.val (.int .i64) (List.length script_v2 : Int), none)), (14, (.val (.int .i64) x.2.2, none))], [(0, .grow 9 1 (List.length x.1))], 1, 50, 0⟩) ⟨[0, 6, 7, 12, 13, 14], [(0, 64)]⟩ (by rfl) ?_
        intro x1 w1 n1 hC1 hN1
        obtain ⟨out_v51, i_v52, x_v53⟩ := x1
        unfold diff_Apply_step1 at hC1
        dsimp only at hC1 ⊢
        refine e_seq ?_
        refine e_region E_diff_Apply (by simp only [go_sem, List.toList_toArray, Nat.reduceEqDiff, reduceIte, reduceDIte, reduceCtorEq, Nat.reduceAdd, Nat.reduceLT, Nat.reduceLeDiff, decide_true, decide_false, Bool.and_self, Bool.or_self, Bool.or_false, Bool.false_or, Bool.and_true, Bool.true_and, Bool.not_true, Bool.not_false]; rfl) (by exact trivial) ?_
        refine q_seqn ?_
        refine e_seq ?_
        refine e_cond (by simp only [go_sem, List.toList_toArray, Nat.reduceEqDiff, reduceIte, reduceDIte, reduceCtorEq, Nat.reduceAdd, Nat.reduceLT, Nat.reduceLeDiff, decide_true, decide_false, Bool.and_self, Bool.or_self, Bool.or_false, Bool.false_or, Bool.and_true, Bool.true_and, Bool.not_true, Bool.not_false]; rfl) (fun hc2 => ?_) (fun hc2 => ?_)
        · replace hC1 := ite_t hC1 hc2
          refine e_skip ?_
          refine q_seqn ?_
          refine e_seq ?_
          refine e_block ?_
          refine e_seq ?_
          obtain ⟨hg2, hC1⟩ := ite_some hC1
          refine e_region E_diff_Apply (by simp only [go_sem, List.toList_toArray, Nat.reduceEqDiff, reduceIte, reduceDIte, reduceCtorEq, Nat.reduceAdd, Nat.reduceLT, Nat.reduceLeDiff, decide_true, decide_false, Bool.and_self, Bool.or_self, Bool.or_false, Bool.false_or, Bool.and_true, Bool.true_and, Bool.not_true, Bool.not_false]; rfl) (by exact hg2) ?_
          refine q_seqn ?_
          refine e_seq ?_
          refine e_seq ?_
          refine e_region E_diff_Apply (by simp only [go_sem, List.toList_toArray, Nat.reduceEqDiff, reduceIte, reduceDIte, reduceCtorEq, Nat.reduceAdd, Nat.reduceLT, Nat.reduceLeDiff, decide_true, decide_false, Bool.and_self, Bool.or_self, Bool.or_false, Bool.false_or, Bool.and_true, Bool.true_and, Bool.not_true, Bool.not_false]; rfl) (by exact trivial) ?_
          refine q_seqn ?_
          obtain ⟨y2, hC2, hC1⟩ := thn_some hC1
          refine e_cutn (fun s => ∃ v, y2 = .inl v ∧ s = (fun x => ⟨[(0, (.val (.list .str) a_v1, none)), (6, (.val (.list .str) out_v51, some 0)), (7, (.val (.int .i64) x, none)), (9, (.val .ref (some (1, 0)), none)), (12, (.val (.list (.pair (.int .i64) (.pair .str .unit))) script_v2, none)), (13, (.val (.int .i64) (List.length script_v2 : Int), none)), (14, (.val (.int .i64) x_v53, none))], [(0, .grow 9 1 (List.length out_v51)), (1, .cells (.pair (.int .i64) (.pair .str .unit)) (nth (.pair (.int .i64) (.pair .str .unit)) script_v2 x_v53) [])], 2, 50, 0⟩) v) ?_ ?_
          · skip
            refine e_cond (by simp only [go_sem, List.toList_toArray, Nat.reduceEqDiff, reduceIte, reduceDIte, reduceCtorEq, Nat.reduceAdd, Nat.reduceLT, Nat.reduceLeDiff, decide_true, decide_false, Bool.and_self, Bool.or_self, Bool.or_false, Bool.false_or, Bool.and_true, Bool.true_and, Bool.not_true, Bool.not_false]; rfl) (fun hc3 => ?_) (fun hc3 => ?_)
            · replace hC2 := ite_t hC2 hc3
              refine e_seq ?_
              refine e_seq ?_
              obtain ⟨hg3, hC2⟩ := ite_some hC2
              refine e_drawn E_diff_Apply (by simp only [go_sem, List.toList_toArray, Nat.reduceEqDiff, reduceIte, reduceDIte, reduceCtorEq, Nat.reduceAdd, Nat.reduceLT, Nat.reduceLeDiff, decide_true, decide_false, Bool.and_self, Bool.or_self, Bool.or_false, Bool.false_or, Bool.and_true, Bool.true_and, Bool.not_true, Bool.not_false]; rfl) (by kernel_rfl) (by exact And.intro (fun hh => hh) (And.intro (fun hh => hh) (And.intro hg3 (And.intro (fun hh => hh) (And.intro (fun hh => hh) (And.intro (fun hh => hh) (And.intro (fun hh => hh) ((fun hh => beq_selfF hh))))))))) ?_
              refine q_seqn ?_
              refine e_cond (by simp only [go_sem, List.toList_toArray, Nat.reduceEqDiff, reduceIte, reduceDIte, reduceCtorEq, Nat.reduceAdd, Nat.reduceLT, Nat.reduceLeDiff, decide_true, decide_false, Bool.and_self, Bool.or_self, Bool.or_false, Bool.false_or, Bool.and_true, Bool.true_and, Bool.not_true, Bool.not_false]; rfl) (fun hc4 => ?_) (fun hc4 => ?_)
              · replace hC2 := ite_t hC2 hc4
                refine e_seq ?_
                refine e_region E_diff_Apply (by simp only [go_sem, List.toList_toArray, Nat.reduceEqDiff, reduceIte, reduceDIte, reduceCtorEq, Nat.reduceAdd, Nat.reduceLT, Nat.reduceLeDiff, decide_true, decide_false, Bool.and_self, Bool.or_self, Bool.or_false, Bool.false_or, Bool.and_true, Bool.true_and, Bool.not_true, Bool.not_false]; rfl) (by exact trivial) ?_
                refine q_seqn ?_
                refine e_ret ?_
                refine q_seqr ?_
                refine q_nr ?_
                refine q_seqr ?_
                refine q_blkr ?_
                refine q_seqr ?_
                refine q_Lr ?_
                refine q_xr ?_
                refine q_blkr ?_
                refine q_seqr ?_
                cases hC2
                dsimp only at hC1
                cases hC1
                cases hN1
                dsimp only at hC0
                cases hC0
                exact ⟨[(0, 337)], by rfl, by rfl, by rfl⟩
              · replace hC2 := ite_f hC2 hc4
                refine e_skip ?_
                refine q_seqn ?_
                obtain ⟨hg4, hC2⟩ := ite_some hC2
                refine e_region E_diff_Apply (by simp only [go_sem, List.toList_toArray, Nat.reduceEqDiff, reduceIte, reduceDIte, reduceCtorEq, Nat.reduceAdd, Nat.reduceLT, Nat.reduceLeDiff, decide_true, decide_false, Bool.and_self, Bool.or_self, Bool.or_false, Bool.false_or, Bool.and_true, Bool.true_and, Bool.not_true, Bool.not_false]; rfl) (by exact hg4) ?_
                cases hC2
                exact q_nn ⟨⟨[0, 6, 7, 9, 12, 13, 14], [(0, 0), (1, 49)]⟩, _, rfl, by rfl⟩
            · replace hC2 := ite_f hC2 hc3
              refine e_skip ?_
              cases hC2
              exact q_nn ⟨⟨[0, 6, 7, 9, 12, 13, 14], [(0, 0), (1, 49)]⟩, _, rfl, by rfl⟩
          · rintro _ ⟨i_v60, rfl, rfl⟩
            dsimp only at hC1 ⊢
            refine q_seqn ?_
            refine e_seq ?_
            refine e_region E_diff_Apply (by simp only [go_sem, List.toList_toArray, Nat.reduceEqDiff, reduceIte, reduceDIte, reduceCtorEq, Nat.reduceAdd, Nat.reduceLT, Nat.reduceLeDiff, decide_true, decide_false, Bool.and_self, Bool.or_self, Bool.or_false, Bool.false_or, Bool.and_true, Bool.true_and, Bool.not_true, Bool.not_false]; rfl) (by exact trivial) ?_
            refine q_seqn ?_
            refine e_cond (by simp only [go_sem, List.toList_toArray, Nat.reduceEqDiff, reduceIte, reduceDIte, reduceCtorEq, Nat.reduceAdd, Nat.reduceLT, Nat.reduceLeDiff, decide_true, decide_false, Bool.and_self, Bool.or_self, Bool.or_false, Bool.false_or, Bool.and_true, Bool.true_and, Bool.not_true, Bool.not_false]; rfl) (fun hc5 => ?_) (fun hc5 => ?_)
            · replace hC1 := ite_t hC1 hc5
              obtain ⟨hg5, hC1⟩ := ite_some hC1
              refine e_region E_diff_Apply (by simp only [go_sem, List.toList_toArray, Nat.reduceEqDiff, reduceIte, reduceDIte, reduceCtorEq, Nat.reduceAdd, Nat.reduceLT, Nat.reduceLeDiff, decide_true, decide_false, Bool.and_self, Bool.or_self, Bool.or_false, Bool.false_or, Bool.and_true, Bool.true_and, Bool.not_true, Bool.not_false]; rfl) (by exact And.intro (by first | exact rfl | exact trivial) (hg5)) ?_
              refine q_blkn ?_
              refine q_seqn ?_
              obtain ⟨hg6, hC1⟩ := ite_some hC1
              refine e_region E_diff_Apply (by simp only [go_sem, List.toList_toArray, Nat.reduceEqDiff, reduceIte, reduceDIte, reduceCtorEq, Nat.reduceAdd, Nat.reduceLT, Nat.reduceLeDiff, decide_true, decide_false, Bool.and_self, Bool.or_self, Bool.or_false, Bool.false_or, Bool.and_true, Bool.true_and, Bool.not_true, Bool.not_false]; rfl) (by exact hg6) ?_
              cases hC1
              exact q_Ln ⟨⟨[0, 6, 7, 12, 13, 14], [(0, 0)]⟩, _, by rfl, hN1⟩
            · replace hC1 := ite_f hC1 hc5
              refine e_skip ?_
              refine q_blkn ?_
              refine q_seqn ?_
              obtain ⟨hg7, hC1⟩ := ite_some hC1
              refine e_region E_diff_Apply (by simp only [go_sem, List.toList_toArray, Nat.reduceEqDiff, reduceIte, reduceDIte, reduceCtorEq, Nat.reduceAdd, Nat.reduceLT, Nat.reduceLeDiff, decide_true, decide_false, Bool.and_self, Bool.or_self, Bool.or_false, Bool.false_or, Bool.and_true, Bool.true_and, Bool.not_true, Bool.not_false]; rfl) (by exact hg7) ?_
              cases hC1
              exact q_Ln ⟨⟨[0, 6, 7, 12, 13, 14], [(0, 0)]⟩, _, by rfl, hN1⟩
        · replace hC1 := ite_f hC1 hc2
          refine e_exit ?_
          refine q_seqx ?_
          refine q_Lx ?_
          cases hC1
          cases hN1
          exact q_xx ⟨⟨[0, 6, 7], [(0, 0)]⟩, _, rfl, by rfl⟩
      · rintro _ ⟨v, rfl, rfl⟩
        obtain ⟨out_v58, i_v59⟩ := v
        dsimp only at hC0 ⊢
        refine q_blkx ?_
        refine q_seqn ?_
        refine e_seq ?_
        refine e_seq ?_
        refine e_region E_diff_Apply (by simp only [go_sem, List.toList_toArray, Nat.reduceEqDiff, reduceIte, reduceDIte, reduceCtorEq, Nat.reduceAdd, Nat.reduceLT, Nat.reduceLeDiff, decide_true, decide_false, Bool.and_self, Bool.or_self, Bool.or_false, Bool.false_or, Bool.and_true, Bool.true_and, Bool.not_true, Bool.not_false]; rfl) (by exact trivial) ?_
        refine q_seqn ?_
        refine e_cond (by simp only [go_sem, List.toList_toArray, Nat.reduceEqDiff, reduceIte, reduceDIte, reduceCtorEq, Nat.reduceAdd, Nat.reduceLT, Nat.reduceLeDiff, decide_true, decide_false, Bool.and_self, Bool.or_self, Bool.or_false, Bool.false_or, Bool.and_true, Bool.true_and, Bool.not_true, Bool.not_false]; rfl) (fun hc6 => ?_) (fun hc6 => ?_)
        · replace hC0 := ite_t hC0 hc6
          refine e_seq ?_
          refine e_region E_diff_Apply (by simp only [go_sem, List.toList_toArray, Nat.reduceEqDiff, reduceIte, reduceDIte, reduceCtorEq, Nat.reduceAdd, Nat.reduceLT, Nat.reduceLeDiff, decide_true, decide_false, Bool.and_self, Bool.or_self, Bool.or_false, Bool.false_or, Bool.and_true, Bool.true_and, Bool.not_true, Bool.not_false]; rfl) (by exact trivial) ?_
          refine q_seqn ?_
          refine e_ret ?_
          refine q_seqr ?_
          cases hC0
          exact ⟨[(0, 65)], by rfl, by rfl, by rfl⟩
        · replace hC0 := ite_f hC0 hc6
          refine e_skip ?_
          refine q_seqn ?_
          refine e_seq ?_
          refine e_region E_diff_Apply (by simp only [go_sem, List.toList_toArray, Nat.reduceEqDiff, reduceIte, reduceDIte, reduceCtorEq, Nat.reduceAdd, Nat.reduceLT, Nat.reduceLeDiff, decide_true, decide_false, Bool.and_self, Bool.or_self, Bool.or_false, Bool.false_or, Bool.and_true, Bool.true_and, Bool.not_true, Bool.not_false]; rfl) (by exact trivial) ?_
          refine q_seqn ?_
          refine e_ret ?_
          cases hC0
          exact ⟨[(0, 0)], by rfl, by rfl, by rfl⟩
  · cases hC


noncomputable def r05_Apply_step1 (p1_v2 : (List (Int × ((List UInt8) × Unit)))) : Int → Option (Int ⊕ (Unit ⊕ ((List (List UInt8)) × Int))) := fun x_v41 =>
  if (decide (x_v41 < (List.length p1_v2 : Int))) = true then
    if 0 ≤ x_v41 ∧ x_v41 < (List.length p1_v2 : Int) then
      if (((decide ((nth (.pair (.int .i64) (.pair .str .unit)) p1_v2 x_v41).1 < (1 : Int))) == false) = true → 0 ≤ x_v41 ∧ x_v41 < (List.length p1_v2 : Int)) then
        if ((decide ((nth (.pair (.int .i64) (.pair .str .unit)) p1_v2 x_v41).1 < (1 : Int))) || (decide ((3 : Int) < (nth (.pair (.int .i64) (.pair .str .unit)) p1_v2 x_v41).1))) = true then
          some (.inr (.inr ((([] : List (List UInt8)), (1 : Int)))))
        else
          if -9223372036854775808 ≤ (x_v41 + (1 : Int)) ∧ (x_v41 + (1 : Int)) ≤ 9223372036854775807 then
            some (.inl (x_v41 + (1 : Int)))
          else none
      else none
    else none
  else
    some (.inr (.inl ()))

noncomputable def r05_Apply_step2 (toArray_v1 : (List (List UInt8))) (p1_v2 : (List (Int × ((List UInt8) × Unit)))) : ((List (List UInt8)) × Int × Int) → Option (((List (List UInt8)) × Int × Int) ⊕ (((List (List UInt8)) × Int) ⊕ ((List (List UInt8)) × Int))) := fun (x_v61, x_v62, x_v63) =>
  if (decide (x_v63 < (List.length p1_v2 : Int))) = true then
    if 0 ≤ x_v63 ∧ x_v63 < (List.length p1_v2 : Int) then
      thn (σ := Int) (
          if (!decide ((nth (.pair (.int .i64) (.pair .str .unit)) p1_v2 x_v63).1 = (3 : Int))) = true then
            if (((decide ((List.length toArray_v1 : Int) ≤ x_v62)) == false) = true → 0 ≤ x_v62 ∧ x_v62 < (List.length toArray_v1 : Int)) then
              if ((decide ((List.length toArray_v1 : Int) ≤ x_v62)) || (!decide ((nth .str toArray_v1 x_v62) = (nth (.pair (.int .i64) (.pair .str .unit)) p1_v2 x_v63).2.1))) = true then
                some (.inr (.inr (.inr ((([] : List (List UInt8)), (14 : Int))))))
              else
                if -9223372036854775808 ≤ (x_v62 + (1 : Int)) ∧ (x_v62 + (1 : Int)) ≤ 9223372036854775807 then
                  some (.inl (x_v62 + (1 : Int)))
                else none
            else none
          else
            some (.inl x_v62)
        ) fun x_v70 =>
      if (!decide ((nth (.pair (.int .i64) (.pair .str .unit)) p1_v2 x_v63).1 = (2 : Int))) = true then
        if (List.length x_v61 + List.length ([(nth (.pair (.int .i64) (.pair .str .unit)) p1_v2 x_v63).2.1] : List (List UInt8))) * 16 ≤ 140737488355328 then
          if -9223372036854775808 ≤ (x_v63 + (1 : Int)) ∧ (x_v63 + (1 : Int)) ≤ 9223372036854775807 then
            some (.inl ((x_v61 ++ ([(nth (.pair (.int .i64) (.pair .str .unit)) p1_v2 x_v63).2.1] : List (List UInt8))), x_v70, (x_v63 + (1 : Int))))
          else none
        else none
      else
        if -9223372036854775808 ≤ (x_v63 + (1 : Int)) ∧ (x_v63 + (1 : Int)) ≤ 9223372036854775807 then
          some (.inl (x_v61, x_v70, (x_v63 + (1 : Int))))
        else none
    else none
  else
    some (.inr (.inl (x_v61, x_v62)))

noncomputable def r05_Apply (toArray_v1 : (List (List UInt8))) (p1_v2 : (List (Int × ((List UInt8) × Unit)))) : Option ((List (List UInt8)) × Int) :=
  thn (loopM (r05_Apply_step1 p1_v2) (0 : Int)) fun _ =>
  thn (loopM (r05_Apply_step2 toArray_v1 p1_v2) (([] : List (List UInt8)), (0 : Int), (0 : Int))) fun (x_v68, x_v69) =>
  if (decide (x_v69 < (List.length toArray_v1 : Int))) = true then
    some ((([] : List (List UInt8)), (14 : Int)))
  else
    some ((x_v68, (0 : Int)))

@[go_sem] noncomputable def r05_ApplyC : List Slot → List Blk → Option Ret
  | [(.val (.list .str) toArray_v1, none), (.val (.list (.pair (.int .i64) (.pair .str .unit))) p1_v2, none)], [] => some ⟨[((r05_Apply toArray_v1 p1_v2)).isSome = true], [(.val (.list .str) ((val (r05_Apply toArray_v1 p1_v2)).1), some 0), (.val (.int .i64) ((val (r05_Apply toArray_v1 p1_v2)).2), none)], [.grow 9 1 (List.length ((val (r05_Apply toArray_v1 p1_v2)).1))]⟩
  | _, _ => none

@[go_sem] def G_r05_Apply : Ctx := fun _ => none
@[go_sem] def T_r05_Apply : Types := [(3, ⟨(.int .i64), 0, 0, false⟩), (9, ⟨.str, 0, 0, false⟩), (22, ⟨(.list .str), 9, 16, false⟩), (35, ⟨(.list (.pair (.int .i64) (.pair .str .unit))), 56, 24, false⟩), (56, ⟨(.pair (.int .i64) (.pair .str .unit)), 0, 1, false⟩)]
theorem K_r05_Apply : CtxOk Try.prog G_r05_Apply := by
  intro f s h
  cases h
theorem E_r05_Apply : Env Try.prog T_r05_Apply G_r05_Apply := ⟨⟨ty_int, ⟨ty_string, ⟨ty_Lstring, ⟨ty_Lcalqueref05_Edit, ⟨ty_calque_calqueref05_Edit, trivial⟩⟩⟩⟩⟩, K_r05_Apply, by kernel_rfl⟩

set_option maxRecDepth 100000 in
set_option maxHeartbeats 4000000 in
theorem r05_Apply_con : ConOk Try.prog 20 r05_ApplyC := by
  refine con_okR E_r05_Apply.T Try.func20 (c := _) rfl (N := 72) (by kernel_rfl) (ts := [(4, none), (5, none)]) (fun _ _ => rfl) rfl ?_
  intro args L r hC hs
  unfold r05_ApplyC at hC
  split at hC
  · rename_i toArray_v1 p1_v2; cases hC
    obtain ⟨z0, hC0⟩ := Option.isSome_iff_exists.1 (show ((r05_Apply toArray_v1 p1_v2)).isSome = true from hs _ (by simp))
    try rw [val_eq hC0]
    clear hs
    unfold r05_Apply at hC0
    refine ⟨by simp only [List.length_cons, List.length_nil]; omega, by repeat (first | exact trivial | refine And.intro rfl ?_), by repeat (first | exact trivial | refine And.intro rfl ?_), ?_⟩
    simp only [enumE, enumH, lenB, Nat.reduceAdd]
    refine e_seq ?_
    refine e_region E_r05_Apply (by simp only [go_sem, List.toList_toArray, Nat.reduceEqDiff, reduceIte, reduceDIte, reduceCtorEq, Nat.reduceAdd, Nat.reduceLT, Nat.reduceLeDiff, decide_true, decide_false, Bool.and_self, Bool.or_self, Bool.or_false, Bool.false_or, Bool.and_true, Bool.true_and, Bool.not_true, Bool.not_false]; rfl) (by exact trivial) ?_
    refine q_seqn ?_
    refine e_seq ?_
    refine e_seq ?_
    refine e_region E_r05_Apply (by simp only [go_sem, List.toList_toArray, Nat.reduceEqDiff, reduceIte, reduceDIte, reduceCtorEq, Nat.reduceAdd, Nat.reduceLT, Nat.reduceLeDiff, decide_true, decide_false, Bool.and_self, Bool.or_self, Bool.or_false, Bool.false_or, Bool.and_true, Bool.true_and, Bool.not_true, Bool.not_false]; rfl) (by exact trivial) ?_
    refine q_seqn ?_
    refine e_block ?_
    obtain ⟨y1, hy1, hC0⟩ := thn_some hC0
    refine e_cutx 0 (fun s => ∃ v, y1 = .inl v ∧ s = (fun _ => ⟨[(0, (.val (.list .str) toArray_v1, none)), (1, (.val (.list (.pair (.int .i64) (.pair .str .unit))) p1_v2, none))], [], 0, 72, 0⟩) v) ?_ ?_
    · skip
      refine e_loopM hy1 (fun x => ⟨[(0, (.val (.list .str) toArray_v1, none)), (1, (.val (.list (.pair (.int .i64) (.pair .str .unit))) p1_v2, none)), (6, (.val (.int .i64) x, none))], [], 0, 72, 0⟩) ⟨[0, 1, 6], []⟩ (by rfl) ?_
      intro x_v41 w1 n1 hC1 hN1
      unfold r05_Apply_step1 at hC1
      dsimp only at hC1 ⊢
      refine e_seq ?_
      refine e_seq ?_
      refine e_region E_r05_Apply (by simp only [go_sem, List.toList_toArray, Nat.reduceEqDiff, reduceIte, reduceDIte, reduceCtorEq, Nat.reduceAdd, Nat.reduceLT, Nat.reduceLeDiff, decide_true, decide_false, Bool.and_self, Bool.or_self, Bool.or_false, Bool.false_or, Bool.and_true, Bool.true_and, Bool.not_true, Bool.not_false]; rfl) (by exact trivial) ?_
      refine q_seqn ?_
      refine e_cond (by simp only [go_sem, List.toList_toArray, Nat.reduceEqDiff, reduceIte, reduceDIte, reduceCtorEq, Nat.reduceAdd, Nat.reduceLT, Nat.reduceLeDiff, decide_true, decide_false, Bool.and_self, Bool.or_self, Bool.or_false, Bool.false_or, Bool.and_true, Bool.true_and, Bool.not_true, Bool.not_false]; rfl) (fun hc1 => ?_) (fun hc1 => ?_)
      · replace hC1 := ite_t hC1 hc1
        refine e_skip ?_
        refine q_seqn ?_
        refine e_seq ?_
        refine e_block ?_
        refine e_seq ?_
        obtain ⟨hg1, hC1⟩ := ite_some hC1
        obtain ⟨hg2, hC1⟩ := ite_some hC1
        refine e_region E_r05_Apply (by simp only [go_sem, List.toList_toArray, Nat.reduceEqDiff, reduceIte, reduceDIte, reduceCtorEq, Nat.reduceAdd, Nat.reduceLT, Nat.reduceLeDiff, decide_true, decide_false, Bool.and_self, Bool.or_self, Bool.or_false, Bool.false_or, Bool.and_true, Bool.true_and, Bool.not_true, Bool.not_false]; rfl) (by exact And.intro hg1 (And.intro (fun hh => hh) (And.intro (fun hh => hh) (And.intro hg2 (And.intro (fun hh => hh) (And.intro (fun hh => hh) (And.intro (fun hh => hh) ((fun hh => beq_selfF hh))))))))) ?_
        refine q_seqn ?_
        refine e_cond (by simp only [go_sem, List.toList_toArray, Nat.reduceEqDiff, reduceIte, reduceDIte, reduceCtorEq, Nat.reduceAdd, Nat.reduceLT, Nat.reduceLeDiff, decide_true, decide_false, Bool.and_self, Bool.or_self, Bool.or_false, Bool.false_or, Bool.and_true, Bool.true_and, Bool.not_true, Bool.not_false]; rfl) (fun hc2 => ?_) (fun hc2 => ?_)
        · replace hC1 := ite_t hC1 hc2
          refine e_seq ?_
          refine e_region E_r05_Apply (by simp only [go_sem, List.toList_toArray, Nat.reduceEqDiff, reduceIte, reduceDIte, reduceCtorEq, Nat.reduceAdd, Nat.reduceLT, Nat.reduceLeDiff, decide_true, decide_false, Bool.and_self, Bool.or_self, Bool.or_false, Bool.false_or, Bool.and_true, Bool.true_and, Bool.not_true, Bool.not_false]; rfl) (by exact trivial) ?_
          refine q_seqn ?_
          refine e_ret ?_
          refine q_blkr ?_
          refine q_seqr ?_
          refine q_Lr ?_
          refine q_xr ?_
          refine q_blkr ?_
          refine q_seqr ?_
          cases hC1
          cases hN1
          dsimp only at hC0
          cases hC0
          exact ⟨[(0, 288)], by rfl, by rfl, by rfl⟩
        · replace hC1 := ite_f hC1 hc2
          refine e_skip ?_
          refine q_blkn ?_
          refine q_seqn ?_
          obtain ⟨hg3, hC1⟩ := ite_some hC1
          refine e_region E_r05_Apply (by simp only [go_sem, List.toList_toArray, Nat.reduceEqDiff, reduceIte, reduceDIte, reduceCtorEq, Nat.reduceAdd, Nat.reduceLT, Nat.reduceLeDiff, decide_true, decide_false, Bool.and_self, Bool.or_self, Bool.or_false, Bool.false_or, Bool.and_true, Bool.true_and, Bool.not_true, Bool.not_false]; rfl) (by exact hg3) ?_
          cases hC1
          exact q_Ln ⟨⟨[0, 1, 6], []⟩, _, by rfl, hN1⟩
      · replace hC1 := ite_f hC1 hc1
        refine e_exit ?_
        refine q_seqx ?_
        refine q_Lx ?_
        cases hC1
        cases hN1
        exact q_xx ⟨⟨[0, 1], []⟩, _, rfl, by rfl⟩
    · rintro _ ⟨v, rfl, rfl⟩
      dsimp only at hC0 ⊢
      refine q_blkx ?_
      refine q_seqn ?_
      refine e_seq ?_
      refine e_region E_r05_Apply (by simp only [go_sem, List.toList_toArray, Nat.reduceEqDiff, reduceIte, reduceDIte, reduceCtorEq, Nat.reduceAdd, Nat.reduceLT, Nat.reduceLeDiff, decide_true, decide_false, Bool.and_self, Bool.or_self, Bool.or_false, Bool.false_or, Bool.and_true, Bool.true_and, Bool.not_true, Bool.not_false]; rfl) (by exact trivial) ?_
      refine q_seqn ?_
      refine e_seq ?_
      refine e_region E_r05_Apply (by simp only [go_sem, List.toList_toArray, Nat.reduceEqDiff, reduceIte, reduceDIte, reduceCtorEq, Nat.reduceAdd, Nat.reduceLT, Nat.reduceLeDiff, decide_true, decide_false, Bool.and_self, Bool.or_self, Bool.or_false, Bool.false_or, Bool.and_true, Bool.true_and, Bool.not_true, Bool.not_false]; rfl) (by exact trivial) ?_
      refine q_seqn ?_
      refine e_seq ?_
      refine e_seq ?_
      refine e_region E_r05_Apply (by simp only [go_sem, List.toList_toArray, Nat.reduceEqDiff, reduceIte, reduceDIte, reduceCtorEq, Nat.reduceAdd, Nat.reduceLT, Nat.reduceLeDiff, decide_true, decide_false, Bool.and_self, Bool.or_self, Bool.or_false, Bool.false_or, Bool.and_true, Bool.true_and, Bool.not_true, Bool.not_false]; rfl) (by exact trivial) ?_
      refine q_seqn ?_
      refine e_block ?_
      obtain ⟨y1, hy1, hC0⟩ := thn_some hC0
      refine e_cutx 2 (fun s => ∃ v, y1 = .inl v ∧ s = (fun x => ⟨[(0, (.val (.list .str) toArray_v1, none)), (7, (.val (.list .str) x.1, some 0)), (8, (.val (.int .i64) x.2, none))], [(0, .grow 9 1 (List.length x.1))], 1, 72, 0⟩) v) ?_ ?_
      · skip
        refine e_loopM hy1 (fun x => ⟨[(0, (.val (.list .str) toArray_v1, none)), (1, (.val (.list (.pair (.int .i64) (.pair .str .unit))) p1_v2, none)), (7, (.val (.list .str) x.1, some 0)), (8, (.val (.int .i64) x.2.1, none)), (9, (.val (.int .i64) x.2.2, none))], [(0, .grow 9 1 (List.length x.1))], 1, 72, 0⟩) ⟨[0, 1, 7, 8, 9], [(0, 0)]⟩ (by rfl) ?_
        intro x1 w1 n1 hC1 hN1
        obtain ⟨x_v61, x_v62, x_v63⟩ := x1
        unfold r05_Apply_step2 at hC1
        dsimp only at hC1 ⊢
        refine e_seq ?_
        refine e_seq ?_
        refine e_region E_r05_Apply (by simp only [go_sem, List.toList_toArray, Nat.reduceEqDiff, reduceIte, reduceDIte, reduceCtorEq, Nat.reduceAdd, Nat.reduceLT, Nat.reduceLeDiff, decide_true, decide_false, Bool.and_self, Bool.or_self, Bool.or_false, Bool.false_or, Bool.and_true, Bool.true_and, Bool.not_true, Bool.not_false]; rfl) (by exact trivial) ?_
        refine q_seqn ?_
        refine e_cond (by simp only [go_sem, List.toList_toArray, Nat.reduceEqDiff, reduceIte, reduceDIte, reduceCtorEq, Nat.reduceAdd, Nat.reduceLT, Nat.reduceLeDiff, decide_true, decide_false, Bool.and_self, Bool.or_self, Bool.or_false, Bool.false_or, Bool.and_true, Bool.true_and, Bool.not_true, Bool.not_false]; rfl) (fun hc3 => ?_) (fun hc3 => ?_)
        · replace hC1 := ite_t hC1 hc3
          refine e_skip ?_
          refine q_seqn ?_
          refine e_seq ?_
          refine e_block ?_
          refine e_seq ?_
          obtain ⟨hg4, hC1⟩ := ite_some hC1
          refine e_region E_r05_Apply (by simp only [go_sem, List.toList_toArray, Nat.reduceEqDiff, reduceIte, reduceDIte, reduceCtorEq, Nat.reduceAdd, Nat.reduceLT, Nat.reduceLeDiff, decide_true, decide_false, Bool.and_self, Bool.or_self, Bool.or_false, Bool.false_or, Bool.and_true, Bool.true_and, Bool.not_true, Bool.not_false]; rfl) (by exact hg4) ?_
          refine q_seqn ?_
          refine e_seq ?_
          refine e_seq ?_
          refine e_region E_r05_Apply (by simp only [go_sem, List.toList_toArray, Nat.reduceEqDiff, reduceIte, reduceDIte, reduceCtorEq, Nat.reduceAdd, Nat.reduceLT, Nat.reduceLeDiff, decide_true, decide_false, Bool.and_self, Bool.or_self, Bool.or_false, Bool.false_or, Bool.and_true, Bool.true_and, Bool.not_true, Bool.not_false]; rfl) (by exact trivial) ?_
          refine q_seqn ?_
          obtain ⟨y2, hC2, hC1⟩ := thn_some hC1
          refine e_cutn (fun s => ∃ v, y2 = .inl v ∧ s = (fun x => ⟨[(0, (.val (.list .str) toArray_v1, none)), (1, (.val (.list (.pair (.int .i64) (.pair .str .unit))) p1_v2, none)), (7, (.val (.list .str) x_v61, some 0)), (8, (.val (.int .i64) x, none)), (9, (.val (.int .i64) x_v63, none)), (10, (.val .ref (some (1, 0)), none))], [(0, .grow 9 1 (List.length x_v61)), (1, .cells (.pair (.int .i64) (.pair .str .unit)) (nth (.pair (.int .i64) (.pair .str .unit)) p1_v2 x_v63) [])], 2, 72, 0⟩) v) ?_ ?_
          · skip
            refine e_cond (by simp only [go_sem, List.toList_toArray, Nat.reduceEqDiff, reduceIte, reduceDIte, reduceCtorEq, Nat.reduceAdd, Nat.reduceLT, Nat.reduceLeDiff, decide_true, decide_false, Bool.and_self, Bool.or_self, Bool.or_false, Bool.false_or, Bool.and_true, Bool.true_and, Bool.not_true, Bool.not_false]; rfl) (fun hc4 => ?_) (fun hc4 => ?_)
            · replace hC2 := ite_t hC2 hc4
              refine e_seq ?_
              refine e_seq ?_
              obtain ⟨hg5, hC2⟩ := ite_some hC2
              refine e_drawn E_r05_Apply (by simp only [go_sem, List.toList_toArray, Nat.reduceEqDiff, reduceIte, reduceDIte, reduceCtorEq, Nat.reduceAdd, Nat.reduceLT, Nat.reduceLeDiff, decide_true, decide_false, Bool.and_self, Bool.or_self, Bool.or_false, Bool.false_or, Bool.and_true, Bool.true_and, Bool.not_true, Bool.not_false]; rfl) (by kernel_rfl) (by exact And.intro (fun hh => hh) (And.intro (fun hh => hh) (And.intro hg5 (And.intro (fun hh => hh) (And.intro (fun hh => hh) (And.intro (fun hh => hh) (And.intro (fun hh => hh) ((fun hh => beq_selfF hh))))))))) ?_
              refine q_seqn ?_
              refine e_cond (by simp only [go_sem, List.toList_toArray, Nat.reduceEqDiff, reduceIte, reduceDIte, reduceCtorEq, Nat.reduceAdd, Nat.reduceLT, Nat.reduceLeDiff, decide_true, decide_false, Bool.and_self, Bool.or_self, Bool.or_false, Bool.false_or, Bool.and_true, Bool.true_and, Bool.not_true, Bool.not_false]; rfl) (fun hc5 => ?_) (fun hc5 => ?_)
              · replace hC2 := ite_t hC2 hc5
                refine e_seq ?_
                refine e_region E_r05_Apply (by simp only [go_sem, List.toList_toArray, Nat.reduceEqDiff, reduceIte, reduceDIte, reduceCtorEq, Nat.reduceAdd, Nat.reduceLT, Nat.reduceLeDiff, decide_true, decide_false, Bool.and_self, Bool.or_self, Bool.or_false, Bool.false_or, Bool.and_true, Bool.true_and, Bool.not_true, Bool.not_false]; rfl) (by exact trivial) ?_
                refine q_seqn ?_
                refine e_ret ?_
                refine q_seqr ?_
                refine q_nr ?_
                refine q_seqr ?_
                refine q_blkr ?_
                refine q_seqr ?_
                refine q_Lr ?_
                refine q_xr ?_
                refine q_blkr ?_
                refine q_seqr ?_
                cases hC2
                dsimp only at hC1
                cases hC1
                cases hN1
                dsimp only at hC0
                cases hC0
                exact ⟨[(0, 417)], by rfl, by rfl, by rfl⟩
              · replace hC2 := ite_f hC2 hc5
                refine e_skip ?_
                refine q_seqn ?_
                obtain ⟨hg6, hC2⟩ := ite_some hC2
                refine e_region E_r05_Apply (by simp only [go_sem, List.toList_toArray, Nat.reduceEqDiff, reduceIte, reduceDIte, reduceCtorEq, Nat.reduceAdd, Nat.reduceLT, Nat.reduceLeDiff, decide_true, decide_false, Bool.and_self, Bool.or_self, Bool.or_false, Bool.false_or, Bool.and_true, Bool.true_and, Bool.not_true, Bool.not_false]; rfl) (by exact hg6) ?_
                cases hC2
                exact q_nn ⟨⟨[0, 1, 7, 8, 9, 10], [(0, 0), (1, 129)]⟩, _, rfl, by rfl⟩
            · replace hC2 := ite_f hC2 hc4
              refine e_skip ?_
              cases hC2
              exact q_nn ⟨⟨[0, 1, 7, 8, 9, 10], [(0, 0), (1, 129)]⟩, _, rfl, by rfl⟩
          · rintro _ ⟨x_v70, rfl, rfl⟩
            dsimp only at hC1 ⊢
            refine q_seqn ?_
            refine e_seq ?_
            refine e_region E_r05_Apply (by simp only [go_sem, List.toList_toArray, Nat.reduceEqDiff, reduceIte, reduceDIte, reduceCtorEq, Nat.reduceAdd, Nat.reduceLT, Nat.reduceLeDiff, decide_true, decide_false, Bool.and_self, Bool.or_self, Bool.or_false, Bool.false_or, Bool.and_true, Bool.true_and, Bool.not_true, Bool.not_false]; rfl) (by exact trivial) ?_
            refine q_seqn ?_
            refine e_cond (by simp only [go_sem, List.toList_toArray, Nat.reduceEqDiff, reduceIte, reduceDIte, reduceCtorEq, Nat.reduceAdd, Nat.reduceLT, Nat.reduceLeDiff, decide_true, decide_false, Bool.and_self, Bool.or_self, Bool.or_false, Bool.false_or, Bool.and_true, Bool.true_and, Bool.not_true, Bool.not_false]; rfl) (fun hc6 => ?_) (fun hc6 => ?_)
            · replace hC1 := ite_t hC1 hc6
              obtain ⟨hg7, hC1⟩ := ite_some hC1
              refine e_region E_r05_Apply (by simp only [go_sem, List.toList_toArray, Nat.reduceEqDiff, reduceIte, reduceDIte, reduceCtorEq, Nat.reduceAdd, Nat.reduceLT, Nat.reduceLeDiff, decide_true, decide_false, Bool.and_self, Bool.or_self, Bool.or_false, Bool.false_or, Bool.and_true, Bool.true_and, Bool.not_true, Bool.not_false]; rfl) (by exact And.intro (by first | exact rfl | exact trivial) (hg7)) ?_
              refine q_blkn ?_
              refine q_seqn ?_
              obtain ⟨hg8, hC1⟩ := ite_some hC1
              refine e_region E_r05_Apply (by simp only [go_sem, List.toList_toArray, Nat.reduceEqDiff, reduceIte, reduceDIte, reduceCtorEq, Nat.reduceAdd, Nat.reduceLT, Nat.reduceLeDiff, decide_true, decide_false, Bool.and_self, Bool.or_self, Bool.or_false, Bool.false_or, Bool.and_true, Bool.true_and, Bool.not_true, Bool.not_false]; rfl) (by exact hg8) ?_
              cases hC1
              exact q_Ln ⟨⟨[0, 1, 7, 8, 9], [(0, 0)]⟩, _, by rfl, hN1⟩
            · replace hC1 := ite_f hC1 hc6
              refine e_skip ?_
              refine q_blkn ?_
              refine q_seqn ?_
              obtain ⟨hg9, hC1⟩ := ite_some hC1
              refine e_region E_r05_Apply (by simp only [go_sem, List.toList_toArray, Nat.reduceEqDiff, reduceIte, reduceDIte, reduceCtorEq, Nat.reduceAdd, Nat.reduceLT, Nat.reduceLeDiff, decide_true, decide_false, Bool.and_self, Bool.or_self, Bool.or_false, Bool.false_or, Bool.and_true, Bool.true_and, Bool.not_true, Bool.not_false]; rfl) (by exact hg9) ?_
              cases hC1
              exact q_Ln ⟨⟨[0, 1, 7, 8, 9], [(0, 0)]⟩, _, by rfl, hN1⟩
        · replace hC1 := ite_f hC1 hc3
          refine e_exit ?_
          refine q_seqx ?_
          refine q_Lx ?_
          cases hC1
          cases hN1
          exact q_xx ⟨⟨[0, 7, 8], [(0, 0)]⟩, _, rfl, by rfl⟩
      · rintro _ ⟨v, rfl, rfl⟩
        obtain ⟨x_v68, x_v69⟩ := v
        dsimp only at hC0 ⊢
        refine q_blkx ?_
        refine q_seqn ?_
        refine e_seq ?_
        refine e_seq ?_
        refine e_region E_r05_Apply (by simp only [go_sem, List.toList_toArray, Nat.reduceEqDiff, reduceIte, reduceDIte, reduceCtorEq, Nat.reduceAdd, Nat.reduceLT, Nat.reduceLeDiff, decide_true, decide_false, Bool.and_self, Bool.or_self, Bool.or_false, Bool.false_or, Bool.and_true, Bool.true_and, Bool.not_true, Bool.not_false]; rfl) (by exact trivial) ?_
        refine q_seqn ?_
        refine e_cond (by simp only [go_sem, List.toList_toArray, Nat.reduceEqDiff, reduceIte, reduceDIte, reduceCtorEq, Nat.reduceAdd, Nat.reduceLT, Nat.reduceLeDiff, decide_true, decide_false, Bool.and_self, Bool.or_self, Bool.or_false, Bool.false_or, Bool.and_true, Bool.true_and, Bool.not_true, Bool.not_false]; rfl) (fun hc7 => ?_) (fun hc7 => ?_)
        · replace hC0 := ite_t hC0 hc7
          refine e_seq ?_
          refine e_region E_r05_Apply (by simp only [go_sem, List.toList_toArray, Nat.reduceEqDiff, reduceIte, reduceDIte, reduceCtorEq, Nat.reduceAdd, Nat.reduceLT, Nat.reduceLeDiff, decide_true, decide_false, Bool.and_self, Bool.or_self, Bool.or_false, Bool.false_or, Bool.and_true, Bool.true_and, Bool.not_true, Bool.not_false]; rfl) (by exact trivial) ?_
          refine q_seqn ?_
          refine e_ret ?_
          refine q_seqr ?_
          cases hC0
          exact ⟨[(0, 65)], by rfl, by rfl, by rfl⟩
        · replace hC0 := ite_f hC0 hc7
          refine e_skip ?_
          refine q_seqn ?_
          refine e_seq ?_
          refine e_region E_r05_Apply (by simp only [go_sem, List.toList_toArray, Nat.reduceEqDiff, reduceIte, reduceDIte, reduceCtorEq, Nat.reduceAdd, Nat.reduceLT, Nat.reduceLeDiff, decide_true, decide_false, Bool.and_self, Bool.or_self, Bool.or_false, Bool.false_or, Bool.and_true, Bool.true_and, Bool.not_true, Bool.not_false]; rfl) (by exact trivial) ?_
          refine q_seqn ?_
          refine e_ret ?_
          cases hC0
          exact ⟨[(0, 0)], by rfl, by rfl, by rfl⟩
  · cases hC


noncomputable def r05_next_step2 (a_v1 : (List (List UInt8))) (b_v2 : (List (List UInt8))) (l_v3 : (List (List Int))) (i_v4 : Int) (j_v5 : Int) (x_v22 : Int) : Int → Option (Int ⊕ (Unit ⊕ (Int ⊕ (Unit ⊕ (Int × Int))))) := fun y_v28 =>
  if (decide (y_v28 < (List.length b_v2 : Int))) = true then
    if 0 ≤ x_v22 ∧ x_v22 < (List.length a_v1 : Int) then
      if 0 ≤ y_v28 ∧ y_v28 < (List.length b_v2 : Int) then
        if (((decide ((nth .str a_v1 x_v22) = (nth .str b_v2 y_v28))) == true) = true → -9223372036854775808 ≤ (x_v22 + (1 : Int)) ∧ (x_v22 + (1 : Int)) ≤ 9223372036854775807) then
          if (((decide ((nth .str a_v1 x_v22) = (nth .str b_v2 y_v28))) == true) = true → 0 ≤ (x_v22 + (1 : Int)) ∧ (x_v22 + (1 : Int)) < (List.length l_v3 : Int)) then
            if (((decide ((nth .str a_v1 x_v22) = (nth .str b_v2 y_v28))) == true) = true → -9223372036854775808 ≤ (y_v28 + (1 : Int)) ∧ (y_v28 + (1 : Int)) ≤ 9223372036854775807) then
              if (((decide ((nth .str a_v1 x_v22) = (nth .str b_v2 y_v28))) == true) = true → 0 ≤ (y_v28 + (1 : Int)) ∧ (y_v28 + (1 : Int)) < (List.length (nth (.list (.int .i64)) l_v3 (x_v22 + (1 : Int))) : Int)) then
                if (((decide ((nth .str a_v1 x_v22) = (nth .str b_v2 y_v28))) == true) = true → -9223372036854775808 ≤ ((1 : Int) + (nth (.int .i64) (nth (.list (.int .i64)) l_v3 (x_v22 + (1 : Int))) (y_v28 + (1 : Int)))) ∧ ((1 : Int) + (nth (.int .i64) (nth (.list (.int .i64)) l_v3 (x_v22 + (1 : Int))) (y_v28 + (1 : Int)))) ≤ 9223372036854775807) then
                  if (((decide ((nth .str a_v1 x_v22) = (nth .str b_v2 y_v28))) == true) = true → 0 ≤ i_v4 ∧ i_v4 < (List.length l_v3 : Int)) then
                    if (((decide ((nth .str a_v1 x_v22) = (nth .str b_v2 y_v28))) == true) = true → 0 ≤ j_v5 ∧ j_v5 < (List.length (nth (.list (.int .i64)) l_v3 i_v4) : Int)) then
                      if ((decide ((nth .str a_v1 x_v22) = (nth .str b_v2 y_v28))) && (decide (((1 : Int) + (nth (.int .i64) (nth (.list (.int .i64)) l_v3 (x_v22 + (1 : Int))) (y_v28 + (1 : Int)))) = (nth (.int .i64) (nth (.list (.int .i64)) l_v3 i_v4) j_v5)))) = true then
                        some (.inr (.inr (.inr (.inr ((x_v22, y_v28))))))
                      else
                        if -9223372036854775808 ≤ (y_v28 + (1 : Int)) ∧ (y_v28 + (1 : Int)) ≤ 9223372036854775807 then
                          some (.inl (y_v28 + (1 : Int)))
                        else none
                    else none
                  else none
                else none
              else none
            else none
          else none
        else none
      else none
    else none
  else
    some (.inr (.inl ()))

noncomputable def r05_next_step1 (a_v1 : (List (List UInt8))) (b_v2 : (List (List UInt8))) (l_v3 : (List (List Int))) (i_v4 : Int) (j_v5 : Int) : Int → Option (Int ⊕ (Unit ⊕ (Int × Int))) := fun x_v22 =>
  if (decide (x_v22 < (List.length a_v1 : Int))) = true then
    thn (loopM (r05_next_step2 a_v1 b_v2 l_v3 i_v4 j_v5 x_v22) j_v5) fun _ =>
    if -9223372036854775808 ≤ (x_v22 + (1 : Int)) ∧ (x_v22 + (1 : Int)) ≤ 9223372036854775807 then
      some (.inl (x_v22 + (1 : Int)))
    else none
  else
    some (.inr (.inl ()))

noncomputable def r05_next (a_v1 : (List (List UInt8))) (b_v2 : (List (List UInt8))) (l_v3 : (List (List Int))) (i_v4 : Int) (j_v5 : Int) : Option (Int × Int) :=
  thn (loopM (r05_next_step1 a_v1 b_v2 l_v3 i_v4 j_v5) i_v4) fun _ =>
  some (((-1 : Int), (-1 : Int)))

@[go_sem] noncomputable def r05_nextC : List Slot → List Blk → Option Ret
  | [(.val (.list .str) a_v1, none), (.val (.list .str) b_v2, none), (.val (.list (.list (.int .i64))) l_v3, none), (.val (.int .i64) i_v4, none), (.val (.int .i64) j_v5, none)], [] => some ⟨[((r05_next a_v1 b_v2 l_v3 i_v4 j_v5)).isSome = true], [(.val (.int .i64) ((val (r05_next a_v1 b_v2 l_v3 i_v4 j_v5)).1), none), (.val (.int .i64) ((val (r05_next a_v1 b_v2 l_v3 i_v4 j_v5)).2), none)], []⟩
  | _, _ => none

@[go_sem] def G_r05_next : Ctx := fun _ => none
@[go_sem] def T_r05_next : Types := [(3, ⟨(.int .i64), 0, 0, false⟩), (9, ⟨.str, 0, 0, false⟩), (22, ⟨(.list .str), 9, 16, false⟩), (50, ⟨(.list (.list (.int .i64))), 52, 24, false⟩), (52, ⟨(.list (.int .i64)), 3, 8, false⟩)]
theorem K_r05_next : CtxOk Try.prog G_r05_next := by
  intro f s h
  cases h
theorem E_r05_next : Env Try.prog T_r05_next G_r05_next := ⟨⟨ty_int, ⟨ty_string, ⟨ty_Lstring, ⟨ty_LLint, ⟨ty_Lint, trivial⟩⟩⟩⟩⟩, K_r05_next, by kernel_rfl⟩

set_option maxRecDepth 100000 in
set_option maxHeartbeats 4000000 in
theorem r05_next_con : ConOk Try.prog 28 r05_nextC := by
  refine con_okR E_r05_next.T Try.func28 (c := _) rfl (N := 59) (by kernel_rfl) (ts := [(10, none), (11, none)]) (fun _ _ => rfl) rfl ?_
  intro args L r hC hs
  unfold r05_nextC at hC
  split at hC
  · rename_i a_v1 b_v2 l_v3 i_v4 j_v5; cases hC
    obtain ⟨z0, hC0⟩ := Option.isSome_iff_exists.1 (show ((r05_next a_v1 b_v2 l_v3 i_v4 j_v5)).isSome = true from hs _ (by simp))
    try rw [val_eq hC0]
    clear hs
    unfold r05_next at hC0
    refine ⟨by simp only [List.length_cons, List.length_nil]; omega, by repeat (first | exact trivial | refine And.intro rfl ?_), by repeat (first | exact trivial | refine And.intro rfl ?_), ?_⟩
    simp only [enumE, enumH, lenB, Nat.reduceAdd]
    refine e_seq ?_
    refine e_region E_r05_next (by simp only [go_sem, List.toList_toArray, Nat.reduceEqDiff, reduceIte, reduceDIte, reduceCtorEq, Nat.reduceAdd, Nat.reduceLT, Nat.reduceLeDiff, decide_true, decide_false, Bool.and_self, Bool.or_self, Bool.or_false, Bool.false_or, Bool.and_true, Bool.true_and, Bool.not_true, Bool.not_false]; rfl) (by exact trivial) ?_
    refine q_seqn ?_
    refine e_seq ?_
    refine e_seq ?_
    refine e_region E_r05_next (by simp only [go_sem, List.toList_toArray, Nat.reduceEqDiff, reduceIte, reduceDIte, reduceCtorEq, Nat.reduceAdd, Nat.reduceLT, Nat.reduceLeDiff, decide_true, decide_false, Bool.and_self, Bool.or_self, Bool.or_false, Bool.false_or, Bool.and_true, Bool.true_and, Bool.not_true, Bool.not_false]; rfl) (by exact trivial) ?_
    refine q_seqn ?_
    refine e_block ?_
    obtain ⟨y1, hy1, hC0⟩ := thn_some hC0
    refine e_cutx 0 (fun s => ∃ v, y1 = .inl v ∧ s = (fun _ => ⟨[], [], 0, 59, 0⟩) v) ?_ ?_
    · skip
      refine e_loopM hy1 (fun x => ⟨[(0, (.val (.list .str) a_v1, none)), (1, (.val (.list .str) b_v2, none)), (2, (.val (.list (.list (.int .i64))) l_v3, none)), (3, (.val (.int .i64) i_v4, none)), (4, (.val (.int .i64) j_v5, none)), (12, (.val (.int .i64) x, none))], [], 0, 59, 0⟩) ⟨[0, 1, 2, 3, 4, 12], []⟩ (by rfl) ?_
      intro x_v22 w1 n1 hC1 hN1
      unfold r05_next_step1 at hC1
      dsimp only at hC1 ⊢
      refine e_seq ?_
      refine e_seq ?_
      refine e_region E_r05_next (by simp only [go_sem, List.toList_toArray, Nat.reduceEqDiff, reduceIte, reduceDIte, reduceCtorEq, Nat.reduceAdd, Nat.reduceLT, Nat.reduceLeDiff, decide_true, decide_false, Bool.and_self, Bool.or_self, Bool.or_false, Bool.false_or, Bool.and_true, Bool.true_and, Bool.not_true, Bool.not_false]; rfl) (by exact trivial) ?_
      refine q_seqn ?_
      refine e_cond (by simp only [go_sem, List.toList_toArray, Nat.reduceEqDiff, reduceIte, reduceDIte, reduceCtorEq, Nat.reduceAdd, Nat.reduceLT, Nat.reduceLeDiff, decide_true, decide_false, Bool.and_self, Bool.or_self, Bool.or_false, Bool.false_or, Bool.and_true, Bool.true_and, Bool.not_true, Bool.not_false]; rfl) (fun hc1 => ?_) (fun hc1 => ?_)
      · replace hC1 := ite_t hC1 hc1
        refine e_skip ?_
        refine q_seqn ?_
        refine e_seq ?_
        refine e_block ?_
        refine e_seq ?_
        refine e_region E_r05_next (by simp only [go_sem, List.toList_toArray, Nat.reduceEqDiff, reduceIte, reduceDIte, reduceCtorEq, Nat.reduceAdd, Nat.reduceLT, Nat.reduceLeDiff, decide_true, decide_false, Bool.and_self, Bool.or_self, Bool.or_false, Bool.false_or, Bool.and_true, Bool.true_and, Bool.not_true, Bool.not_false]; rfl) (by exact trivial) ?_
        refine q_seqn ?_
        refine e_block ?_
        obtain ⟨y2, hy2, hC1⟩ := thn_some hC1
        refine e_cutx 2 (fun s => ∃ v, y2 = .inl v ∧ s = (fun _ => ⟨[(0, (.val (.list .str) a_v1, none)), (1, (.val (.list .str) b_v2, none)), (2, (.val (.list (.list (.int .i64))) l_v3, none)), (3, (.val (.int .i64) i_v4, none)), (4, (.val (.int .i64) j_v5, none)), (12, (.val (.int .i64) x_v22, none))], [], 0, 59, 0⟩) v) ?_ ?_
        · skip
          refine e_loopM hy2 (fun x => ⟨[(0, (.val (.list .str) a_v1, none)), (1, (.val (.list .str) b_v2, none)), (2, (.val (.list (.list (.int .i64))) l_v3, none)), (3, (.val (.int .i64) i_v4, none)), (4, (.val (.int .i64) j_v5, none)), (12, (.val (.int .i64) x_v22, none)), (13, (.val (.int .i64) x, none))], [], 0, 59, 0⟩) ⟨[0, 1, 2, 3, 4, 12, 13], []⟩ (by rfl) ?_
          intro y_v28 w2 n2 hC2 hN2
          unfold r05_next_step2 at hC2
          dsimp only at hC2 ⊢
          refine e_seq ?_
          refine e_seq ?_
          refine e_region E_r05_next (by simp only [go_sem, List.toList_toArray, Nat.reduceEqDiff, reduceIte, reduceDIte, reduceCtorEq, Nat.reduceAdd, Nat.reduceLT, Nat.reduceLeDiff, decide_true, decide_false, Bool.and_self, Bool.or_self, Bool.or_false, Bool.false_or, Bool.and_true, Bool.true_and, Bool.not_true, Bool.not_false]; rfl) (by exact trivial) ?_
          refine q_seqn ?_
          refine e_cond (by simp only [go_sem, List.toList_toArray, Nat.reduceEqDiff, reduceIte, reduceDIte, reduceCtorEq, Nat.reduceAdd, Nat.reduceLT, Nat.reduceLeDiff, decide_true, decide_false, Bool.and_self, Bool.or_self, Bool.or_false, Bool.false_or, Bool.and_true, Bool.true_and, Bool.not_true, Bool.not_false]; rfl) (fun hc2 => ?_) (fun hc2 => ?_)
          · replace hC2 := ite_t hC2 hc2
            refine e_skip ?_
            refine q_seqn ?_
            refine e_seq ?_
            refine e_block ?_
            refine e_seq ?_
            obtain ⟨hg1, hC2⟩ := ite_some hC2
            obtain ⟨hg2, hC2⟩ := ite_some hC2
            obtain ⟨hg3, hC2⟩ := ite_some hC2
            obtain ⟨hg4, hC2⟩ := ite_some hC2
            obtain ⟨hg5, hC2⟩ := ite_some hC2
            obtain ⟨hg6, hC2⟩ := ite_some hC2
            obtain ⟨hg7, hC2⟩ := ite_some hC2
            obtain ⟨hg8, hC2⟩ := ite_some hC2
            obtain ⟨hg9, hC2⟩ := ite_some hC2
            refine e_drawn E_r05_next (by simp only [go_sem, List.toList_toArray, Nat.reduceEqDiff, reduceIte, reduceDIte, reduceCtorEq, Nat.reduceAdd, Nat.reduceLT, Nat.reduceLeDiff, decide_true, decide_false, Bool.and_self, Bool.or_self, Bool.or_false, Bool.false_or, Bool.and_true, Bool.true_and, Bool.not_true, Bool.not_false]; rfl) (by kernel_rfl) (by exact And.intro hg1 (And.intro hg2 (And.intro (fun hh => hh) (And.intro hg3 (And.intro (fun hh => hh) (And.intro (fun hh => hh) (And.intro hg4 (And.intro (fun hh => hh) (And.intro (fun hh => hh) (And.intro hg5 (And.intro (fun hh => hh) (And.intro (fun hh => hh) (And.intro hg6 (And.intro (fun hh => hh) (And.intro (fun hh => hh) (And.intro hg7 (And.intro (fun hh => hh) (And.intro (fun hh => hh) (And.intro hg8 (And.intro (fun hh => hh) (And.intro (fun hh => hh) (And.intro (fun hh => hh) (And.intro hg9 (And.intro (fun hh => hh) (And.intro (fun hh => hh) (And.intro (fun hh => hh) ((fun hh => beq_selfT hh)))))))))))))))))))))))))))) ?_
            refine q_seqn ?_
            refine e_cond (by simp only [go_sem, List.toList_toArray, Nat.reduceEqDiff, reduceIte, reduceDIte, reduceCtorEq, Nat.reduceAdd, Nat.reduceLT, Nat.reduceLeDiff, decide_true, decide_false, Bool.and_self, Bool.or_self, Bool.or_false, Bool.false_or, Bool.and_true, Bool.true_and, Bool.not_true, Bool.not_false]; rfl) (fun hc3 => ?_) (fun hc3 => ?_)
            · replace hC2 := ite_t hC2 hc3
              refine e_seq ?_
              refine e_region E_r05_next (by simp only [go_sem, List.toList_toArray, Nat.reduceEqDiff, reduceIte, reduceDIte, reduceCtorEq, Nat.reduceAdd, Nat.reduceLT, Nat.reduceLeDiff, decide_true, decide_false, Bool.and_self, Bool.or_self, Bool.or_false, Bool.false_or, Bool.and_true, Bool.true_and, Bool.not_true, Bool.not_false]; rfl) (by exact trivial) ?_
              refine q_seqn ?_
              refine e_ret ?_
              refine q_blkr ?_
              refine q_seqr ?_
              refine q_Lr ?_
              refine q_xr ?_
              refine q_blkr ?_
              refine q_blkr ?_
              refine q_seqr ?_
              refine q_Lr ?_
              refine q_xr ?_
              refine q_blkr ?_
              refine q_seqr ?_
              cases hC2
              cases hN2
              dsimp only at hC1
              cases hC1
              cases hN1
              dsimp only at hC0
              cases hC0
              exact ⟨[], by rfl, by rfl, by rfl⟩
            · replace hC2 := ite_f hC2 hc3
              refine e_skip ?_
              refine q_blkn ?_
              refine q_seqn ?_
              obtain ⟨hg10, hC2⟩ := ite_some hC2
              refine e_region E_r05_next (by simp only [go_sem, List.toList_toArray, Nat.reduceEqDiff, reduceIte, reduceDIte, reduceCtorEq, Nat.reduceAdd, Nat.reduceLT, Nat.reduceLeDiff, decide_true, decide_false, Bool.and_self, Bool.or_self, Bool.or_false, Bool.false_or, Bool.and_true, Bool.true_and, Bool.not_true, Bool.not_false]; rfl) (by exact hg10) ?_
              cases hC2
              exact q_Ln ⟨⟨[0, 1, 2, 3, 4, 12, 13], []⟩, _, by rfl, hN2⟩
          · replace hC2 := ite_f hC2 hc2
            refine e_exit ?_
            refine q_seqx ?_
            refine q_Lx ?_
            cases hC2
            cases hN2
            exact q_xx ⟨⟨[0, 1, 2, 3, 4, 12], []⟩, _, rfl, by rfl⟩
        · rintro _ ⟨v, rfl, rfl⟩
          dsimp only at hC1 ⊢
          refine q_blkx ?_
          refine q_blkn ?_
          refine q_seqn ?_
          obtain ⟨hg11, hC1⟩ := ite_some hC1
          refine e_region E_r05_next (by simp only [go_sem, List.toList_toArray, Nat.reduceEqDiff, reduceIte, reduceDIte, reduceCtorEq, Nat.reduceAdd, Nat.reduceLT, Nat.reduceLeDiff, decide_true, decide_false, Bool.and_self, Bool.or_self, Bool.or_false, Bool.false_or, Bool.and_true, Bool.true_and, Bool.not_true, Bool.not_false]; rfl) (by exact hg11) ?_
          cases hC1
          exact q_Ln ⟨⟨[0, 1, 2, 3, 4, 12], []⟩, _, by rfl, hN1⟩
      · replace hC1 := ite_f hC1 hc1
        refine e_exit ?_
        refine q_seqx ?_
        refine q_Lx ?_
        cases hC1
        cases hN1
        exact q_xx ⟨⟨[], []⟩, _, rfl, by rfl⟩
    · rintro _ ⟨v, rfl, rfl⟩
      dsimp only at hC0 ⊢
      refine q_blkx ?_
      refine q_seqn ?_
      refine e_seq ?_
      refine e_region E_r05_next (by simp only [go_sem, List.toList_toArray, Nat.reduceEqDiff, reduceIte, reduceDIte, reduceCtorEq, Nat.reduceAdd, Nat.reduceLT, Nat.reduceLeDiff, decide_true, decide_false, Bool.and_self, Bool.or_self, Bool.or_false, Bool.false_or, Bool.and_true, Bool.true_and, Bool.not_true, Bool.not_false]; rfl) (by exact trivial) ?_
      refine q_seqn ?_
      refine e_ret ?_
      cases hC0
      exact ⟨[], by rfl, by rfl, by rfl⟩
  · cases hC

end Go.Proofs.Ytfcibaiiobihnaa
