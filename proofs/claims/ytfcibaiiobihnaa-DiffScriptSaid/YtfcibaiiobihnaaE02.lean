/- PLAIN FORMS of the program's functions, and that the code computes them. -/
import Derived.Test.YtfcibaiiobihnaaEty
import Derived.Test.YtfcibaiiobihnaaE01
import Derived.Test.YtfcibaiiobihnaaVt
import Derived.KernelRfl
namespace Go.Proofs.Ytfcibaiiobihnaa
open Vc
set_option linter.unusedSimpArgs false
set_option linter.unusedVariables false


noncomputable def diff_Apply_step1 (a_v1 : (List (List UInt8))) (script_v2 : (List (Int × ((List UInt8) × Unit)))) : ((List (List UInt8)) × Int × Int) → Option (((List (List UInt8)) × Int × Int) ⊕ (((List (List UInt8)) × Int) ⊕ ((List (List UInt8)) × Int))) := fun (out_v51, i_v52, x_v53) =>
  if (decide (x_v53 < (List.length script_v2 : Int))) = true then
    if 0 ≤ x_v53 ∧ x_v53 < (List.length script_v2 : Int) then
      thn (σ := Int) (
          if (!decide ((nth (.pair (.int .i64) (.pair .str .unit)) script_v2 x_v53).1 = (3 : Int))) = true then
            if (((decide ((List.length a_v1 : Int) ≤ i_v52)) == false) = true → 0 ≤ i_v52 ∧ i_v52 < (List.length a_v1 : Int)) then
              if ((decide ((List.length a_v1 : Int) ≤ i_v52)) || (!decide ((nth .str a_v1 i_v52) = (nth (.pair (.int .i64) (.pair .str .unit)) script_v2 x_v53).2.1))) = true then
                some (.inr (.inr (.inr ((([] : List (List UInt8)), (14 : Int))))))
              else
                if -9223372036854775808 ≤ (i_v52 + (1 : Int)) ∧ (i_v52 + (1 : Int)) ≤ 9223372036854775807 then
                  some (.inl (i_v52 + (1 : Int)))
                else none
            else none
          else
            some (.inl i_v52)
        ) fun i_v60 =>
      if (!decide ((nth (.pair (.int .i64) (.pair .str .unit)) script_v2 x_v53).1 = (2 : Int))) = true then
        if (List.length out_v51 + List.length ([(nth (.pair (.int .i64) (.pair .str .unit)) script_v2 x_v53).2.1] : List (List UInt8))) * 16 ≤ 140737488355328 then
          if -9223372036854775808 ≤ (x_v53 + (1 : Int)) ∧ (x_v53 + (1 : Int)) ≤ 9223372036854775807 then
            some (.inl ((out_v51 ++ ([(nth (.pair (.int .i64) (.pair .str .unit)) script_v2 x_v53).2.1] : List (List UInt8))), i_v60, (x_v53 + (1 : Int))))
          else none
        else none
      else
        if -9223372036854775808 ≤ (x_v53 + (1 : Int)) ∧ (x_v53 + (1 : Int)) ≤ 9223372036854775807 then
          some (.inl (out_v51, i_v60, (x_v53 + (1 : Int))))
        else none
    else none
  else
    some (.inr (.inl (out_v51, i_v52)))

noncomputable def diff_Apply (a_v1 : (List (List UInt8))) (script_v2 : (List (Int × ((List UInt8) × Unit)))) : Option ((List (List UInt8)) × Int) :=
  (slices_ContainsFunc_diff_Edit_diff_ApplyF1 script_v2).bind fun r_v32 =>
  if r_v32 = true then
    some ((([] : List (List UInt8)), (1 : Int)))
  else
    thn (loopM (diff_Apply_step1 a_v1 script_v2) (([] : List (List UInt8)), (0 : Int), (0 : Int))) fun (out_v58, i_v59) =>
    if (decide (i_v59 < (List.length a_v1 : Int))) = true then
      some ((([] : List (List UInt8)), (14 : Int)))
    else
      some ((out_v58, (0 : Int)))

@[go_sem] noncomputable def diff_ApplyC : List Slot → List Blk → Option Ret
  | [(.val (.list .str) a_v1, none), (.val (.list (.pair (.int .i64) (.pair .str .unit))) script_v2, none)], [] => some ⟨[((diff_Apply a_v1 script_v2)).isSome = true], [(.val (.list .str) ((val (diff_Apply a_v1 script_v2)).1), some 0), (.val (.int .i64) ((val (diff_Apply a_v1 script_v2)).2), none)], [.grow 9 1 (List.length ((val (diff_Apply a_v1 script_v2)).1))]⟩
  | _, _ => none

@[go_sem] noncomputable def G_diff_Apply : Ctx := fun f => if f = 29 then some ⟨[.v, .v], slices_ContainsFunc_diff_Edit_diff_ApplyF1C⟩ else none
@[go_sem] def T_diff_Apply : Types := [(3, ⟨(.int .i64), 0, 0, false⟩), (9, ⟨.str, 0, 0, false⟩), (22, ⟨(.list .str), 9, 16, false⟩), (40, ⟨(.list (.pair (.int .i64) (.pair .str .unit))), 58, 24, false⟩), (58, ⟨(.pair (.int .i64) (.pair .str .unit)), 0, 1, false⟩)]
theorem K_diff_Apply : CtxOk Try.prog G_diff_Apply := by
  intro f s h
  unfold G_diff_Apply at h
  split at h
  · rename_i e; subst e; cases h; exact slices_ContainsFunc_diff_Edit_diff_ApplyF1_con
  · cases h
theorem E_diff_Apply : Env Try.prog T_diff_Apply G_diff_Apply := ⟨⟨ty_int, ⟨ty_string, ⟨ty_Lstring, ⟨ty_Ldiff_Edit, ⟨ty_calque_diff_Edit, trivial⟩⟩⟩⟩⟩, K_diff_Apply, by kernel_rfl⟩

set_option maxRecDepth 100000 in
set_option maxHeartbeats 4000000 in
theorem diff_Apply_con : ConOk Try.prog 18 diff_ApplyC := by
  refine con_okR E_diff_Apply.T Try.func18 (c := _) rfl (N := 50) (by kernel_rfl) (ts := [(4, none), (5, none)]) (fun _ _ => rfl) rfl ?_
  intro args L r hC hs
  unfold diff_ApplyC at hC
  split at hC
  · rename_i a_v1 script_v2; cases hC
    obtain ⟨z0, hC0⟩ := Option.isSome_iff_exists.1 (show ((diff_Apply a_v1 script_v2)).isSome = true from hs _ (by simp))
    try rw [val_eq hC0]
    clear hs
    unfold diff_Apply at hC0
    refine ⟨by simp only [List.length_cons, List.length_nil]; omega, by repeat (first | exact trivial | refine And.intro rfl ?_), by repeat (first | exact trivial | refine And.intro rfl ?_), ?_⟩
    simp only [enumE, enumH, lenB, Nat.reduceAdd]
    refine e_seq ?_
    refine e_region E_diff_Apply (by simp only [go_sem, List.toList_toArray, Nat.reduceEqDiff, reduceIte, reduceDIte, reduceCtorEq, Nat.reduceAdd, Nat.reduceLT, Nat.reduceLeDiff, decide_true, decide_false, Bool.and_self, Bool.or_self, Bool.or_false, Bool.false_or, Bool.and_true, Bool.true_and, Bool.not_true, Bool.not_false]; rfl) (by exact trivial) ?_
    refine q_seqn ?_
    refine e_seq ?_
    refine e_seq ?_
    obtain ⟨r_v32, hv1, hC0⟩ := bind_some hC0
    obtain rfl := val_eq hv1
    refine e_region E_diff_Apply (by simp only [go_sem, List.toList_toArray, Nat.reduceEqDiff, reduceIte, reduceDIte, reduceCtorEq, Nat.reduceAdd, Nat.reduceLT, Nat.reduceLeDiff, decide_true, decide_false, Bool.and_self, Bool.or_self, Bool.or_false, Bool.false_or, Bool.and_true, Bool.true_and, Bool.not_true, Bool.not_false]; rfl) (by exact (isSome_eq hv1)) ?_
    generalize val (slices_ContainsFunc_diff_Edit_diff_ApplyF1 script_v2) = r_v32 at hC0 ⊢
    refine q_seqn ?_
    refine e_cond (by simp only [go_sem, List.toList_toArray, Nat.reduceEqDiff, reduceIte, reduceDIte, reduceCtorEq, Nat.reduceAdd, Nat.reduceLT, Nat.reduceLeDiff, decide_true, decide_false, Bool.and_self, Bool.or_self, Bool.or_false, Bool.false_or, Bool.and_true, Bool.true_and, Bool.not_true, Bool.not_false]; rfl) (fun hc1 => ?_) (fun hc1 => ?_)
    · replace hC0 := ite_t hC0 hc1
      refine e_seq ?_
      refine e_region E_diff_Apply (by simp only [go_sem, List.toList_toArray, Nat.reduceEqDiff, reduceIte, reduceDIte, reduceCtorEq, Nat.reduceAdd, Nat.reduceLT, Nat.reduceLeDiff, decide_true, decide_false, Bool.and_self, Bool.or_self, Bool.or_false, Bool.false_or, Bool.and_true, Bool.true_and, Bool.not_true, Bool.not_false]; rfl) (by exact trivial) ?_
      refine q_seqn ?_
      refine e_ret ?_
      refine q_seqr ?_
      cases hC0
      exact ⟨[(0, 64)], by rfl, by rfl, by rfl⟩
    · replace hC0 := ite_f hC0 hc1
      refine e_skip ?_
      refine q_seqn ?_
      refine e_seq ?_
      refine e_region E_diff_Apply (by simp only [go_sem, List.toList_toArray, Nat.reduceEqDiff, reduceIte, reduceDIte, reduceCtorEq, Nat.reduceAdd, Nat.reduceLT, Nat.reduceLeDiff, decide_true, decide_false, Bool.and_self, Bool.or_self, Bool.or_false, Bool.false_or, Bool.and_true, Bool.true_and, Bool.not_true, Bool.not_false]; rfl) (by exact trivial) ?_
      refine q_seqn ?_
      refine e_seq ?_
      refine e_region E_diff_Apply (by simp only [go_sem, List.toList_toArray, Nat.reduceEqDiff, reduceIte, reduceDIte, reduceCtorEq, Nat.reduceAdd, Nat.reduceLT, Nat.reduceLeDiff, decide_true, decide_false, Bool.and_self, Bool.or_self, Bool.or_false, Bool.false_or, Bool.and_true, Bool.true_and, Bool.not_true, Bool.not_false]; rfl) (by exact trivial) ?_
      refine q_seqn ?_
      refine e_seq ?_
      refine e_seq ?_
      refine e_region E_diff_Apply (by simp only [go_sem, List.toList_toArray, Nat.reduceEqDiff, reduceIte, reduceDIte, reduceCtorEq, Nat.reduceAdd, Nat.reduceLT, Nat.reduceLeDiff, decide_true, decide_false, Bool.and_self, Bool.or_self, Bool.or_false, Bool.false_or, Bool.and_true, Bool.true_and, Bool.not_true, Bool.not_false]; rfl) (by exact trivial) ?_
      refine q_seqn ?_
      refine e_block ?_
      obtain ⟨y1, hy1, hC0⟩ := thn_some hC0
      refine e_cutx 0 (fun s => ∃ v, y1 = .inl v ∧ s = (fun x => ⟨[(0, (.val (.list .str) a_v1, none)), (6, (.val (.list .str) x.1, some 0)), (7, (.val (.int .i64) x.2, none))], [(0, .grow 9 1 (List.length x.1))], 1, 50, 0⟩) v) ?_ ?_
      · skip
        refine e_loopM hy1 (fun x => ⟨[(0, (.val (.list .str) a_v1, none)), (6, (.val (.list .str) x.1, some 0)), (7, (.val (.int .i64) x.2.1, none)), (12, (.val (.list (.pair (.int .i64) (.pair .str .unit))) script_v2, none)), (13, (.val (.int .i64) (List.length script_v2 : Int), none)), (14, (.val (.int .i64) x.2.2, none))], [(0, .grow 9 1 (List.length x.1))], 1, 50, 0⟩) ⟨[0, 6, 7, 12, 13, 14], [(0, 64)]⟩ (by rfl) ?_
        intro x1 w1 n1 hC1 hN1
        obtain ⟨out_v51, i_v52, x_v53⟩ := x1
        unfold diff_Apply_step1 at hC1
        dsimp only at hC1 ⊢
        refine e_seq ?_
        refine e_region E_diff_Apply (by simp only [go_sem, List.toList_toArray, Nat.reduceEqDiff, reduceIte, reduceDIte, reduceCtorEq, Nat.reduceAdd, Nat.reduceLT, Nat.reduceLeDiff, decide_true, decide_false, Bool.and_self, Bool.or_self, Bool.or_false, Bool.false_or, Bool.and_true, Bool.true_and, Bool.not_true, Bool.not_false]; rfl) (by exact trivial) ?_
        refine q_seqn ?_
        refine e_seq ?_
        refine e_cond (by simp only [go_sem, List.toList_toArray, Nat.reduceEqDiff, reduceIte, reduceDIte, reduceCtorEq, Nat.reduceAdd, Nat.reduceLT, Nat.reduceLeDiff, decide_true, decide_false, Bool.and_self, Bool.or_self, Bool.or_false, Bool.false_or, Bool.and_true, Bool.true_and, Bool.not_true, Bool.not_false]; rfl) (fun hc2 => ?_) (fun hc2 => ?_)
        · replace hC1 := ite_t hC1 hc2
          refine e_skip ?_
          refine q_seqn ?_
          refine e_seq ?_
          refine e_block ?_
          refine e_seq ?_
          obtain ⟨hg2, hC1⟩ := ite_some hC1
          refine e_region E_diff_Apply (by simp only [go_sem, List.toList_toArray, Nat.reduceEqDiff, reduceIte, reduceDIte, reduceCtorEq, Nat.reduceAdd, Nat.reduceLT, Nat.reduceLeDiff, decide_true, decide_false, Bool.and_self, Bool.or_self, Bool.or_false, Bool.false_or, Bool.and_true, Bool.true_and, Bool.not_true, Bool.not_false]; rfl) (by exact hg2) ?_
          refine q_seqn ?_
          refine e_seq ?_
          refine e_seq ?_
          refine e_region E_diff_Apply (by simp only [go_sem, List.toList_toArray, Nat.reduceEqDiff, reduceIte, reduceDIte, reduceCtorEq, Nat.reduceAdd, Nat.reduceLT, Nat.reduceLeDiff, decide_true, decide_false, Bool.and_self, Bool.or_self, Bool.or_false, Bool.false_or, Bool.and_true, Bool.true_and, Bool.not_true, Bool.not_false]; rfl) (by exact trivial) ?_
          refine q_seqn ?_
          obtain ⟨y2, hC2, hC1⟩ := thn_some hC1
          refine e_cutn (fun s => ∃ v, y2 = .inl v ∧ s = (fun x => ⟨[(0, (.val (.list .str) a_v1, none)), (6, (.val (.list .str) out_v51, some 0)), (7, (.val (.int .i64) x, none)), (9, (.val .ref (some (1, 0)), none)), (12, (.val (.list (.pair (.int .i64) (.pair .str .unit))) script_v2, none)), (13, (.val (.int .i64) (List.length script_v2 : Int), none)), (14, (.val (.int .i64) x_v53, none))], [(0, .grow 9 1 (List.length out_v51)), (1, .cells (.pair (.int .i64) (.pair .str .unit)) (nth (.pair (.int .i64) (.pair .str .unit)) script_v2 x_v53) [])], 2, 50, 0⟩) v) ?_ ?_
          · skip
            refine e_cond (by simp only [go_sem, List.toList_toArray, Nat.reduceEqDiff, reduceIte, reduceDIte, reduceCtorEq, Nat.reduceAdd, Nat.reduceLT, Nat.reduceLeDiff, decide_true, decide_false, Bool.and_self, Bool.or_self, Bool.or_false, Bool.false_or, Bool.and_true, Bool.true_and, Bool.not_true, Bool.not_false]; rfl) (fun hc3 => ?_) (fun hc3 => ?_)
            · replace hC2 := ite_t hC2 hc3
              refine e_seq ?_
              refine e_seq ?_
              obtain ⟨hg3, hC2⟩ := ite_some hC2
              refine e_drawn E_diff_Apply (by simp only [go_sem, List.toList_toArray, Nat.reduceEqDiff, reduceIte, reduceDIte, reduceCtorEq, Nat.reduceAdd, Nat.reduceLT, Nat.reduceLeDiff, decide_true, decide_false, Bool.and_self, Bool.or_self, Bool.or_false, Bool.false_or, Bool.and_true, Bool.true_and, Bool.not_true, Bool.not_false]; rfl) (by kernel_rfl) (by exact And.intro (fun hh => hh) (And.intro (fun hh => hh) (And.intro hg3 (And.intro (fun hh => hh) (And.intro (fun hh => hh) (And.intro (fun hh => hh) (And.intro (fun hh => hh) ((fun hh => beq_selfF hh))))))))) ?_
              refine q_seqn ?_
              refine e_cond (by simp only [go_sem, List.toList_toArray, Nat.reduceEqDiff, reduceIte, reduceDIte, reduceCtorEq, Nat.reduceAdd, Nat.reduceLT, Nat.reduceLeDiff, decide_true, decide_false, Bool.and_self, Bool.or_self, Bool.or_false, Bool.false_or, Bool.and_true, Bool.true_and, Bool.not_true, Bool.not_false]; rfl) (fun hc4 => ?_) (fun hc4 => ?_)
              · replace hC2 := ite_t hC2 hc4
                refine e_seq ?_
                refine e_region E_diff_Apply (by simp only [go_sem, List.toList_toArray, Nat.reduceEqDiff, reduceIte, reduceDIte, reduceCtorEq, Nat.reduceAdd, Nat.reduceLT, Nat.reduceLeDiff, decide_true, decide_false, Bool.and_self, Bool.or_self, Bool.or_false, Bool.false_or, Bool.and_true, Bool.true_and, Bool.not_true, Bool.not_false]; rfl) (by exact trivial) ?_
                refine q_seqn ?_
                refine e_ret ?_
                refine q_seqr ?_
                refine q_nr ?_
                refine q_seqr ?_
                refine q_blkr ?_
                refine q_seqr ?_
                refine q_Lr ?_
                refine q_xr ?_
                refine q_blkr ?_
                refine q_seqr ?_
                cases hC2
                dsimp only at hC1
                cases hC1
                cases hN1
                dsimp only at hC0
                cases hC0
                exact ⟨[(0, 337)], by rfl, by rfl, by rfl⟩
              · replace hC2 := ite_f hC2 hc4
                refine e_skip ?_
                refine q_seqn ?_
                obtain ⟨hg4, hC2⟩ := ite_some hC2
                refine e_region E_diff_Apply (by simp only [go_sem, List.toList_toArray, Nat.reduceEqDiff, reduceIte, reduceDIte, reduceCtorEq, Nat.reduceAdd, Nat.reduceLT, Nat.reduceLeDiff, decide_true, decide_false, Bool.and_self, Bool.or_self, Bool.or_false, Bool.false_or, Bool.and_true, Bool.true_and, Bool.not_true, Bool.not_false]; rfl) (by exact hg4) ?_
                cases hC2
                exact q_nn ⟨⟨[0, 6, 7, 9, 12, 13, 14], [(0, 0), (1, 49)]⟩, _, rfl, by rfl⟩
            · replace hC2 := ite_f hC2 hc3
              refine e_skip ?_
              cases hC2
              exact q_nn ⟨⟨[0, 6, 7, 9, 12, 13, 14], [(0, 0), (1, 49)]⟩, _, rfl, by rfl⟩
          · rintro _ ⟨i_v60, rfl, rfl⟩
            dsimp only at hC1 ⊢
            refine q_seqn ?_
            refine e_seq ?_
            refine e_region E_diff_Apply (by simp only [go_sem, List.toList_toArray, Nat.reduceEqDiff, reduceIte, reduceDIte, reduceCtorEq, Nat.reduceAdd, Nat.reduceLT, Nat.reduceLeDiff, decide_true, decide_false, Bool.and_self, Bool.or_self, Bool.or_false, Bool.false_or, Bool.and_true, Bool.true_and, Bool.not_true, Bool.not_false]; rfl) (by exact trivial) ?_
            refine q_seqn ?_
            refine e_cond (by simp only [go_sem, List.toList_toArray, Nat.reduceEqDiff, reduceIte, reduceDIte, reduceCtorEq, Nat.reduceAdd, Nat.reduceLT, Nat.reduceLeDiff, decide_true, decide_false, Bool.and_self, Bool.or_self, Bool.or_false, Bool.false_or, Bool.and_true, Bool.true_and, Bool.not_true, Bool.not_false]; rfl) (fun hc5 => ?_) (fun hc5 => ?_)
            · replace hC1 := ite_t hC1 hc5
              obtain ⟨hg5, hC1⟩ := ite_some hC1
              refine e_region E_diff_Apply (by simp only [go_sem, List.toList_toArray, Nat.reduceEqDiff, reduceIte, reduceDIte, reduceCtorEq, Nat.reduceAdd, Nat.reduceLT, Nat.reduceLeDiff, decide_true, decide_false, Bool.and_self, Bool.or_self, Bool.or_false, Bool.false_or, Bool.and_true, Bool.true_and, Bool.not_true, Bool.not_false]; rfl) (by exact And.intro (by first | exact rfl | exact trivial) (hg5)) ?_
              refine q_blkn ?_
              refine q_seqn ?_
              obtain ⟨hg6, hC1⟩ := ite_some hC1
              refine e_region E_diff_Apply (by simp only [go_sem, List.toList_toArray, Nat.reduceEqDiff, reduceIte, reduceDIte, reduceCtorEq, Nat.reduceAdd, Nat.reduceLT, Nat.reduceLeDiff, decide_true, decide_false, Bool.and_self, Bool.or_self, Bool.or_false, Bool.false_or, Bool.and_true, Bool.true_and, Bool.not_true, Bool.not_false]; rfl) (by exact hg6) ?_
              cases hC1
              exact q_Ln ⟨⟨[0, 6, 7, 12, 13, 14], [(0, 0)]⟩, _, by rfl, hN1⟩
            · replace hC1 := ite_f hC1 hc5
              refine e_skip ?_
              refine q_blkn ?_
              refine q_seqn ?_
              obtain ⟨hg7, hC1⟩ := ite_some hC1
              refine e_region E_diff_Apply (by simp only [go_sem, List.toList_toArray, Nat.reduceEqDiff, reduceIte, reduceDIte, reduceCtorEq, Nat.reduceAdd, Nat.reduceLT, Nat.reduceLeDiff, decide_true, decide_false, Bool.and_self, Bool.or_self, Bool.or_false, Bool.false_or, Bool.and_true, Bool.true_and, Bool.not_true, Bool.not_false]; rfl) (by exact hg7) ?_
              cases hC1
              exact q_Ln ⟨⟨[0, 6, 7, 12, 13, 14], [(0, 0)]⟩, _, by rfl, hN1⟩
        · replace hC1 := ite_f hC1 hc2
          refine e_exit ?_
          refine q_seqx ?_
          refine q_Lx ?_
          cases hC1
          cases hN1
          exact q_xx ⟨⟨[0, 6, 7], [(0, 0)]⟩, _, rfl, by rfl⟩
      · rintro _ ⟨v, rfl, rfl⟩
        obtain ⟨out_v58, i_v59⟩ := v
        dsimp only at hC0 ⊢
        refine q_blkx ?_
        refine q_seqn ?_
        refine e_seq ?_
        refine e_seq ?_
        refine e_region E_diff_Apply (by simp only [go_sem, List.toList_toArray, Nat.reduceEqDiff, reduceIte, reduceDIte, reduceCtorEq, Nat.reduceAdd, Nat.reduceLT, Nat.reduceLeDiff, decide_true, decide_false, Bool.and_self, Bool.or_self, Bool.or_false, Bool.false_or, Bool.and_true, Bool.true_and, Bool.not_true, Bool.not_false]; rfl) (by exact trivial) ?_
        refine q_seqn ?_
        refine e_cond (by simp only [go_sem, List.toList_toArray, Nat.reduceEqDiff, reduceIte, reduceDIte, reduceCtorEq, Nat.reduceAdd, Nat.reduceLT, Nat.reduceLeDiff, decide_true, decide_false, Bool.and_self, Bool.or_self, Bool.or_false, Bool.false_or, Bool.and_true, Bool.true_and, Bool.not_true, Bool.not_false]; rfl) (fun hc6 => ?_) (fun hc6 => ?_)
        · replace hC0 := ite_t hC0 hc6
          refine e_seq ?_
          refine e_region E_diff_Apply (by simp only [go_sem, List.toList_toArray, Nat.reduceEqDiff, reduceIte, reduceDIte, reduceCtorEq, Nat.reduceAdd, Nat.reduceLT, Nat.reduceLeDiff, decide_true, decide_false, Bool.and_self, Bool.or_self, Bool.or_false, Bool.false_or, Bool.and_true, Bool.true_and, Bool.not_true, Bool.not_false]; rfl) (by exact trivial) ?_
          refine q_seqn ?_
          refine e_ret ?_
          refine q_seqr ?_
          cases hC0
          exact ⟨[(0, 65)], by rfl, by rfl, by rfl⟩
        · replace hC0 := ite_f hC0 hc6
          refine e_skip ?_
          refine q_seqn ?_
          refine e_seq ?_
          refine e_region E_diff_Apply (by simp only [go_sem, List.toList_toArray, Nat.reduceEqDiff, reduceIte, reduceDIte, reduceCtorEq, Nat.reduceAdd, Nat.reduceLT, Nat.reduceLeDiff, decide_true, decide_false, Bool.and_self, Bool.or_self, Bool.or_false, Bool.false_or, Bool.and_true, Bool.true_and, Bool.not_true, Bool.not_false]; rfl) (by exact trivial) ?_
          refine q_seqn ?_
          refine e_ret ?_
          cases hC0
          exact ⟨[(0, 0)], by rfl, by rfl, by rfl⟩
  · cases hC

attribute [irreducible] diff_Apply


noncomputable def l05_same_step1 (a_v1 : (List (Int × ((List UInt8) × Unit)))) (b_v2 : (List (Int × ((List UInt8) × Unit)))) : Int → Option (Int ⊕ (Unit ⊕ Bool)) := fun i_v7 =>
  if (decide (i_v7 < (List.length a_v1 : Int))) = true then
    if 0 ≤ i_v7 ∧ i_v7 < (List.length a_v1 : Int) then
      if 0 ≤ i_v7 ∧ i_v7 < (List.length b_v2 : Int) then
        if (!((decide ((nth (.pair (.int .i64) (.pair .str .unit)) a_v1 i_v7).1 = (nth (.pair (.int .i64) (.pair .str .unit)) b_v2 i_v7).1)) && (decide ((nth (.pair (.int .i64) (.pair .str .unit)) a_v1 i_v7).2.1 = (nth (.pair (.int .i64) (.pair .str .unit)) b_v2 i_v7).2.1)))) = true then
          some (.inr (.inr (false)))
        else
          if -9223372036854775808 ≤ (i_v7 + (1 : Int)) ∧ (i_v7 + (1 : Int)) ≤ 9223372036854775807 then
            some (.inl (i_v7 + (1 : Int)))
          else none
      else none
    else none
  else
    some (.inr (.inl ()))

noncomputable def l05_same (a_v1 : (List (Int × ((List UInt8) × Unit)))) (b_v2 : (List (Int × ((List UInt8) × Unit)))) : Option Bool :=
  if (!decide ((List.length a_v1 : Int) = (List.length b_v2 : Int))) = true then
    some (false)
  else
    thn (loopM (l05_same_step1 a_v1 b_v2) (0 : Int)) fun _ =>
    some (true)

@[go_sem] noncomputable def l05_sameC : List Slot → List Blk → Option Ret
  | [(.val (.list (.pair (.int .i64) (.pair .str .unit))) a_v1, none), (.val (.list (.pair (.int .i64) (.pair .str .unit))) b_v2, none)], [] => some ⟨[((l05_same a_v1 b_v2)).isSome = true], [(.val .bool (val (l05_same a_v1 b_v2)), none)], []⟩
  | _, _ => none

@[go_sem] def G_l05_same : Ctx := fun _ => none
@[go_sem] def T_l05_same : Types := [(35, ⟨(.list (.pair (.int .i64) (.pair .str .unit))), 56, 24, false⟩), (40, ⟨(.list (.pair (.int .i64) (.pair .str .unit))), 58, 24, false⟩), (56, ⟨(.pair (.int .i64) (.pair .str .unit)), 0, 1, false⟩), (58, ⟨(.pair (.int .i64) (.pair .str .unit)), 0, 1, false⟩)]
theorem K_l05_same : CtxOk Try.prog G_l05_same := by
  intro f s h
  cases h
theorem E_l05_same : Env Try.prog T_l05_same G_l05_same := ⟨⟨ty_Lcalqueref05_Edit, ⟨ty_Ldiff_Edit, ⟨ty_calque_calqueref05_Edit, ⟨ty_calque_diff_Edit, trivial⟩⟩⟩⟩, K_l05_same, by kernel_rfl⟩

set_option maxRecDepth 100000 in
set_option maxHeartbeats 4000000 in
theorem l05_same_con : ConOk Try.prog 21 l05_sameC := by
  refine con_okR E_l05_same.T Try.func21 (c := _) rfl (N := 26) (by kernel_rfl) (ts := [(4, none)]) (fun _ _ => rfl) rfl ?_
  intro args L r hC hs
  unfold l05_sameC at hC
  split at hC
  · rename_i a_v1 b_v2; cases hC
    obtain ⟨z0, hC0⟩ := Option.isSome_iff_exists.1 (show ((l05_same a_v1 b_v2)).isSome = true from hs _ (by simp))
    try rw [val_eq hC0]
    clear hs
    unfold l05_same at hC0
    refine ⟨by simp only [List.length_cons, List.length_nil]; omega, by repeat (first | exact trivial | refine And.intro rfl ?_), by repeat (first | exact trivial | refine And.intro rfl ?_), ?_⟩
    simp only [enumE, enumH, lenB, Nat.reduceAdd]
    refine e_seq ?_
    refine e_region E_l05_same (by simp only [go_sem, List.toList_toArray, Nat.reduceEqDiff, reduceIte, reduceDIte, reduceCtorEq, Nat.reduceAdd, Nat.reduceLT, Nat.reduceLeDiff, decide_true, decide_false, Bool.and_self, Bool.or_self, Bool.or_false, Bool.false_or, Bool.and_true, Bool.true_and, Bool.not_true, Bool.not_false]; rfl) (by exact trivial) ?_
    refine q_seqn ?_
    refine e_seq ?_
    refine e_seq ?_
    refine e_region E_l05_same (by simp only [go_sem, List.toList_toArray, Nat.reduceEqDiff, reduceIte, reduceDIte, reduceCtorEq, Nat.reduceAdd, Nat.reduceLT, Nat.reduceLeDiff, decide_true, decide_false, Bool.and_self, Bool.or_self, Bool.or_false, Bool.false_or, Bool.and_true, Bool.true_and, Bool.not_true, Bool.not_false]; rfl) (by exact trivial) ?_
    refine q_seqn ?_
    refine e_cond (by simp only [go_sem, List.toList_toArray, Nat.reduceEqDiff, reduceIte, reduceDIte, reduceCtorEq, Nat.reduceAdd, Nat.reduceLT, Nat.reduceLeDiff, decide_true, decide_false, Bool.and_self, Bool.or_self, Bool.or_false, Bool.false_or, Bool.and_true, Bool.true_and, Bool.not_true, Bool.not_false]; rfl) (fun hc1 => ?_) (fun hc1 => ?_)
    · replace hC0 := ite_t hC0 hc1
      refine e_seq ?_
      refine e_region E_l05_same (by simp only [go_sem, List.toList_toArray, Nat.reduceEqDiff, reduceIte, reduceDIte, reduceCtorEq, Nat.reduceAdd, Nat.reduceLT, Nat.reduceLeDiff, decide_true, decide_false, Bool.and_self, Bool.or_self, Bool.or_false, Bool.false_or, Bool.and_true, Bool.true_and, Bool.not_true, Bool.not_false]; rfl) (by exact trivial) ?_
      refine q_seqn ?_
      refine e_ret ?_
      refine q_seqr ?_
      cases hC0
      exact ⟨[], by rfl, by rfl, by rfl⟩
    · replace hC0 := ite_f hC0 hc1
      refine e_skip ?_
      refine q_seqn ?_
      refine e_seq ?_
      refine e_seq ?_
      refine e_region E_l05_same (by simp only [go_sem, List.toList_toArray, Nat.reduceEqDiff, reduceIte, reduceDIte, reduceCtorEq, Nat.reduceAdd, Nat.reduceLT, Nat.reduceLeDiff, decide_true, decide_false, Bool.and_self, Bool.or_self, Bool.or_false, Bool.false_or, Bool.and_true, Bool.true_and, Bool.not_true, Bool.not_false]; rfl) (by exact trivial) ?_
      refine q_seqn ?_
      refine e_block ?_
      obtain ⟨y1, hy1, hC0⟩ := thn_some hC0
      refine e_cutx 0 (fun s => ∃ v, y1 = .inl v ∧ s = (fun _ => ⟨[], [], 0, 26, 0⟩) v) ?_ ?_
      · skip
        refine e_loopM hy1 (fun x => ⟨[(0, (.val (.list (.pair (.int .i64) (.pair .str .unit))) a_v1, none)), (1, (.val (.list (.pair (.int .i64) (.pair .str .unit))) b_v2, none)), (5, (.val (.int .i64) x, none))], [], 0, 26, 0⟩) ⟨[0, 1, 5], []⟩ (by rfl) ?_
        intro i_v7 w1 n1 hC1 hN1
        unfold l05_same_step1 at hC1
        dsimp only at hC1 ⊢
        refine e_seq ?_
        refine e_seq ?_
        refine e_region E_l05_same (by simp only [go_sem, List.toList_toArray, Nat.reduceEqDiff, reduceIte, reduceDIte, reduceCtorEq, Nat.reduceAdd, Nat.reduceLT, Nat.reduceLeDiff, decide_true, decide_false, Bool.and_self, Bool.or_self, Bool.or_false, Bool.false_or, Bool.and_true, Bool.true_and, Bool.not_true, Bool.not_false]; rfl) (by exact trivial) ?_
        refine q_seqn ?_
        refine e_cond (by simp only [go_sem, List.toList_toArray, Nat.reduceEqDiff, reduceIte, reduceDIte, reduceCtorEq, Nat.reduceAdd, Nat.reduceLT, Nat.reduceLeDiff, decide_true, decide_false, Bool.and_self, Bool.or_self, Bool.or_false, Bool.false_or, Bool.and_true, Bool.true_and, Bool.not_true, Bool.not_false]; rfl) (fun hc2 => ?_) (fun hc2 => ?_)
        · replace hC1 := ite_t hC1 hc2
          refine e_skip ?_
          refine q_seqn ?_
          refine e_seq ?_
          refine e_block ?_
          refine e_seq ?_
          obtain ⟨hg1, hC1⟩ := ite_some hC1
          obtain ⟨hg2, hC1⟩ := ite_some hC1
          refine e_drawn E_l05_same (by simp only [go_sem, List.toList_toArray, Nat.reduceEqDiff, reduceIte, reduceDIte, reduceCtorEq, Nat.reduceAdd, Nat.reduceLT, Nat.reduceLeDiff, decide_true, decide_false, Bool.and_self, Bool.or_self, Bool.or_false, Bool.false_or, Bool.and_true, Bool.true_and, Bool.not_true, Bool.not_false]; rfl) (by kernel_rfl) (by exact And.intro hg1 (hg2)) ?_
          refine q_seqn ?_
          refine e_cond (by simp only [go_sem, List.toList_toArray, Nat.reduceEqDiff, reduceIte, reduceDIte, reduceCtorEq, Nat.reduceAdd, Nat.reduceLT, Nat.reduceLeDiff, decide_true, decide_false, Bool.and_self, Bool.or_self, Bool.or_false, Bool.false_or, Bool.and_true, Bool.true_and, Bool.not_true, Bool.not_false]; rfl) (fun hc3 => ?_) (fun hc3 => ?_)
          · replace hC1 := ite_t hC1 hc3
            refine e_seq ?_
            refine e_region E_l05_same (by simp only [go_sem, List.toList_toArray, Nat.reduceEqDiff, reduceIte, reduceDIte, reduceCtorEq, Nat.reduceAdd, Nat.reduceLT, Nat.reduceLeDiff, decide_true, decide_false, Bool.and_self, Bool.or_self, Bool.or_false, Bool.false_or, Bool.and_true, Bool.true_and, Bool.not_true, Bool.not_false]; rfl) (by exact trivial) ?_
            refine q_seqn ?_
            refine e_ret ?_
            refine q_blkr ?_
            refine q_seqr ?_
            refine q_Lr ?_
            refine q_xr ?_
            refine q_blkr ?_
            refine q_seqr ?_
            cases hC1
            cases hN1
            dsimp only at hC0
            cases hC0
            exact ⟨[], by rfl, by rfl, by rfl⟩
          · replace hC1 := ite_f hC1 hc3
            refine e_skip ?_
            refine q_blkn ?_
            refine q_seqn ?_
            obtain ⟨hg3, hC1⟩ := ite_some hC1
            refine e_region E_l05_same (by simp only [go_sem, List.toList_toArray, Nat.reduceEqDiff, reduceIte, reduceDIte, reduceCtorEq, Nat.reduceAdd, Nat.reduceLT, Nat.reduceLeDiff, decide_true, decide_false, Bool.and_self, Bool.or_self, Bool.or_false, Bool.false_or, Bool.and_true, Bool.true_and, Bool.not_true, Bool.not_false]; rfl) (by exact hg3) ?_
            cases hC1
            exact q_Ln ⟨⟨[0, 1, 5], []⟩, _, by rfl, hN1⟩
        · replace hC1 := ite_f hC1 hc2
          refine e_exit ?_
          refine q_seqx ?_
          refine q_Lx ?_
          cases hC1
          cases hN1
          exact q_xx ⟨⟨[], []⟩, _, rfl, by rfl⟩
      · rintro _ ⟨v, rfl, rfl⟩
        dsimp only at hC0 ⊢
        refine q_blkx ?_
        refine q_seqn ?_
        refine e_seq ?_
        refine e_region E_l05_same (by simp only [go_sem, List.toList_toArray, Nat.reduceEqDiff, reduceIte, reduceDIte, reduceCtorEq, Nat.reduceAdd, Nat.reduceLT, Nat.reduceLeDiff, decide_true, decide_false, Bool.and_self, Bool.or_self, Bool.or_false, Bool.false_or, Bool.and_true, Bool.true_and, Bool.not_true, Bool.not_false]; rfl) (by exact trivial) ?_
        refine q_seqn ?_
        refine e_ret ?_
        cases hC0
        exact ⟨[], by rfl, by rfl, by rfl⟩
  · cases hC

attribute [irreducible] l05_same

end Go.Proofs.Ytfcibaiiobihnaa
