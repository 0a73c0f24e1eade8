/- PLAIN FORMS of the program's functions, and that the code computes them. -/
import Derived.Test.YtfcibaiiobihnaaEty
import Derived.Test.YtfcibaiiobihnaaVt
import Derived.KernelRfl
namespace Go.Proofs.Ytfcibaiiobihnaa
open Vc
set_option linter.unusedSimpArgs false
set_option linter.unusedVariables false


noncomputable def diff_ScriptF1_step1 (to_v1 : (Int × (Int × Unit))) (p3_v5 : (List (List UInt8))) : (Int × (List (Int × ((List UInt8) × Unit)))) → Option ((Int × (List (Int × ((List UInt8) × Unit)))) ⊕ (Int × (List (Int × ((List UInt8) × Unit))))) := fun (p1_v42, p2_v43) =>
  if (decide (p1_v42 < to_v1.1)) = true then
    if 0 ≤ p1_v42 ∧ p1_v42 < (List.length p3_v5 : Int) then
      if (List.length p2_v43 + List.length ([((2 : Int), ((nth .str p3_v5 p1_v42), ()))] : List (Int × ((List UInt8) × Unit)))) * 24 ≤ 140737488355328 then
        if -9223372036854775808 ≤ (p1_v42 + (1 : Int)) ∧ (p1_v42 + (1 : Int)) ≤ 9223372036854775807 then
          some (.inl ((p1_v42 + (1 : Int)), (p2_v43 ++ ([((2 : Int), ((nth .str p3_v5 p1_v42), ()))] : List (Int × ((List UInt8) × Unit))))))
        else none
      else none
    else none
  else
    some (.inr (p1_v42, p2_v43))

noncomputable def diff_ScriptF1_step2 (to_v1 : (Int × (Int × Unit))) (p5_v7 : (List (List UInt8))) : ((List (Int × ((List UInt8) × Unit))) × Int) → Option (((List (Int × ((List UInt8) × Unit))) × Int) ⊕ ((List (Int × ((List UInt8) × Unit))) × Int)) := fun (p2_v50, p4_v51) =>
  if (decide (p4_v51 < to_v1.2.1)) = true then
    if 0 ≤ p4_v51 ∧ p4_v51 < (List.length p5_v7 : Int) then
      if (List.length p2_v50 + List.length ([((3 : Int), ((nth .str p5_v7 p4_v51), ()))] : List (Int × ((List UInt8) × Unit)))) * 24 ≤ 140737488355328 then
        if -9223372036854775808 ≤ (p4_v51 + (1 : Int)) ∧ (p4_v51 + (1 : Int)) ≤ 9223372036854775807 then
          some (.inl ((p2_v50 ++ ([((3 : Int), ((nth .str p5_v7 p4_v51), ()))] : List (Int × ((List UInt8) × Unit)))), (p4_v51 + (1 : Int))))
        else none
      else none
    else none
  else
    some (.inr (p2_v50, p4_v51))

noncomputable def diff_ScriptF1 (to_v1 : (Int × (Int × Unit))) (p1_v2 : Int) (p2_v3 : (List (Int × ((List UInt8) × Unit)))) (p3_v5 : (List (List UInt8))) (p4_v6 : Int) (p5_v7 : (List (List UInt8))) : Option (Int × (List (Int × ((List UInt8) × Unit))) × Int) :=
  bnd (loopM (diff_ScriptF1_step1 to_v1 p3_v5) (p1_v2, p2_v3)) fun (p1_v46, p2_v47) =>
  bnd (loopM (diff_ScriptF1_step2 to_v1 p5_v7) (p2_v47, p4_v6)) fun (p2_v54, p4_v55) =>
  some ((p1_v46, p2_v54, p4_v55))

@[go_sem] noncomputable def diff_ScriptF1C : List Slot → List Blk → Option Ret
  | [(.val (.pair (.int .i64) (.pair (.int .i64) .unit)) to_v1, none), (.val .ref (some (0, 0)), none), (.val .ref (some (1, 0)), none), (.val .ref (some (3, 0)), none), (.val .ref (some (4, 0)), none), (.val .ref (some (5, 0)), none)], [.cells (.int .i64) p1_v2 [], .cells (.list (.pair (.int .i64) (.pair .str .unit))) p2_v3 [(0, 2)], .grow 58 2 n_v4, .cells (.list .str) p3_v5 [], .cells (.int .i64) p4_v6 [], .cells (.list .str) p5_v7 []] => some ⟨[n_v4 = (List.length p2_v3), ((diff_ScriptF1 to_v1 p1_v2 p2_v3 p3_v5 p4_v6 p5_v7)).isSome = true], [], [.cells (.int .i64) ((val (diff_ScriptF1 to_v1 p1_v2 p2_v3 p3_v5 p4_v6 p5_v7)).1) [], .cells (.list (.pair (.int .i64) (.pair .str .unit))) ((val (diff_ScriptF1 to_v1 p1_v2 p2_v3 p3_v5 p4_v6 p5_v7)).2.1) [(0, 2)], .grow 58 2 (List.length ((val (diff_ScriptF1 to_v1 p1_v2 p2_v3 p3_v5 p4_v6 p5_v7)).2.1)), .cells (.list .str) p3_v5 [], .cells (.int .i64) ((val (diff_ScriptF1 to_v1 p1_v2 p2_v3 p3_v5 p4_v6 p5_v7)).2.2) [], .cells (.list .str) p5_v7 []]⟩
  | _, _ => none

@[go_sem] def G_diff_ScriptF1 : Ctx := fun _ => none
@[go_sem] def T_diff_ScriptF1 : Types := [(3, ⟨(.int .i64), 0, 0, false⟩), (9, ⟨.str, 0, 0, false⟩), (22, ⟨(.list .str), 9, 16, false⟩), (28, ⟨(.pair (.int .i64) (.pair (.int .i64) .unit)), 0, 1, true⟩), (40, ⟨(.list (.pair (.int .i64) (.pair .str .unit))), 58, 24, false⟩), (58, ⟨(.pair (.int .i64) (.pair .str .unit)), 0, 1, false⟩)]
theorem K_diff_ScriptF1 : CtxOk Try.prog G_diff_ScriptF1 := by
  intro f s h
  cases h
theorem E_diff_ScriptF1 : Env Try.prog T_diff_ScriptF1 G_diff_ScriptF1 := ⟨⟨ty_int, ⟨ty_string, ⟨ty_Lstring, ⟨ty_2_int, ⟨ty_Ldiff_Edit, ⟨ty_calque_diff_Edit, trivial⟩⟩⟩⟩⟩⟩, K_diff_ScriptF1, by kernel_rfl⟩

set_option maxRecDepth 100000 in
set_option maxHeartbeats 4000000 in
theorem diff_ScriptF1_con : ConOk Try.prog 31 diff_ScriptF1C := by
  refine con_okR E_diff_ScriptF1.T Try.func31 (c := _) rfl (N := 35) (by kernel_rfl) (ts := []) (fun _ _ => rfl) rfl ?_
  intro args L r hC hs
  unfold diff_ScriptF1C at hC
  split at hC
  · rename_i to_v1 p1_v2 p2_v3 n_v4 p3_v5 p4_v6 p5_v7; cases hC
    obtain rfl : n_v4 = (List.length p2_v3) := hs _ (by simp)
    obtain ⟨z0, hC0⟩ := Option.isSome_iff_exists.1 (show ((diff_ScriptF1 to_v1 p1_v2 p2_v3 p3_v5 p4_v6 p5_v7)).isSome = true from hs _ (by simp))
    try rw [val_eq hC0]
    clear hs
    unfold diff_ScriptF1 at hC0
    refine ⟨by simp only [List.length_cons, List.length_nil]; omega, by repeat (first | exact trivial | refine And.intro rfl ?_), by repeat (first | exact trivial | refine And.intro rfl ?_), ?_⟩
    simp only [enumE, enumH, lenB, Nat.reduceAdd]
    refine e_seq ?_
    refine e_region E_diff_ScriptF1 (by simp only [go_sem, List.toList_toArray, Nat.reduceEqDiff, reduceIte, reduceDIte, reduceCtorEq, Nat.reduceAdd, Nat.reduceLT, Nat.reduceLeDiff, decide_true, decide_false, Bool.and_self, Bool.or_self, Bool.or_false, Bool.false_or, Bool.and_true, Bool.true_and, Bool.not_true, Bool.not_false]; rfl) (by exact trivial) ?_
    refine q_seqn ?_
    refine e_seq ?_
    refine e_block ?_
    obtain ⟨y1, hy1, hC0⟩ := bind_some hC0
    refine e_cutx 0 (fun s => s = (fun x => ⟨[(2, (.val .ref (some (1, 0)), none)), (4, (.val .ref (some (4, 0)), none)), (5, (.val .ref (some (5, 0)), none)), (6, (.val .ref (some (6, 0)), none))], [(0, .cells (.int .i64) x.1 []), (1, .cells (.list (.pair (.int .i64) (.pair .str .unit))) x.2 [(0, 2)]), (2, .grow 58 2 (List.length x.2)), (3, .cells (.list .str) p3_v5 []), (4, .cells (.int .i64) p4_v6 []), (5, .cells (.list .str) p5_v7 []), (6, .cells (.pair (.int .i64) (.pair (.int .i64) .unit)) to_v1 [])], 7, 35, 6⟩) y1) ?_ ?_
    · skip
      refine e_loopM hy1 (fun x => ⟨[(1, (.val .ref (some (0, 0)), none)), (2, (.val .ref (some (1, 0)), none)), (3, (.val .ref (some (3, 0)), none)), (4, (.val .ref (some (4, 0)), none)), (5, (.val .ref (some (5, 0)), none)), (6, (.val .ref (some (6, 0)), none))], [(0, .cells (.int .i64) x.1 []), (1, .cells (.list (.pair (.int .i64) (.pair .str .unit))) x.2 [(0, 2)]), (2, .grow 58 2 (List.length x.2)), (3, .cells (.list .str) p3_v5 []), (4, .cells (.int .i64) p4_v6 []), (5, .cells (.list .str) p5_v7 []), (6, .cells (.pair (.int .i64) (.pair (.int .i64) .unit)) to_v1 [])], 7, 35, 6⟩) ⟨[1, 2, 3, 4, 5, 6], [(0, 0), (1, 1), (2, 2), (3, 3), (4, 4), (5, 5), (6, 6)]⟩ (by rfl) ?_
      intro x1 w1 n1 hC1 hN1
      obtain ⟨p1_v42, p2_v43⟩ := x1
      unfold diff_ScriptF1_step1 at hC1
      dsimp only at hC1 ⊢
      refine e_seq ?_
      refine e_seq ?_
      refine e_region E_diff_ScriptF1 (by simp only [go_sem, List.toList_toArray, Nat.reduceEqDiff, reduceIte, reduceDIte, reduceCtorEq, Nat.reduceAdd, Nat.reduceLT, Nat.reduceLeDiff, decide_true, decide_false, Bool.and_self, Bool.or_self, Bool.or_false, Bool.false_or, Bool.and_true, Bool.true_and, Bool.not_true, Bool.not_false]; rfl) (by exact (show (0 : Int) ≤ (0 : Int) from by decide)) ?_
      refine q_seqn ?_
      refine e_cond (by simp only [go_sem, List.toList_toArray, Nat.reduceEqDiff, reduceIte, reduceDIte, reduceCtorEq, Nat.reduceAdd, Nat.reduceLT, Nat.reduceLeDiff, decide_true, decide_false, Bool.and_self, Bool.or_self, Bool.or_false, Bool.false_or, Bool.and_true, Bool.true_and, Bool.not_true, Bool.not_false]; rfl) (fun hc1 => ?_) (fun hc1 => ?_)
      · replace hC1 := ite_t hC1 hc1
        refine e_skip ?_
        refine q_seqn ?_
        refine e_seq ?_
        refine e_block ?_
        obtain ⟨hg1, hC1⟩ := ite_some hC1
        obtain ⟨hg2, hC1⟩ := ite_some hC1
        refine e_drawn E_diff_ScriptF1 (by simp only [go_sem, List.toList_toArray, Nat.reduceEqDiff, reduceIte, reduceDIte, reduceCtorEq, Nat.reduceAdd, Nat.reduceLT, Nat.reduceLeDiff, decide_true, decide_false, Bool.and_self, Bool.or_self, Bool.or_false, Bool.false_or, Bool.and_true, Bool.true_and, Bool.not_true, Bool.not_false]; rfl) (by kernel_rfl) (by exact And.intro hg1 (And.intro (by first | exact rfl | exact trivial) (hg2))) ?_
        refine q_blkn ?_
        refine q_seqn ?_
        obtain ⟨hg3, hC1⟩ := ite_some hC1
        refine e_region E_diff_ScriptF1 (by simp only [go_sem, List.toList_toArray, Nat.reduceEqDiff, reduceIte, reduceDIte, reduceCtorEq, Nat.reduceAdd, Nat.reduceLT, Nat.reduceLeDiff, decide_true, decide_false, Bool.and_self, Bool.or_self, Bool.or_false, Bool.false_or, Bool.and_true, Bool.true_and, Bool.not_true, Bool.not_false]; rfl) (by exact hg3) ?_
        cases hC1
        exact q_Ln ⟨⟨[1, 2, 3, 4, 5, 6], [(0, 0), (1, 1), (2, 2), (3, 3), (4, 4), (5, 5), (6, 6)]⟩, _, by rfl, hN1⟩
      · replace hC1 := ite_f hC1 hc1
        refine e_exit ?_
        refine q_seqx ?_
        refine q_Lx ?_
        cases hC1
        cases hN1
        exact q_xx ⟨⟨[2, 4, 5, 6], [(0, 0), (1, 1), (2, 2), (3, 3), (4, 4), (5, 5), (6, 6)]⟩, by rfl⟩
    · rintro _ rfl
      obtain ⟨p1_v46, p2_v47⟩ := y1
      dsimp only at hC0 ⊢
      refine q_blkx ?_
      refine q_seqn ?_
      refine e_block ?_
      obtain ⟨y1, hy1, hC0⟩ := bind_some hC0
      refine e_cutx 2 (fun s => s = (fun x => ⟨[], [(0, .cells (.int .i64) p1_v46 []), (1, .cells (.list (.pair (.int .i64) (.pair .str .unit))) x.1 [(0, 2)]), (2, .grow 58 2 (List.length x.1)), (3, .cells (.list .str) p3_v5 []), (4, .cells (.int .i64) x.2 []), (5, .cells (.list .str) p5_v7 [])], 6, 35, 6⟩) y1) ?_ ?_
      · skip
        refine e_loopM hy1 (fun x => ⟨[(2, (.val .ref (some (1, 0)), none)), (4, (.val .ref (some (4, 0)), none)), (5, (.val .ref (some (5, 0)), none)), (6, (.val .ref (some (6, 0)), none))], [(0, .cells (.int .i64) p1_v46 []), (1, .cells (.list (.pair (.int .i64) (.pair .str .unit))) x.1 [(0, 2)]), (2, .grow 58 2 (List.length x.1)), (3, .cells (.list .str) p3_v5 []), (4, .cells (.int .i64) x.2 []), (5, .cells (.list .str) p5_v7 []), (6, .cells (.pair (.int .i64) (.pair (.int .i64) .unit)) to_v1 [])], 7, 35, 6⟩) ⟨[2, 4, 5, 6], [(0, 0), (1, 1), (2, 2), (3, 3), (4, 4), (5, 5), (6, 6)]⟩ (by rfl) ?_
        intro x1 w1 n1 hC1 hN1
        obtain ⟨p2_v50, p4_v51⟩ := x1
        unfold diff_ScriptF1_step2 at hC1
        dsimp only at hC1 ⊢
        refine e_seq ?_
        refine e_seq ?_
        refine e_region E_diff_ScriptF1 (by simp only [go_sem, List.toList_toArray, Nat.reduceEqDiff, reduceIte, reduceDIte, reduceCtorEq, Nat.reduceAdd, Nat.reduceLT, Nat.reduceLeDiff, decide_true, decide_false, Bool.and_self, Bool.or_self, Bool.or_false, Bool.false_or, Bool.and_true, Bool.true_and, Bool.not_true, Bool.not_false]; rfl) (by exact (show (0 : Int) ≤ (1 : Int) from by decide)) ?_
        refine q_seqn ?_
        refine e_cond (by simp only [go_sem, List.toList_toArray, Nat.reduceEqDiff, reduceIte, reduceDIte, reduceCtorEq, Nat.reduceAdd, Nat.reduceLT, Nat.reduceLeDiff, decide_true, decide_false, Bool.and_self, Bool.or_self, Bool.or_false, Bool.false_or, Bool.and_true, Bool.true_and, Bool.not_true, Bool.not_false]; rfl) (fun hc2 => ?_) (fun hc2 => ?_)
        · replace hC1 := ite_t hC1 hc2
          refine e_skip ?_
          refine q_seqn ?_
          refine e_seq ?_
          refine e_block ?_
          obtain ⟨hg4, hC1⟩ := ite_some hC1
          obtain ⟨hg5, hC1⟩ := ite_some hC1
          refine e_drawn E_diff_ScriptF1 (by simp only [go_sem, List.toList_toArray, Nat.reduceEqDiff, reduceIte, reduceDIte, reduceCtorEq, Nat.reduceAdd, Nat.reduceLT, Nat.reduceLeDiff, decide_true, decide_false, Bool.and_self, Bool.or_self, Bool.or_false, Bool.false_or, Bool.and_true, Bool.true_and, Bool.not_true, Bool.not_false]; rfl) (by kernel_rfl) (by exact And.intro hg4 (And.intro (by first | exact rfl | exact trivial) (hg5))) ?_
          refine q_blkn ?_
          refine q_seqn ?_
          obtain ⟨hg6, hC1⟩ := ite_some hC1
          refine e_region E_diff_ScriptF1 (by simp only [go_sem, List.toList_toArray, Nat.reduceEqDiff, reduceIte, reduceDIte, reduceCtorEq, Nat.reduceAdd, Nat.reduceLT, Nat.reduceLeDiff, decide_true, decide_false, Bool.and_self, Bool.or_self, Bool.or_false, Bool.false_or, Bool.and_true, Bool.true_and, Bool.not_true, Bool.not_false]; rfl) (by exact hg6) ?_
          cases hC1
          exact q_Ln ⟨⟨[2, 4, 5, 6], [(0, 0), (1, 1), (2, 2), (3, 3), (4, 4), (5, 5), (6, 6)]⟩, _, by rfl, hN1⟩
        · replace hC1 := ite_f hC1 hc2
          refine e_exit ?_
          refine q_seqx ?_
          refine q_Lx ?_
          cases hC1
          cases hN1
          exact q_xx ⟨⟨[], [(0, 0), (1, 1), (2, 2), (3, 3), (4, 4), (5, 5)]⟩, by rfl⟩
      · rintro _ rfl
        obtain ⟨p2_v54, p4_v55⟩ := y1
        dsimp only at hC0 ⊢
        refine q_blkx ?_
        cases hC0
        exact ⟨[(0, 0), (1, 1), (2, 2), (3, 3), (4, 4), (5, 5)], by rfl, by rfl, by rfl⟩
  · cases hC

attribute [irreducible] diff_ScriptF1


noncomputable def r05_Reverse_step1 (script_v1 : (List (Int × ((List UInt8) × Unit)))) : ((List (Int × ((List UInt8) × Unit))) × Int) → Option (((List (Int × ((List UInt8) × Unit))) × Int) ⊕ (List (Int × ((List UInt8) × Unit)))) := fun (out_v11, i_v12) =>
  if (decide (i_v12 < (List.length script_v1 : Int))) = true then
    if 0 ≤ i_v12 ∧ i_v12 < (List.length script_v1 : Int) then
      if 0 ≤ i_v12 ∧ i_v12 < (List.length script_v1 : Int) then
        if (decide ((nth (.pair (.int .i64) (.pair .str .unit)) script_v1 i_v12).1 = (2 : Int))) = true then
          if (List.length out_v11 + List.length ([((3 : Int), (nth (.pair (.int .i64) (.pair .str .unit)) script_v1 i_v12).2)] : List (Int × ((List UInt8) × Unit)))) * 24 ≤ 140737488355328 then
            if -9223372036854775808 ≤ (i_v12 + (1 : Int)) ∧ (i_v12 + (1 : Int)) ≤ 9223372036854775807 then
              some (.inl ((out_v11 ++ ([((3 : Int), (nth (.pair (.int .i64) (.pair .str .unit)) script_v1 i_v12).2)] : List (Int × ((List UInt8) × Unit)))), (i_v12 + (1 : Int))))
            else none
          else none
        else
          if (decide ((nth (.pair (.int .i64) (.pair .str .unit)) script_v1 i_v12).1 = (3 : Int))) = true then
            if (List.length out_v11 + List.length ([((2 : Int), (nth (.pair (.int .i64) (.pair .str .unit)) script_v1 i_v12).2)] : List (Int × ((List UInt8) × Unit)))) * 24 ≤ 140737488355328 then
              if -9223372036854775808 ≤ (i_v12 + (1 : Int)) ∧ (i_v12 + (1 : Int)) ≤ 9223372036854775807 then
                some (.inl ((out_v11 ++ ([((2 : Int), (nth (.pair (.int .i64) (.pair .str .unit)) script_v1 i_v12).2)] : List (Int × ((List UInt8) × Unit)))), (i_v12 + (1 : Int))))
              else none
            else none
          else
            if (List.length out_v11 + List.length ([(nth (.pair (.int .i64) (.pair .str .unit)) script_v1 i_v12)] : List (Int × ((List UInt8) × Unit)))) * 24 ≤ 140737488355328 then
              if -9223372036854775808 ≤ (i_v12 + (1 : Int)) ∧ (i_v12 + (1 : Int)) ≤ 9223372036854775807 then
                some (.inl ((out_v11 ++ ([(nth (.pair (.int .i64) (.pair .str .unit)) script_v1 i_v12)] : List (Int × ((List UInt8) × Unit)))), (i_v12 + (1 : Int))))
              else none
            else none
      else none
    else none
  else
    some (.inr out_v11)

noncomputable def r05_Reverse (script_v1 : (List (Int × ((List UInt8) × Unit)))) : Option (List (Int × ((List UInt8) × Unit))) :=
  bnd (loopM (r05_Reverse_step1 script_v1) (([] : List (Int × ((List UInt8) × Unit))), (0 : Int))) fun out_v15 =>
  some (out_v15)

@[go_sem] noncomputable def r05_ReverseC : List Slot → List Blk → Option Ret
  | [(.val (.list (.pair (.int .i64) (.pair .str .unit))) script_v1, none)], [] => some ⟨[((r05_Reverse script_v1)).isSome = true], [(.val (.list (.pair (.int .i64) (.pair .str .unit))) (val (r05_Reverse script_v1)), some 0)], [.grow 56 2 (List.length (val (r05_Reverse script_v1)))]⟩
  | _, _ => none

@[go_sem] def G_r05_Reverse : Ctx := fun _ => none
@[go_sem] def T_r05_Reverse : Types := [(3, ⟨(.int .i64), 0, 0, false⟩), (35, ⟨(.list (.pair (.int .i64) (.pair .str .unit))), 56, 24, false⟩), (56, ⟨(.pair (.int .i64) (.pair .str .unit)), 0, 1, false⟩)]
theorem K_r05_Reverse : CtxOk Try.prog G_r05_Reverse := by
  intro f s h
  cases h
theorem E_r05_Reverse : Env Try.prog T_r05_Reverse G_r05_Reverse := ⟨⟨ty_int, ⟨ty_Lcalqueref05_Edit, ⟨ty_calque_calqueref05_Edit, trivial⟩⟩⟩, K_r05_Reverse, by kernel_rfl⟩

set_option maxRecDepth 100000 in
set_option maxHeartbeats 4000000 in
theorem r05_Reverse_con : ConOk Try.prog 25 r05_ReverseC := by
  refine con_okR E_r05_Reverse.T Try.func25 (c := _) rfl (N := 32) (by kernel_rfl) (ts := [(2, none)]) (fun _ _ => rfl) rfl ?_
  intro args L r hC hs
  unfold r05_ReverseC at hC
  split at hC
  · rename_i script_v1; cases hC
    obtain ⟨z0, hC0⟩ := Option.isSome_iff_exists.1 (show ((r05_Reverse script_v1)).isSome = true from hs _ (by simp))
    try rw [val_eq hC0]
    clear hs
    unfold r05_Reverse at hC0
    refine ⟨by simp only [List.length_cons, List.length_nil]; omega, by repeat (first | exact trivial | refine And.intro rfl ?_), by repeat (first | exact trivial | refine And.intro rfl ?_), ?_⟩
    simp only [enumE, enumH, lenB, Nat.reduceAdd]
    refine e_seq ?_
    refine e_region E_r05_Reverse (by simp only [go_sem, List.toList_toArray, Nat.reduceEqDiff, reduceIte, reduceDIte, reduceCtorEq, Nat.reduceAdd, Nat.reduceLT, Nat.reduceLeDiff, decide_true, decide_false, Bool.and_self, Bool.or_self, Bool.or_false, Bool.false_or, Bool.and_true, Bool.true_and, Bool.not_true, Bool.not_false]; rfl) (by exact trivial) ?_
    refine q_seqn ?_
    refine e_seq ?_
    refine e_region E_r05_Reverse (by simp only [go_sem, List.toList_toArray, Nat.reduceEqDiff, reduceIte, reduceDIte, reduceCtorEq, Nat.reduceAdd, Nat.reduceLT, Nat.reduceLeDiff, decide_true, decide_false, Bool.and_self, Bool.or_self, Bool.or_false, Bool.false_or, Bool.and_true, Bool.true_and, Bool.not_true, Bool.not_false]; rfl) (by exact trivial) ?_
    refine q_seqn ?_
    refine e_seq ?_
    refine e_seq ?_
    refine e_region E_r05_Reverse (by simp only [go_sem, List.toList_toArray, Nat.reduceEqDiff, reduceIte, reduceDIte, reduceCtorEq, Nat.reduceAdd, Nat.reduceLT, Nat.reduceLeDiff, decide_true, decide_false, Bool.and_self, Bool.or_self, Bool.or_false, Bool.false_or, Bool.and_true, Bool.true_and, Bool.not_true, Bool.not_false]; rfl) (by exact trivial) ?_
    refine q_seqn ?_
    refine e_block ?_
    obtain ⟨out_v15, hy1, hC0⟩ := bind_some hC0
    refine e_cutx 0 (fun s => s = (fun x => ⟨[(3, (.val (.list (.pair (.int .i64) (.pair .str .unit))) x, some 0))], [(0, .grow 56 2 (List.length x))], 1, 32, 0⟩) out_v15) ?_ ?_
    · skip
      refine e_loopM hy1 (fun x => ⟨[(0, (.val (.list (.pair (.int .i64) (.pair .str .unit))) script_v1, none)), (3, (.val (.list (.pair (.int .i64) (.pair .str .unit))) x.1, some 0)), (4, (.val (.int .i64) x.2, none))], [(0, .grow 56 2 (List.length x.1))], 1, 32, 0⟩) ⟨[0, 3, 4], [(0, 16)]⟩ (by rfl) ?_
      intro x1 w1 n1 hC1 hN1
      obtain ⟨out_v11, i_v12⟩ := x1
      unfold r05_Reverse_step1 at hC1
      dsimp only at hC1 ⊢
      refine e_seq ?_
      refine e_seq ?_
      refine e_region E_r05_Reverse (by simp only [go_sem, List.toList_toArray, Nat.reduceEqDiff, reduceIte, reduceDIte, reduceCtorEq, Nat.reduceAdd, Nat.reduceLT, Nat.reduceLeDiff, decide_true, decide_false, Bool.and_self, Bool.or_self, Bool.or_false, Bool.false_or, Bool.and_true, Bool.true_and, Bool.not_true, Bool.not_false]; rfl) (by exact trivial) ?_
      refine q_seqn ?_
      refine e_cond (by simp only [go_sem, List.toList_toArray, Nat.reduceEqDiff, reduceIte, reduceDIte, reduceCtorEq, Nat.reduceAdd, Nat.reduceLT, Nat.reduceLeDiff, decide_true, decide_false, Bool.and_self, Bool.or_self, Bool.or_false, Bool.false_or, Bool.and_true, Bool.true_and, Bool.not_true, Bool.not_false]; rfl) (fun hc1 => ?_) (fun hc1 => ?_)
      · replace hC1 := ite_t hC1 hc1
        refine e_skip ?_
        refine q_seqn ?_
        refine e_seq ?_
        refine e_block ?_
        refine e_seq ?_
        obtain ⟨hg1, hC1⟩ := ite_some hC1
        refine e_region E_r05_Reverse (by simp only [go_sem, List.toList_toArray, Nat.reduceEqDiff, reduceIte, reduceDIte, reduceCtorEq, Nat.reduceAdd, Nat.reduceLT, Nat.reduceLeDiff, decide_true, decide_false, Bool.and_self, Bool.or_self, Bool.or_false, Bool.false_or, Bool.and_true, Bool.true_and, Bool.not_true, Bool.not_false]; rfl) (by exact hg1) ?_
        refine q_seqn ?_
        refine e_seq ?_
        refine e_seq ?_
        obtain ⟨hg2, hC1⟩ := ite_some hC1
        refine e_region E_r05_Reverse (by simp only [go_sem, List.toList_toArray, Nat.reduceEqDiff, reduceIte, reduceDIte, reduceCtorEq, Nat.reduceAdd, Nat.reduceLT, Nat.reduceLeDiff, decide_true, decide_false, Bool.and_self, Bool.or_self, Bool.or_false, Bool.false_or, Bool.and_true, Bool.true_and, Bool.not_true, Bool.not_false]; rfl) (by exact hg2) ?_
        refine q_seqn ?_
        refine e_block ?_
        refine e_seq ?_
        refine e_region E_r05_Reverse (by simp only [go_sem, List.toList_toArray, Nat.reduceEqDiff, reduceIte, reduceDIte, reduceCtorEq, Nat.reduceAdd, Nat.reduceLT, Nat.reduceLeDiff, decide_true, decide_false, Bool.and_self, Bool.or_self, Bool.or_false, Bool.false_or, Bool.and_true, Bool.true_and, Bool.not_true, Bool.not_false]; rfl) (by exact trivial) ?_
        refine q_seqn ?_
        refine e_cond (by simp only [go_sem, List.toList_toArray, Nat.reduceEqDiff, reduceIte, reduceDIte, reduceCtorEq, Nat.reduceAdd, Nat.reduceLT, Nat.reduceLeDiff, decide_true, decide_false, Bool.and_self, Bool.or_self, Bool.or_false, Bool.false_or, Bool.and_true, Bool.true_and, Bool.not_true, Bool.not_false]; rfl) (fun hc2 => ?_) (fun hc2 => ?_)
        · replace hC1 := ite_t hC1 hc2
          refine e_region E_r05_Reverse (by simp only [go_sem, List.toList_toArray, Nat.reduceEqDiff, reduceIte, reduceDIte, reduceCtorEq, Nat.reduceAdd, Nat.reduceLT, Nat.reduceLeDiff, decide_true, decide_false, Bool.and_self, Bool.or_self, Bool.or_false, Bool.false_or, Bool.and_true, Bool.true_and, Bool.not_true, Bool.not_false]; rfl) (by exact trivial) ?_
          refine q_blkn ?_
          refine q_seqn ?_
          obtain ⟨hg3, hC1⟩ := ite_some hC1
          refine e_region E_r05_Reverse (by simp only [go_sem, List.toList_toArray, Nat.reduceEqDiff, reduceIte, reduceDIte, reduceCtorEq, Nat.reduceAdd, Nat.reduceLT, Nat.reduceLeDiff, decide_true, decide_false, Bool.and_self, Bool.or_self, Bool.or_false, Bool.false_or, Bool.and_true, Bool.true_and, Bool.not_true, Bool.not_false]; rfl) (by exact And.intro (by first | exact rfl | exact trivial) (hg3)) ?_
          refine q_blkn ?_
          refine q_seqn ?_
          obtain ⟨hg4, hC1⟩ := ite_some hC1
          refine e_region E_r05_Reverse (by simp only [go_sem, List.toList_toArray, Nat.reduceEqDiff, reduceIte, reduceDIte, reduceCtorEq, Nat.reduceAdd, Nat.reduceLT, Nat.reduceLeDiff, decide_true, decide_false, Bool.and_self, Bool.or_self, Bool.or_false, Bool.false_or, Bool.and_true, Bool.true_and, Bool.not_true, Bool.not_false]; rfl) (by exact hg4) ?_
          cases hC1
          exact q_Ln ⟨⟨[0, 3, 4], [(0, 0)]⟩, _, by rfl, hN1⟩
        · replace hC1 := ite_f hC1 hc2
          refine e_seq ?_
          refine e_region E_r05_Reverse (by simp only [go_sem, List.toList_toArray, Nat.reduceEqDiff, reduceIte, reduceDIte, reduceCtorEq, Nat.reduceAdd, Nat.reduceLT, Nat.reduceLeDiff, decide_true, decide_false, Bool.and_self, Bool.or_self, Bool.or_false, Bool.false_or, Bool.and_true, Bool.true_and, Bool.not_true, Bool.not_false]; rfl) (by exact trivial) ?_
          refine q_seqn ?_
          refine e_cond (by simp only [go_sem, List.toList_toArray, Nat.reduceEqDiff, reduceIte, reduceDIte, reduceCtorEq, Nat.reduceAdd, Nat.reduceLT, Nat.reduceLeDiff, decide_true, decide_false, Bool.and_self, Bool.or_self, Bool.or_false, Bool.false_or, Bool.and_true, Bool.true_and, Bool.not_true, Bool.not_false]; rfl) (fun hc3 => ?_) (fun hc3 => ?_)
          · replace hC1 := ite_t hC1 hc3
            refine e_region E_r05_Reverse (by simp only [go_sem, List.toList_toArray, Nat.reduceEqDiff, reduceIte, reduceDIte, reduceCtorEq, Nat.reduceAdd, Nat.reduceLT, Nat.reduceLeDiff, decide_true, decide_false, Bool.and_self, Bool.or_self, Bool.or_false, Bool.false_or, Bool.and_true, Bool.true_and, Bool.not_true, Bool.not_false]; rfl) (by exact trivial) ?_
            refine q_blkn ?_
            refine q_seqn ?_
            obtain ⟨hg5, hC1⟩ := ite_some hC1
            refine e_region E_r05_Reverse (by simp only [go_sem, List.toList_toArray, Nat.reduceEqDiff, reduceIte, reduceDIte, reduceCtorEq, Nat.reduceAdd, Nat.reduceLT, Nat.reduceLeDiff, decide_true, decide_false, Bool.and_self, Bool.or_self, Bool.or_false, Bool.false_or, Bool.and_true, Bool.true_and, Bool.not_true, Bool.not_false]; rfl) (by exact And.intro (by first | exact rfl | exact trivial) (hg5)) ?_
            refine q_blkn ?_
            refine q_seqn ?_
            obtain ⟨hg6, hC1⟩ := ite_some hC1
            refine e_region E_r05_Reverse (by simp only [go_sem, List.toList_toArray, Nat.reduceEqDiff, reduceIte, reduceDIte, reduceCtorEq, Nat.reduceAdd, Nat.reduceLT, Nat.reduceLeDiff, decide_true, decide_false, Bool.and_self, Bool.or_self, Bool.or_false, Bool.false_or, Bool.and_true, Bool.true_and, Bool.not_true, Bool.not_false]; rfl) (by exact hg6) ?_
            cases hC1
            exact q_Ln ⟨⟨[0, 3, 4], [(0, 0)]⟩, _, by rfl, hN1⟩
          · replace hC1 := ite_f hC1 hc3
            refine e_skip ?_
            refine q_blkn ?_
            refine q_seqn ?_
            obtain ⟨hg7, hC1⟩ := ite_some hC1
            refine e_region E_r05_Reverse (by simp only [go_sem, List.toList_toArray, Nat.reduceEqDiff, reduceIte, reduceDIte, reduceCtorEq, Nat.reduceAdd, Nat.reduceLT, Nat.reduceLeDiff, decide_true, decide_false, Bool.and_self, Bool.or_self, Bool.or_false, Bool.false_or, Bool.and_true, Bool.true_and, Bool.not_true, Bool.not_false]; rfl) (by exact And.intro (by first | exact rfl | exact trivial) (hg7)) ?_
            refine q_blkn ?_
            refine q_seqn ?_
            obtain ⟨hg8, hC1⟩ := ite_some hC1
            refine e_region E_r05_Reverse (by simp only [go_sem, List.toList_toArray, Nat.reduceEqDiff, reduceIte, reduceDIte, reduceCtorEq, Nat.reduceAdd, Nat.reduceLT, Nat.reduceLeDiff, decide_true, decide_false, Bool.and_self, Bool.or_self, Bool.or_false, Bool.false_or, Bool.and_true, Bool.true_and, Bool.not_true, Bool.not_false]; rfl) (by exact hg8) ?_
            cases hC1
            exact q_Ln ⟨⟨[0, 3, 4], [(0, 0)]⟩, _, by rfl, hN1⟩
      · replace hC1 := ite_f hC1 hc1
        refine e_exit ?_
        refine q_seqx ?_
        refine q_Lx ?_
        cases hC1
        cases hN1
        exact q_xx ⟨⟨[3], [(0, 0)]⟩, by rfl⟩
    · rintro _ rfl
      dsimp only at hC0 ⊢
      refine q_blkx ?_
      refine q_seqn ?_
      refine e_seq ?_
      refine e_region E_r05_Reverse (by simp only [go_sem, List.toList_toArray, Nat.reduceEqDiff, reduceIte, reduceDIte, reduceCtorEq, Nat.reduceAdd, Nat.reduceLT, Nat.reduceLeDiff, decide_true, decide_false, Bool.and_self, Bool.or_self, Bool.or_false, Bool.false_or, Bool.and_true, Bool.true_and, Bool.not_true, Bool.not_false]; rfl) (by exact trivial) ?_
      refine q_seqn ?_
      refine e_ret ?_
      cases hC0
      exact ⟨[(0, 0)], by rfl, by rfl, by rfl⟩
  · cases hC

attribute [irreducible] r05_Reverse

end Go.Proofs.Ytfcibaiiobihnaa
