/- PLAIN FORMS of the program's functions, and that the code computes them. -/
import Derived.Test.YtfcibaiiobihnaaEty
import Derived.Test.YtfcibaiiobihnaaVt
import Derived.KernelRfl
namespace Go.Proofs.Ytfcibaiiobihnaa
open Vc
set_option linter.unusedSimpArgs false
set_option linter.unusedVariables false


noncomputable def r05_parts_step1 (gone_v3 : (List (List UInt8))) : ((List (Int × ((List UInt8) × Unit))) × Int) → Option (((List (Int × ((List UInt8) × Unit))) × Int) ⊕ (List (Int × ((List UInt8) × Unit)))) := fun (out_v35, i_v36) =>
  if (decide (i_v36 < (List.length gone_v3 : Int))) = true then
    if 0 ≤ i_v36 ∧ i_v36 < (List.length gone_v3 : Int) then
      if (List.length out_v35 + List.length ([((2 : Int), ((nth .str gone_v3 i_v36), ()))] : List (Int × ((List UInt8) × Unit)))) * 24 ≤ 140737488355328 then
        if -9223372036854775808 ≤ (i_v36 + (1 : Int)) ∧ (i_v36 + (1 : Int)) ≤ 9223372036854775807 then
          some (.inl ((out_v35 ++ ([((2 : Int), ((nth .str gone_v3 i_v36), ()))] : List (Int × ((List UInt8) × Unit)))), (i_v36 + (1 : Int))))
        else none
      else none
    else none
  else
    some (.inr out_v35)

noncomputable def r05_parts_step2 (added_v4 : (List (List UInt8))) : ((List (Int × ((List UInt8) × Unit))) × Int) → Option (((List (Int × ((List UInt8) × Unit))) × Int) ⊕ (List (Int × ((List UInt8) × Unit)))) := fun (out_v42, i_v43) =>
  if (decide (i_v43 < (List.length added_v4 : Int))) = true then
    if 0 ≤ i_v43 ∧ i_v43 < (List.length added_v4 : Int) then
      if (List.length out_v42 + List.length ([((3 : Int), ((nth .str added_v4 i_v43), ()))] : List (Int × ((List UInt8) × Unit)))) * 24 ≤ 140737488355328 then
        if -9223372036854775808 ≤ (i_v43 + (1 : Int)) ∧ (i_v43 + (1 : Int)) ≤ 9223372036854775807 then
          some (.inl ((out_v42 ++ ([((3 : Int), ((nth .str added_v4 i_v43), ()))] : List (Int × ((List UInt8) × Unit)))), (i_v43 + (1 : Int))))
        else none
      else none
    else none
  else
    some (.inr out_v42)

noncomputable def r05_parts (out_v1 : (List (Int × ((List UInt8) × Unit)))) (gone_v3 : (List (List UInt8))) (added_v4 : (List (List UInt8))) : Option (List (Int × ((List UInt8) × Unit))) :=
  bnd (loopM (r05_parts_step1 gone_v3) (out_v1, (0 : Int))) fun out_v39 =>
  bnd (loopM (r05_parts_step2 added_v4) (out_v39, (0 : Int))) fun out_v46 =>
  some (out_v46)

@[go_sem] noncomputable def r05_partsC : List Slot → List Blk → Option Ret
  | [(.val (.list (.pair (.int .i64) (.pair .str .unit))) out_v1, some 0), (.val (.list .str) gone_v3, none), (.val (.list .str) added_v4, none)], [.grow 56 2 n_v2] => some ⟨[n_v2 = (List.length out_v1), ((r05_parts out_v1 gone_v3 added_v4)).isSome = true], [(.val (.list (.pair (.int .i64) (.pair .str .unit))) (val (r05_parts out_v1 gone_v3 added_v4)), some 0)], [.grow 56 2 (List.length (val (r05_parts out_v1 gone_v3 added_v4)))]⟩
  | _, _ => none

@[go_sem] def G_r05_parts : Ctx := fun _ => none
@[go_sem] def T_r05_parts : Types := [(9, ⟨.str, 0, 0, false⟩), (22, ⟨(.list .str), 9, 16, false⟩), (35, ⟨(.list (.pair (.int .i64) (.pair .str .unit))), 56, 24, false⟩), (56, ⟨(.pair (.int .i64) (.pair .str .unit)), 0, 1, false⟩)]
theorem K_r05_parts : CtxOk Try.prog G_r05_parts := by
  intro f s h
  cases h
theorem E_r05_parts : Env Try.prog T_r05_parts G_r05_parts := ⟨⟨ty_string, ⟨ty_Lstring, ⟨ty_Lcalqueref05_Edit, ⟨ty_calque_calqueref05_Edit, trivial⟩⟩⟩⟩, K_r05_parts, by kernel_rfl⟩

set_option maxRecDepth 100000 in
set_option maxHeartbeats 4000000 in
theorem r05_parts_con : ConOk Try.prog 32 r05_partsC := by
  refine con_okR E_r05_parts.T Try.func32 (c := _) rfl (N := 38) (by kernel_rfl) (ts := [(6, none)]) (fun _ _ => rfl) rfl ?_
  intro args L r hC hs
  unfold r05_partsC at hC
  split at hC
  · rename_i out_v1 gone_v3 added_v4 n_v2; cases hC
    obtain rfl : n_v2 = (List.length out_v1) := hs _ (by simp)
    obtain ⟨z0, hC0⟩ := Option.isSome_iff_exists.1 (show ((r05_parts out_v1 gone_v3 added_v4)).isSome = true from hs _ (by simp))
    try rw [val_eq hC0]
    clear hs
    unfold r05_parts at hC0
    refine ⟨by simp only [List.length_cons, List.length_nil]; omega, by repeat (first | exact trivial | refine And.intro rfl ?_), by repeat (first | exact trivial | refine And.intro rfl ?_), ?_⟩
    simp only [enumE, enumH, lenB, Nat.reduceAdd]
    refine e_seq ?_
    refine e_region E_r05_parts (by simp only [go_sem, List.toList_toArray, Nat.reduceEqDiff, reduceIte, reduceDIte, reduceCtorEq, Nat.reduceAdd, Nat.reduceLT, Nat.reduceLeDiff, decide_true, decide_false, Bool.and_self, Bool.or_self, Bool.or_false, Bool.false_or, Bool.and_true, Bool.true_and, Bool.not_true, Bool.not_false]; rfl) (by exact trivial) ?_
    refine q_seqn ?_
    refine e_seq ?_
    refine e_seq ?_
    refine e_region E_r05_parts (by simp only [go_sem, List.toList_toArray, Nat.reduceEqDiff, reduceIte, reduceDIte, reduceCtorEq, Nat.reduceAdd, Nat.reduceLT, Nat.reduceLeDiff, decide_true, decide_false, Bool.and_self, Bool.or_self, Bool.or_false, Bool.false_or, Bool.and_true, Bool.true_and, Bool.not_true, Bool.not_false]; rfl) (by exact trivial) ?_
    refine q_seqn ?_
    refine e_block ?_
    obtain ⟨out_v39, hy1, hC0⟩ := bind_some hC0
    refine e_cutx 0 (fun s => s = (fun x => ⟨[(0, (.val (.list (.pair (.int .i64) (.pair .str .unit))) x, some 0)), (2, (.val (.list .str) added_v4, none))], [(0, .grow 56 2 (List.length x))], 1, 38, 1⟩) out_v39) ?_ ?_
    · skip
      refine e_loopM hy1 (fun x => ⟨[(0, (.val (.list (.pair (.int .i64) (.pair .str .unit))) x.1, some 0)), (1, (.val (.list .str) gone_v3, none)), (2, (.val (.list .str) added_v4, none)), (7, (.val (.int .i64) x.2, none))], [(0, .grow 56 2 (List.length x.1))], 1, 38, 1⟩) ⟨[0, 1, 2, 7], [(0, 0)]⟩ (by rfl) ?_
      intro x1 w1 n1 hC1 hN1
      obtain ⟨out_v35, i_v36⟩ := x1
      unfold r05_parts_step1 at hC1
      dsimp only at hC1 ⊢
      refine e_seq ?_
      refine e_seq ?_
      refine e_region E_r05_parts (by simp only [go_sem, List.toList_toArray, Nat.reduceEqDiff, reduceIte, reduceDIte, reduceCtorEq, Nat.reduceAdd, Nat.reduceLT, Nat.reduceLeDiff, decide_true, decide_false, Bool.and_self, Bool.or_self, Bool.or_false, Bool.false_or, Bool.and_true, Bool.true_and, Bool.not_true, Bool.not_false]; rfl) (by exact trivial) ?_
      refine q_seqn ?_
      refine e_cond (by simp only [go_sem, List.toList_toArray, Nat.reduceEqDiff, reduceIte, reduceDIte, reduceCtorEq, Nat.reduceAdd, Nat.reduceLT, Nat.reduceLeDiff, decide_true, decide_false, Bool.and_self, Bool.or_self, Bool.or_false, Bool.false_or, Bool.and_true, Bool.true_and, Bool.not_true, Bool.not_false]; rfl) (fun hc1 => ?_) (fun hc1 => ?_)
      · replace hC1 := ite_t hC1 hc1
        refine e_skip ?_
        refine q_seqn ?_
        refine e_seq ?_
        refine e_block ?_
        obtain ⟨hg1, hC1⟩ := ite_some hC1
        obtain ⟨hg2, hC1⟩ := ite_some hC1
        refine e_region E_r05_parts (by simp only [go_sem, List.toList_toArray, Nat.reduceEqDiff, reduceIte, reduceDIte, reduceCtorEq, Nat.reduceAdd, Nat.reduceLT, Nat.reduceLeDiff, decide_true, decide_false, Bool.and_self, Bool.or_self, Bool.or_false, Bool.false_or, Bool.and_true, Bool.true_and, Bool.not_true, Bool.not_false]; rfl) (by exact And.intro hg1 (And.intro (by first | exact rfl | exact trivial) (hg2))) ?_
        refine q_blkn ?_
        refine q_seqn ?_
        obtain ⟨hg3, hC1⟩ := ite_some hC1
        refine e_region E_r05_parts (by simp only [go_sem, List.toList_toArray, Nat.reduceEqDiff, reduceIte, reduceDIte, reduceCtorEq, Nat.reduceAdd, Nat.reduceLT, Nat.reduceLeDiff, decide_true, decide_false, Bool.and_self, Bool.or_self, Bool.or_false, Bool.false_or, Bool.and_true, Bool.true_and, Bool.not_true, Bool.not_false]; rfl) (by exact hg3) ?_
        cases hC1
        exact q_Ln ⟨⟨[0, 1, 2, 7], [(0, 0)]⟩, _, by rfl, hN1⟩
      · replace hC1 := ite_f hC1 hc1
        refine e_exit ?_
        refine q_seqx ?_
        refine q_Lx ?_
        cases hC1
        cases hN1
        exact q_xx ⟨⟨[0, 2], [(0, 0)]⟩, by rfl⟩
    · rintro _ rfl
      dsimp only at hC0 ⊢
      refine q_blkx ?_
      refine q_seqn ?_
      refine e_seq ?_
      refine e_seq ?_
      refine e_region E_r05_parts (by simp only [go_sem, List.toList_toArray, Nat.reduceEqDiff, reduceIte, reduceDIte, reduceCtorEq, Nat.reduceAdd, Nat.reduceLT, Nat.reduceLeDiff, decide_true, decide_false, Bool.and_self, Bool.or_self, Bool.or_false, Bool.false_or, Bool.and_true, Bool.true_and, Bool.not_true, Bool.not_false]; rfl) (by exact trivial) ?_
      refine q_seqn ?_
      refine e_block ?_
      obtain ⟨out_v46, hy1, hC0⟩ := bind_some hC0
      refine e_cutx 2 (fun s => s = (fun x => ⟨[(0, (.val (.list (.pair (.int .i64) (.pair .str .unit))) x, some 0))], [(0, .grow 56 2 (List.length x))], 1, 38, 1⟩) out_v46) ?_ ?_
      · skip
        refine e_loopM hy1 (fun x => ⟨[(0, (.val (.list (.pair (.int .i64) (.pair .str .unit))) x.1, some 0)), (2, (.val (.list .str) added_v4, none)), (8, (.val (.int .i64) x.2, none))], [(0, .grow 56 2 (List.length x.1))], 1, 38, 1⟩) ⟨[0, 2, 8], [(0, 0)]⟩ (by rfl) ?_
        intro x1 w1 n1 hC1 hN1
        obtain ⟨out_v42, i_v43⟩ := x1
        unfold r05_parts_step2 at hC1
        dsimp only at hC1 ⊢
        refine e_seq ?_
        refine e_seq ?_
        refine e_region E_r05_parts (by simp only [go_sem, List.toList_toArray, Nat.reduceEqDiff, reduceIte, reduceDIte, reduceCtorEq, Nat.reduceAdd, Nat.reduceLT, Nat.reduceLeDiff, decide_true, decide_false, Bool.and_self, Bool.or_self, Bool.or_false, Bool.false_or, Bool.and_true, Bool.true_and, Bool.not_true, Bool.not_false]; rfl) (by exact trivial) ?_
        refine q_seqn ?_
        refine e_cond (by simp only [go_sem, List.toList_toArray, Nat.reduceEqDiff, reduceIte, reduceDIte, reduceCtorEq, Nat.reduceAdd, Nat.reduceLT, Nat.reduceLeDiff, decide_true, decide_false, Bool.and_self, Bool.or_self, Bool.or_false, Bool.false_or, Bool.and_true, Bool.true_and, Bool.not_true, Bool.not_false]; rfl) (fun hc2 => ?_) (fun hc2 => ?_)
        · replace hC1 := ite_t hC1 hc2
          refine e_skip ?_
          refine q_seqn ?_
          refine e_seq ?_
          refine e_block ?_
          obtain ⟨hg4, hC1⟩ := ite_some hC1
          obtain ⟨hg5, hC1⟩ := ite_some hC1
          refine e_region E_r05_parts (by simp only [go_sem, List.toList_toArray, Nat.reduceEqDiff, reduceIte, reduceDIte, reduceCtorEq, Nat.reduceAdd, Nat.reduceLT, Nat.reduceLeDiff, decide_true, decide_false, Bool.and_self, Bool.or_self, Bool.or_false, Bool.false_or, Bool.and_true, Bool.true_and, Bool.not_true, Bool.not_false]; rfl) (by exact And.intro hg4 (And.intro (by first | exact rfl | exact trivial) (hg5))) ?_
          refine q_blkn ?_
          refine q_seqn ?_
          obtain ⟨hg6, hC1⟩ := ite_some hC1
          refine e_region E_r05_parts (by simp only [go_sem, List.toList_toArray, Nat.reduceEqDiff, reduceIte, reduceDIte, reduceCtorEq, Nat.reduceAdd, Nat.reduceLT, Nat.reduceLeDiff, decide_true, decide_false, Bool.and_self, Bool.or_self, Bool.or_false, Bool.false_or, Bool.and_true, Bool.true_and, Bool.not_true, Bool.not_false]; rfl) (by exact hg6) ?_
          cases hC1
          exact q_Ln ⟨⟨[0, 2, 8], [(0, 0)]⟩, _, by rfl, hN1⟩
        · replace hC1 := ite_f hC1 hc2
          refine e_exit ?_
          refine q_seqx ?_
          refine q_Lx ?_
          cases hC1
          cases hN1
          exact q_xx ⟨⟨[0], [(0, 0)]⟩, by rfl⟩
      · rintro _ rfl
        dsimp only at hC0 ⊢
        refine q_blkx ?_
        refine q_seqn ?_
        refine e_seq ?_
        refine e_region E_r05_parts (by simp only [go_sem, List.toList_toArray, Nat.reduceEqDiff, reduceIte, reduceDIte, reduceCtorEq, Nat.reduceAdd, Nat.reduceLT, Nat.reduceLeDiff, decide_true, decide_false, Bool.and_self, Bool.or_self, Bool.or_false, Bool.false_or, Bool.and_true, Bool.true_and, Bool.not_true, Bool.not_false]; rfl) (by exact trivial) ?_
        refine q_seqn ?_
        refine e_ret ?_
        cases hC0
        exact ⟨[(0, 0)], by rfl, by rfl, by rfl⟩
  · cases hC

attribute [irreducible] r05_parts


noncomputable def r05_next_step2 (a_v1 : (List (List UInt8))) (b_v2 : (List (List UInt8))) (l_v3 : (List (List Int))) (i_v4 : Int) (j_v5 : Int) (x_v22 : Int) : Int → Option (Int ⊕ (Unit ⊕ (Int ⊕ (Unit ⊕ (Int × Int))))) := fun y_v28 =>
  if (decide (y_v28 < (List.length b_v2 : Int))) = true then
    if 0 ≤ x_v22 ∧ x_v22 < (List.length a_v1 : Int) then
      if 0 ≤ y_v28 ∧ y_v28 < (List.length b_v2 : Int) then
        if (((decide ((nth .str a_v1 x_v22) = (nth .str b_v2 y_v28))) == true) = true → -9223372036854775808 ≤ (x_v22 + (1 : Int)) ∧ (x_v22 + (1 : Int)) ≤ 9223372036854775807) then
          if (((decide ((nth .str a_v1 x_v22) = (nth .str b_v2 y_v28))) == true) = true → 0 ≤ (x_v22 + (1 : Int)) ∧ (x_v22 + (1 : Int)) < (List.length l_v3 : Int)) then
            if (((decide ((nth .str a_v1 x_v22) = (nth .str b_v2 y_v28))) == true) = true → -9223372036854775808 ≤ (y_v28 + (1 : Int)) ∧ (y_v28 + (1 : Int)) ≤ 9223372036854775807) then
              if (((decide ((nth .str a_v1 x_v22) = (nth .str b_v2 y_v28))) == true) = true → 0 ≤ (y_v28 + (1 : Int)) ∧ (y_v28 + (1 : Int)) < (List.length (nth (.list (.int .i64)) l_v3 (x_v22 + (1 : Int))) : Int)) then
                if (((decide ((nth .str a_v1 x_v22) = (nth .str b_v2 y_v28))) == true) = true → -9223372036854775808 ≤ ((1 : Int) + (nth (.int .i64) (nth (.list (.int .i64)) l_v3 (x_v22 + (1 : Int))) (y_v28 + (1 : Int)))) ∧ ((1 : Int) + (nth (.int .i64) (nth (.list (.int .i64)) l_v3 (x_v22 + (1 : Int))) (y_v28 + (1 : Int)))) ≤ 9223372036854775807) then
                  if (((decide ((nth .str a_v1 x_v22) = (nth .str b_v2 y_v28))) == true) = true → 0 ≤ i_v4 ∧ i_v4 < (List.length l_v3 : Int)) then
                    if (((decide ((nth .str a_v1 x_v22) = (nth .str b_v2 y_v28))) == true) = true → 0 ≤ j_v5 ∧ j_v5 < (List.length (nth (.list (.int .i64)) l_v3 i_v4) : Int)) then
                      if ((decide ((nth .str a_v1 x_v22) = (nth .str b_v2 y_v28))) && (decide (((1 : Int) + (nth (.int .i64) (nth (.list (.int .i64)) l_v3 (x_v22 + (1 : Int))) (y_v28 + (1 : Int)))) = (nth (.int .i64) (nth (.list (.int .i64)) l_v3 i_v4) j_v5)))) = true then
                        some (.inr (.inr (.inr (.inr ((x_v22, y_v28))))))
                      else
                        if -9223372036854775808 ≤ (y_v28 + (1 : Int)) ∧ (y_v28 + (1 : Int)) ≤ 9223372036854775807 then
                          some (.inl (y_v28 + (1 : Int)))
                        else none
                    else none
                  else none
                else none
              else none
            else none
          else none
        else none
      else none
    else none
  else
    some (.inr (.inl ()))

noncomputable def r05_next_step1 (a_v1 : (List (List UInt8))) (b_v2 : (List (List UInt8))) (l_v3 : (List (List Int))) (i_v4 : Int) (j_v5 : Int) : Int → Option (Int ⊕ (Unit ⊕ (Int × Int))) := fun x_v22 =>
  if (decide (x_v22 < (List.length a_v1 : Int))) = true then
    thn (loopM (r05_next_step2 a_v1 b_v2 l_v3 i_v4 j_v5 x_v22) j_v5) fun _ =>
    if -9223372036854775808 ≤ (x_v22 + (1 : Int)) ∧ (x_v22 + (1 : Int)) ≤ 9223372036854775807 then
      some (.inl (x_v22 + (1 : Int)))
    else none
  else
    some (.inr (.inl ()))

noncomputable def r05_next (a_v1 : (List (List UInt8))) (b_v2 : (List (List UInt8))) (l_v3 : (List (List Int))) (i_v4 : Int) (j_v5 : Int) : Option (Int × Int) :=
  thn (loopM (r05_next_step1 a_v1 b_v2 l_v3 i_v4 j_v5) i_v4) fun _ =>
  some (((-1 : Int), (-1 : Int)))

@[go_sem] noncomputable def r05_nextC : List Slot → List Blk → Option Ret
  | [(.val (.list .str) a_v1, none), (.val (.list .str) b_v2, none), (.val (.list (.list (.int .i64))) l_v3, none), (.val (.int .i64) i_v4, none), (.val (.int .i64) j_v5, none)], [] => some ⟨[((r05_next a_v1 b_v2 l_v3 i_v4 j_v5)).isSome = true], [(.val (.int .i64) ((val (r05_next a_v1 b_v2 l_v3 i_v4 j_v5)).1), none), (.val (.int .i64) ((val (r05_next a_v1 b_v2 l_v3 i_v4 j_v5)).2), none)], []⟩
  | _, _ => none

@[go_sem] def G_r05_next : Ctx := fun _ => none
@[go_sem] def T_r05_next : Types := [(3, ⟨(.int .i64), 0, 0, false⟩), (9, ⟨.str, 0, 0, false⟩), (22, ⟨(.list .str), 9, 16, false⟩), (50, ⟨(.list (.list (.int .i64))), 52, 24, false⟩), (52, ⟨(.list (.int .i64)), 3, 8, false⟩)]
theorem K_r05_next : CtxOk Try.prog G_r05_next := by
  intro f s h
  cases h
theorem E_r05_next : Env Try.prog T_r05_next G_r05_next := ⟨⟨ty_int, ⟨ty_string, ⟨ty_Lstring, ⟨ty_LLint, ⟨ty_Lint, trivial⟩⟩⟩⟩⟩, K_r05_next, by kernel_rfl⟩

set_option maxRecDepth 100000 in
set_option maxHeartbeats 4000000 in
theorem r05_next_con : ConOk Try.prog 28 r05_nextC := by
  refine con_okR E_r05_next.T Try.func28 (c := _) rfl (N := 59) (by kernel_rfl) (ts := [(10, none), (11, none)]) (fun _ _ => rfl) rfl ?_
  intro args L r hC hs
  unfold r05_nextC at hC
  split at hC
  · rename_i a_v1 b_v2 l_v3 i_v4 j_v5; cases hC
    obtain ⟨z0, hC0⟩ := Option.isSome_iff_exists.1 (show ((r05_next a_v1 b_v2 l_v3 i_v4 j_v5)).isSome = true from hs _ (by simp))
    try rw [val_eq hC0]
    clear hs
    unfold r05_next at hC0
    refine ⟨by simp only [List.length_cons, List.length_nil]; omega, by repeat (first | exact trivial | refine And.intro rfl ?_), by repeat (first | exact trivial | refine And.intro rfl ?_), ?_⟩
    simp only [enumE, enumH, lenB, Nat.reduceAdd]
    refine e_seq ?_
    refine e_region E_r05_next (by simp only [go_sem, List.toList_toArray, Nat.reduceEqDiff, reduceIte, reduceDIte, reduceCtorEq, Nat.reduceAdd, Nat.reduceLT, Nat.reduceLeDiff, decide_true, decide_false, Bool.and_self, Bool.or_self, Bool.or_false, Bool.false_or, Bool.and_true, Bool.true_and, Bool.not_true, Bool.not_false]; rfl) (by exact trivial) ?_
    refine q_seqn ?_
    refine e_seq ?_
    refine e_seq ?_
    refine e_region E_r05_next (by simp only [go_sem, List.toList_toArray, Nat.reduceEqDiff, reduceIte, reduceDIte, reduceCtorEq, Nat.reduceAdd, Nat.reduceLT, Nat.reduceLeDiff, decide_true, decide_false, Bool.and_self, Bool.or_self, Bool.or_false, Bool.false_or, Bool.and_true, Bool.true_and, Bool.not_true, Bool.not_false]; rfl) (by exact trivial) ?_
    refine q_seqn ?_
    refine e_block ?_
    obtain ⟨y1, hy1, hC0⟩ := thn_some hC0
    refine e_cutx 0 (fun s => ∃ v, y1 = .inl v ∧ s = (fun _ => ⟨[], [], 0, 59, 0⟩) v) ?_ ?_
    · skip
      refine e_loopM hy1 (fun x => ⟨[(0, (.val (.list .str) a_v1, none)), (1, (.val (.list .str) b_v2, none)), (2, (.val (.list (.list (.int .i64))) l_v3, none)), (3, (.val (.int .i64) i_v4, none)), (4, (.val (.int .i64) j_v5, none)), (12, (.val (.int .i64) x, none))], [], 0, 59, 0⟩) ⟨[0, 1, 2, 3, 4, 12], []⟩ (by rfl) ?_
      intro x_v22 w1 n1 hC1 hN1
      unfold r05_next_step1 at hC1
      dsimp only at hC1 ⊢
      refine e_seq ?_
      refine e_seq ?_
      refine e_region E_r05_next (by simp only [go_sem, List.toList_toArray, Nat.reduceEqDiff, reduceIte, reduceDIte, reduceCtorEq, Nat.reduceAdd, Nat.reduceLT, Nat.reduceLeDiff, decide_true, decide_false, Bool.and_self, Bool.or_self, Bool.or_false, Bool.false_or, Bool.and_true, Bool.true_and, Bool.not_true, Bool.not_false]; rfl) (by exact trivial) ?_
      refine q_seqn ?_
      refine e_cond (by simp only [go_sem, List.toList_toArray, Nat.reduceEqDiff, reduceIte, reduceDIte, reduceCtorEq, Nat.reduceAdd, Nat.reduceLT, Nat.reduceLeDiff, decide_true, decide_false, Bool.and_self, Bool.or_self, Bool.or_false, Bool.false_or, Bool.and_true, Bool.true_and, Bool.not_true, Bool.not_false]; rfl) (fun hc1 => ?_) (fun hc1 => ?_)
      · replace hC1 := ite_t hC1 hc1
        refine e_skip ?_
        refine q_seqn ?_
        refine e_seq ?_
        refine e_block ?_
        refine e_seq ?_
        refine e_region E_r05_next (by simp only [go_sem, List.toList_toArray, Nat.reduceEqDiff, reduceIte, reduceDIte, reduceCtorEq, Nat.reduceAdd, Nat.reduceLT, Nat.reduceLeDiff, decide_true, decide_false, Bool.and_self, Bool.or_self, Bool.or_false, Bool.false_or, Bool.and_true, Bool.true_and, Bool.not_true, Bool.not_false]; rfl) (by exact trivial) ?_
        refine q_seqn ?_
        refine e_block ?_
        obtain ⟨y2, hy2, hC1⟩ := thn_some hC1
        refine e_cutx 2 (fun s => ∃ v, y2 = .inl v ∧ s = (fun _ => ⟨[(0, (.val (.list .str) a_v1, none)), (1, (.val (.list .str) b_v2, none)), (2, (.val (.list (.list (.int .i64))) l_v3, none)), (3, (.val (.int .i64) i_v4, none)), (4, (.val (.int .i64) j_v5, none)), (12, (.val (.int .i64) x_v22, none))], [], 0, 59, 0⟩) v) ?_ ?_
        · skip
          refine e_loopM hy2 (fun x => ⟨[(0, (.val (.list .str) a_v1, none)), (1, (.val (.list .str) b_v2, none)), (2, (.val (.list (.list (.int .i64))) l_v3, none)), (3, (.val (.int .i64) i_v4, none)), (4, (.val (.int .i64) j_v5, none)), (12, (.val (.int .i64) x_v22, none)), (13, (.val (.int .i64) x, none))], [], 0, 59, 0⟩) ⟨[0, 1, 2, 3, 4, 12, 13], []⟩ (by rfl) ?_
          intro y_v28 w2 n2 hC2 hN2
          unfold r05_next_step2 at hC2
          dsimp only at hC2 ⊢
          refine e_seq ?_
          refine e_seq ?_
          refine e_region E_r05_next (by simp only [go_sem, List.toList_toArray, Nat.reduceEqDiff, reduceIte, reduceDIte, reduceCtorEq, Nat.reduceAdd, Nat.reduceLT, Nat.reduceLeDiff, decide_true, decide_false, Bool.and_self, Bool.or_self, Bool.or_false, Bool.false_or, Bool.and_true, Bool.true_and, Bool.not_true, Bool.not_false]; rfl) (by exact trivial) ?_
          refine q_seqn ?_
          refine e_cond (by simp only [go_sem, List.toList_toArray, Nat.reduceEqDiff, reduceIte, reduceDIte, reduceCtorEq, Nat.reduceAdd, Nat.reduceLT, Nat.reduceLeDiff, decide_true, decide_false, Bool.and_self, Bool.or_self, Bool.or_false, Bool.false_or, Bool.and_true, Bool.true_and, Bool.not_true, Bool.not_false]; rfl) (fun hc2 => ?_) (fun hc2 => ?_)
          · replace hC2 := ite_t hC2 hc2
            refine e_skip ?_
            refine q_seqn ?_
            refine e_seq ?_
            refine e_block ?_
            refine e_seq ?_
            obtain ⟨hg1, hC2⟩ := ite_some hC2
            obtain ⟨hg2, hC2⟩ := ite_some hC2
            obtain ⟨hg3, hC2⟩ := ite_some hC2
            obtain ⟨hg4, hC2⟩ := ite_some hC2
            obtain ⟨hg5, hC2⟩ := ite_some hC2
            obtain ⟨hg6, hC2⟩ := ite_some hC2
            obtain ⟨hg7, hC2⟩ := ite_some hC2
            obtain ⟨hg8, hC2⟩ := ite_some hC2
            obtain ⟨hg9, hC2⟩ := ite_some hC2
            refine e_drawn E_r05_next (by simp only [go_sem, List.toList_toArray, Nat.reduceEqDiff, reduceIte, reduceDIte, reduceCtorEq, Nat.reduceAdd, Nat.reduceLT, Nat.reduceLeDiff, decide_true, decide_false, Bool.and_self, Bool.or_self, Bool.or_false, Bool.false_or, Bool.and_true, Bool.true_and, Bool.not_true, Bool.not_false]; rfl) (by kernel_rfl) (by exact And.intro hg1 (And.intro hg2 (And.intro (fun hh => hh) (And.intro hg3 (And.intro (fun hh => hh) (And.intro (fun hh => hh) (And.intro hg4 (And.intro (fun hh => hh) (And.intro (fun hh => hh) (And.intro hg5 (And.intro (fun hh => hh) (And.intro (fun hh => hh) (And.intro hg6 (And.intro (fun hh => hh) (And.intro (fun hh => hh) (And.intro hg7 (And.intro (fun hh => hh) (And.intro (fun hh => hh) (And.intro hg8 (And.intro (fun hh => hh) (And.intro (fun hh => hh) (And.intro (fun hh => hh) (And.intro hg9 (And.intro (fun hh => hh) (And.intro (fun hh => hh) (And.intro (fun hh => hh) ((fun hh => beq_selfT hh)))))))))))))))))))))))))))) ?_
            refine q_seqn ?_
            refine e_cond (by simp only [go_sem, List.toList_toArray, Nat.reduceEqDiff, reduceIte, reduceDIte, reduceCtorEq, Nat.reduceAdd, Nat.reduceLT, Nat.reduceLeDiff, decide_true, decide_false, Bool.and_self, Bool.or_self, Bool.or_false, Bool.false_or, Bool.and_true, Bool.true_and, Bool.not_true, Bool.not_false]; rfl) (fun hc3 => ?_) (fun hc3 => ?_)
            · replace hC2 := ite_t hC2 hc3
              refine e_seq ?_
              refine e_region E_r05_next (by simp only [go_sem, List.toList_toArray, Nat.reduceEqDiff, reduceIte, reduceDIte, reduceCtorEq, Nat.reduceAdd, Nat.reduceLT, Nat.reduceLeDiff, decide_true, decide_false, Bool.and_self, Bool.or_self, Bool.or_false, Bool.false_or, Bool.and_true, Bool.true_and, Bool.not_true, Bool.not_false]; rfl) (by exact trivial) ?_
              refine q_seqn ?_
              refine e_ret ?_
              refine q_blkr ?_
              refine q_seqr ?_
              refine q_Lr ?_
              refine q_xr ?_
              refine q_blkr ?_
              refine q_blkr ?_
              refine q_seqr ?_
              refine q_Lr ?_
              refine q_xr ?_
              refine q_blkr ?_
              refine q_seqr ?_
              cases hC2
              cases hN2
              dsimp only at hC1
              cases hC1
              cases hN1
              dsimp only at hC0
              cases hC0
              exact ⟨[], by rfl, by rfl, by rfl⟩
            · replace hC2 := ite_f hC2 hc3
              refine e_skip ?_
              refine q_blkn ?_
              refine q_seqn ?_
              obtain ⟨hg10, hC2⟩ := ite_some hC2
              refine e_region E_r05_next (by simp only [go_sem, List.toList_toArray, Nat.reduceEqDiff, reduceIte, reduceDIte, reduceCtorEq, Nat.reduceAdd, Nat.reduceLT, Nat.reduceLeDiff, decide_true, decide_false, Bool.and_self, Bool.or_self, Bool.or_false, Bool.false_or, Bool.and_true, Bool.true_and, Bool.not_true, Bool.not_false]; rfl) (by exact hg10) ?_
              cases hC2
              exact q_Ln ⟨⟨[0, 1, 2, 3, 4, 12, 13], []⟩, _, by rfl, hN2⟩
          · replace hC2 := ite_f hC2 hc2
            refine e_exit ?_
            refine q_seqx ?_
            refine q_Lx ?_
            cases hC2
            cases hN2
            exact q_xx ⟨⟨[0, 1, 2, 3, 4, 12], []⟩, _, rfl, by rfl⟩
        · rintro _ ⟨v, rfl, rfl⟩
          dsimp only at hC1 ⊢
          refine q_blkx ?_
          refine q_blkn ?_
          refine q_seqn ?_
          obtain ⟨hg11, hC1⟩ := ite_some hC1
          refine e_region E_r05_next (by simp only [go_sem, List.toList_toArray, Nat.reduceEqDiff, reduceIte, reduceDIte, reduceCtorEq, Nat.reduceAdd, Nat.reduceLT, Nat.reduceLeDiff, decide_true, decide_false, Bool.and_self, Bool.or_self, Bool.or_false, Bool.false_or, Bool.and_true, Bool.true_and, Bool.not_true, Bool.not_false]; rfl) (by exact hg11) ?_
          cases hC1
          exact q_Ln ⟨⟨[0, 1, 2, 3, 4, 12], []⟩, _, by rfl, hN1⟩
      · replace hC1 := ite_f hC1 hc1
        refine e_exit ?_
        refine q_seqx ?_
        refine q_Lx ?_
        cases hC1
        cases hN1
        exact q_xx ⟨⟨[], []⟩, _, rfl, by rfl⟩
    · rintro _ ⟨v, rfl, rfl⟩
      dsimp only at hC0 ⊢
      refine q_blkx ?_
      refine q_seqn ?_
      refine e_seq ?_
      refine e_region E_r05_next (by simp only [go_sem, List.toList_toArray, Nat.reduceEqDiff, reduceIte, reduceDIte, reduceCtorEq, Nat.reduceAdd, Nat.reduceLT, Nat.reduceLeDiff, decide_true, decide_false, Bool.and_self, Bool.or_self, Bool.or_false, Bool.false_or, Bool.and_true, Bool.true_and, Bool.not_true, Bool.not_false]; rfl) (by exact trivial) ?_
      refine q_seqn ?_
      refine e_ret ?_
      cases hC0
      exact ⟨[], by rfl, by rfl, by rfl⟩
  · cases hC

attribute [irreducible] r05_next

end Go.Proofs.Ytfcibaiiobihnaa
