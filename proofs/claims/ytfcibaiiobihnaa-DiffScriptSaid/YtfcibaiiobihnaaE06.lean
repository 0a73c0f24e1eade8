/- PLAIN FORMS of the program's functions, and that the code computes them. -/
import Derived.Test.YtfcibaiiobihnaaEty
import Derived.Test.YtfcibaiiobihnaaE01
import Derived.Test.YtfcibaiiobihnaaE05
import Derived.Test.YtfcibaiiobihnaaVt
import Derived.KernelRfl
namespace Go.Proofs.Ytfcibaiiobihnaa
open Vc
set_option linter.unusedSimpArgs false
set_option linter.unusedVariables false


noncomputable def diff_Reverse_step1 (r_v10 : ((List (Int × ((List UInt8) × Unit))) × Nat)) : (Int × (List (Int × ((List UInt8) × Unit)))) → Option ((Int × (List (Int × ((List UInt8) × Unit)))) ⊕ (List (Int × ((List UInt8) × Unit)))) := fun (x_v13, out_v14) =>
  if (decide (x_v13 < ((r_v10.2 : Nat) : Int))) = true then
    if 0 ≤ x_v13 ∧ x_v13 < ((r_v10.2 : Nat) : Int) then
      if (decide ((nth (.pair (.int .i64) (.pair .str .unit)) out_v14 x_v13).1 = (2 : Int))) = true then
        if 0 ≤ x_v13 ∧ x_v13 < ((r_v10.2 : Nat) : Int) then
          if -9223372036854775808 ≤ (x_v13 + (1 : Int)) ∧ (x_v13 + (1 : Int)) ≤ 9223372036854775807 then
            some (.inl ((x_v13 + (1 : Int)), (List.set out_v14 (Int.toNat x_v13) ((3 : Int), (nth (.pair (.int .i64) (.pair .str .unit)) out_v14 x_v13).2))))
          else none
        else none
      else
        if (decide ((nth (.pair (.int .i64) (.pair .str .unit)) out_v14 x_v13).1 = (3 : Int))) = true then
          if 0 ≤ x_v13 ∧ x_v13 < ((r_v10.2 : Nat) : Int) then
            if -9223372036854775808 ≤ (x_v13 + (1 : Int)) ∧ (x_v13 + (1 : Int)) ≤ 9223372036854775807 then
              some (.inl ((x_v13 + (1 : Int)), (List.set out_v14 (Int.toNat x_v13) ((2 : Int), (nth (.pair (.int .i64) (.pair .str .unit)) out_v14 x_v13).2))))
            else none
          else none
        else
          if -9223372036854775808 ≤ (x_v13 + (1 : Int)) ∧ (x_v13 + (1 : Int)) ≤ 9223372036854775807 then
            some (.inl ((x_v13 + (1 : Int)), out_v14))
          else none
    else none
  else
    some (.inr out_v14)

noncomputable def diff_Reverse (script_v1 : (List (Int × ((List UInt8) × Unit)))) : Option (List (Int × ((List UInt8) × Unit))) :=
  (slices_Clone_diff_Edit script_v1).bind fun r_v10 =>
  bnd (loopM (diff_Reverse_step1 r_v10) ((0 : Int), r_v10.1)) fun out_v17 =>
  some (out_v17)

@[go_sem] noncomputable def diff_ReverseC : List Slot → List Blk → Option Ret
  | [(.val (.list (.pair (.int .i64) (.pair .str .unit))) script_v1, none)], [] => some ⟨[((diff_Reverse script_v1)).isSome = true], [(.val (.list (.pair (.int .i64) (.pair .str .unit))) (val (diff_Reverse script_v1)), some 0)], [.grow 58 2 (List.length (val (diff_Reverse script_v1)))]⟩
  | _, _ => none

@[go_sem] noncomputable def G_diff_Reverse : Ctx := fun f => if f = 33 then some ⟨[.v], slices_Clone_diff_EditC⟩ else none
@[go_sem] def T_diff_Reverse : Types := [(3, ⟨(.int .i64), 0, 0, false⟩), (40, ⟨(.list (.pair (.int .i64) (.pair .str .unit))), 58, 24, true⟩), (58, ⟨(.pair (.int .i64) (.pair .str .unit)), 0, 1, false⟩)]
theorem K_diff_Reverse : CtxOk Try.prog G_diff_Reverse := by
  intro f s h
  unfold G_diff_Reverse at h
  split at h
  · rename_i e; subst e; cases h; exact slices_Clone_diff_Edit_con
  · cases h
theorem E_diff_Reverse : Env Try.prog T_diff_Reverse G_diff_Reverse := ⟨⟨ty_int, ⟨ty_Ldiff_Edit_r, ⟨ty_calque_diff_Edit, trivial⟩⟩⟩, K_diff_Reverse, by kernel_rfl⟩

set_option maxRecDepth 100000 in
set_option maxHeartbeats 4000000 in
theorem diff_Reverse_con : ConOk Try.prog 24 diff_ReverseC := by
  refine con_okR E_diff_Reverse.T Try.func24 (c := _) rfl (N := 31) (by kernel_rfl) (ts := [(2, none)]) (fun _ _ => rfl) rfl ?_
  intro args L r hC hs
  unfold diff_ReverseC at hC
  split at hC
  · rename_i script_v1; cases hC
    obtain ⟨z0, hC0⟩ := Option.isSome_iff_exists.1 (show ((diff_Reverse script_v1)).isSome = true from hs _ (by simp))
    try rw [val_eq hC0]
    clear hs
    unfold diff_Reverse at hC0
    refine ⟨by simp only [List.length_cons, List.length_nil]; omega, by repeat (first | exact trivial | refine And.intro rfl ?_), by repeat (first | exact trivial | refine And.intro rfl ?_), ?_⟩
    simp only [enumE, enumH, lenB, Nat.reduceAdd]
    refine e_seq ?_
    refine e_region E_diff_Reverse (by simp only [go_sem, List.toList_toArray, Nat.reduceEqDiff, reduceIte, reduceDIte, reduceCtorEq, Nat.reduceAdd, Nat.reduceLT, Nat.reduceLeDiff, decide_true, decide_false, Bool.and_self, Bool.or_self, Bool.or_false, Bool.false_or, Bool.and_true, Bool.true_and, Bool.not_true, Bool.not_false]; rfl) (by exact trivial) ?_
    refine q_seqn ?_
    refine e_seq ?_
    obtain ⟨r_v10, hv1, hC0⟩ := bind_some hC0
    obtain rfl := val_eq hv1
    refine e_region E_diff_Reverse (by simp only [go_sem, List.toList_toArray, Nat.reduceEqDiff, reduceIte, reduceDIte, reduceCtorEq, Nat.reduceAdd, Nat.reduceLT, Nat.reduceLeDiff, decide_true, decide_false, Bool.and_self, Bool.or_self, Bool.or_false, Bool.false_or, Bool.and_true, Bool.true_and, Bool.not_true, Bool.not_false]; rfl) (by exact (isSome_eq hv1)) ?_
    generalize val (slices_Clone_diff_Edit script_v1) = r_v10 at hC0 ⊢
    refine q_seqn ?_
    refine e_seq ?_
    refine e_seq ?_
    refine e_region E_diff_Reverse (by simp only [go_sem, List.toList_toArray, Nat.reduceEqDiff, reduceIte, reduceDIte, reduceCtorEq, Nat.reduceAdd, Nat.reduceLT, Nat.reduceLeDiff, decide_true, decide_false, Bool.and_self, Bool.or_self, Bool.or_false, Bool.false_or, Bool.and_true, Bool.true_and, Bool.not_true, Bool.not_false]; rfl) (by exact trivial) ?_
    refine q_seqn ?_
    refine e_block ?_
    obtain ⟨out_v17, hy1, hC0⟩ := bind_some hC0
    refine e_cutx 0 (fun s => s = (fun x => ⟨[(3, (.own 0 r_v10.2, none))], [(0, .row 58 (.pair (.int .i64) (.pair .str .unit)) x r_v10.2)], 1, 31, 0⟩) out_v17) ?_ ?_
    · skip
      refine e_loopM hy1 (fun x => ⟨[(3, (.own 0 r_v10.2, none)), (8, (.val (.int .i64) ((r_v10.2 : Nat) : Int), none)), (9, (.val (.int .i64) x.1, none))], [(0, .row 58 (.pair (.int .i64) (.pair .str .unit)) x.2 r_v10.2)], 1, 31, 0⟩) ⟨[3, 8, 9], [(0, 32)]⟩ (by rfl) ?_
      intro x1 w1 n1 hC1 hN1
      obtain ⟨x_v13, out_v14⟩ := x1
      unfold diff_Reverse_step1 at hC1
      dsimp only at hC1 ⊢
      refine e_seq ?_
      refine e_region E_diff_Reverse (by simp only [go_sem, List.toList_toArray, Nat.reduceEqDiff, reduceIte, reduceDIte, reduceCtorEq, Nat.reduceAdd, Nat.reduceLT, Nat.reduceLeDiff, decide_true, decide_false, Bool.and_self, Bool.or_self, Bool.or_false, Bool.false_or, Bool.and_true, Bool.true_and, Bool.not_true, Bool.not_false]; rfl) (by exact trivial) ?_
      refine q_seqn ?_
      refine e_seq ?_
      refine e_cond (by simp only [go_sem, List.toList_toArray, Nat.reduceEqDiff, reduceIte, reduceDIte, reduceCtorEq, Nat.reduceAdd, Nat.reduceLT, Nat.reduceLeDiff, decide_true, decide_false, Bool.and_self, Bool.or_self, Bool.or_false, Bool.false_or, Bool.and_true, Bool.true_and, Bool.not_true, Bool.not_false]; rfl) (fun hc1 => ?_) (fun hc1 => ?_)
      · replace hC1 := ite_t hC1 hc1
        refine e_skip ?_
        refine q_seqn ?_
        refine e_seq ?_
        refine e_block ?_
        refine e_seq ?_
        refine e_region E_diff_Reverse (by simp only [go_sem, List.toList_toArray, Nat.reduceEqDiff, reduceIte, reduceDIte, reduceCtorEq, Nat.reduceAdd, Nat.reduceLT, Nat.reduceLeDiff, decide_true, decide_false, Bool.and_self, Bool.or_self, Bool.or_false, Bool.false_or, Bool.and_true, Bool.true_and, Bool.not_true, Bool.not_false]; rfl) (by exact trivial) ?_
        refine q_seqn ?_
        refine e_seq ?_
        obtain ⟨hg2, hC1⟩ := ite_some hC1
        refine e_region E_diff_Reverse (by simp only [go_sem, List.toList_toArray, Nat.reduceEqDiff, reduceIte, reduceDIte, reduceCtorEq, Nat.reduceAdd, Nat.reduceLT, Nat.reduceLeDiff, decide_true, decide_false, Bool.and_self, Bool.or_self, Bool.or_false, Bool.false_or, Bool.and_true, Bool.true_and, Bool.not_true, Bool.not_false]; rfl) (by exact And.intro hg2 ((by first | exact rfl | exact trivial))) ?_
        refine q_seqn ?_
        refine e_block ?_
        refine e_seq ?_
        refine e_region E_diff_Reverse (by simp only [go_sem, List.toList_toArray, Nat.reduceEqDiff, reduceIte, reduceDIte, reduceCtorEq, Nat.reduceAdd, Nat.reduceLT, Nat.reduceLeDiff, decide_true, decide_false, Bool.and_self, Bool.or_self, Bool.or_false, Bool.false_or, Bool.and_true, Bool.true_and, Bool.not_true, Bool.not_false]; rfl) (by exact trivial) ?_
        refine q_seqn ?_
        refine e_cond (by simp only [go_sem, List.toList_toArray, Nat.reduceEqDiff, reduceIte, reduceDIte, reduceCtorEq, Nat.reduceAdd, Nat.reduceLT, Nat.reduceLeDiff, decide_true, decide_false, Bool.and_self, Bool.or_self, Bool.or_false, Bool.false_or, Bool.and_true, Bool.true_and, Bool.not_true, Bool.not_false]; rfl) (fun hc2 => ?_) (fun hc2 => ?_)
        · replace hC1 := ite_t hC1 hc2
          obtain ⟨hg3, hC1⟩ := ite_some hC1
          refine e_region E_diff_Reverse (by simp only [go_sem, List.toList_toArray, Nat.reduceEqDiff, reduceIte, reduceDIte, reduceCtorEq, Nat.reduceAdd, Nat.reduceLT, Nat.reduceLeDiff, decide_true, decide_false, Bool.and_self, Bool.or_self, Bool.or_false, Bool.false_or, Bool.and_true, Bool.true_and, Bool.not_true, Bool.not_false]; rfl) (by exact And.intro hg3 ((by first | exact rfl | exact trivial))) ?_
          refine q_blkn ?_
          refine q_blkn ?_
          refine q_seqn ?_
          obtain ⟨hg4, hC1⟩ := ite_some hC1
          refine e_region E_diff_Reverse (by simp only [go_sem, List.toList_toArray, Nat.reduceEqDiff, reduceIte, reduceDIte, reduceCtorEq, Nat.reduceAdd, Nat.reduceLT, Nat.reduceLeDiff, decide_true, decide_false, Bool.and_self, Bool.or_self, Bool.or_false, Bool.false_or, Bool.and_true, Bool.true_and, Bool.not_true, Bool.not_false]; rfl) (by exact hg4) ?_
          cases hC1
          exact q_Ln ⟨⟨[3, 8, 9], [(0, 0)]⟩, _, by rfl, hN1⟩
        · replace hC1 := ite_f hC1 hc2
          refine e_seq ?_
          refine e_region E_diff_Reverse (by simp only [go_sem, List.toList_toArray, Nat.reduceEqDiff, reduceIte, reduceDIte, reduceCtorEq, Nat.reduceAdd, Nat.reduceLT, Nat.reduceLeDiff, decide_true, decide_false, Bool.and_self, Bool.or_self, Bool.or_false, Bool.false_or, Bool.and_true, Bool.true_and, Bool.not_true, Bool.not_false]; rfl) (by exact trivial) ?_
          refine q_seqn ?_
          refine e_cond (by simp only [go_sem, List.toList_toArray, Nat.reduceEqDiff, reduceIte, reduceDIte, reduceCtorEq, Nat.reduceAdd, Nat.reduceLT, Nat.reduceLeDiff, decide_true, decide_false, Bool.and_self, Bool.or_self, Bool.or_false, Bool.false_or, Bool.and_true, Bool.true_and, Bool.not_true, Bool.not_false]; rfl) (fun hc3 => ?_) (fun hc3 => ?_)
          · replace hC1 := ite_t hC1 hc3
            obtain ⟨hg5, hC1⟩ := ite_some hC1
            refine e_region E_diff_Reverse (by simp only [go_sem, List.toList_toArray, Nat.reduceEqDiff, reduceIte, reduceDIte, reduceCtorEq, Nat.reduceAdd, Nat.reduceLT, Nat.reduceLeDiff, decide_true, decide_false, Bool.and_self, Bool.or_self, Bool.or_false, Bool.false_or, Bool.and_true, Bool.true_and, Bool.not_true, Bool.not_false]; rfl) (by exact And.intro hg5 ((by first | exact rfl | exact trivial))) ?_
            refine q_blkn ?_
            refine q_blkn ?_
            refine q_seqn ?_
            obtain ⟨hg6, hC1⟩ := ite_some hC1
            refine e_region E_diff_Reverse (by simp only [go_sem, List.toList_toArray, Nat.reduceEqDiff, reduceIte, reduceDIte, reduceCtorEq, Nat.reduceAdd, Nat.reduceLT, Nat.reduceLeDiff, decide_true, decide_false, Bool.and_self, Bool.or_self, Bool.or_false, Bool.false_or, Bool.and_true, Bool.true_and, Bool.not_true, Bool.not_false]; rfl) (by exact hg6) ?_
            cases hC1
            exact q_Ln ⟨⟨[3, 8, 9], [(0, 0)]⟩, _, by rfl, hN1⟩
          · replace hC1 := ite_f hC1 hc3
            refine e_skip ?_
            refine q_blkn ?_
            refine q_blkn ?_
            refine q_seqn ?_
            obtain ⟨hg7, hC1⟩ := ite_some hC1
            refine e_region E_diff_Reverse (by simp only [go_sem, List.toList_toArray, Nat.reduceEqDiff, reduceIte, reduceDIte, reduceCtorEq, Nat.reduceAdd, Nat.reduceLT, Nat.reduceLeDiff, decide_true, decide_false, Bool.and_self, Bool.or_self, Bool.or_false, Bool.false_or, Bool.and_true, Bool.true_and, Bool.not_true, Bool.not_false]; rfl) (by exact hg7) ?_
            cases hC1
            exact q_Ln ⟨⟨[3, 8, 9], [(0, 0)]⟩, _, by rfl, hN1⟩
      · replace hC1 := ite_f hC1 hc1
        refine e_exit ?_
        refine q_seqx ?_
        refine q_Lx ?_
        cases hC1
        cases hN1
        exact q_xx ⟨⟨[3], [(0, 0)]⟩, by rfl⟩
    · rintro _ rfl
      dsimp only at hC0 ⊢
      refine q_blkx ?_
      refine q_seqn ?_
      refine e_seq ?_
      refine e_region E_diff_Reverse (by simp only [go_sem, List.toList_toArray, Nat.reduceEqDiff, reduceIte, reduceDIte, reduceCtorEq, Nat.reduceAdd, Nat.reduceLT, Nat.reduceLeDiff, decide_true, decide_false, Bool.and_self, Bool.or_self, Bool.or_false, Bool.false_or, Bool.and_true, Bool.true_and, Bool.not_true, Bool.not_false]; rfl) (by exact trivial) ?_
      refine q_seqn ?_
      refine e_seal 0 rfl (by repeat' (first | exact trivial | apply And.intro | exact (fun _ => rfl) | exact (fun h => absurd h (by decide)))) ?_
      refine e_ret ?_
      cases hC0
      exact ⟨[(0, 0)], by rfl, by rfl, by rfl⟩
  · cases hC

attribute [irreducible] diff_Reverse


noncomputable def diff_Script_step1 (a_v1 : (List (List UInt8))) (b_v2 : (List (List UInt8))) : (Int × (List (Int × ((List UInt8) × Unit))) × Int × Int) → Option ((Int × (List (Int × ((List UInt8) × Unit))) × Int × Int) ⊕ ((List (Int × ((List UInt8) × Unit))) × Int × Int)) := fun (x_v27, b_v28, b_v29, b_v30) =>
  if (decide (x_v27 < (List.length (pairsD a_v1 b_v2) : Int))) = true then
    if 0 ≤ x_v27 ∧ x_v27 < (List.length (pairsD a_v1 b_v2) : Int) then
      (diff_ScriptF1 (nth (.pair (.int .i64) (.pair (.int .i64) .unit)) (pairsD a_v1 b_v2) x_v27) b_v29 b_v28 a_v1 b_v30 b_v2).bind fun r_v39 =>
      if 0 ≤ r_v39.1 ∧ r_v39.1 < (List.length a_v1 : Int) then
        if (List.length r_v39.2.1 + List.length ([((1 : Int), ((nth .str a_v1 r_v39.1), ()))] : List (Int × ((List UInt8) × Unit)))) * 24 ≤ 140737488355328 then
          if -9223372036854775808 ≤ (r_v39.1 + (1 : Int)) ∧ (r_v39.1 + (1 : Int)) ≤ 9223372036854775807 then
            if -9223372036854775808 ≤ (r_v39.2.2 + (1 : Int)) ∧ (r_v39.2.2 + (1 : Int)) ≤ 9223372036854775807 then
              if -9223372036854775808 ≤ (x_v27 + (1 : Int)) ∧ (x_v27 + (1 : Int)) ≤ 9223372036854775807 then
                some (.inl ((x_v27 + (1 : Int)), (r_v39.2.1 ++ ([((1 : Int), ((nth .str a_v1 r_v39.1), ()))] : List (Int × ((List UInt8) × Unit)))), (r_v39.1 + (1 : Int)), (r_v39.2.2 + (1 : Int))))
              else none
            else none
          else none
        else none
      else none
    else none
  else
    some (.inr (b_v28, b_v29, b_v30))

noncomputable def diff_Script (a_v1 : (List (List UInt8))) (b_v2 : (List (List UInt8))) : Option (List (Int × ((List UInt8) × Unit))) :=
  if (List.length a_v1 : Int) ≤ 1000 then
    if (List.length b_v2 : Int) ≤ 1000 then
      bnd (loopM (diff_Script_step1 a_v1 b_v2) ((0 : Int), ([] : List (Int × ((List UInt8) × Unit))), (0 : Int), (0 : Int))) fun (b_v36, b_v37, b_v38) =>
      (diff_ScriptF1 ((List.length a_v1 : Int), ((List.length b_v2 : Int), ())) b_v37 b_v36 a_v1 b_v38 b_v2).bind fun r_v40 =>
      some (r_v40.2.1)
    else none
  else none

@[go_sem] noncomputable def diff_ScriptC : List Slot → List Blk → Option Ret
  | [(.val (.list .str) a_v1, none), (.val (.list .str) b_v2, none)], [] => some ⟨[((diff_Script a_v1 b_v2)).isSome = true], [(.val (.list (.pair (.int .i64) (.pair .str .unit))) (val (diff_Script a_v1 b_v2)), some 0)], [.grow 58 2 (List.length (val (diff_Script a_v1 b_v2)))]⟩
  | _, _ => none

@[go_sem] noncomputable def G_diff_Script : Ctx := fun f => if f = 12 then some ⟨[.v, .v], C12⟩ else if f = 31 then some ⟨[.v, .p (.int .i64) [], .p (.list (.pair (.int .i64) (.pair .str .unit))) [0], .p (.list .str) [], .p (.int .i64) [], .p (.list .str) []], diff_ScriptF1C⟩ else none
@[go_sem] def T_diff_Script : Types := [(3, ⟨(.int .i64), 0, 0, false⟩), (9, ⟨.str, 0, 0, false⟩), (22, ⟨(.list .str), 9, 16, false⟩), (26, ⟨(.list (.pair (.int .i64) (.pair (.int .i64) .unit))), 28, 16, false⟩), (28, ⟨(.pair (.int .i64) (.pair (.int .i64) .unit)), 0, 1, true⟩), (40, ⟨(.list (.pair (.int .i64) (.pair .str .unit))), 58, 24, false⟩), (58, ⟨(.pair (.int .i64) (.pair .str .unit)), 0, 1, false⟩)]
theorem K_diff_Script : CtxOk Try.prog G_diff_Script := by
  intro f s h
  unfold G_diff_Script at h
  split at h
  · rename_i e; subst e; cases h; exact con12
  split at h
  · rename_i e; subst e; cases h; exact diff_ScriptF1_con
  · cases h
theorem E_diff_Script : Env Try.prog T_diff_Script G_diff_Script := ⟨⟨ty_int, ⟨ty_string, ⟨ty_Lstring, ⟨ty_L_2_int, ⟨ty_2_int, ⟨ty_Ldiff_Edit, ⟨ty_calque_diff_Edit, trivial⟩⟩⟩⟩⟩⟩⟩, K_diff_Script, by kernel_rfl⟩

set_option maxRecDepth 100000 in
set_option maxHeartbeats 4000000 in
theorem diff_Script_con : ConOk Try.prog 22 diff_ScriptC := by
  refine con_okR E_diff_Script.T Try.func22 (c := _) rfl (N := 44) (by kernel_rfl) (ts := [(4, none)]) (fun _ _ => rfl) rfl ?_
  intro args L r hC hs
  unfold diff_ScriptC at hC
  split at hC
  · rename_i a_v1 b_v2; cases hC
    obtain ⟨z0, hC0⟩ := Option.isSome_iff_exists.1 (show ((diff_Script a_v1 b_v2)).isSome = true from hs _ (by simp))
    try rw [val_eq hC0]
    clear hs
    unfold diff_Script at hC0
    refine ⟨by simp only [List.length_cons, List.length_nil]; omega, by repeat (first | exact trivial | refine And.intro rfl ?_), by repeat (first | exact trivial | refine And.intro rfl ?_), ?_⟩
    simp only [enumE, enumH, lenB, Nat.reduceAdd]
    refine e_seq ?_
    refine e_region E_diff_Script (by simp only [go_sem, List.toList_toArray, Nat.reduceEqDiff, reduceIte, reduceDIte, reduceCtorEq, Nat.reduceAdd, Nat.reduceLT, Nat.reduceLeDiff, decide_true, decide_false, Bool.and_self, Bool.or_self, Bool.or_false, Bool.false_or, Bool.and_true, Bool.true_and, Bool.not_true, Bool.not_false]; rfl) (by exact trivial) ?_
    refine q_seqn ?_
    refine e_seq ?_
    refine e_region E_diff_Script (by simp only [go_sem, List.toList_toArray, Nat.reduceEqDiff, reduceIte, reduceDIte, reduceCtorEq, Nat.reduceAdd, Nat.reduceLT, Nat.reduceLeDiff, decide_true, decide_false, Bool.and_self, Bool.or_self, Bool.or_false, Bool.false_or, Bool.and_true, Bool.true_and, Bool.not_true, Bool.not_false]; rfl) (by exact trivial) ?_
    refine q_seqn ?_
    refine e_seq ?_
    refine e_region E_diff_Script (by simp only [go_sem, List.toList_toArray, Nat.reduceEqDiff, reduceIte, reduceDIte, reduceCtorEq, Nat.reduceAdd, Nat.reduceLT, Nat.reduceLeDiff, decide_true, decide_false, Bool.and_self, Bool.or_self, Bool.or_false, Bool.false_or, Bool.and_true, Bool.true_and, Bool.not_true, Bool.not_false]; rfl) (by exact trivial) ?_
    refine q_seqn ?_
    refine e_seq ?_
    refine e_region E_diff_Script (by simp only [go_sem, List.toList_toArray, Nat.reduceEqDiff, reduceIte, reduceDIte, reduceCtorEq, Nat.reduceAdd, Nat.reduceLT, Nat.reduceLeDiff, decide_true, decide_false, Bool.and_self, Bool.or_self, Bool.or_false, Bool.false_or, Bool.and_true, Bool.true_and, Bool.not_true, Bool.not_false]; rfl) (by exact trivial) ?_
    refine q_seqn ?_
    refine e_seq ?_
    refine e_seq ?_
    obtain ⟨hg1, hC0⟩ := ite_some hC0
    obtain ⟨hg2, hC0⟩ := ite_some hC0
    refine e_region E_diff_Script (by simp only [go_sem, List.toList_toArray, Nat.reduceEqDiff, reduceIte, reduceDIte, reduceCtorEq, Nat.reduceAdd, Nat.reduceLT, Nat.reduceLeDiff, decide_true, decide_false, Bool.and_self, Bool.or_self, Bool.or_false, Bool.false_or, Bool.and_true, Bool.true_and, Bool.not_true, Bool.not_false]; rfl) (by exact And.intro hg1 (hg2)) ?_
    refine q_seqn ?_
    refine e_block ?_
    obtain ⟨y1, hy1, hC0⟩ := bind_some hC0
    refine e_cutx 0 (fun s => s = (fun x => ⟨[(2, (.val .ref (some (0, 0)), none)), (3, (.val .ref (some (1, 0)), none)), (5, (.val .ref (some (2, 0)), none)), (8, (.val .clo (some (31, [(3, 0), (2, 0), (0, 0), (4, 0), (1, 0)])), none))], [(0, .cells (.list .str) a_v1 []), (1, .cells (.list .str) b_v2 []), (2, .cells (.list (.pair (.int .i64) (.pair .str .unit))) x.1 [(0, 5)]), (3, .cells (.int .i64) x.2.1 []), (4, .cells (.int .i64) x.2.2 []), (5, .grow 58 2 (List.length x.1))], 6, 44, 0⟩) y1) ?_ ?_
    · skip
      refine e_loopM hy1 (fun x => ⟨[(2, (.val .ref (some (0, 0)), none)), (3, (.val .ref (some (1, 0)), none)), (5, (.val .ref (some (2, 0)), none)), (6, (.val .ref (some (3, 0)), none)), (7, (.val .ref (some (4, 0)), none)), (8, (.val .clo (some (31, [(3, 0), (2, 0), (0, 0), (4, 0), (1, 0)])), none)), (14, (.val (.list (.pair (.int .i64) (.pair (.int .i64) .unit))) (pairsD a_v1 b_v2), none)), (15, (.val (.int .i64) (List.length (pairsD a_v1 b_v2) : Int), none)), (16, (.val (.int .i64) x.1, none))], [(0, .cells (.list .str) a_v1 []), (1, .cells (.list .str) b_v2 []), (2, .cells (.list (.pair (.int .i64) (.pair .str .unit))) x.2.1 [(0, 5)]), (3, .cells (.int .i64) x.2.2.1 []), (4, .cells (.int .i64) x.2.2.2 []), (5, .grow 58 2 (List.length x.2.1))], 6, 44, 0⟩) ⟨[2, 3, 5, 6, 7, 8, 14, 15, 16], [(0, 0), (1, 16), (2, 48), (3, 64), (4, 80), (5, 49)]⟩ (by rfl) ?_
      intro x1 w1 n1 hC1 hN1
      obtain ⟨x_v27, b_v28, b_v29, b_v30⟩ := x1
      unfold diff_Script_step1 at hC1
      dsimp only at hC1 ⊢
      refine e_seq ?_
      refine e_region E_diff_Script (by simp only [go_sem, List.toList_toArray, Nat.reduceEqDiff, reduceIte, reduceDIte, reduceCtorEq, Nat.reduceAdd, Nat.reduceLT, Nat.reduceLeDiff, decide_true, decide_false, Bool.and_self, Bool.or_self, Bool.or_false, Bool.false_or, Bool.and_true, Bool.true_and, Bool.not_true, Bool.not_false]; rfl) (by exact trivial) ?_
      refine q_seqn ?_
      refine e_seq ?_
      refine e_cond (by simp only [go_sem, List.toList_toArray, Nat.reduceEqDiff, reduceIte, reduceDIte, reduceCtorEq, Nat.reduceAdd, Nat.reduceLT, Nat.reduceLeDiff, decide_true, decide_false, Bool.and_self, Bool.or_self, Bool.or_false, Bool.false_or, Bool.and_true, Bool.true_and, Bool.not_true, Bool.not_false]; rfl) (fun hc1 => ?_) (fun hc1 => ?_)
      · replace hC1 := ite_t hC1 hc1
        refine e_skip ?_
        refine q_seqn ?_
        refine e_seq ?_
        refine e_block ?_
        refine e_seq ?_
        obtain ⟨hg3, hC1⟩ := ite_some hC1
        refine e_region E_diff_Script (by simp only [go_sem, List.toList_toArray, Nat.reduceEqDiff, reduceIte, reduceDIte, reduceCtorEq, Nat.reduceAdd, Nat.reduceLT, Nat.reduceLeDiff, decide_true, decide_false, Bool.and_self, Bool.or_self, Bool.or_false, Bool.false_or, Bool.and_true, Bool.true_and, Bool.not_true, Bool.not_false]; rfl) (by exact hg3) ?_
        refine q_seqn ?_
        refine e_seq ?_
        obtain ⟨r_v39, hv4, hC1⟩ := bind_some hC1
        obtain rfl := val_eq hv4
        refine e_region E_diff_Script (by simp only [go_sem, List.toList_toArray, Nat.reduceEqDiff, reduceIte, reduceDIte, reduceCtorEq, Nat.reduceAdd, Nat.reduceLT, Nat.reduceLeDiff, decide_true, decide_false, Bool.and_self, Bool.or_self, Bool.or_false, Bool.false_or, Bool.and_true, Bool.true_and, Bool.not_true, Bool.not_false]; rfl) (by exact And.intro (by first | exact rfl | exact trivial) ((isSome_eq hv4))) ?_
        refine q_seqn ?_
        refine e_seq ?_
        obtain ⟨hg5, hC1⟩ := ite_some hC1
        obtain ⟨hg6, hC1⟩ := ite_some hC1
        refine e_drawn E_diff_Script (by simp only [go_sem, List.toList_toArray, Nat.reduceEqDiff, reduceIte, reduceDIte, reduceCtorEq, Nat.reduceAdd, Nat.reduceLT, Nat.reduceLeDiff, decide_true, decide_false, Bool.and_self, Bool.or_self, Bool.or_false, Bool.false_or, Bool.and_true, Bool.true_and, Bool.not_true, Bool.not_false]; rfl) (by kernel_rfl) (by exact And.intro hg5 (And.intro (by first | exact rfl | exact trivial) (hg6))) ?_
        refine q_seqn ?_
        obtain ⟨hg7, hC1⟩ := ite_some hC1
        obtain ⟨hg8, hC1⟩ := ite_some hC1
        refine e_drawn E_diff_Script (by simp only [go_sem, List.toList_toArray, Nat.reduceEqDiff, reduceIte, reduceDIte, reduceCtorEq, Nat.reduceAdd, Nat.reduceLT, Nat.reduceLeDiff, decide_true, decide_false, Bool.and_self, Bool.or_self, Bool.or_false, Bool.false_or, Bool.and_true, Bool.true_and, Bool.not_true, Bool.not_false]; rfl) (by kernel_rfl) (by exact And.intro hg7 (hg8)) ?_
        refine q_blkn ?_
        refine q_seqn ?_
        obtain ⟨hg9, hC1⟩ := ite_some hC1
        refine e_region E_diff_Script (by simp only [go_sem, List.toList_toArray, Nat.reduceEqDiff, reduceIte, reduceDIte, reduceCtorEq, Nat.reduceAdd, Nat.reduceLT, Nat.reduceLeDiff, decide_true, decide_false, Bool.and_self, Bool.or_self, Bool.or_false, Bool.false_or, Bool.and_true, Bool.true_and, Bool.not_true, Bool.not_false]; rfl) (by exact hg9) ?_
        cases hC1
        exact q_Ln ⟨⟨[2, 3, 5, 6, 7, 8, 14, 15, 16], [(0, 0), (1, 1), (2, 2), (3, 3), (4, 4), (5, 120)]⟩, _, by rfl, hN1⟩
      · replace hC1 := ite_f hC1 hc1
        refine e_exit ?_
        refine q_seqx ?_
        refine q_Lx ?_
        cases hC1
        cases hN1
        exact q_xx ⟨⟨[2, 3, 5, 8], [(0, 0), (1, 1), (2, 2), (3, 3), (4, 4), (5, 5)]⟩, by rfl⟩
    · rintro _ rfl
      obtain ⟨b_v36, b_v37, b_v38⟩ := y1
      dsimp only at hC0 ⊢
      refine q_blkx ?_
      refine q_seqn ?_
      refine e_seq ?_
      obtain ⟨r_v40, hv10, hC0⟩ := bind_some hC0
      obtain rfl := val_eq hv10
      refine e_region E_diff_Script (by simp only [go_sem, List.toList_toArray, Nat.reduceEqDiff, reduceIte, reduceDIte, reduceCtorEq, Nat.reduceAdd, Nat.reduceLT, Nat.reduceLeDiff, decide_true, decide_false, Bool.and_self, Bool.or_self, Bool.or_false, Bool.false_or, Bool.and_true, Bool.true_and, Bool.not_true, Bool.not_false]; rfl) (by exact And.intro (by first | exact rfl | exact trivial) ((isSome_eq hv10))) ?_
      refine q_seqn ?_
      refine e_seq ?_
      refine e_region E_diff_Script (by simp only [go_sem, List.toList_toArray, Nat.reduceEqDiff, reduceIte, reduceDIte, reduceCtorEq, Nat.reduceAdd, Nat.reduceLT, Nat.reduceLeDiff, decide_true, decide_false, Bool.and_self, Bool.or_self, Bool.or_false, Bool.false_or, Bool.and_true, Bool.true_and, Bool.not_true, Bool.not_false]; rfl) (by exact trivial) ?_
      refine q_seqn ?_
      refine e_ret ?_
      cases hC0
      exact ⟨[(0, 104)], by rfl, by rfl, by rfl⟩
  · cases hC

attribute [irreducible] diff_Script

end Go.Proofs.Ytfcibaiiobihnaa
