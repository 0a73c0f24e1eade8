/- PLAIN FORMS of the program's functions, and that the code computes them. -/
import Derived.Test.YtfcibaiiobihnaaEty
import Derived.Test.YtfcibaiiobihnaaE00
import Derived.Test.YtfcibaiiobihnaaE01
import Derived.Test.YtfcibaiiobihnaaE02
import Derived.Test.YtfcibaiiobihnaaE04
import Derived.Test.YtfcibaiiobihnaaE05
import Derived.Test.YtfcibaiiobihnaaE06
import Derived.Test.YtfcibaiiobihnaaE07
import Derived.Test.YtfcibaiiobihnaaVt
import Derived.KernelRfl
namespace Go.Proofs.Ytfcibaiiobihnaa
open Vc
set_option linter.unusedSimpArgs false
set_option linter.unusedVariables false


noncomputable def r05_Script_step1 (toArray_v1 : (List (List UInt8))) (p1_v2 : (List (List UInt8))) (r_v23 : (List (Int × (Int × Unit)))) : ((List (Int × ((List UInt8) × Unit))) × Int × Int × Int) → Option (((List (Int × ((List UInt8) × Unit))) × Int × Int × Int) ⊕ ((List (Int × ((List UInt8) × Unit))) × Int × Int)) := fun (x_v29, x_v30, x_v31, x_v32) =>
  if (decide (x_v32 < (List.length r_v23 : Int))) = true then
    if 0 ≤ x_v32 ∧ x_v32 < (List.length r_v23 : Int) then
      if 0 ≤ x_v30 ∧ x_v30 ≤ (nth (.pair (.int .i64) (.pair (.int .i64) .unit)) r_v23 x_v32).1 ∧ (nth (.pair (.int .i64) (.pair (.int .i64) .unit)) r_v23 x_v32).1 ≤ (List.length toArray_v1 : Int) then
        if 0 ≤ x_v32 ∧ x_v32 < (List.length r_v23 : Int) then
          if 0 ≤ x_v31 ∧ x_v31 ≤ (nth (.pair (.int .i64) (.pair (.int .i64) .unit)) r_v23 x_v32).2.1 ∧ (nth (.pair (.int .i64) (.pair (.int .i64) .unit)) r_v23 x_v32).2.1 ≤ (List.length p1_v2 : Int) then
            (r05_parts x_v29 (cutL toArray_v1 x_v30 ((nth (.pair (.int .i64) (.pair (.int .i64) .unit)) r_v23 x_v32).1)) (cutL p1_v2 x_v31 ((nth (.pair (.int .i64) (.pair (.int .i64) .unit)) r_v23 x_v32).2.1))).bind fun r_v41 =>
            if 0 ≤ x_v32 ∧ x_v32 < (List.length r_v23 : Int) then
              if 0 ≤ (nth (.pair (.int .i64) (.pair (.int .i64) .unit)) r_v23 x_v32).1 ∧ (nth (.pair (.int .i64) (.pair (.int .i64) .unit)) r_v23 x_v32).1 < (List.length toArray_v1 : Int) then
                if (List.length r_v41 + List.length ([((1 : Int), ((nth .str toArray_v1 ((nth (.pair (.int .i64) (.pair (.int .i64) .unit)) r_v23 x_v32).1)), ()))] : List (Int × ((List UInt8) × Unit)))) * 24 ≤ 140737488355328 then
                  if 0 ≤ x_v32 ∧ x_v32 < (List.length r_v23 : Int) then
                    if -9223372036854775808 ≤ ((nth (.pair (.int .i64) (.pair (.int .i64) .unit)) r_v23 x_v32).1 + (1 : Int)) ∧ ((nth (.pair (.int .i64) (.pair (.int .i64) .unit)) r_v23 x_v32).1 + (1 : Int)) ≤ 9223372036854775807 then
                      if 0 ≤ x_v32 ∧ x_v32 < (List.length r_v23 : Int) then
                        if -9223372036854775808 ≤ ((nth (.pair (.int .i64) (.pair (.int .i64) .unit)) r_v23 x_v32).2.1 + (1 : Int)) ∧ ((nth (.pair (.int .i64) (.pair (.int .i64) .unit)) r_v23 x_v32).2.1 + (1 : Int)) ≤ 9223372036854775807 then
                          if -9223372036854775808 ≤ (x_v32 + (1 : Int)) ∧ (x_v32 + (1 : Int)) ≤ 9223372036854775807 then
                            some (.inl ((r_v41 ++ ([((1 : Int), ((nth .str toArray_v1 ((nth (.pair (.int .i64) (.pair (.int .i64) .unit)) r_v23 x_v32).1)), ()))] : List (Int × ((List UInt8) × Unit)))), ((nth (.pair (.int .i64) (.pair (.int .i64) .unit)) r_v23 x_v32).1 + (1 : Int)), ((nth (.pair (.int .i64) (.pair (.int .i64) .unit)) r_v23 x_v32).2.1 + (1 : Int)), (x_v32 + (1 : Int))))
                          else none
                        else none
                      else none
                    else none
                  else none
                else none
              else none
            else none
          else none
        else none
      else none
    else none
  else
    some (.inr (x_v29, x_v30, x_v31))

noncomputable def r05_Script (toArray_v1 : (List (List UInt8))) (p1_v2 : (List (List UInt8))) : Option (List (Int × ((List UInt8) × Unit))) :=
  (r05_Common toArray_v1 p1_v2).bind fun r_v23 =>
  bnd (loopM (r05_Script_step1 toArray_v1 p1_v2 r_v23) (([] : List (Int × ((List UInt8) × Unit))), (0 : Int), (0 : Int), (0 : Int))) fun (x_v38, x_v39, x_v40) =>
  if 0 ≤ x_v39 ∧ x_v39 ≤ (List.length toArray_v1 : Int) ∧ (List.length toArray_v1 : Int) ≤ (List.length toArray_v1 : Int) then
    if 0 ≤ x_v40 ∧ x_v40 ≤ (List.length p1_v2 : Int) ∧ (List.length p1_v2 : Int) ≤ (List.length p1_v2 : Int) then
      (r05_parts x_v38 (cutL toArray_v1 x_v39 (List.length toArray_v1 : Int)) (cutL p1_v2 x_v40 (List.length p1_v2 : Int))).bind fun r_v42 =>
      some (r_v42)
    else none
  else none

@[go_sem] noncomputable def r05_ScriptC : List Slot → List Blk → Option Ret
  | [(.val (.list .str) toArray_v1, none), (.val (.list .str) p1_v2, none)], [] => some ⟨[((r05_Script toArray_v1 p1_v2)).isSome = true], [(.val (.list (.pair (.int .i64) (.pair .str .unit))) (val (r05_Script toArray_v1 p1_v2)), some 0)], [.grow 56 2 (List.length (val (r05_Script toArray_v1 p1_v2)))]⟩
  | _, _ => none

@[go_sem] noncomputable def G_r05_Script : Ctx := fun f => if f = 13 then some ⟨[.v, .v], r05_CommonC⟩ else if f = 32 then some ⟨[.own, .v, .v], r05_partsC⟩ else none
@[go_sem] def T_r05_Script : Types := [(3, ⟨(.int .i64), 0, 0, false⟩), (9, ⟨.str, 0, 0, false⟩), (22, ⟨(.list .str), 9, 16, false⟩), (26, ⟨(.list (.pair (.int .i64) (.pair (.int .i64) .unit))), 28, 16, false⟩), (28, ⟨(.pair (.int .i64) (.pair (.int .i64) .unit)), 0, 1, true⟩), (35, ⟨(.list (.pair (.int .i64) (.pair .str .unit))), 56, 24, false⟩), (56, ⟨(.pair (.int .i64) (.pair .str .unit)), 0, 1, false⟩)]
theorem K_r05_Script : CtxOk Try.prog G_r05_Script := by
  intro f s h
  unfold G_r05_Script at h
  split at h
  · rename_i e; subst e; cases h; exact r05_Common_con
  split at h
  · rename_i e; subst e; cases h; exact r05_parts_con
  · cases h
theorem E_r05_Script : Env Try.prog T_r05_Script G_r05_Script := ⟨⟨ty_int, ⟨ty_string, ⟨ty_Lstring, ⟨ty_L_2_int, ⟨ty_2_int, ⟨ty_Lcalqueref05_Edit, ⟨ty_calque_calqueref05_Edit, trivial⟩⟩⟩⟩⟩⟩⟩, K_r05_Script, by kernel_rfl⟩

set_option maxRecDepth 100000 in
set_option maxHeartbeats 4000000 in
theorem r05_Script_con : ConOk Try.prog 23 r05_ScriptC := by
  refine con_okR E_r05_Script.T Try.func23 (c := _) rfl (N := 69) (by kernel_rfl) (ts := [(4, none)]) (fun _ _ => rfl) rfl ?_
  intro args L r hC hs
  unfold r05_ScriptC at hC
  split at hC
  · rename_i toArray_v1 p1_v2; cases hC
    obtain ⟨z0, hC0⟩ := Option.isSome_iff_exists.1 (show ((r05_Script toArray_v1 p1_v2)).isSome = true from hs _ (by simp))
    try rw [val_eq hC0]
    clear hs
    unfold r05_Script at hC0
    refine ⟨by simp only [List.length_cons, List.length_nil]; omega, by repeat (first | exact trivial | refine And.intro rfl ?_), by repeat (first | exact trivial | refine And.intro rfl ?_), ?_⟩
    simp only [enumE, enumH, lenB, Nat.reduceAdd]
    refine e_seq ?_
    refine e_region E_r05_Script (by simp only [go_sem, Int.reduceToNat, List.toList_toArray, Nat.reduceEqDiff, reduceIte, reduceDIte, reduceCtorEq, Nat.reduceAdd, Nat.reduceLT, Nat.reduceLeDiff, decide_true, decide_false, Bool.and_self, Bool.or_self, Bool.or_false, Bool.false_or, Bool.and_true, Bool.true_and, Bool.not_true, Bool.not_false]; rfl) (by exact trivial) ?_
    refine q_seqn ?_
    refine e_seq ?_
    refine e_region E_r05_Script (by simp only [go_sem, Int.reduceToNat, List.toList_toArray, Nat.reduceEqDiff, reduceIte, reduceDIte, reduceCtorEq, Nat.reduceAdd, Nat.reduceLT, Nat.reduceLeDiff, decide_true, decide_false, Bool.and_self, Bool.or_self, Bool.or_false, Bool.false_or, Bool.and_true, Bool.true_and, Bool.not_true, Bool.not_false]; rfl) (by exact trivial) ?_
    refine q_seqn ?_
    refine e_seq ?_
    refine e_region E_r05_Script (by simp only [go_sem, Int.reduceToNat, List.toList_toArray, Nat.reduceEqDiff, reduceIte, reduceDIte, reduceCtorEq, Nat.reduceAdd, Nat.reduceLT, Nat.reduceLeDiff, decide_true, decide_false, Bool.and_self, Bool.or_self, Bool.or_false, Bool.false_or, Bool.and_true, Bool.true_and, Bool.not_true, Bool.not_false]; rfl) (by exact trivial) ?_
    refine q_seqn ?_
    refine e_seq ?_
    obtain ⟨r_v23, hv1, hC0⟩ := bind_some hC0
    obtain rfl := val_eq hv1
    refine e_region E_r05_Script (by simp only [go_sem, Int.reduceToNat, List.toList_toArray, Nat.reduceEqDiff, reduceIte, reduceDIte, reduceCtorEq, Nat.reduceAdd, Nat.reduceLT, Nat.reduceLeDiff, decide_true, decide_false, Bool.and_self, Bool.or_self, Bool.or_false, Bool.false_or, Bool.and_true, Bool.true_and, Bool.not_true, Bool.not_false]; rfl) (by exact (isSome_eq hv1)) ?_
    generalize val (r05_Common toArray_v1 p1_v2) = r_v23 at hC0 ⊢
    refine q_seqn ?_
    refine e_seq ?_
    refine e_seq ?_
    refine e_region E_r05_Script (by simp only [go_sem, Int.reduceToNat, List.toList_toArray, Nat.reduceEqDiff, reduceIte, reduceDIte, reduceCtorEq, Nat.reduceAdd, Nat.reduceLT, Nat.reduceLeDiff, decide_true, decide_false, Bool.and_self, Bool.or_self, Bool.or_false, Bool.false_or, Bool.and_true, Bool.true_and, Bool.not_true, Bool.not_false]; rfl) (by exact trivial) ?_
    refine q_seqn ?_
    refine e_block ?_
    obtain ⟨y1, hy1, hC0⟩ := bind_some hC0
    refine e_cutx 0 (fun s => s = (fun x => ⟨[(0, (.val (.list .str) toArray_v1, none)), (1, (.val (.list .str) p1_v2, none)), (5, (.val (.list (.pair (.int .i64) (.pair .str .unit))) x.1, some 0)), (6, (.val (.int .i64) x.2.1, none)), (7, (.val (.int .i64) x.2.2, none))], [(0, .grow 56 2 (List.length x.1))], 1, 69, 0⟩) y1) ?_ ?_
    · skip
      refine e_loopM hy1 (fun x => ⟨[(0, (.val (.list .str) toArray_v1, none)), (1, (.val (.list .str) p1_v2, none)), (5, (.val (.list (.pair (.int .i64) (.pair .str .unit))) x.1, some 0)), (6, (.val (.int .i64) x.2.1, none)), (7, (.val (.int .i64) x.2.2.1, none)), (8, (.val (.list (.pair (.int .i64) (.pair (.int .i64) .unit))) r_v23, some 1)), (9, (.val (.int .i64) x.2.2.2, none))], [(0, .grow 56 2 (List.length x.1)), (1, .grow 28 2 (List.length r_v23))], 2, 69, 0⟩) ⟨[0, 1, 5, 6, 7, 8, 9], [(0, 16), (1, 96)]⟩ (by rfl) ?_
      intro x1 w1 n1 hC1 hN1
      obtain ⟨x_v29, x_v30, x_v31, x_v32⟩ := x1
      unfold r05_Script_step1 at hC1
      dsimp only at hC1 ⊢
      refine e_seq ?_
      refine e_seq ?_
      refine e_region E_r05_Script (by simp only [go_sem, Int.reduceToNat, List.toList_toArray, Nat.reduceEqDiff, reduceIte, reduceDIte, reduceCtorEq, Nat.reduceAdd, Nat.reduceLT, Nat.reduceLeDiff, decide_true, decide_false, Bool.and_self, Bool.or_self, Bool.or_false, Bool.false_or, Bool.and_true, Bool.true_and, Bool.not_true, Bool.not_false]; rfl) (by exact trivial) ?_
      refine q_seqn ?_
      refine e_cond (by simp only [go_sem, Int.reduceToNat, List.toList_toArray, Nat.reduceEqDiff, reduceIte, reduceDIte, reduceCtorEq, Nat.reduceAdd, Nat.reduceLT, Nat.reduceLeDiff, decide_true, decide_false, Bool.and_self, Bool.or_self, Bool.or_false, Bool.false_or, Bool.and_true, Bool.true_and, Bool.not_true, Bool.not_false]; rfl) (fun hc1 => ?_) (fun hc1 => ?_)
      · replace hC1 := ite_t hC1 hc1
        refine e_skip ?_
        refine q_seqn ?_
        refine e_seq ?_
        refine e_block ?_
        refine e_seq ?_
        obtain ⟨hg2, hC1⟩ := ite_some hC1
        obtain ⟨hg3, hC1⟩ := ite_some hC1
        obtain ⟨hg4, hC1⟩ := ite_some hC1
        obtain ⟨hg5, hC1⟩ := ite_some hC1
        obtain ⟨r_v41, hv6, hC1⟩ := bind_some hC1
        obtain rfl := val_eq hv6
        refine e_drawn E_r05_Script (by simp only [go_sem, Int.reduceToNat, List.toList_toArray, Nat.reduceEqDiff, reduceIte, reduceDIte, reduceCtorEq, Nat.reduceAdd, Nat.reduceLT, Nat.reduceLeDiff, decide_true, decide_false, Bool.and_self, Bool.or_self, Bool.or_false, Bool.false_or, Bool.and_true, Bool.true_and, Bool.not_true, Bool.not_false]; rfl) (by kernel_rfl) (by exact And.intro hg2 (And.intro (show (0 : Int) ≤ (0 : Int) from by decide) (And.intro hg3 (And.intro hg4 (And.intro (show (0 : Int) ≤ (1 : Int) from by decide) (And.intro hg5 (And.intro (by first | exact rfl | exact trivial) ((isSome_eq hv6))))))))) ?_
        generalize val (r05_parts x_v29 (cutL toArray_v1 x_v30 ((nth (.pair (.int .i64) (.pair (.int .i64) .unit)) r_v23 x_v32).1)) (cutL p1_v2 x_v31 ((nth (.pair (.int .i64) (.pair (.int .i64) .unit)) r_v23 x_v32).2.1))) = r_v41 at hC1 ⊢
        refine q_seqn ?_
        refine e_seq ?_
        obtain ⟨hg7, hC1⟩ := ite_some hC1
        obtain ⟨hg8, hC1⟩ := ite_some hC1
        obtain ⟨hg9, hC1⟩ := ite_some hC1
        refine e_region E_r05_Script (by simp only [go_sem, Int.reduceToNat, List.toList_toArray, Nat.reduceEqDiff, reduceIte, reduceDIte, reduceCtorEq, Nat.reduceAdd, Nat.reduceLT, Nat.reduceLeDiff, decide_true, decide_false, Bool.and_self, Bool.or_self, Bool.or_false, Bool.false_or, Bool.and_true, Bool.true_and, Bool.not_true, Bool.not_false]; rfl) (by exact And.intro hg7 (And.intro (show (0 : Int) ≤ (0 : Int) from by decide) (And.intro hg8 (And.intro (by first | exact rfl | exact trivial) (hg9))))) ?_
        refine q_seqn ?_
        obtain ⟨hg10, hC1⟩ := ite_some hC1
        obtain ⟨hg11, hC1⟩ := ite_some hC1
        obtain ⟨hg12, hC1⟩ := ite_some hC1
        obtain ⟨hg13, hC1⟩ := ite_some hC1
        refine e_drawn E_r05_Script (by simp only [go_sem, Int.reduceToNat, List.toList_toArray, Nat.reduceEqDiff, reduceIte, reduceDIte, reduceCtorEq, Nat.reduceAdd, Nat.reduceLT, Nat.reduceLeDiff, decide_true, decide_false, Bool.and_self, Bool.or_self, Bool.or_false, Bool.false_or, Bool.and_true, Bool.true_and, Bool.not_true, Bool.not_false]; rfl) (by kernel_rfl) (by exact And.intro hg10 (And.intro (show (0 : Int) ≤ (0 : Int) from by decide) (And.intro hg11 (And.intro hg12 (And.intro (show (0 : Int) ≤ (1 : Int) from by decide) (hg13)))))) ?_
        refine q_blkn ?_
        refine q_seqn ?_
        obtain ⟨hg14, hC1⟩ := ite_some hC1
        refine e_region E_r05_Script (by simp only [go_sem, Int.reduceToNat, List.toList_toArray, Nat.reduceEqDiff, reduceIte, reduceDIte, reduceCtorEq, Nat.reduceAdd, Nat.reduceLT, Nat.reduceLeDiff, decide_true, decide_false, Bool.and_self, Bool.or_self, Bool.or_false, Bool.false_or, Bool.and_true, Bool.true_and, Bool.not_true, Bool.not_false]; rfl) (by exact hg14) ?_
        cases hC1
        exact q_Ln ⟨⟨[0, 1, 5, 6, 7, 8, 9], [(0, 338), (1, 1)]⟩, _, by rfl, hN1⟩
      · replace hC1 := ite_f hC1 hc1
        refine e_exit ?_
        refine q_seqx ?_
        refine q_Lx ?_
        cases hC1
        cases hN1
        exact q_xx ⟨⟨[0, 1, 5, 6, 7], [(0, 0)]⟩, by rfl⟩
    · rintro _ rfl
      obtain ⟨x_v38, x_v39, x_v40⟩ := y1
      dsimp only at hC0 ⊢
      refine q_blkx ?_
      refine q_seqn ?_
      refine e_seq ?_
      obtain ⟨hg15, hC0⟩ := ite_some hC0
      obtain ⟨hg16, hC0⟩ := ite_some hC0
      obtain ⟨r_v42, hv17, hC0⟩ := bind_some hC0
      obtain rfl := val_eq hv17
      refine e_drawn E_r05_Script (by simp only [go_sem, Int.reduceToNat, List.toList_toArray, Nat.reduceEqDiff, reduceIte, reduceDIte, reduceCtorEq, Nat.reduceAdd, Nat.reduceLT, Nat.reduceLeDiff, decide_true, decide_false, Bool.and_self, Bool.or_self, Bool.or_false, Bool.false_or, Bool.and_true, Bool.true_and, Bool.not_true, Bool.not_false]; rfl) (by kernel_rfl) (by exact And.intro hg15 (And.intro hg16 (And.intro (by first | exact rfl | exact trivial) ((isSome_eq hv17))))) ?_
      generalize val (r05_parts x_v38 (cutL toArray_v1 x_v39 (List.length toArray_v1 : Int)) (cutL p1_v2 x_v40 (List.length p1_v2 : Int))) = r_v42 at hC0 ⊢
      refine q_seqn ?_
      refine e_ret ?_
      cases hC0
      exact ⟨[(0, 113)], by rfl, by rfl, by rfl⟩
  · cases hC

attribute [irreducible] r05_Script


end Go.Proofs.Ytfcibaiiobihnaa
