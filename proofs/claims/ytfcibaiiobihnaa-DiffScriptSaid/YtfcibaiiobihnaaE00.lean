/- PLAIN FORMS of the program's functions, and that the code computes them. -/
import Derived.Test.YtfcibaiiobihnaaEty
import Derived.Test.YtfcibaiiobihnaaVt
import Derived.KernelRfl
namespace Go.Proofs.Ytfcibaiiobihnaa
open Vc
set_option linter.unusedSimpArgs false
set_option linter.unusedVariables false


noncomputable def r05_Few_step1 (a_v1 : (List (List UInt8))) : Int → Option (Int ⊕ (Unit ⊕ Bool)) := fun i_v6 =>
  if (decide (i_v6 < (List.length a_v1 : Int))) = true then
    if 0 ≤ i_v6 ∧ i_v6 < (List.length a_v1 : Int) then
      if (decide ((100 : Int) < (List.length (nth .str a_v1 i_v6) : Int))) = true then
        some (.inr (.inr (false)))
      else
        if -9223372036854775808 ≤ (i_v6 + (1 : Int)) ∧ (i_v6 + (1 : Int)) ≤ 9223372036854775807 then
          some (.inl (i_v6 + (1 : Int)))
        else none
    else none
  else
    some (.inr (.inl ()))

noncomputable def r05_Few (a_v1 : (List (List UInt8))) : Option Bool :=
  thn (loopM (r05_Few_step1 a_v1) (0 : Int)) fun _ =>
  some ((decide ((List.length a_v1 : Int) ≤ (30 : Int))))

@[go_sem] noncomputable def r05_FewC : List Slot → List Blk → Option Ret
  | [(.val (.list .str) a_v1, none)], [] => some ⟨[((r05_Few a_v1)).isSome = true], [(.val .bool (val (r05_Few a_v1)), none)], []⟩
  | _, _ => none

@[go_sem] def G_r05_Few : Ctx := fun _ => none
@[go_sem] def T_r05_Few : Types := [(9, ⟨.str, 0, 0, false⟩), (22, ⟨(.list .str), 9, 16, false⟩)]
theorem K_r05_Few : CtxOk Try.prog G_r05_Few := by
  intro f s h
  cases h
theorem E_r05_Few : Env Try.prog T_r05_Few G_r05_Few := ⟨⟨ty_string, ⟨ty_Lstring, trivial⟩⟩, K_r05_Few, by kernel_rfl⟩

set_option maxRecDepth 100000 in
set_option maxHeartbeats 4000000 in
theorem r05_Few_con : ConOk Try.prog 11 r05_FewC := by
  refine con_okR E_r05_Few.T Try.func11 (c := _) rfl (N := 19) (by kernel_rfl) (ts := [(2, none)]) (fun _ _ => rfl) rfl ?_
  intro args L r hC hs
  unfold r05_FewC at hC
  split at hC
  · rename_i a_v1; cases hC
    obtain ⟨z0, hC0⟩ := Option.isSome_iff_exists.1 (show ((r05_Few a_v1)).isSome = true from hs _ (by simp))
    try rw [val_eq hC0]
    clear hs
    unfold r05_Few at hC0
    refine ⟨by simp only [List.length_cons, List.length_nil]; omega, by repeat (first | exact trivial | refine And.intro rfl ?_), by repeat (first | exact trivial | refine And.intro rfl ?_), ?_⟩
    simp only [enumE, enumH, lenB, Nat.reduceAdd]
    refine e_seq ?_
    refine e_region E_r05_Few (by simp only [go_sem, List.toList_toArray, Nat.reduceEqDiff, reduceIte, reduceDIte, reduceCtorEq, Nat.reduceAdd, Nat.reduceLT, Nat.reduceLeDiff, decide_true, decide_false, Bool.and_self, Bool.or_self, Bool.or_false, Bool.false_or, Bool.and_true, Bool.true_and, Bool.not_true, Bool.not_false]; rfl) (by exact trivial) ?_
    refine q_seqn ?_
    refine e_seq ?_
    refine e_seq ?_
    refine e_region E_r05_Few (by simp only [go_sem, List.toList_toArray, Nat.reduceEqDiff, reduceIte, reduceDIte, reduceCtorEq, Nat.reduceAdd, Nat.reduceLT, Nat.reduceLeDiff, decide_true, decide_false, Bool.and_self, Bool.or_self, Bool.or_false, Bool.false_or, Bool.and_true, Bool.true_and, Bool.not_true, Bool.not_false]; rfl) (by exact trivial) ?_
    refine q_seqn ?_
    refine e_block ?_
    obtain ⟨y1, hy1, hC0⟩ := thn_some hC0
    refine e_cutx 0 (fun s => ∃ v, y1 = .inl v ∧ s = (fun _ => ⟨[(0, (.val (.list .str) a_v1, none))], [], 0, 19, 0⟩) v) ?_ ?_
    · skip
      refine e_loopM hy1 (fun x => ⟨[(0, (.val (.list .str) a_v1, none)), (3, (.val (.int .i64) x, none))], [], 0, 19, 0⟩) ⟨[0, 3], []⟩ (by rfl) ?_
      intro i_v6 w1 n1 hC1 hN1
      unfold r05_Few_step1 at hC1
      dsimp only at hC1 ⊢
      refine e_seq ?_
      refine e_seq ?_
      refine e_region E_r05_Few (by simp only [go_sem, List.toList_toArray, Nat.reduceEqDiff, reduceIte, reduceDIte, reduceCtorEq, Nat.reduceAdd, Nat.reduceLT, Nat.reduceLeDiff, decide_true, decide_false, Bool.and_self, Bool.or_self, Bool.or_false, Bool.false_or, Bool.and_true, Bool.true_and, Bool.not_true, Bool.not_false]; rfl) (by exact trivial) ?_
      refine q_seqn ?_
      refine e_cond (by simp only [go_sem, List.toList_toArray, Nat.reduceEqDiff, reduceIte, reduceDIte, reduceCtorEq, Nat.reduceAdd, Nat.reduceLT, Nat.reduceLeDiff, decide_true, decide_false, Bool.and_self, Bool.or_self, Bool.or_false, Bool.false_or, Bool.and_true, Bool.true_and, Bool.not_true, Bool.not_false]; rfl) (fun hc1 => ?_) (fun hc1 => ?_)
      · replace hC1 := ite_t hC1 hc1
        refine e_skip ?_
        refine q_seqn ?_
        refine e_seq ?_
        refine e_block ?_
        refine e_seq ?_
        obtain ⟨hg1, hC1⟩ := ite_some hC1
        refine e_region E_r05_Few (by simp only [go_sem, List.toList_toArray, Nat.reduceEqDiff, reduceIte, reduceDIte, reduceCtorEq, Nat.reduceAdd, Nat.reduceLT, Nat.reduceLeDiff, decide_true, decide_false, Bool.and_self, Bool.or_self, Bool.or_false, Bool.false_or, Bool.and_true, Bool.true_and, Bool.not_true, Bool.not_false]; rfl) (by exact hg1) ?_
        refine q_seqn ?_
        refine e_cond (by simp only [go_sem, List.toList_toArray, Nat.reduceEqDiff, reduceIte, reduceDIte, reduceCtorEq, Nat.reduceAdd, Nat.reduceLT, Nat.reduceLeDiff, decide_true, decide_false, Bool.and_self, Bool.or_self, Bool.or_false, Bool.false_or, Bool.and_true, Bool.true_and, Bool.not_true, Bool.not_false]; rfl) (fun hc2 => ?_) (fun hc2 => ?_)
        · replace hC1 := ite_t hC1 hc2
          refine e_seq ?_
          refine e_region E_r05_Few (by simp only [go_sem, List.toList_toArray, Nat.reduceEqDiff, reduceIte, reduceDIte, reduceCtorEq, Nat.reduceAdd, Nat.reduceLT, Nat.reduceLeDiff, decide_true, decide_false, Bool.and_self, Bool.or_self, Bool.or_false, Bool.false_or, Bool.and_true, Bool.true_and, Bool.not_true, Bool.not_false]; rfl) (by exact trivial) ?_
          refine q_seqn ?_
          refine e_ret ?_
          refine q_blkr ?_
          refine q_seqr ?_
          refine q_Lr ?_
          refine q_xr ?_
          refine q_blkr ?_
          refine q_seqr ?_
          cases hC1
          cases hN1
          dsimp only at hC0
          cases hC0
          exact ⟨[], by rfl, by rfl, by rfl⟩
        · replace hC1 := ite_f hC1 hc2
          refine e_skip ?_
          refine q_blkn ?_
          refine q_seqn ?_
          obtain ⟨hg2, hC1⟩ := ite_some hC1
          refine e_region E_r05_Few (by simp only [go_sem, List.toList_toArray, Nat.reduceEqDiff, reduceIte, reduceDIte, reduceCtorEq, Nat.reduceAdd, Nat.reduceLT, Nat.reduceLeDiff, decide_true, decide_false, Bool.and_self, Bool.or_self, Bool.or_false, Bool.false_or, Bool.and_true, Bool.true_and, Bool.not_true, Bool.not_false]; rfl) (by exact hg2) ?_
          cases hC1
          exact q_Ln ⟨⟨[0, 3], []⟩, _, by rfl, hN1⟩
      · replace hC1 := ite_f hC1 hc1
        refine e_exit ?_
        refine q_seqx ?_
        refine q_Lx ?_
        cases hC1
        cases hN1
        exact q_xx ⟨⟨[0], []⟩, _, rfl, by rfl⟩
    · rintro _ ⟨v, rfl, rfl⟩
      dsimp only at hC0 ⊢
      refine q_blkx ?_
      refine q_seqn ?_
      refine e_seq ?_
      refine e_region E_r05_Few (by simp only [go_sem, List.toList_toArray, Nat.reduceEqDiff, reduceIte, reduceDIte, reduceCtorEq, Nat.reduceAdd, Nat.reduceLT, Nat.reduceLeDiff, decide_true, decide_false, Bool.and_self, Bool.or_self, Bool.or_false, Bool.false_or, Bool.and_true, Bool.true_and, Bool.not_true, Bool.not_false]; rfl) (by exact trivial) ?_
      refine q_seqn ?_
      refine e_ret ?_
      cases hC0
      exact ⟨[], by rfl, by rfl, by rfl⟩
  · cases hC

attribute [irreducible] r05_Few


noncomputable def r05_Same_step1 (a_v1 : (List (List UInt8))) (b_v2 : (List (List UInt8))) : Int → Option (Int ⊕ (Unit ⊕ Bool)) := fun i_v7 =>
  if (decide (i_v7 < (List.length a_v1 : Int))) = true then
    if 0 ≤ i_v7 ∧ i_v7 < (List.length a_v1 : Int) then
      if 0 ≤ i_v7 ∧ i_v7 < (List.length b_v2 : Int) then
        if (!decide ((nth .str a_v1 i_v7) = (nth .str b_v2 i_v7))) = true then
          some (.inr (.inr (false)))
        else
          if -9223372036854775808 ≤ (i_v7 + (1 : Int)) ∧ (i_v7 + (1 : Int)) ≤ 9223372036854775807 then
            some (.inl (i_v7 + (1 : Int)))
          else none
      else none
    else none
  else
    some (.inr (.inl ()))

noncomputable def r05_Same (a_v1 : (List (List UInt8))) (b_v2 : (List (List UInt8))) : Option Bool :=
  if (!decide ((List.length a_v1 : Int) = (List.length b_v2 : Int))) = true then
    some (false)
  else
    thn (loopM (r05_Same_step1 a_v1 b_v2) (0 : Int)) fun _ =>
    some (true)

@[go_sem] noncomputable def r05_SameC : List Slot → List Blk → Option Ret
  | [(.val (.list .str) a_v1, none), (.val (.list .str) b_v2, none)], [] => some ⟨[((r05_Same a_v1 b_v2)).isSome = true], [(.val .bool (val (r05_Same a_v1 b_v2)), none)], []⟩
  | _, _ => none

@[go_sem] def G_r05_Same : Ctx := fun _ => none
@[go_sem] def T_r05_Same : Types := [(9, ⟨.str, 0, 0, false⟩), (22, ⟨(.list .str), 9, 16, false⟩)]
theorem K_r05_Same : CtxOk Try.prog G_r05_Same := by
  intro f s h
  cases h
theorem E_r05_Same : Env Try.prog T_r05_Same G_r05_Same := ⟨⟨ty_string, ⟨ty_Lstring, trivial⟩⟩, K_r05_Same, by kernel_rfl⟩

set_option maxRecDepth 100000 in
set_option maxHeartbeats 4000000 in
theorem r05_Same_con : ConOk Try.prog 16 r05_SameC := by
  refine con_okR E_r05_Same.T Try.func16 (c := _) rfl (N := 26) (by kernel_rfl) (ts := [(4, none)]) (fun _ _ => rfl) rfl ?_
  intro args L r hC hs
  unfold r05_SameC at hC
  split at hC
  · rename_i a_v1 b_v2; cases hC
    obtain ⟨z0, hC0⟩ := Option.isSome_iff_exists.1 (show ((r05_Same a_v1 b_v2)).isSome = true from hs _ (by simp))
    try rw [val_eq hC0]
    clear hs
    unfold r05_Same at hC0
    refine ⟨by simp only [List.length_cons, List.length_nil]; omega, by repeat (first | exact trivial | refine And.intro rfl ?_), by repeat (first | exact trivial | refine And.intro rfl ?_), ?_⟩
    simp only [enumE, enumH, lenB, Nat.reduceAdd]
    refine e_seq ?_
    refine e_region E_r05_Same (by simp only [go_sem, List.toList_toArray, Nat.reduceEqDiff, reduceIte, reduceDIte, reduceCtorEq, Nat.reduceAdd, Nat.reduceLT, Nat.reduceLeDiff, decide_true, decide_false, Bool.and_self, Bool.or_self, Bool.or_false, Bool.false_or, Bool.and_true, Bool.true_and, Bool.not_true, Bool.not_false]; rfl) (by exact trivial) ?_
    refine q_seqn ?_
    refine e_seq ?_
    refine e_seq ?_
    refine e_region E_r05_Same (by simp only [go_sem, List.toList_toArray, Nat.reduceEqDiff, reduceIte, reduceDIte, reduceCtorEq, Nat.reduceAdd, Nat.reduceLT, Nat.reduceLeDiff, decide_true, decide_false, Bool.and_self, Bool.or_self, Bool.or_false, Bool.false_or, Bool.and_true, Bool.true_and, Bool.not_true, Bool.not_false]; rfl) (by exact trivial) ?_
    refine q_seqn ?_
    refine e_cond (by simp only [go_sem, List.toList_toArray, Nat.reduceEqDiff, reduceIte, reduceDIte, reduceCtorEq, Nat.reduceAdd, Nat.reduceLT, Nat.reduceLeDiff, decide_true, decide_false, Bool.and_self, Bool.or_self, Bool.or_false, Bool.false_or, Bool.and_true, Bool.true_and, Bool.not_true, Bool.not_false]; rfl) (fun hc1 => ?_) (fun hc1 => ?_)
    · replace hC0 := ite_t hC0 hc1
      refine e_seq ?_
      refine e_region E_r05_Same (by simp only [go_sem, List.toList_toArray, Nat.reduceEqDiff, reduceIte, reduceDIte, reduceCtorEq, Nat.reduceAdd, Nat.reduceLT, Nat.reduceLeDiff, decide_true, decide_false, Bool.and_self, Bool.or_self, Bool.or_false, Bool.false_or, Bool.and_true, Bool.true_and, Bool.not_true, Bool.not_false]; rfl) (by exact trivial) ?_
      refine q_seqn ?_
      refine e_ret ?_
      refine q_seqr ?_
      cases hC0
      exact ⟨[], by rfl, by rfl, by rfl⟩
    · replace hC0 := ite_f hC0 hc1
      refine e_skip ?_
      refine q_seqn ?_
      refine e_seq ?_
      refine e_seq ?_
      refine e_region E_r05_Same (by simp only [go_sem, List.toList_toArray, Nat.reduceEqDiff, reduceIte, reduceDIte, reduceCtorEq, Nat.reduceAdd, Nat.reduceLT, Nat.reduceLeDiff, decide_true, decide_false, Bool.and_self, Bool.or_self, Bool.or_false, Bool.false_or, Bool.and_true, Bool.true_and, Bool.not_true, Bool.not_false]; rfl) (by exact trivial) ?_
      refine q_seqn ?_
      refine e_block ?_
      obtain ⟨y1, hy1, hC0⟩ := thn_some hC0
      refine e_cutx 0 (fun s => ∃ v, y1 = .inl v ∧ s = (fun _ => ⟨[], [], 0, 26, 0⟩) v) ?_ ?_
      · skip
        refine e_loopM hy1 (fun x => ⟨[(0, (.val (.list .str) a_v1, none)), (1, (.val (.list .str) b_v2, none)), (5, (.val (.int .i64) x, none))], [], 0, 26, 0⟩) ⟨[0, 1, 5], []⟩ (by rfl) ?_
        intro i_v7 w1 n1 hC1 hN1
        unfold r05_Same_step1 at hC1
        dsimp only at hC1 ⊢
        refine e_seq ?_
        refine e_seq ?_
        refine e_region E_r05_Same (by simp only [go_sem, List.toList_toArray, Nat.reduceEqDiff, reduceIte, reduceDIte, reduceCtorEq, Nat.reduceAdd, Nat.reduceLT, Nat.reduceLeDiff, decide_true, decide_false, Bool.and_self, Bool.or_self, Bool.or_false, Bool.false_or, Bool.and_true, Bool.true_and, Bool.not_true, Bool.not_false]; rfl) (by exact trivial) ?_
        refine q_seqn ?_
        refine e_cond (by simp only [go_sem, List.toList_toArray, Nat.reduceEqDiff, reduceIte, reduceDIte, reduceCtorEq, Nat.reduceAdd, Nat.reduceLT, Nat.reduceLeDiff, decide_true, decide_false, Bool.and_self, Bool.or_self, Bool.or_false, Bool.false_or, Bool.and_true, Bool.true_and, Bool.not_true, Bool.not_false]; rfl) (fun hc2 => ?_) (fun hc2 => ?_)
        · replace hC1 := ite_t hC1 hc2
          refine e_skip ?_
          refine q_seqn ?_
          refine e_seq ?_
          refine e_block ?_
          refine e_seq ?_
          obtain ⟨hg1, hC1⟩ := ite_some hC1
          obtain ⟨hg2, hC1⟩ := ite_some hC1
          refine e_drawn E_r05_Same (by simp only [go_sem, List.toList_toArray, Nat.reduceEqDiff, reduceIte, reduceDIte, reduceCtorEq, Nat.reduceAdd, Nat.reduceLT, Nat.reduceLeDiff, decide_true, decide_false, Bool.and_self, Bool.or_self, Bool.or_false, Bool.false_or, Bool.and_true, Bool.true_and, Bool.not_true, Bool.not_false]; rfl) (by kernel_rfl) (by exact And.intro hg1 (hg2)) ?_
          refine q_seqn ?_
          refine e_cond (by simp only [go_sem, List.toList_toArray, Nat.reduceEqDiff, reduceIte, reduceDIte, reduceCtorEq, Nat.reduceAdd, Nat.reduceLT, Nat.reduceLeDiff, decide_true, decide_false, Bool.and_self, Bool.or_self, Bool.or_false, Bool.false_or, Bool.and_true, Bool.true_and, Bool.not_true, Bool.not_false]; rfl) (fun hc3 => ?_) (fun hc3 => ?_)
          · replace hC1 := ite_t hC1 hc3
            refine e_seq ?_
            refine e_region E_r05_Same (by simp only [go_sem, List.toList_toArray, Nat.reduceEqDiff, reduceIte, reduceDIte, reduceCtorEq, Nat.reduceAdd, Nat.reduceLT, Nat.reduceLeDiff, decide_true, decide_false, Bool.and_self, Bool.or_self, Bool.or_false, Bool.false_or, Bool.and_true, Bool.true_and, Bool.not_true, Bool.not_false]; rfl) (by exact trivial) ?_
            refine q_seqn ?_
            refine e_ret ?_
            refine q_blkr ?_
            refine q_seqr ?_
            refine q_Lr ?_
            refine q_xr ?_
            refine q_blkr ?_
            refine q_seqr ?_
            cases hC1
            cases hN1
            dsimp only at hC0
            cases hC0
            exact ⟨[], by rfl, by rfl, by rfl⟩
          · replace hC1 := ite_f hC1 hc3
            refine e_skip ?_
            refine q_blkn ?_
            refine q_seqn ?_
            obtain ⟨hg3, hC1⟩ := ite_some hC1
            refine e_region E_r05_Same (by simp only [go_sem, List.toList_toArray, Nat.reduceEqDiff, reduceIte, reduceDIte, reduceCtorEq, Nat.reduceAdd, Nat.reduceLT, Nat.reduceLeDiff, decide_true, decide_false, Bool.and_self, Bool.or_self, Bool.or_false, Bool.false_or, Bool.and_true, Bool.true_and, Bool.not_true, Bool.not_false]; rfl) (by exact hg3) ?_
            cases hC1
            exact q_Ln ⟨⟨[0, 1, 5], []⟩, _, by rfl, hN1⟩
        · replace hC1 := ite_f hC1 hc2
          refine e_exit ?_
          refine q_seqx ?_
          refine q_Lx ?_
          cases hC1
          cases hN1
          exact q_xx ⟨⟨[], []⟩, _, rfl, by rfl⟩
      · rintro _ ⟨v, rfl, rfl⟩
        dsimp only at hC0 ⊢
        refine q_blkx ?_
        refine q_seqn ?_
        refine e_seq ?_
        refine e_region E_r05_Same (by simp only [go_sem, List.toList_toArray, Nat.reduceEqDiff, reduceIte, reduceDIte, reduceCtorEq, Nat.reduceAdd, Nat.reduceLT, Nat.reduceLeDiff, decide_true, decide_false, Bool.and_self, Bool.or_self, Bool.or_false, Bool.false_or, Bool.and_true, Bool.true_and, Bool.not_true, Bool.not_false]; rfl) (by exact trivial) ?_
        refine q_seqn ?_
        refine e_ret ?_
        cases hC0
        exact ⟨[], by rfl, by rfl, by rfl⟩
  · cases hC

attribute [irreducible] r05_Same


noncomputable def l05_short_step1 (l_v1 : (List (Int × ((List UInt8) × Unit)))) : Int → Option (Int ⊕ (Unit ⊕ Bool)) := fun i_v6 =>
  if (decide (i_v6 < (List.length l_v1 : Int))) = true then
    if 0 ≤ i_v6 ∧ i_v6 < (List.length l_v1 : Int) then
      if (decide ((100 : Int) < (List.length ((nth (.pair (.int .i64) (.pair .str .unit)) l_v1 i_v6).2.1) : Int))) = true then
        some (.inr (.inr (false)))
      else
        if -9223372036854775808 ≤ (i_v6 + (1 : Int)) ∧ (i_v6 + (1 : Int)) ≤ 9223372036854775807 then
          some (.inl (i_v6 + (1 : Int)))
        else none
    else none
  else
    some (.inr (.inl ()))

noncomputable def l05_short (l_v1 : (List (Int × ((List UInt8) × Unit)))) : Option Bool :=
  thn (loopM (l05_short_step1 l_v1) (0 : Int)) fun _ =>
  some ((decide ((List.length l_v1 : Int) ≤ (60 : Int))))

@[go_sem] noncomputable def l05_shortC : List Slot → List Blk → Option Ret
  | [(.val (.list (.pair (.int .i64) (.pair .str .unit))) l_v1, none)], [] => some ⟨[((l05_short l_v1)).isSome = true], [(.val .bool (val (l05_short l_v1)), none)], []⟩
  | _, _ => none

@[go_sem] def G_l05_short : Ctx := fun _ => none
@[go_sem] def T_l05_short : Types := [(9, ⟨.str, 0, 0, false⟩), (35, ⟨(.list (.pair (.int .i64) (.pair .str .unit))), 56, 24, false⟩), (56, ⟨(.pair (.int .i64) (.pair .str .unit)), 0, 1, false⟩)]
theorem K_l05_short : CtxOk Try.prog G_l05_short := by
  intro f s h
  cases h
theorem E_l05_short : Env Try.prog T_l05_short G_l05_short := ⟨⟨ty_string, ⟨ty_Lcalqueref05_Edit, ⟨ty_calque_calqueref05_Edit, trivial⟩⟩⟩, K_l05_short, by kernel_rfl⟩

set_option maxRecDepth 100000 in
set_option maxHeartbeats 4000000 in
theorem l05_short_con : ConOk Try.prog 17 l05_shortC := by
  refine con_okR E_l05_short.T Try.func17 (c := _) rfl (N := 20) (by kernel_rfl) (ts := [(2, none)]) (fun _ _ => rfl) rfl ?_
  intro args L r hC hs
  unfold l05_shortC at hC
  split at hC
  · rename_i l_v1; cases hC
    obtain ⟨z0, hC0⟩ := Option.isSome_iff_exists.1 (show ((l05_short l_v1)).isSome = true from hs _ (by simp))
    try rw [val_eq hC0]
    clear hs
    unfold l05_short at hC0
    refine ⟨by simp only [List.length_cons, List.length_nil]; omega, by repeat (first | exact trivial | refine And.intro rfl ?_), by repeat (first | exact trivial | refine And.intro rfl ?_), ?_⟩
    simp only [enumE, enumH, lenB, Nat.reduceAdd]
    refine e_seq ?_
    refine e_region E_l05_short (by simp only [go_sem, List.toList_toArray, Nat.reduceEqDiff, reduceIte, reduceDIte, reduceCtorEq, Nat.reduceAdd, Nat.reduceLT, Nat.reduceLeDiff, decide_true, decide_false, Bool.and_self, Bool.or_self, Bool.or_false, Bool.false_or, Bool.and_true, Bool.true_and, Bool.not_true, Bool.not_false]; rfl) (by exact trivial) ?_
    refine q_seqn ?_
    refine e_seq ?_
    refine e_seq ?_
    refine e_region E_l05_short (by simp only [go_sem, List.toList_toArray, Nat.reduceEqDiff, reduceIte, reduceDIte, reduceCtorEq, Nat.reduceAdd, Nat.reduceLT, Nat.reduceLeDiff, decide_true, decide_false, Bool.and_self, Bool.or_self, Bool.or_false, Bool.false_or, Bool.and_true, Bool.true_and, Bool.not_true, Bool.not_false]; rfl) (by exact trivial) ?_
    refine q_seqn ?_
    refine e_block ?_
    obtain ⟨y1, hy1, hC0⟩ := thn_some hC0
    refine e_cutx 0 (fun s => ∃ v, y1 = .inl v ∧ s = (fun _ => ⟨[(0, (.val (.list (.pair (.int .i64) (.pair .str .unit))) l_v1, none))], [], 0, 20, 0⟩) v) ?_ ?_
    · skip
      refine e_loopM hy1 (fun x => ⟨[(0, (.val (.list (.pair (.int .i64) (.pair .str .unit))) l_v1, none)), (3, (.val (.int .i64) x, none))], [], 0, 20, 0⟩) ⟨[0, 3], []⟩ (by rfl) ?_
      intro i_v6 w1 n1 hC1 hN1
      unfold l05_short_step1 at hC1
      dsimp only at hC1 ⊢
      refine e_seq ?_
      refine e_seq ?_
      refine e_region E_l05_short (by simp only [go_sem, List.toList_toArray, Nat.reduceEqDiff, reduceIte, reduceDIte, reduceCtorEq, Nat.reduceAdd, Nat.reduceLT, Nat.reduceLeDiff, decide_true, decide_false, Bool.and_self, Bool.or_self, Bool.or_false, Bool.false_or, Bool.and_true, Bool.true_and, Bool.not_true, Bool.not_false]; rfl) (by exact trivial) ?_
      refine q_seqn ?_
      refine e_cond (by simp only [go_sem, List.toList_toArray, Nat.reduceEqDiff, reduceIte, reduceDIte, reduceCtorEq, Nat.reduceAdd, Nat.reduceLT, Nat.reduceLeDiff, decide_true, decide_false, Bool.and_self, Bool.or_self, Bool.or_false, Bool.false_or, Bool.and_true, Bool.true_and, Bool.not_true, Bool.not_false]; rfl) (fun hc1 => ?_) (fun hc1 => ?_)
      · replace hC1 := ite_t hC1 hc1
        refine e_skip ?_
        refine q_seqn ?_
        refine e_seq ?_
        refine e_block ?_
        refine e_seq ?_
        obtain ⟨hg1, hC1⟩ := ite_some hC1
        refine e_region E_l05_short (by simp only [go_sem, List.toList_toArray, Nat.reduceEqDiff, reduceIte, reduceDIte, reduceCtorEq, Nat.reduceAdd, Nat.reduceLT, Nat.reduceLeDiff, decide_true, decide_false, Bool.and_self, Bool.or_self, Bool.or_false, Bool.false_or, Bool.and_true, Bool.true_and, Bool.not_true, Bool.not_false]; rfl) (by exact hg1) ?_
        refine q_seqn ?_
        refine e_cond (by simp only [go_sem, List.toList_toArray, Nat.reduceEqDiff, reduceIte, reduceDIte, reduceCtorEq, Nat.reduceAdd, Nat.reduceLT, Nat.reduceLeDiff, decide_true, decide_false, Bool.and_self, Bool.or_self, Bool.or_false, Bool.false_or, Bool.and_true, Bool.true_and, Bool.not_true, Bool.not_false]; rfl) (fun hc2 => ?_) (fun hc2 => ?_)
        · replace hC1 := ite_t hC1 hc2
          refine e_seq ?_
          refine e_region E_l05_short (by simp only [go_sem, List.toList_toArray, Nat.reduceEqDiff, reduceIte, reduceDIte, reduceCtorEq, Nat.reduceAdd, Nat.reduceLT, Nat.reduceLeDiff, decide_true, decide_false, Bool.and_self, Bool.or_self, Bool.or_false, Bool.false_or, Bool.and_true, Bool.true_and, Bool.not_true, Bool.not_false]; rfl) (by exact trivial) ?_
          refine q_seqn ?_
          refine e_ret ?_
          refine q_blkr ?_
          refine q_seqr ?_
          refine q_Lr ?_
          refine q_xr ?_
          refine q_blkr ?_
          refine q_seqr ?_
          cases hC1
          cases hN1
          dsimp only at hC0
          cases hC0
          exact ⟨[], by rfl, by rfl, by rfl⟩
        · replace hC1 := ite_f hC1 hc2
          refine e_skip ?_
          refine q_blkn ?_
          refine q_seqn ?_
          obtain ⟨hg2, hC1⟩ := ite_some hC1
          refine e_region E_l05_short (by simp only [go_sem, List.toList_toArray, Nat.reduceEqDiff, reduceIte, reduceDIte, reduceCtorEq, Nat.reduceAdd, Nat.reduceLT, Nat.reduceLeDiff, decide_true, decide_false, Bool.and_self, Bool.or_self, Bool.or_false, Bool.false_or, Bool.and_true, Bool.true_and, Bool.not_true, Bool.not_false]; rfl) (by exact hg2) ?_
          cases hC1
          exact q_Ln ⟨⟨[0, 3], []⟩, _, by rfl, hN1⟩
      · replace hC1 := ite_f hC1 hc1
        refine e_exit ?_
        refine q_seqx ?_
        refine q_Lx ?_
        cases hC1
        cases hN1
        exact q_xx ⟨⟨[0], []⟩, _, rfl, by rfl⟩
    · rintro _ ⟨v, rfl, rfl⟩
      dsimp only at hC0 ⊢
      refine q_blkx ?_
      refine q_seqn ?_
      refine e_seq ?_
      refine e_region E_l05_short (by simp only [go_sem, List.toList_toArray, Nat.reduceEqDiff, reduceIte, reduceDIte, reduceCtorEq, Nat.reduceAdd, Nat.reduceLT, Nat.reduceLeDiff, decide_true, decide_false, Bool.and_self, Bool.or_self, Bool.or_false, Bool.false_or, Bool.and_true, Bool.true_and, Bool.not_true, Bool.not_false]; rfl) (by exact trivial) ?_
      refine q_seqn ?_
      refine e_ret ?_
      cases hC0
      exact ⟨[], by rfl, by rfl, by rfl⟩
  · cases hC

attribute [irreducible] l05_short


def diff_ApplyF1 (x_v1 : (Int × ((List UInt8) × Unit))) : Bool :=
  ((decide (x_v1.1 < (1 : Int))) || (decide ((3 : Int) < x_v1.1)))

@[go_sem] def diff_ApplyF1C : List Slot → List Blk → Option Ret
  | [(.val (.pair (.int .i64) (.pair .str .unit)) x_v1, none)], [] => some ⟨[], [(.val .bool (diff_ApplyF1 x_v1), none)], []⟩
  | _, _ => none

@[go_sem] def G_diff_ApplyF1 : Ctx := fun _ => none
@[go_sem] def T_diff_ApplyF1 : Types := [(3, ⟨(.int .i64), 0, 0, false⟩), (58, ⟨(.pair (.int .i64) (.pair .str .unit)), 0, 1, false⟩)]
theorem K_diff_ApplyF1 : CtxOk Try.prog G_diff_ApplyF1 := by
  intro f s h
  cases h
theorem E_diff_ApplyF1 : Env Try.prog T_diff_ApplyF1 G_diff_ApplyF1 := ⟨⟨ty_int, ⟨ty_calque_diff_Edit, trivial⟩⟩, K_diff_ApplyF1, by kernel_rfl⟩

set_option maxRecDepth 100000 in
set_option maxHeartbeats 4000000 in
theorem diff_ApplyF1_con : ConOk Try.prog 30 diff_ApplyF1C := by
  refine con_okR E_diff_ApplyF1.T Try.func30 (c := _) rfl (N := 11) (by kernel_rfl) (ts := [(2, none)]) (fun _ _ => rfl) rfl ?_
  intro args L r hC hs
  unfold diff_ApplyF1C at hC
  split at hC
  · rename_i x_v1; cases hC
    obtain ⟨z0, hC0⟩ : ∃ z, (diff_ApplyF1 x_v1) = z := ⟨_, rfl⟩
    try rw [hC0]
    clear hs
    unfold diff_ApplyF1 at hC0
    refine ⟨by simp only [List.length_cons, List.length_nil]; omega, by repeat (first | exact trivial | refine And.intro rfl ?_), by repeat (first | exact trivial | refine And.intro rfl ?_), ?_⟩
    simp only [enumE, enumH, lenB, Nat.reduceAdd]
    refine e_seq ?_
    refine e_region E_diff_ApplyF1 (by simp only [go_sem, List.toList_toArray, Nat.reduceEqDiff, reduceIte, reduceDIte, reduceCtorEq, Nat.reduceAdd, Nat.reduceLT, Nat.reduceLeDiff, decide_true, decide_false, Bool.and_self, Bool.or_self, Bool.or_false, Bool.false_or, Bool.and_true, Bool.true_and, Bool.not_true, Bool.not_false]; rfl) (by exact trivial) ?_
    refine q_seqn ?_
    refine e_seq ?_
    refine e_region E_diff_ApplyF1 (by simp only [go_sem, List.toList_toArray, Nat.reduceEqDiff, reduceIte, reduceDIte, reduceCtorEq, Nat.reduceAdd, Nat.reduceLT, Nat.reduceLeDiff, decide_true, decide_false, Bool.and_self, Bool.or_self, Bool.or_false, Bool.false_or, Bool.and_true, Bool.true_and, Bool.not_true, Bool.not_false]; rfl) (by exact And.intro (fun hh => hh) (And.intro (fun hh => hh) ((fun hh => beq_selfF hh)))) ?_
    refine q_seqn ?_
    refine e_ret ?_
    cases hC0
    exact ⟨[], by rfl, by rfl, by rfl⟩
  · cases hC

end Go.Proofs.Ytfcibaiiobihnaa
