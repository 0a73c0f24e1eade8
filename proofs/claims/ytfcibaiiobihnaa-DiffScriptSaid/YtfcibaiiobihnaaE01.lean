/- PLAIN FORMS of the program's functions, and that the code computes them. -/
import Derived.Test.YtfcibaiiobihnaaEty
import Derived.Test.YtfcibaiiobihnaaE00
import Derived.Test.YtfcibaiiobihnaaVt
import Derived.KernelRfl
namespace Go.Proofs.Ytfcibaiiobihnaa
open Vc
set_option linter.unusedSimpArgs false
set_option linter.unusedVariables false


noncomputable def l05_own_step1 (l_v1 : (List (Int × ((List UInt8) × Unit)))) : ((List (Int × ((List UInt8) × Unit))) × Int) → Option (((List (Int × ((List UInt8) × Unit))) × Int) ⊕ (List (Int × ((List UInt8) × Unit)))) := fun (out_v11, i_v12) =>
  if (decide (i_v12 < (List.length l_v1 : Int))) = true then
    if 0 ≤ i_v12 ∧ i_v12 < (List.length l_v1 : Int) then
      if (List.length out_v11 + List.length ([(nth (.pair (.int .i64) (.pair .str .unit)) l_v1 i_v12)] : List (Int × ((List UInt8) × Unit)))) * 24 ≤ 140737488355328 then
        if -9223372036854775808 ≤ (i_v12 + (1 : Int)) ∧ (i_v12 + (1 : Int)) ≤ 9223372036854775807 then
          some (.inl ((out_v11 ++ ([(nth (.pair (.int .i64) (.pair .str .unit)) l_v1 i_v12)] : List (Int × ((List UInt8) × Unit)))), (i_v12 + (1 : Int))))
        else none
      else none
    else none
  else
    some (.inr out_v11)

noncomputable def l05_own (l_v1 : (List (Int × ((List UInt8) × Unit)))) : Option (List (Int × ((List UInt8) × Unit))) :=
  bnd (loopM (l05_own_step1 l_v1) (([] : List (Int × ((List UInt8) × Unit))), (0 : Int))) fun out_v15 =>
  some (out_v15)

@[go_sem] noncomputable def l05_ownC : List Slot → List Blk → Option Ret
  | [(.val (.list (.pair (.int .i64) (.pair .str .unit))) l_v1, none)], [] => some ⟨[((l05_own l_v1)).isSome = true], [(.val (.list (.pair (.int .i64) (.pair .str .unit))) (val (l05_own l_v1)), some 0)], [.grow 58 2 (List.length (val (l05_own l_v1)))]⟩
  | _, _ => none

@[go_sem] def G_l05_own : Ctx := fun _ => none
@[go_sem] def T_l05_own : Types := [(35, ⟨(.list (.pair (.int .i64) (.pair .str .unit))), 56, 24, false⟩), (40, ⟨(.list (.pair (.int .i64) (.pair .str .unit))), 58, 24, false⟩), (56, ⟨(.pair (.int .i64) (.pair .str .unit)), 0, 1, false⟩)]
theorem K_l05_own : CtxOk Try.prog G_l05_own := by
  intro f s h
  cases h
theorem E_l05_own : Env Try.prog T_l05_own G_l05_own := ⟨⟨ty_Lcalqueref05_Edit, ⟨ty_Ldiff_Edit, ⟨ty_calque_calqueref05_Edit, trivial⟩⟩⟩, K_l05_own, by kernel_rfl⟩

set_option maxRecDepth 100000 in
set_option maxHeartbeats 4000000 in
theorem l05_own_con : ConOk Try.prog 19 l05_ownC := by
  refine con_okR E_l05_own.T Try.func19 (c := _) rfl (N := 19) (by kernel_rfl) (ts := [(2, none)]) (fun _ _ => rfl) rfl ?_
  intro args L r hC hs
  unfold l05_ownC at hC
  split at hC
  · rename_i l_v1; cases hC
    obtain ⟨z0, hC0⟩ := Option.isSome_iff_exists.1 (show ((l05_own l_v1)).isSome = true from hs _ (by simp))
    try rw [val_eq hC0]
    clear hs
    unfold l05_own at hC0
    refine ⟨by simp only [List.length_cons, List.length_nil]; omega, by repeat (first | exact trivial | refine And.intro rfl ?_), by repeat (first | exact trivial | refine And.intro rfl ?_), ?_⟩
    simp only [enumE, enumH, lenB, Nat.reduceAdd]
    refine e_seq ?_
    refine e_region E_l05_own (by simp only [go_sem, List.toList_toArray, Nat.reduceEqDiff, reduceIte, reduceDIte, reduceCtorEq, Nat.reduceAdd, Nat.reduceLT, Nat.reduceLeDiff, decide_true, decide_false, Bool.and_self, Bool.or_self, Bool.or_false, Bool.false_or, Bool.and_true, Bool.true_and, Bool.not_true, Bool.not_false]; rfl) (by exact trivial) ?_
    refine q_seqn ?_
    refine e_seq ?_
    refine e_region E_l05_own (by simp only [go_sem, List.toList_toArray, Nat.reduceEqDiff, reduceIte, reduceDIte, reduceCtorEq, Nat.reduceAdd, Nat.reduceLT, Nat.reduceLeDiff, decide_true, decide_false, Bool.and_self, Bool.or_self, Bool.or_false, Bool.false_or, Bool.and_true, Bool.true_and, Bool.not_true, Bool.not_false]; rfl) (by exact trivial) ?_
    refine q_seqn ?_
    refine e_seq ?_
    refine e_seq ?_
    refine e_region E_l05_own (by simp only [go_sem, List.toList_toArray, Nat.reduceEqDiff, reduceIte, reduceDIte, reduceCtorEq, Nat.reduceAdd, Nat.reduceLT, Nat.reduceLeDiff, decide_true, decide_false, Bool.and_self, Bool.or_self, Bool.or_false, Bool.false_or, Bool.and_true, Bool.true_and, Bool.not_true, Bool.not_false]; rfl) (by exact trivial) ?_
    refine q_seqn ?_
    refine e_block ?_
    obtain ⟨out_v15, hy1, hC0⟩ := bind_some hC0
    refine e_cutx 0 (fun s => s = (fun x => ⟨[(3, (.val (.list (.pair (.int .i64) (.pair .str .unit))) x, some 0))], [(0, .grow 58 2 (List.length x))], 1, 19, 0⟩) out_v15) ?_ ?_
    · skip
      refine e_loopM hy1 (fun x => ⟨[(0, (.val (.list (.pair (.int .i64) (.pair .str .unit))) l_v1, none)), (3, (.val (.list (.pair (.int .i64) (.pair .str .unit))) x.1, some 0)), (4, (.val (.int .i64) x.2, none))], [(0, .grow 58 2 (List.length x.1))], 1, 19, 0⟩) ⟨[0, 3, 4], [(0, 16)]⟩ (by rfl) ?_
      intro x1 w1 n1 hC1 hN1
      obtain ⟨out_v11, i_v12⟩ := x1
      unfold l05_own_step1 at hC1
      dsimp only at hC1 ⊢
      refine e_seq ?_
      refine e_seq ?_
      refine e_region E_l05_own (by simp only [go_sem, List.toList_toArray, Nat.reduceEqDiff, reduceIte, reduceDIte, reduceCtorEq, Nat.reduceAdd, Nat.reduceLT, Nat.reduceLeDiff, decide_true, decide_false, Bool.and_self, Bool.or_self, Bool.or_false, Bool.false_or, Bool.and_true, Bool.true_and, Bool.not_true, Bool.not_false]; rfl) (by exact trivial) ?_
      refine q_seqn ?_
      refine e_cond (by simp only [go_sem, List.toList_toArray, Nat.reduceEqDiff, reduceIte, reduceDIte, reduceCtorEq, Nat.reduceAdd, Nat.reduceLT, Nat.reduceLeDiff, decide_true, decide_false, Bool.and_self, Bool.or_self, Bool.or_false, Bool.false_or, Bool.and_true, Bool.true_and, Bool.not_true, Bool.not_false]; rfl) (fun hc1 => ?_) (fun hc1 => ?_)
      · replace hC1 := ite_t hC1 hc1
        refine e_skip ?_
        refine q_seqn ?_
        refine e_seq ?_
        refine e_block ?_
        obtain ⟨hg1, hC1⟩ := ite_some hC1
        obtain ⟨hg2, hC1⟩ := ite_some hC1
        refine e_region E_l05_own (by simp only [go_sem, List.toList_toArray, Nat.reduceEqDiff, reduceIte, reduceDIte, reduceCtorEq, Nat.reduceAdd, Nat.reduceLT, Nat.reduceLeDiff, decide_true, decide_false, Bool.and_self, Bool.or_self, Bool.or_false, Bool.false_or, Bool.and_true, Bool.true_and, Bool.not_true, Bool.not_false]; rfl) (by exact And.intro hg1 (And.intro (by first | exact rfl | exact trivial) (hg2))) ?_
        refine q_blkn ?_
        refine q_seqn ?_
        obtain ⟨hg3, hC1⟩ := ite_some hC1
        refine e_region E_l05_own (by simp only [go_sem, List.toList_toArray, Nat.reduceEqDiff, reduceIte, reduceDIte, reduceCtorEq, Nat.reduceAdd, Nat.reduceLT, Nat.reduceLeDiff, decide_true, decide_false, Bool.and_self, Bool.or_self, Bool.or_false, Bool.false_or, Bool.and_true, Bool.true_and, Bool.not_true, Bool.not_false]; rfl) (by exact hg3) ?_
        cases hC1
        exact q_Ln ⟨⟨[0, 3, 4], [(0, 0)]⟩, _, by rfl, hN1⟩
      · replace hC1 := ite_f hC1 hc1
        refine e_exit ?_
        refine q_seqx ?_
        refine q_Lx ?_
        cases hC1
        cases hN1
        exact q_xx ⟨⟨[3], [(0, 0)]⟩, by rfl⟩
    · rintro _ rfl
      dsimp only at hC0 ⊢
      refine q_blkx ?_
      refine q_seqn ?_
      refine e_seq ?_
      refine e_region E_l05_own (by simp only [go_sem, List.toList_toArray, Nat.reduceEqDiff, reduceIte, reduceDIte, reduceCtorEq, Nat.reduceAdd, Nat.reduceLT, Nat.reduceLeDiff, decide_true, decide_false, Bool.and_self, Bool.or_self, Bool.or_false, Bool.false_or, Bool.and_true, Bool.true_and, Bool.not_true, Bool.not_false]; rfl) (by exact trivial) ?_
      refine q_seqn ?_
      refine e_ret ?_
      cases hC0
      exact ⟨[(0, 0)], by rfl, by rfl, by rfl⟩
  · cases hC

attribute [irreducible] l05_own


noncomputable def slices_IndexFunc_diff_Edit_diff_ApplyF1_step1 (s_v1 : (List (Int × ((List UInt8) × Unit)))) : Int → Option (Int ⊕ (Unit ⊕ Int)) := fun x_v6 =>
  if (decide (x_v6 < (List.length s_v1 : Int))) = true then
    if 0 ≤ x_v6 ∧ x_v6 < (List.length s_v1 : Int) then
      if (diff_ApplyF1 (nth (.pair (.int .i64) (.pair .str .unit)) s_v1 x_v6)) = true then
        some (.inr (.inr (x_v6)))
      else
        if -9223372036854775808 ≤ (x_v6 + (1 : Int)) ∧ (x_v6 + (1 : Int)) ≤ 9223372036854775807 then
          some (.inl (x_v6 + (1 : Int)))
        else none
    else none
  else
    some (.inr (.inl ()))

noncomputable def slices_IndexFunc_diff_Edit_diff_ApplyF1 (s_v1 : (List (Int × ((List UInt8) × Unit)))) : Option Int :=
  thn (loopM (slices_IndexFunc_diff_Edit_diff_ApplyF1_step1 s_v1) (0 : Int)) fun _ =>
  some ((-1 : Int))

@[go_sem] noncomputable def slices_IndexFunc_diff_Edit_diff_ApplyF1C : List Slot → List Blk → Option Ret
  | [(.val (.list (.pair (.int .i64) (.pair .str .unit))) s_v1, none), (.val .clo (some (30, [])), none)], [] => some ⟨[((slices_IndexFunc_diff_Edit_diff_ApplyF1 s_v1)).isSome = true], [(.val (.int .i64) (val (slices_IndexFunc_diff_Edit_diff_ApplyF1 s_v1)), none)], []⟩
  | _, _ => none

@[go_sem] noncomputable def G_slices_IndexFunc_diff_Edit_diff_ApplyF1 : Ctx := fun f => if f = 30 then some ⟨[.v], diff_ApplyF1C⟩ else none
@[go_sem] def T_slices_IndexFunc_diff_Edit_diff_ApplyF1 : Types := [(40, ⟨(.list (.pair (.int .i64) (.pair .str .unit))), 58, 24, false⟩), (58, ⟨(.pair (.int .i64) (.pair .str .unit)), 0, 1, false⟩)]
theorem K_slices_IndexFunc_diff_Edit_diff_ApplyF1 : CtxOk Try.prog G_slices_IndexFunc_diff_Edit_diff_ApplyF1 := by
  intro f s h
  unfold G_slices_IndexFunc_diff_Edit_diff_ApplyF1 at h
  split at h
  · rename_i e; subst e; cases h; exact diff_ApplyF1_con
  · cases h
theorem E_slices_IndexFunc_diff_Edit_diff_ApplyF1 : Env Try.prog T_slices_IndexFunc_diff_Edit_diff_ApplyF1 G_slices_IndexFunc_diff_Edit_diff_ApplyF1 := ⟨⟨ty_Ldiff_Edit, ⟨ty_calque_diff_Edit, trivial⟩⟩, K_slices_IndexFunc_diff_Edit_diff_ApplyF1, by kernel_rfl⟩

set_option maxRecDepth 100000 in
set_option maxHeartbeats 4000000 in
theorem slices_IndexFunc_diff_Edit_diff_ApplyF1_con : ConOk Try.prog 34 slices_IndexFunc_diff_Edit_diff_ApplyF1C := by
  refine con_okR E_slices_IndexFunc_diff_Edit_diff_ApplyF1.T Try.func34 (c := _) rfl (N := 19) (by kernel_rfl) (ts := [(4, none)]) (fun _ _ => rfl) rfl ?_
  intro args L r hC hs
  unfold slices_IndexFunc_diff_Edit_diff_ApplyF1C at hC
  split at hC
  · rename_i s_v1; cases hC
    obtain ⟨z0, hC0⟩ := Option.isSome_iff_exists.1 (show ((slices_IndexFunc_diff_Edit_diff_ApplyF1 s_v1)).isSome = true from hs _ (by simp))
    try rw [val_eq hC0]
    clear hs
    unfold slices_IndexFunc_diff_Edit_diff_ApplyF1 at hC0
    refine ⟨by simp only [List.length_cons, List.length_nil]; omega, by repeat (first | exact trivial | refine And.intro rfl ?_), by repeat (first | exact trivial | refine And.intro rfl ?_), ?_⟩
    simp only [enumE, enumH, lenB, Nat.reduceAdd]
    refine e_seq ?_
    refine e_region E_slices_IndexFunc_diff_Edit_diff_ApplyF1 (by simp only [go_sem, List.toList_toArray, Nat.reduceEqDiff, reduceIte, reduceDIte, reduceCtorEq, Nat.reduceAdd, Nat.reduceLT, Nat.reduceLeDiff, decide_true, decide_false, Bool.and_self, Bool.or_self, Bool.or_false, Bool.false_or, Bool.and_true, Bool.true_and, Bool.not_true, Bool.not_false]; rfl) (by exact trivial) ?_
    refine q_seqn ?_
    refine e_seq ?_
    refine e_seq ?_
    refine e_region E_slices_IndexFunc_diff_Edit_diff_ApplyF1 (by simp only [go_sem, List.toList_toArray, Nat.reduceEqDiff, reduceIte, reduceDIte, reduceCtorEq, Nat.reduceAdd, Nat.reduceLT, Nat.reduceLeDiff, decide_true, decide_false, Bool.and_self, Bool.or_self, Bool.or_false, Bool.false_or, Bool.and_true, Bool.true_and, Bool.not_true, Bool.not_false]; rfl) (by exact trivial) ?_
    refine q_seqn ?_
    refine e_block ?_
    obtain ⟨y1, hy1, hC0⟩ := thn_some hC0
    refine e_cutx 0 (fun s => ∃ v, y1 = .inl v ∧ s = (fun _ => ⟨[], [], 0, 19, 0⟩) v) ?_ ?_
    · skip
      refine e_loopM hy1 (fun x => ⟨[(0, (.val (.list (.pair (.int .i64) (.pair .str .unit))) s_v1, none)), (1, (.val .clo (some (30, [])), none)), (7, (.val (.int .i64) (List.length s_v1 : Int), none)), (8, (.val (.int .i64) x, none))], [], 0, 19, 0⟩) ⟨[0, 1, 7, 8], []⟩ (by rfl) ?_
      intro x_v6 w1 n1 hC1 hN1
      unfold slices_IndexFunc_diff_Edit_diff_ApplyF1_step1 at hC1
      dsimp only at hC1 ⊢
      refine e_seq ?_
      refine e_region E_slices_IndexFunc_diff_Edit_diff_ApplyF1 (by simp only [go_sem, List.toList_toArray, Nat.reduceEqDiff, reduceIte, reduceDIte, reduceCtorEq, Nat.reduceAdd, Nat.reduceLT, Nat.reduceLeDiff, decide_true, decide_false, Bool.and_self, Bool.or_self, Bool.or_false, Bool.false_or, Bool.and_true, Bool.true_and, Bool.not_true, Bool.not_false]; rfl) (by exact trivial) ?_
      refine q_seqn ?_
      refine e_seq ?_
      refine e_cond (by simp only [go_sem, List.toList_toArray, Nat.reduceEqDiff, reduceIte, reduceDIte, reduceCtorEq, Nat.reduceAdd, Nat.reduceLT, Nat.reduceLeDiff, decide_true, decide_false, Bool.and_self, Bool.or_self, Bool.or_false, Bool.false_or, Bool.and_true, Bool.true_and, Bool.not_true, Bool.not_false]; rfl) (fun hc1 => ?_) (fun hc1 => ?_)
      · replace hC1 := ite_t hC1 hc1
        refine e_skip ?_
        refine q_seqn ?_
        refine e_seq ?_
        refine e_block ?_
        refine e_seq ?_
        refine e_region E_slices_IndexFunc_diff_Edit_diff_ApplyF1 (by simp only [go_sem, List.toList_toArray, Nat.reduceEqDiff, reduceIte, reduceDIte, reduceCtorEq, Nat.reduceAdd, Nat.reduceLT, Nat.reduceLeDiff, decide_true, decide_false, Bool.and_self, Bool.or_self, Bool.or_false, Bool.false_or, Bool.and_true, Bool.true_and, Bool.not_true, Bool.not_false]; rfl) (by exact trivial) ?_
        refine q_seqn ?_
        refine e_seq ?_
        obtain ⟨hg1, hC1⟩ := ite_some hC1
        refine e_region E_slices_IndexFunc_diff_Edit_diff_ApplyF1 (by simp only [go_sem, List.toList_toArray, Nat.reduceEqDiff, reduceIte, reduceDIte, reduceCtorEq, Nat.reduceAdd, Nat.reduceLT, Nat.reduceLeDiff, decide_true, decide_false, Bool.and_self, Bool.or_self, Bool.or_false, Bool.false_or, Bool.and_true, Bool.true_and, Bool.not_true, Bool.not_false]; rfl) (by exact hg1) ?_
        refine q_seqn ?_
        refine e_cond (by simp only [go_sem, List.toList_toArray, Nat.reduceEqDiff, reduceIte, reduceDIte, reduceCtorEq, Nat.reduceAdd, Nat.reduceLT, Nat.reduceLeDiff, decide_true, decide_false, Bool.and_self, Bool.or_self, Bool.or_false, Bool.false_or, Bool.and_true, Bool.true_and, Bool.not_true, Bool.not_false]; rfl) (fun hc2 => ?_) (fun hc2 => ?_)
        · replace hC1 := ite_t hC1 hc2
          refine e_seq ?_
          refine e_region E_slices_IndexFunc_diff_Edit_diff_ApplyF1 (by simp only [go_sem, List.toList_toArray, Nat.reduceEqDiff, reduceIte, reduceDIte, reduceCtorEq, Nat.reduceAdd, Nat.reduceLT, Nat.reduceLeDiff, decide_true, decide_false, Bool.and_self, Bool.or_self, Bool.or_false, Bool.false_or, Bool.and_true, Bool.true_and, Bool.not_true, Bool.not_false]; rfl) (by exact trivial) ?_
          refine q_seqn ?_
          refine e_ret ?_
          refine q_blkr ?_
          refine q_seqr ?_
          refine q_Lr ?_
          refine q_xr ?_
          refine q_blkr ?_
          refine q_seqr ?_
          cases hC1
          cases hN1
          dsimp only at hC0
          cases hC0
          exact ⟨[], by rfl, by rfl, by rfl⟩
        · replace hC1 := ite_f hC1 hc2
          refine e_skip ?_
          refine q_blkn ?_
          refine q_seqn ?_
          obtain ⟨hg2, hC1⟩ := ite_some hC1
          refine e_region E_slices_IndexFunc_diff_Edit_diff_ApplyF1 (by simp only [go_sem, List.toList_toArray, Nat.reduceEqDiff, reduceIte, reduceDIte, reduceCtorEq, Nat.reduceAdd, Nat.reduceLT, Nat.reduceLeDiff, decide_true, decide_false, Bool.and_self, Bool.or_self, Bool.or_false, Bool.false_or, Bool.and_true, Bool.true_and, Bool.not_true, Bool.not_false]; rfl) (by exact hg2) ?_
          cases hC1
          exact q_Ln ⟨⟨[0, 1, 7, 8], []⟩, _, by rfl, hN1⟩
      · replace hC1 := ite_f hC1 hc1
        refine e_exit ?_
        refine q_seqx ?_
        refine q_Lx ?_
        cases hC1
        cases hN1
        exact q_xx ⟨⟨[], []⟩, _, rfl, by rfl⟩
    · rintro _ ⟨v, rfl, rfl⟩
      dsimp only at hC0 ⊢
      refine q_blkx ?_
      refine q_seqn ?_
      refine e_seq ?_
      refine e_region E_slices_IndexFunc_diff_Edit_diff_ApplyF1 (by simp only [go_sem, List.toList_toArray, Nat.reduceEqDiff, reduceIte, reduceDIte, reduceCtorEq, Nat.reduceAdd, Nat.reduceLT, Nat.reduceLeDiff, decide_true, decide_false, Bool.and_self, Bool.or_self, Bool.or_false, Bool.false_or, Bool.and_true, Bool.true_and, Bool.not_true, Bool.not_false]; rfl) (by exact trivial) ?_
      refine q_seqn ?_
      refine e_ret ?_
      cases hC0
      exact ⟨[], by rfl, by rfl, by rfl⟩
  · cases hC

attribute [irreducible] slices_IndexFunc_diff_Edit_diff_ApplyF1


noncomputable def slices_ContainsFunc_diff_Edit_diff_ApplyF1 (s_v1 : (List (Int × ((List UInt8) × Unit)))) : Option Bool :=
  (slices_IndexFunc_diff_Edit_diff_ApplyF1 s_v1).bind fun r_v3 =>
  some ((decide ((0 : Int) ≤ r_v3)))

@[go_sem] noncomputable def slices_ContainsFunc_diff_Edit_diff_ApplyF1C : List Slot → List Blk → Option Ret
  | [(.val (.list (.pair (.int .i64) (.pair .str .unit))) s_v1, none), (.val .clo (some (30, [])), none)], [] => some ⟨[((slices_ContainsFunc_diff_Edit_diff_ApplyF1 s_v1)).isSome = true], [(.val .bool (val (slices_ContainsFunc_diff_Edit_diff_ApplyF1 s_v1)), none)], []⟩
  | _, _ => none

@[go_sem] noncomputable def G_slices_ContainsFunc_diff_Edit_diff_ApplyF1 : Ctx := fun f => if f = 34 then some ⟨[.v, .v], slices_IndexFunc_diff_Edit_diff_ApplyF1C⟩ else none
@[go_sem] def T_slices_ContainsFunc_diff_Edit_diff_ApplyF1 : Types := []
theorem K_slices_ContainsFunc_diff_Edit_diff_ApplyF1 : CtxOk Try.prog G_slices_ContainsFunc_diff_Edit_diff_ApplyF1 := by
  intro f s h
  unfold G_slices_ContainsFunc_diff_Edit_diff_ApplyF1 at h
  split at h
  · rename_i e; subst e; cases h; exact slices_IndexFunc_diff_Edit_diff_ApplyF1_con
  · cases h
theorem E_slices_ContainsFunc_diff_Edit_diff_ApplyF1 : Env Try.prog T_slices_ContainsFunc_diff_Edit_diff_ApplyF1 G_slices_ContainsFunc_diff_Edit_diff_ApplyF1 := ⟨trivial, K_slices_ContainsFunc_diff_Edit_diff_ApplyF1, by kernel_rfl⟩

set_option maxRecDepth 100000 in
set_option maxHeartbeats 4000000 in
theorem slices_ContainsFunc_diff_Edit_diff_ApplyF1_con : ConOk Try.prog 29 slices_ContainsFunc_diff_Edit_diff_ApplyF1C := by
  refine con_okR E_slices_ContainsFunc_diff_Edit_diff_ApplyF1.T Try.func29 (c := _) rfl (N := 9) (by kernel_rfl) (ts := [(4, none)]) (fun _ _ => rfl) rfl ?_
  intro args L r hC hs
  unfold slices_ContainsFunc_diff_Edit_diff_ApplyF1C at hC
  split at hC
  · rename_i s_v1; cases hC
    obtain ⟨z0, hC0⟩ := Option.isSome_iff_exists.1 (show ((slices_ContainsFunc_diff_Edit_diff_ApplyF1 s_v1)).isSome = true from hs _ (by simp))
    try rw [val_eq hC0]
    clear hs
    unfold slices_ContainsFunc_diff_Edit_diff_ApplyF1 at hC0
    refine ⟨by simp only [List.length_cons, List.length_nil]; omega, by repeat (first | exact trivial | refine And.intro rfl ?_), by repeat (first | exact trivial | refine And.intro rfl ?_), ?_⟩
    simp only [enumE, enumH, lenB, Nat.reduceAdd]
    refine e_seq ?_
    refine e_region E_slices_ContainsFunc_diff_Edit_diff_ApplyF1 (by simp only [go_sem, List.toList_toArray, Nat.reduceEqDiff, reduceIte, reduceDIte, reduceCtorEq, Nat.reduceAdd, Nat.reduceLT, Nat.reduceLeDiff, decide_true, decide_false, Bool.and_self, Bool.or_self, Bool.or_false, Bool.false_or, Bool.and_true, Bool.true_and, Bool.not_true, Bool.not_false]; rfl) (by exact trivial) ?_
    refine q_seqn ?_
    refine e_seq ?_
    obtain ⟨r_v3, hv1, hC0⟩ := bind_some hC0
    obtain rfl := val_eq hv1
    refine e_region E_slices_ContainsFunc_diff_Edit_diff_ApplyF1 (by simp only [go_sem, List.toList_toArray, Nat.reduceEqDiff, reduceIte, reduceDIte, reduceCtorEq, Nat.reduceAdd, Nat.reduceLT, Nat.reduceLeDiff, decide_true, decide_false, Bool.and_self, Bool.or_self, Bool.or_false, Bool.false_or, Bool.and_true, Bool.true_and, Bool.not_true, Bool.not_false]; rfl) (by exact (isSome_eq hv1)) ?_
    generalize val (slices_IndexFunc_diff_Edit_diff_ApplyF1 s_v1) = r_v3 at hC0 ⊢
    refine q_seqn ?_
    refine e_ret ?_
    cases hC0
    exact ⟨[], by rfl, by rfl, by rfl⟩
  · cases hC

attribute [irreducible] slices_ContainsFunc_diff_Edit_diff_ApplyF1


noncomputable def slices_Clone_diff_Edit (s_v1 : (List (Int × ((List UInt8) × Unit)))) : Option ((List (Int × ((List UInt8) × Unit))) × Nat) :=
  if (0 + List.length s_v1) * 24 ≤ 140737488355328 then
    some (((([] : List (Int × ((List UInt8) × Unit))) ++ s_v1), (0 + List.length s_v1)))
  else none

@[go_sem] noncomputable def slices_Clone_diff_EditC : List Slot → List Blk → Option Ret
  | [(.val (.list (.pair (.int .i64) (.pair .str .unit))) s_v1, none)], [] => some ⟨[((slices_Clone_diff_Edit s_v1)).isSome = true], [(.own 0 ((val (slices_Clone_diff_Edit s_v1)).2), none)], [.row 58 (.pair (.int .i64) (.pair .str .unit)) ((val (slices_Clone_diff_Edit s_v1)).1) ((val (slices_Clone_diff_Edit s_v1)).2)]⟩
  | _, _ => none

@[go_sem] def G_slices_Clone_diff_Edit : Ctx := fun _ => none
@[go_sem] def T_slices_Clone_diff_Edit : Types := [(40, ⟨(.list (.pair (.int .i64) (.pair .str .unit))), 58, 24, true⟩)]
theorem K_slices_Clone_diff_Edit : CtxOk Try.prog G_slices_Clone_diff_Edit := by
  intro f s h
  cases h
theorem E_slices_Clone_diff_Edit : Env Try.prog T_slices_Clone_diff_Edit G_slices_Clone_diff_Edit := ⟨⟨ty_Ldiff_Edit_r, trivial⟩, K_slices_Clone_diff_Edit, by kernel_rfl⟩

set_option maxRecDepth 100000 in
set_option maxHeartbeats 4000000 in
theorem slices_Clone_diff_Edit_con : ConOk Try.prog 33 slices_Clone_diff_EditC := by
  refine con_okR E_slices_Clone_diff_Edit.T Try.func33 (c := _) rfl (N := 8) (by kernel_rfl) (ts := [(2, none)]) (fun _ _ => rfl) rfl ?_
  intro args L r hC hs
  unfold slices_Clone_diff_EditC at hC
  split at hC
  · rename_i s_v1; cases hC
    obtain ⟨z0, hC0⟩ := Option.isSome_iff_exists.1 (show ((slices_Clone_diff_Edit s_v1)).isSome = true from hs _ (by simp))
    try rw [val_eq hC0]
    clear hs
    unfold slices_Clone_diff_Edit at hC0
    refine ⟨by simp only [List.length_cons, List.length_nil]; omega, by repeat (first | exact trivial | refine And.intro rfl ?_), by repeat (first | exact trivial | refine And.intro rfl ?_), ?_⟩
    simp only [enumE, enumH, lenB, Nat.reduceAdd]
    refine e_seq ?_
    refine e_region E_slices_Clone_diff_Edit (by simp only [go_sem, List.toList_toArray, Nat.reduceEqDiff, reduceIte, reduceDIte, reduceCtorEq, Nat.reduceAdd, Nat.reduceLT, Nat.reduceLeDiff, decide_true, decide_false, Bool.and_self, Bool.or_self, Bool.or_false, Bool.false_or, Bool.and_true, Bool.true_and, Bool.not_true, Bool.not_false]; rfl) (by exact trivial) ?_
    refine q_seqn ?_
    refine e_seq ?_
    refine e_seq ?_
    refine e_region E_slices_Clone_diff_Edit (by simp only [go_sem, List.toList_toArray, Nat.reduceEqDiff, reduceIte, reduceDIte, reduceCtorEq, Nat.reduceAdd, Nat.reduceLT, Nat.reduceLeDiff, decide_true, decide_false, Bool.and_self, Bool.or_self, Bool.or_false, Bool.false_or, Bool.and_true, Bool.true_and, Bool.not_true, Bool.not_false]; rfl) (by exact trivial) ?_
    refine q_seqn ?_
    refine e_condF (by simp only [go_sem, List.toList_toArray, Nat.reduceEqDiff, reduceIte, reduceDIte, reduceCtorEq, Nat.reduceAdd, Nat.reduceLT, Nat.reduceLeDiff, decide_true, decide_false, Bool.and_self, Bool.or_self, Bool.or_false, Bool.false_or, Bool.and_true, Bool.true_and, Bool.not_true, Bool.not_false]; rfl) (fun hnil => ?_) (fun hnil => ?_)
    · skip
      subst hnil
      obtain ⟨_, hC0⟩ := ite_some hC0
      refine e_seq ?_
      refine e_region E_slices_Clone_diff_Edit (by simp only [go_sem, List.toList_toArray, Nat.reduceEqDiff, reduceIte, reduceDIte, reduceCtorEq, Nat.reduceAdd, Nat.reduceLT, Nat.reduceLeDiff, decide_true, decide_false, Bool.and_self, Bool.or_self, Bool.or_false, Bool.false_or, Bool.and_true, Bool.true_and, Bool.not_true, Bool.not_false]; rfl) (by exact trivial) ?_
      refine q_seqn ?_
      refine e_ret ?_
      refine q_seqr ?_
      cases hC0
      exact ⟨[(0, 48)], by rfl, by rfl, by rfl⟩
    · skip
      refine e_skip ?_
      refine q_seqn ?_
      refine e_seq ?_
      obtain ⟨hg1, hC0⟩ := ite_some hC0
      refine e_region E_slices_Clone_diff_Edit (by simp only [go_sem, List.toList_toArray, Nat.reduceEqDiff, reduceIte, reduceDIte, reduceCtorEq, Nat.reduceAdd, Nat.reduceLT, Nat.reduceLeDiff, decide_true, decide_false, Bool.and_self, Bool.or_self, Bool.or_false, Bool.false_or, Bool.and_true, Bool.true_and, Bool.not_true, Bool.not_false]; rfl) (by exact And.intro (by first | exact rfl | exact trivial) (hg1)) ?_
      refine q_seqn ?_
      refine e_ret ?_
      cases hC0
      exact ⟨[(0, 48)], by rfl, by rfl, by rfl⟩
  · cases hC

attribute [irreducible] slices_Clone_diff_Edit

end Go.Proofs.Ytfcibaiiobihnaa
