/- PLAIN FORMS of the program's functions, and that the code computes them. -/
import Derived.Test.YtfcibaiiobihnaaEty
import Derived.Test.YtfcibaiiobihnaaE00
import Derived.Test.YtfcibaiiobihnaaE07
import Derived.Test.YtfcibaiiobihnaaVt
import Derived.KernelRfl
namespace Go.Proofs.Ytfcibaiiobihnaa
open Vc
set_option linter.unusedSimpArgs false
set_option linter.unusedVariables false


noncomputable def l05_DiffCommon_step1 (a_v1 : (List (List UInt8))) (b_v2 : (List (List UInt8))) (r_v9 : (List (Int × (Int × Unit)))) : Int → Option (Int ⊕ (Unit ⊕ Bool)) := fun i_v11 =>
  if (decide (i_v11 < (List.length (pairsD a_v1 b_v2) : Int))) = true then
    if 0 ≤ i_v11 ∧ i_v11 < (List.length (pairsD a_v1 b_v2) : Int) then
      if 0 ≤ i_v11 ∧ i_v11 < (List.length r_v9 : Int) then
        if (!((decide ((nth (.pair (.int .i64) (.pair (.int .i64) .unit)) (pairsD a_v1 b_v2) i_v11).1 = (nth (.pair (.int .i64) (.pair (.int .i64) .unit)) r_v9 i_v11).1)) && (decide ((nth (.pair (.int .i64) (.pair (.int .i64) .unit)) (pairsD a_v1 b_v2) i_v11).2.1 = (nth (.pair (.int .i64) (.pair (.int .i64) .unit)) r_v9 i_v11).2.1)))) = true then
          some (.inr (.inr (false)))
        else
          if -9223372036854775808 ≤ (i_v11 + (1 : Int)) ∧ (i_v11 + (1 : Int)) ≤ 9223372036854775807 then
            some (.inl (i_v11 + (1 : Int)))
          else none
      else none
    else none
  else
    some (.inr (.inl ()))

noncomputable def l05_DiffCommon (a_v1 : (List (List UInt8))) (b_v2 : (List (List UInt8))) : Option Bool :=
  if (!true) = true then
    some (false)
  else
    (r05_Few a_v1).bind fun r_v8 =>
    if (((!r_v8) == false) = true → ((r05_Few b_v2)).isSome = true) then
      if ((!r_v8) || (!(val (r05_Few b_v2)))) = true then
        some (true)
      else
        if (List.length a_v1 : Int) ≤ 1000 then
          if (List.length b_v2 : Int) ≤ 1000 then
            (r05_Common a_v1 b_v2).bind fun r_v9 =>
            if (((!decide ((List.length (pairsD a_v1 b_v2) : Int) = (List.length r_v9 : Int))) == false) = true → (List.length a_v1 : Int) ≤ 1000) then
              if (((!decide ((List.length (pairsD a_v1 b_v2) : Int) = (List.length r_v9 : Int))) == false) = true → (List.length b_v2 : Int) ≤ 1000) then
                if (((!decide ((List.length (pairsD a_v1 b_v2) : Int) = (List.length r_v9 : Int))) == false) = true → ((r05_Distance a_v1 b_v2)).isSome = true) then
                  if ((!decide ((List.length (pairsD a_v1 b_v2) : Int) = (List.length r_v9 : Int))) || (!decide ((distD a_v1 b_v2) = (val (r05_Distance a_v1 b_v2))))) = true then
                    some (false)
                  else
                    thn (loopM (l05_DiffCommon_step1 a_v1 b_v2 r_v9) (0 : Int)) fun _ =>
                    some (true)
                else none
              else none
            else none
          else none
        else none
    else none

@[go_sem] noncomputable def l05_DiffCommonC : List Slot → List Blk → Option Ret
  | [(.val (.list .str) a_v1, none), (.val (.list .str) b_v2, none)], [] => some ⟨[((l05_DiffCommon a_v1 b_v2)).isSome = true], [(.val .bool (val (l05_DiffCommon a_v1 b_v2)), none)], []⟩
  | _, _ => none

@[go_sem] noncomputable def G_l05_DiffCommon : Ctx := fun f => if f = 10 then some ⟨[], C10⟩ else if f = 11 then some ⟨[.v], r05_FewC⟩ else if f = 12 then some ⟨[.v, .v], C12⟩ else if f = 13 then some ⟨[.v, .v], r05_CommonC⟩ else if f = 14 then some ⟨[.v, .v], C13⟩ else if f = 15 then some ⟨[.v, .v], r05_DistanceC⟩ else none
@[go_sem] def T_l05_DiffCommon : Types := [(26, ⟨(.list (.pair (.int .i64) (.pair (.int .i64) .unit))), 28, 16, false⟩), (28, ⟨(.pair (.int .i64) (.pair (.int .i64) .unit)), 0, 1, true⟩)]
theorem K_l05_DiffCommon : CtxOk Try.prog G_l05_DiffCommon := by
  intro f s h
  unfold G_l05_DiffCommon at h
  split at h
  · rename_i e; subst e; cases h; exact con10
  split at h
  · rename_i e; subst e; cases h; exact r05_Few_con
  split at h
  · rename_i e; subst e; cases h; exact con12
  split at h
  · rename_i e; subst e; cases h; exact r05_Common_con
  split at h
  · rename_i e; subst e; cases h; exact con13
  split at h
  · rename_i e; subst e; cases h; exact r05_Distance_con
  · cases h
theorem E_l05_DiffCommon : Env Try.prog T_l05_DiffCommon G_l05_DiffCommon := ⟨⟨ty_L_2_int, ⟨ty_2_int, trivial⟩⟩, K_l05_DiffCommon, by kernel_rfl⟩

set_option maxRecDepth 100000 in
set_option maxHeartbeats 4000000 in
theorem l05_DiffCommon_con : ConOk Try.prog 4 l05_DiffCommonC := by
  refine con_okR E_l05_DiffCommon.T Try.func4 (c := _) rfl (N := 53) (by kernel_rfl) (ts := [(4, none)]) (fun _ _ => rfl) rfl ?_
  intro args L r hC hs
  unfold l05_DiffCommonC at hC
  split at hC
  · rename_i a_v1 b_v2; cases hC
    obtain ⟨z0, hC0⟩ := Option.isSome_iff_exists.1 (show ((l05_DiffCommon a_v1 b_v2)).isSome = true from hs _ (by simp))
    try rw [val_eq hC0]
    clear hs
    unfold l05_DiffCommon at hC0
    refine ⟨by simp only [List.length_cons, List.length_nil]; omega, by repeat (first | exact trivial | refine And.intro rfl ?_), by repeat (first | exact trivial | refine And.intro rfl ?_), ?_⟩
    simp only [enumE, enumH, lenB, Nat.reduceAdd]
    refine e_seq ?_
    refine e_region E_l05_DiffCommon (by simp only [go_sem, List.toList_toArray, Nat.reduceEqDiff, reduceIte, reduceDIte, reduceCtorEq, Nat.reduceAdd, Nat.reduceLT, Nat.reduceLeDiff, decide_true, decide_false, Bool.and_self, Bool.or_self, Bool.or_false, Bool.false_or, Bool.and_true, Bool.true_and, Bool.not_true, Bool.not_false]; rfl) (by exact trivial) ?_
    refine q_seqn ?_
    refine e_seq ?_
    refine e_seq ?_
    refine e_region E_l05_DiffCommon (by simp only [go_sem, List.toList_toArray, Nat.reduceEqDiff, reduceIte, reduceDIte, reduceCtorEq, Nat.reduceAdd, Nat.reduceLT, Nat.reduceLeDiff, decide_true, decide_false, Bool.and_self, Bool.or_self, Bool.or_false, Bool.false_or, Bool.and_true, Bool.true_and, Bool.not_true, Bool.not_false]; rfl) (by exact trivial) ?_
    refine q_seqn ?_
    refine e_cond (by simp only [go_sem, List.toList_toArray, Nat.reduceEqDiff, reduceIte, reduceDIte, reduceCtorEq, Nat.reduceAdd, Nat.reduceLT, Nat.reduceLeDiff, decide_true, decide_false, Bool.and_self, Bool.or_self, Bool.or_false, Bool.false_or, Bool.and_true, Bool.true_and, Bool.not_true, Bool.not_false]; rfl) (fun hc1 => ?_) (fun hc1 => ?_)
    · replace hC0 := ite_t hC0 hc1
      refine e_seq ?_
      refine e_region E_l05_DiffCommon (by simp only [go_sem, List.toList_toArray, Nat.reduceEqDiff, reduceIte, reduceDIte, reduceCtorEq, Nat.reduceAdd, Nat.reduceLT, Nat.reduceLeDiff, decide_true, decide_false, Bool.and_self, Bool.or_self, Bool.or_false, Bool.false_or, Bool.and_true, Bool.true_and, Bool.not_true, Bool.not_false]; rfl) (by exact trivial) ?_
      refine q_seqn ?_
      refine e_ret ?_
      refine q_seqr ?_
      cases hC0
      exact ⟨[], by rfl, by rfl, by rfl⟩
    · replace hC0 := ite_f hC0 hc1
      refine e_skip ?_
      refine q_seqn ?_
      refine e_seq ?_
      refine e_seq ?_
      obtain ⟨r_v8, hv1, hC0⟩ := bind_some hC0
      obtain rfl := val_eq hv1
      obtain ⟨hg2, hC0⟩ := ite_some hC0
      refine e_region E_l05_DiffCommon (by simp only [go_sem, List.toList_toArray, Nat.reduceEqDiff, reduceIte, reduceDIte, reduceCtorEq, Nat.reduceAdd, Nat.reduceLT, Nat.reduceLeDiff, decide_true, decide_false, Bool.and_self, Bool.or_self, Bool.or_false, Bool.false_or, Bool.and_true, Bool.true_and, Bool.not_true, Bool.not_false]; rfl) (by exact And.intro (isSome_eq hv1) (And.intro (fun hh => hh) (And.intro hg2 (And.intro (fun hh => hh) ((fun hh => beq_selfF hh)))))) ?_
      generalize val (r05_Few a_v1) = r_v8 at hC0 ⊢
      refine q_seqn ?_
      refine e_cond (by simp only [go_sem, List.toList_toArray, Nat.reduceEqDiff, reduceIte, reduceDIte, reduceCtorEq, Nat.reduceAdd, Nat.reduceLT, Nat.reduceLeDiff, decide_true, decide_false, Bool.and_self, Bool.or_self, Bool.or_false, Bool.false_or, Bool.and_true, Bool.true_and, Bool.not_true, Bool.not_false]; rfl) (fun hc2 => ?_) (fun hc2 => ?_)
      · replace hC0 := ite_t hC0 hc2
        refine e_seq ?_
        refine e_region E_l05_DiffCommon (by simp only [go_sem, List.toList_toArray, Nat.reduceEqDiff, reduceIte, reduceDIte, reduceCtorEq, Nat.reduceAdd, Nat.reduceLT, Nat.reduceLeDiff, decide_true, decide_false, Bool.and_self, Bool.or_self, Bool.or_false, Bool.false_or, Bool.and_true, Bool.true_and, Bool.not_true, Bool.not_false]; rfl) (by exact trivial) ?_
        refine q_seqn ?_
        refine e_ret ?_
        refine q_seqr ?_
        cases hC0
        exact ⟨[], by rfl, by rfl, by rfl⟩
      · replace hC0 := ite_f hC0 hc2
        refine e_skip ?_
        refine q_seqn ?_
        refine e_seq ?_
        obtain ⟨hg3, hC0⟩ := ite_some hC0
        obtain ⟨hg4, hC0⟩ := ite_some hC0
        obtain ⟨r_v9, hv5, hC0⟩ := bind_some hC0
        obtain rfl := val_eq hv5
        refine e_region E_l05_DiffCommon (by simp only [go_sem, List.toList_toArray, Nat.reduceEqDiff, reduceIte, reduceDIte, reduceCtorEq, Nat.reduceAdd, Nat.reduceLT, Nat.reduceLeDiff, decide_true, decide_false, Bool.and_self, Bool.or_self, Bool.or_false, Bool.false_or, Bool.and_true, Bool.true_and, Bool.not_true, Bool.not_false]; rfl) (by exact And.intro hg3 (And.intro hg4 ((isSome_eq hv5)))) ?_
        generalize val (r05_Common a_v1 b_v2) = r_v9 at hC0 ⊢
        refine q_seqn ?_
        refine e_seq ?_
        refine e_seq ?_
        obtain ⟨hg6, hC0⟩ := ite_some hC0
        obtain ⟨hg7, hC0⟩ := ite_some hC0
        obtain ⟨hg8, hC0⟩ := ite_some hC0
        refine e_region E_l05_DiffCommon (by simp only [go_sem, List.toList_toArray, Nat.reduceEqDiff, reduceIte, reduceDIte, reduceCtorEq, Nat.reduceAdd, Nat.reduceLT, Nat.reduceLeDiff, decide_true, decide_false, Bool.and_self, Bool.or_self, Bool.or_false, Bool.false_or, Bool.and_true, Bool.true_and, Bool.not_true, Bool.not_false]; rfl) (by exact And.intro (fun hh => hh) (And.intro (fun hh => hh) (And.intro hg6 (And.intro hg7 (And.intro (fun hh => hh) (And.intro (fun hh => hh) (And.intro hg8 (And.intro (fun hh => hh) (And.intro (fun hh => hh) ((fun hh => beq_selfF hh))))))))))) ?_
        refine q_seqn ?_
        refine e_cond (by simp only [go_sem, List.toList_toArray, Nat.reduceEqDiff, reduceIte, reduceDIte, reduceCtorEq, Nat.reduceAdd, Nat.reduceLT, Nat.reduceLeDiff, decide_true, decide_false, Bool.and_self, Bool.or_self, Bool.or_false, Bool.false_or, Bool.and_true, Bool.true_and, Bool.not_true, Bool.not_false]; rfl) (fun hc3 => ?_) (fun hc3 => ?_)
        · replace hC0 := ite_t hC0 hc3
          refine e_seq ?_
          refine e_region E_l05_DiffCommon (by simp only [go_sem, List.toList_toArray, Nat.reduceEqDiff, reduceIte, reduceDIte, reduceCtorEq, Nat.reduceAdd, Nat.reduceLT, Nat.reduceLeDiff, decide_true, decide_false, Bool.and_self, Bool.or_self, Bool.or_false, Bool.false_or, Bool.and_true, Bool.true_and, Bool.not_true, Bool.not_false]; rfl) (by exact trivial) ?_
          refine q_seqn ?_
          refine e_ret ?_
          refine q_seqr ?_
          cases hC0
          exact ⟨[], by rfl, by rfl, by rfl⟩
        · replace hC0 := ite_f hC0 hc3
          refine e_skip ?_
          refine q_seqn ?_
          refine e_seq ?_
          refine e_seq ?_
          refine e_region E_l05_DiffCommon (by simp only [go_sem, List.toList_toArray, Nat.reduceEqDiff, reduceIte, reduceDIte, reduceCtorEq, Nat.reduceAdd, Nat.reduceLT, Nat.reduceLeDiff, decide_true, decide_false, Bool.and_self, Bool.or_self, Bool.or_false, Bool.false_or, Bool.and_true, Bool.true_and, Bool.not_true, Bool.not_false]; rfl) (by exact trivial) ?_
          refine q_seqn ?_
          refine e_block ?_
          obtain ⟨y1, hy1, hC0⟩ := thn_some hC0
          refine e_cutx 0 (fun s => ∃ v, y1 = .inl v ∧ s = (fun _ => ⟨[], [], 0, 53, 0⟩) v) ?_ ?_
          · skip
            refine e_loopM hy1 (fun x => ⟨[(5, (.val (.list (.pair (.int .i64) (.pair (.int .i64) .unit))) (pairsD a_v1 b_v2), none)), (6, (.val (.list (.pair (.int .i64) (.pair (.int .i64) .unit))) r_v9, some 0)), (7, (.val (.int .i64) x, none))], [(0, .grow 28 2 (List.length r_v9))], 1, 53, 0⟩) ⟨[5, 6, 7], [(0, 256)]⟩ (by rfl) ?_
            intro i_v11 w1 n1 hC1 hN1
            unfold l05_DiffCommon_step1 at hC1
            dsimp only at hC1 ⊢
            refine e_seq ?_
            refine e_seq ?_
            refine e_region E_l05_DiffCommon (by simp only [go_sem, List.toList_toArray, Nat.reduceEqDiff, reduceIte, reduceDIte, reduceCtorEq, Nat.reduceAdd, Nat.reduceLT, Nat.reduceLeDiff, decide_true, decide_false, Bool.and_self, Bool.or_self, Bool.or_false, Bool.false_or, Bool.and_true, Bool.true_and, Bool.not_true, Bool.not_false]; rfl) (by exact trivial) ?_
            refine q_seqn ?_
            refine e_cond (by simp only [go_sem, List.toList_toArray, Nat.reduceEqDiff, reduceIte, reduceDIte, reduceCtorEq, Nat.reduceAdd, Nat.reduceLT, Nat.reduceLeDiff, decide_true, decide_false, Bool.and_self, Bool.or_self, Bool.or_false, Bool.false_or, Bool.and_true, Bool.true_and, Bool.not_true, Bool.not_false]; rfl) (fun hc4 => ?_) (fun hc4 => ?_)
            · replace hC1 := ite_t hC1 hc4
              refine e_skip ?_
              refine q_seqn ?_
              refine e_seq ?_
              refine e_block ?_
              refine e_seq ?_
              obtain ⟨hg9, hC1⟩ := ite_some hC1
              obtain ⟨hg10, hC1⟩ := ite_some hC1
              refine e_drawn E_l05_DiffCommon (by simp only [go_sem, List.toList_toArray, Nat.reduceEqDiff, reduceIte, reduceDIte, reduceCtorEq, Nat.reduceAdd, Nat.reduceLT, Nat.reduceLeDiff, decide_true, decide_false, Bool.and_self, Bool.or_self, Bool.or_false, Bool.false_or, Bool.and_true, Bool.true_and, Bool.not_true, Bool.not_false]; rfl) (by kernel_rfl) (by exact And.intro hg9 (hg10)) ?_
              refine q_seqn ?_
              refine e_cond (by simp only [go_sem, List.toList_toArray, Nat.reduceEqDiff, reduceIte, reduceDIte, reduceCtorEq, Nat.reduceAdd, Nat.reduceLT, Nat.reduceLeDiff, decide_true, decide_false, Bool.and_self, Bool.or_self, Bool.or_false, Bool.false_or, Bool.and_true, Bool.true_and, Bool.not_true, Bool.not_false]; rfl) (fun hc5 => ?_) (fun hc5 => ?_)
              · replace hC1 := ite_t hC1 hc5
                refine e_seq ?_
                refine e_region E_l05_DiffCommon (by simp only [go_sem, List.toList_toArray, Nat.reduceEqDiff, reduceIte, reduceDIte, reduceCtorEq, Nat.reduceAdd, Nat.reduceLT, Nat.reduceLeDiff, decide_true, decide_false, Bool.and_self, Bool.or_self, Bool.or_false, Bool.false_or, Bool.and_true, Bool.true_and, Bool.not_true, Bool.not_false]; rfl) (by exact trivial) ?_
                refine q_seqn ?_
                refine e_ret ?_
                refine q_blkr ?_
                refine q_seqr ?_
                refine q_Lr ?_
                refine q_xr ?_
                refine q_blkr ?_
                refine q_seqr ?_
                cases hC1
                cases hN1
                dsimp only at hC0
                cases hC0
                exact ⟨[], by rfl, by rfl, by rfl⟩
              · replace hC1 := ite_f hC1 hc5
                refine e_skip ?_
                refine q_blkn ?_
                refine q_seqn ?_
                obtain ⟨hg11, hC1⟩ := ite_some hC1
                refine e_region E_l05_DiffCommon (by simp only [go_sem, List.toList_toArray, Nat.reduceEqDiff, reduceIte, reduceDIte, reduceCtorEq, Nat.reduceAdd, Nat.reduceLT, Nat.reduceLeDiff, decide_true, decide_false, Bool.and_self, Bool.or_self, Bool.or_false, Bool.false_or, Bool.and_true, Bool.true_and, Bool.not_true, Bool.not_false]; rfl) (by exact hg11) ?_
                cases hC1
                exact q_Ln ⟨⟨[5, 6, 7], [(0, 0)]⟩, _, by rfl, hN1⟩
            · replace hC1 := ite_f hC1 hc4
              refine e_exit ?_
              refine q_seqx ?_
              refine q_Lx ?_
              cases hC1
              cases hN1
              exact q_xx ⟨⟨[], []⟩, _, rfl, by rfl⟩
          · rintro _ ⟨v, rfl, rfl⟩
            dsimp only at hC0 ⊢
            refine q_blkx ?_
            refine q_seqn ?_
            refine e_seq ?_
            refine e_region E_l05_DiffCommon (by simp only [go_sem, List.toList_toArray, Nat.reduceEqDiff, reduceIte, reduceDIte, reduceCtorEq, Nat.reduceAdd, Nat.reduceLT, Nat.reduceLeDiff, decide_true, decide_false, Bool.and_self, Bool.or_self, Bool.or_false, Bool.false_or, Bool.and_true, Bool.true_and, Bool.not_true, Bool.not_false]; rfl) (by exact trivial) ?_
            refine q_seqn ?_
            refine e_ret ?_
            cases hC0
            exact ⟨[], by rfl, by rfl, by rfl⟩
  · cases hC

attribute [irreducible] l05_DiffCommon

end Go.Proofs.Ytfcibaiiobihnaa
