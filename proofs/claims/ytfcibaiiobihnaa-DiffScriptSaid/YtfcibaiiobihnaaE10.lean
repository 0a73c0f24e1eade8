/- PLAIN FORMS of the program's functions, and that the code computes them. -/
import Derived.Test.YtfcibaiiobihnaaEty
import Derived.Test.YtfcibaiiobihnaaE00
import Derived.Test.YtfcibaiiobihnaaE01
import Derived.Test.YtfcibaiiobihnaaE02
import Derived.Test.YtfcibaiiobihnaaE04
import Derived.Test.YtfcibaiiobihnaaE05
import Derived.Test.YtfcibaiiobihnaaE06
import Derived.Test.YtfcibaiiobihnaaE07
import Derived.Test.YtfcibaiiobihnaaE08
import Derived.Test.YtfcibaiiobihnaaVt
import Derived.KernelRfl
namespace Go.Proofs.Ytfcibaiiobihnaa
open Vc
set_option linter.unusedSimpArgs false
set_option linter.unusedVariables false


noncomputable def l05_DiffScript (a_v1 : (List (List UInt8))) (b_v2 : (List (List UInt8))) (script_v3 : (List (Int × ((List UInt8) × Unit)))) : Option Bool :=
  if (!true) = true then
    some (false)
  else
    (r05_Few a_v1).bind fun r_v8 =>
    if (((!r_v8) == false) = true → ((r05_Few b_v2)).isSome = true) then
      if ((((!r_v8) || (!(val (r05_Few b_v2)))) == false) = true → ((l05_short script_v3)).isSome = true) then
        if (((!r_v8) || (!(val (r05_Few b_v2)))) || (!(val (l05_short script_v3)))) = true then
          some (true)
        else
          (diff_Script a_v1 b_v2).bind fun r_v9 =>
          (r05_Script a_v1 b_v2).bind fun r_v10 =>
          (l05_same r_v9 r_v10).bind fun r_v11 =>
          if (r_v11 == true) = true then
            if ((r_v11 == true) = true → ((l05_own script_v3)).isSome = true) then
              if (r_v11 == true) = true then
                if ((r_v11 == true) = true → ((diff_Reverse (val (l05_own script_v3)))).isSome = true) then
                  if (r_v11 == true) = true then
                    if ((r_v11 == true) = true → ((r05_Reverse script_v3)).isSome = true) then
                      if ((r_v11 == true) = true → ((l05_same (val (diff_Reverse (val (l05_own script_v3)))) (val (r05_Reverse script_v3)))).isSome = true) then
                        some ((r_v11 && (val (l05_same (val (diff_Reverse (val (l05_own script_v3)))) (val (r05_Reverse script_v3))))))
                      else none
                    else none
                  else none
                else none
              else none
            else none
          else none
      else none
    else none

@[go_sem] noncomputable def l05_DiffScriptC : List Slot → List Blk → Option Ret
  | [(.val (.list .str) a_v1, none), (.val (.list .str) b_v2, none), (.val (.list (.pair (.int .i64) (.pair .str .unit))) script_v3, none)], [] => some ⟨[((l05_DiffScript a_v1 b_v2 script_v3)).isSome = true], [(.val .bool (val (l05_DiffScript a_v1 b_v2 script_v3)), none)], []⟩
  | _, _ => none

@[go_sem] noncomputable def G_l05_DiffScript : Ctx := fun f => if f = 10 then some ⟨[], C10⟩ else if f = 11 then some ⟨[.v], r05_FewC⟩ else if f = 17 then some ⟨[.v], l05_shortC⟩ else if f = 22 then some ⟨[.v, .v], diff_ScriptC⟩ else if f = 23 then some ⟨[.v, .v], r05_ScriptC⟩ else if f = 21 then some ⟨[.v, .v], l05_sameC⟩ else if f = 19 then some ⟨[.v], l05_ownC⟩ else if f = 24 then some ⟨[.v], diff_ReverseC⟩ else if f = 25 then some ⟨[.v], r05_ReverseC⟩ else none
@[go_sem] def T_l05_DiffScript : Types := []
theorem K_l05_DiffScript : CtxOk Try.prog G_l05_DiffScript := by
  intro f s h
  unfold G_l05_DiffScript at h
  split at h
  · rename_i e; subst e; cases h; exact con10
  split at h
  · rename_i e; subst e; cases h; exact r05_Few_con
  split at h
  · rename_i e; subst e; cases h; exact l05_short_con
  split at h
  · rename_i e; subst e; cases h; exact diff_Script_con
  split at h
  · rename_i e; subst e; cases h; exact r05_Script_con
  split at h
  · rename_i e; subst e; cases h; exact l05_same_con
  split at h
  · rename_i e; subst e; cases h; exact l05_own_con
  split at h
  · rename_i e; subst e; cases h; exact diff_Reverse_con
  split at h
  · rename_i e; subst e; cases h; exact r05_Reverse_con
  · cases h
theorem E_l05_DiffScript : Env Try.prog T_l05_DiffScript G_l05_DiffScript := ⟨trivial, K_l05_DiffScript, by kernel_rfl⟩

set_option maxRecDepth 100000 in
set_option maxHeartbeats 4000000 in
theorem l05_DiffScript_con : ConOk Try.prog 8 l05_DiffScriptC := by
  refine con_okR E_l05_DiffScript.T Try.func8 (c := _) rfl (N := 37) (by kernel_rfl) (ts := [(6, none)]) (fun _ _ => rfl) rfl ?_
  intro args L r hC hs
  unfold l05_DiffScriptC at hC
  split at hC
  · rename_i a_v1 b_v2 script_v3; cases hC
    obtain ⟨z0, hC0⟩ := Option.isSome_iff_exists.1 (show ((l05_DiffScript a_v1 b_v2 script_v3)).isSome = true from hs _ (by simp))
    try rw [val_eq hC0]
    clear hs
    unfold l05_DiffScript at hC0
    refine ⟨by simp only [List.length_cons, List.length_nil]; omega, by repeat (first | exact trivial | refine And.intro rfl ?_), by repeat (first | exact trivial | refine And.intro rfl ?_), ?_⟩
    simp only [enumE, enumH, lenB, Nat.reduceAdd]
    refine e_seq ?_
    refine e_region E_l05_DiffScript (by simp only [go_sem, List.toList_toArray, Nat.reduceEqDiff, reduceIte, reduceDIte, reduceCtorEq, Nat.reduceAdd, Nat.reduceLT, Nat.reduceLeDiff, decide_true, decide_false, Bool.and_self, Bool.or_self, Bool.or_false, Bool.false_or, Bool.and_true, Bool.true_and, Bool.not_true, Bool.not_false]; rfl) (by exact trivial) ?_
    refine q_seqn ?_
    refine e_seq ?_
    refine e_seq ?_
    refine e_region E_l05_DiffScript (by simp only [go_sem, List.toList_toArray, Nat.reduceEqDiff, reduceIte, reduceDIte, reduceCtorEq, Nat.reduceAdd, Nat.reduceLT, Nat.reduceLeDiff, decide_true, decide_false, Bool.and_self, Bool.or_self, Bool.or_false, Bool.false_or, Bool.and_true, Bool.true_and, Bool.not_true, Bool.not_false]; rfl) (by exact trivial) ?_
    refine q_seqn ?_
    refine e_cond (by simp only [go_sem, List.toList_toArray, Nat.reduceEqDiff, reduceIte, reduceDIte, reduceCtorEq, Nat.reduceAdd, Nat.reduceLT, Nat.reduceLeDiff, decide_true, decide_false, Bool.and_self, Bool.or_self, Bool.or_false, Bool.false_or, Bool.and_true, Bool.true_and, Bool.not_true, Bool.not_false]; rfl) (fun hc1 => ?_) (fun hc1 => ?_)
    · replace hC0 := ite_t hC0 hc1
      refine e_seq ?_
      refine e_region E_l05_DiffScript (by simp only [go_sem, List.toList_toArray, Nat.reduceEqDiff, reduceIte, reduceDIte, reduceCtorEq, Nat.reduceAdd, Nat.reduceLT, Nat.reduceLeDiff, decide_true, decide_false, Bool.and_self, Bool.or_self, Bool.or_false, Bool.false_or, Bool.and_true, Bool.true_and, Bool.not_true, Bool.not_false]; rfl) (by exact trivial) ?_
      refine q_seqn ?_
      refine e_ret ?_
      refine q_seqr ?_
      cases hC0
      exact ⟨[], by rfl, by rfl, by rfl⟩
    · replace hC0 := ite_f hC0 hc1
      refine e_skip ?_
      refine q_seqn ?_
      refine e_seq ?_
      refine e_seq ?_
      obtain ⟨r_v8, hv1, hC0⟩ := bind_some hC0
      obtain rfl := val_eq hv1
      obtain ⟨hg2, hC0⟩ := ite_some hC0
      obtain ⟨hg3, hC0⟩ := ite_some hC0
      refine e_region E_l05_DiffScript (by simp only [go_sem, List.toList_toArray, Nat.reduceEqDiff, reduceIte, reduceDIte, reduceCtorEq, Nat.reduceAdd, Nat.reduceLT, Nat.reduceLeDiff, decide_true, decide_false, Bool.and_self, Bool.or_self, Bool.or_false, Bool.false_or, Bool.and_true, Bool.true_and, Bool.not_true, Bool.not_false]; rfl) (by exact And.intro (isSome_eq hv1) (And.intro (fun hh => hh) (And.intro hg2 (And.intro (fun hh => hh) (And.intro (fun hh => beq_selfF hh) (And.intro (fun hh => hh) (And.intro hg3 (And.intro (fun hh => hh) ((fun hh => beq_selfF hh)))))))))) ?_
      generalize val (r05_Few a_v1) = r_v8 at hC0 ⊢
      refine q_seqn ?_
      refine e_cond (by simp only [go_sem, List.toList_toArray, Nat.reduceEqDiff, reduceIte, reduceDIte, reduceCtorEq, Nat.reduceAdd, Nat.reduceLT, Nat.reduceLeDiff, decide_true, decide_false, Bool.and_self, Bool.or_self, Bool.or_false, Bool.false_or, Bool.and_true, Bool.true_and, Bool.not_true, Bool.not_false]; rfl) (fun hc2 => ?_) (fun hc2 => ?_)
      · replace hC0 := ite_t hC0 hc2
        refine e_seq ?_
        refine e_region E_l05_DiffScript (by simp only [go_sem, List.toList_toArray, Nat.reduceEqDiff, reduceIte, reduceDIte, reduceCtorEq, Nat.reduceAdd, Nat.reduceLT, Nat.reduceLeDiff, decide_true, decide_false, Bool.and_self, Bool.or_self, Bool.or_false, Bool.false_or, Bool.and_true, Bool.true_and, Bool.not_true, Bool.not_false]; rfl) (by exact trivial) ?_
        refine q_seqn ?_
        refine e_ret ?_
        refine q_seqr ?_
        cases hC0
        exact ⟨[], by rfl, by rfl, by rfl⟩
      · replace hC0 := ite_f hC0 hc2
        refine e_skip ?_
        refine q_seqn ?_
        refine e_seq ?_
        obtain ⟨r_v9, hv4, hC0⟩ := bind_some hC0
        obtain rfl := val_eq hv4
        obtain ⟨r_v10, hv5, hC0⟩ := bind_some hC0
        obtain rfl := val_eq hv5
        obtain ⟨r_v11, hv6, hC0⟩ := bind_some hC0
        obtain rfl := val_eq hv6
        obtain ⟨hg7, hC0⟩ := ite_some hC0
        obtain ⟨hg8, hC0⟩ := ite_some hC0
        obtain ⟨hg9, hC0⟩ := ite_some hC0
        obtain ⟨hg10, hC0⟩ := ite_some hC0
        obtain ⟨hg11, hC0⟩ := ite_some hC0
        obtain ⟨hg12, hC0⟩ := ite_some hC0
        obtain ⟨hg13, hC0⟩ := ite_some hC0
        refine e_region E_l05_DiffScript (by simp only [go_sem, List.toList_toArray, Nat.reduceEqDiff, reduceIte, reduceDIte, reduceCtorEq, Nat.reduceAdd, Nat.reduceLT, Nat.reduceLeDiff, decide_true, decide_false, Bool.and_self, Bool.or_self, Bool.or_false, Bool.false_or, Bool.and_true, Bool.true_and, Bool.not_true, Bool.not_false]; rfl) (by exact And.intro (isSome_eq hv4) (And.intro (isSome_eq hv5) (And.intro (isSome_eq hv6) (And.intro hg7 (And.intro (fun hh => hh) (And.intro hg8 (And.intro hg9 (And.intro hg10 (And.intro hg11 (And.intro (fun hh => hh) (And.intro hg12 (And.intro hg13 ((fun hh => beq_selfT hh)))))))))))))) ?_
        generalize val (diff_Script a_v1 b_v2) = r_v9 at hC0 ⊢
        generalize val (r05_Script a_v1 b_v2) = r_v10 at hC0 ⊢
        generalize val (l05_same r_v9 r_v10) = r_v11 at hC0 ⊢
        refine q_seqn ?_
        refine e_ret ?_
        cases hC0
        exact ⟨[], by rfl, by rfl, by rfl⟩
  · cases hC

attribute [irreducible] l05_DiffScript

end Go.Proofs.Ytfcibaiiobihnaa
