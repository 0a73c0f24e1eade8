/- PLAIN FORMS of the program's functions, and that the code computes them. -/
import Derived.Test.YtfcibaiiobihnaaDty
import Derived.Test.YtfcibaiiobihnaaD00
import Derived.Test.YtfcibaiiobihnaaD01
import Derived.Test.YtfcibaiiobihnaaD02
import Derived.Test.YtfcibaiiobihnaaVk
import Derived.Test.YtfcibaiiobihnaaD03
import Derived.KernelRfl
namespace Go.Proofs.Ytfcibaiiobihnaa
open Vc
set_option linter.unusedSimpArgs false
set_option linter.unusedVariables false


noncomputable def l05_DiffLeads (toArray_v1 : (List (List UInt8))) (p1_v2 : (List (List UInt8))) (p2_v3 : (List (Int × ((List UInt8) × Unit)))) : Option Bool :=
  if (!true) = true then
    some (false)
  else
    (r05_Few toArray_v1).bind fun r_v14 =>
    if (((!r_v14) == false) = true → ((r05_Few p1_v2)).isSome = true) then
      if ((((!r_v14) || (!(val (r05_Few p1_v2)))) == false) = true → ((l05_short p2_v3)).isSome = true) then
        if (((!r_v14) || (!(val (r05_Few p1_v2)))) || (!(val (l05_short p2_v3)))) = true then
          some (true)
        else
          (diff_Script toArray_v1 p1_v2).bind fun r_v15 =>
          (diff_Apply toArray_v1 r_v15).bind fun r_v16 =>
          (diff_Reverse r_v15).bind fun r_v17 =>
          (diff_Apply p1_v2 r_v17).bind fun r_v18 =>
          if ((((!decide (r_v16.2 = (0 : Int))) || (!decide (r_v18.2 = (0 : Int)))) == false) = true → ((r05_Same r_v16.1 p1_v2)).isSome = true) then
            if (((((!decide (r_v16.2 = (0 : Int))) || (!decide (r_v18.2 = (0 : Int)))) || (!(val (r05_Same r_v16.1 p1_v2)))) == false) = true → ((r05_Same r_v18.1 toArray_v1)).isSome = true) then
              if ((((!decide (r_v16.2 = (0 : Int))) || (!decide (r_v18.2 = (0 : Int)))) || (!(val (r05_Same r_v16.1 p1_v2)))) || (!(val (r05_Same r_v18.1 toArray_v1)))) = true then
                some (false)
              else
                (l05_own p2_v3).bind fun r_v19 =>
                (diff_Apply toArray_v1 r_v19).bind fun r_v20 =>
                if (!decide (r_v20.2 = (0 : Int))) = true then
                  some ((decide ((List.length r_v20.1 : Int) = (0 : Int))))
                else
                  (l05_own p2_v3).bind fun r_v21 =>
                  (diff_Reverse r_v21).bind fun r_v22 =>
                  (diff_Apply r_v20.1 r_v22).bind fun r_v23 =>
                  if (((decide (r_v23.2 = (0 : Int))) == true) = true → ((r05_Same r_v23.1 toArray_v1)).isSome = true) then
                    some (((decide (r_v23.2 = (0 : Int))) && (val (r05_Same r_v23.1 toArray_v1))))
                  else none
            else none
          else none
      else none
    else none

@[go_sem] noncomputable def l05_DiffLeadsC : List Slot → List Blk → Option Ret
  | [(.val (.list .str) toArray_v1, none), (.val (.list .str) p1_v2, none), (.val (.list (.pair (.int .i64) (.pair .str .unit))) p2_v3, none)], [] => some ⟨[((l05_DiffLeads toArray_v1 p1_v2 p2_v3)).isSome = true], [(.val .bool (val (l05_DiffLeads toArray_v1 p1_v2 p2_v3)), none)], []⟩
  | _, _ => none

@[go_sem] noncomputable def G_l05_DiffLeads : Ctx := fun f => if f = 10 then some ⟨[], C10⟩ else if f = 11 then some ⟨[.v], r05_FewC⟩ else if f = 17 then some ⟨[.v], l05_shortC⟩ else if f = 22 then some ⟨[.v, .v], diff_ScriptC⟩ else if f = 18 then some ⟨[.v, .v], diff_ApplyC⟩ else if f = 24 then some ⟨[.v], diff_ReverseC⟩ else if f = 16 then some ⟨[.v, .v], r05_SameC⟩ else if f = 19 then some ⟨[.v], l05_ownC⟩ else none
@[go_sem] def T_l05_DiffLeads : Types := [(22, ⟨(.list .str), 9, 16, false⟩)]
theorem K_l05_DiffLeads : CtxOk Try.prog G_l05_DiffLeads := by
  intro f s h
  unfold G_l05_DiffLeads at h
  split at h
  · rename_i e; subst e; cases h; exact con10
  split at h
  · rename_i e; subst e; cases h; exact r05_Few_con
  split at h
  · rename_i e; subst e; cases h; exact l05_short_con
  split at h
  · rename_i e; subst e; cases h; exact diff_Script_con
  split at h
  · rename_i e; subst e; cases h; exact diff_Apply_con
  split at h
  · rename_i e; subst e; cases h; exact diff_Reverse_con
  split at h
  · rename_i e; subst e; cases h; exact r05_Same_con
  split at h
  · rename_i e; subst e; cases h; exact l05_own_con
  · cases h
theorem E_l05_DiffLeads : Env Try.prog T_l05_DiffLeads G_l05_DiffLeads := ⟨⟨ty_Lstring, trivial⟩, K_l05_DiffLeads, by kernel_rfl⟩

end Go.Proofs.Ytfcibaiiobihnaa
