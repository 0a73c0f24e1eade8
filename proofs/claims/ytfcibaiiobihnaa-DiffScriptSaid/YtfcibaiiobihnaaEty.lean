/- THE TYPES of the plain forms. -/
import Derived.Test.YtfcibaiiobihnaaVcY
import Derived.Test.YtfcibaiiobihnaaProg
import Derived.Test.YtfcibaiiobihnaaChecked
import Derived.KernelRfl
namespace Go.Proofs.Ytfcibaiiobihnaa
open Vc
set_option linter.unusedSimpArgs false
set_option linter.unusedVariables false

theorem ty_string : tyEq Try.prog 9 ⟨.str, 0, 0, false⟩ := ⟨by kernel_rfl, (show Try.prog.underlying _ = _ from by kernel_rfl)⟩
theorem ty_Lstring : tyEq Try.prog 22 ⟨(.list .str), 9, 16, false⟩ := ⟨by kernel_rfl, (show _ ∧ _ ∧ _ from ⟨by kernel_rfl, by kernel_rfl, by kernel_rfl⟩)⟩
theorem ty_Lcalqueref05_Edit : tyEq Try.prog 35 ⟨(.list (.pair (.int .i64) (.pair .str .unit))), 56, 24, false⟩ := ⟨by kernel_rfl, (show _ ∧ _ ∧ _ from ⟨by kernel_rfl, by kernel_rfl, by kernel_rfl⟩)⟩
theorem ty_calque_calqueref05_Edit : tyEq Try.prog 56 ⟨(.pair (.int .i64) (.pair .str .unit)), 0, 1, false⟩ := ⟨by kernel_rfl, (show ((_ ∧ ∃ _, _ ∧ _) ∨ _) ∧ _ from ⟨.inl ⟨rfl, _, Try.underlying56, (show _ ∧ _ ∧ _ ∧ _ from ⟨rfl, by kernel_rfl, by kernel_rfl, (show _ ∧ _ ∧ _ ∧ _ from ⟨rfl, by kernel_rfl, by kernel_rfl, trivial⟩)⟩)⟩, (fun _ => ⟨by kernel_rfl, 1, by decide, (.struct rfl Try.underlying56 (by kernel_rfl) (.cons (by decide) rfl (by kernel_rfl) (by kernel_rfl) (.int Try.underlying3) (.cons (by decide) rfl (by kernel_rfl) (by kernel_rfl) (.str Try.underlying9) .nil)))⟩)⟩)⟩
theorem ty_Ldiff_Edit : tyEq Try.prog 40 ⟨(.list (.pair (.int .i64) (.pair .str .unit))), 58, 24, false⟩ := ⟨by kernel_rfl, (show _ ∧ _ ∧ _ from ⟨by kernel_rfl, by kernel_rfl, by kernel_rfl⟩)⟩
theorem ty_int : tyEq Try.prog 3 ⟨(.int .i64), 0, 0, false⟩ := ⟨by kernel_rfl, (show Try.prog.underlying _ = _ from by kernel_rfl)⟩
theorem ty_calque_diff_Edit : tyEq Try.prog 58 ⟨(.pair (.int .i64) (.pair .str .unit)), 0, 1, false⟩ := ⟨by kernel_rfl, (show ((_ ∧ ∃ _, _ ∧ _) ∨ _) ∧ _ from ⟨.inl ⟨rfl, _, Try.underlying58, (show _ ∧ _ ∧ _ ∧ _ from ⟨rfl, by kernel_rfl, by kernel_rfl, (show _ ∧ _ ∧ _ ∧ _ from ⟨rfl, by kernel_rfl, by kernel_rfl, trivial⟩)⟩)⟩, (fun _ => ⟨by kernel_rfl, 1, by decide, (.struct rfl Try.underlying58 (by kernel_rfl) (.cons (by decide) rfl (by kernel_rfl) (by kernel_rfl) (.int Try.underlying3) (.cons (by decide) rfl (by kernel_rfl) (by kernel_rfl) (.str Try.underlying9) .nil)))⟩)⟩)⟩
theorem ty_LLint : tyEq Try.prog 50 ⟨(.list (.list (.int .i64))), 52, 24, false⟩ := ⟨by kernel_rfl, (show _ ∧ _ ∧ _ from ⟨by kernel_rfl, by kernel_rfl, by kernel_rfl⟩)⟩
theorem ty_Lint : tyEq Try.prog 52 ⟨(.list (.int .i64)), 3, 8, false⟩ := ⟨by kernel_rfl, (show _ ∧ _ ∧ _ from ⟨by kernel_rfl, by kernel_rfl, by kernel_rfl⟩)⟩
theorem ty_2_int : tyEq Try.prog 28 ⟨(.pair (.int .i64) (.pair (.int .i64) .unit)), 0, 1, true⟩ := ⟨by kernel_rfl, (show (_ ∨ (_ ∧ ∃ _ _, _ ∧ _ ∧ _)) ∧ _ from ⟨.inr ⟨rfl, _, _, Try.underlying28, (show _ ∧ _ ∧ _ from ⟨by kernel_rfl, by kernel_rfl, (show _ ∧ _ ∧ _ from ⟨by kernel_rfl, by kernel_rfl, trivial⟩)⟩), by kernel_rfl⟩, (fun _ => ⟨by kernel_rfl, 1, by decide, (.arr rfl Try.underlying28 (by kernel_rfl) (.acons (by kernel_rfl) (by kernel_rfl) (.int Try.underlying3) (.acons (by kernel_rfl) (by kernel_rfl) (.int Try.underlying3) .anil)))⟩)⟩)⟩
theorem ty_Ldiff_Edit_r : tyEq Try.prog 40 ⟨(.list (.pair (.int .i64) (.pair .str .unit))), 58, 24, true⟩ := ⟨by kernel_rfl, (show _ ∧ _ ∧ _ from ⟨by kernel_rfl, by kernel_rfl, by kernel_rfl⟩)⟩
theorem ty_L_2_int : tyEq Try.prog 26 ⟨(.list (.pair (.int .i64) (.pair (.int .i64) .unit))), 28, 16, false⟩ := ⟨by kernel_rfl, (show _ ∧ _ ∧ _ from ⟨by kernel_rfl, by kernel_rfl, by kernel_rfl⟩)⟩
end Go.Proofs.Ytfcibaiiobihnaa
