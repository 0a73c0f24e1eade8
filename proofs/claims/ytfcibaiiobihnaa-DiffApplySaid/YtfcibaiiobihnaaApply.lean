/- DiffApply: the statement. -/
import Derived.Test.YtfcibaiiobihnaaVg
import Derived.Test.YtfcibaiiobihnaaVl
namespace Go.Proofs.Ytfcibaiiobihnaa
open Go.RowKit Go.ChangeShapes Go.WideShapes Go.ChangeAt

namespace diffApplyLaw
theorem own : ownKnob Try.prog.godebug = none := by kernel_rfl
theorem laid : laidOutB Try.prog = true := by kernel_rfl
theorem cellsS : Try.prog.cellsOf 9 = 1 := by kernel_rfl
theorem readE : Try.prog.readableRec 35 = true := by kernel_rfl
theorem ltE : 35 < Try.prog.types.size := of_decide_eq_true (by kernel_rfl)
theorem readS : Try.prog.readableRec 22 = true := by kernel_rfl
theorem ltS : 22 < Try.prog.types.size := of_decide_eq_true (by kernel_rfl)
theorem cellsE : Try.prog.cellsOf 56 = 2 := by kernel_rfl
theorem cellsI : Try.prog.cellsOf 3 = 1 := by kernel_rfl

set_option maxRecDepth 100000 in
theorem lifted (os : Os) (started : os.Started) (H : Type) (enc : TypeId × Value → H) :
    ReturnsInHanded {} Try.checked os 7 .any (Rows.diffApplySpec.pre6 enc Try.prog Try.f7 Rows.diffApplyRow.domain false) (Rows.diffApplySpec.post enc Try.prog Try.f7 false true false false) := by
  refine law_lifted (C := Try.checked) (tb := 4) own started (by kernel_rfl) Try.func7 laid ?_ rfl rfl Try.underlying4 ?_
    (ChangeSpec.witness6 (enc := enc) (C := Try.checked) false ⟨#[], #[.slice none 0 0, .slice none 0 0], []⟩ 8 (by kernel_rfl) (by kernel_rfl) (by kernel_rfl) (by kernel_rfl)) ?_
  · intro t ht
    rw [Try.params7] at ht
    simp only [List.mem_cons, List.not_mem_nil, or_false] at ht
    rcases ht with rfl | rfl
    · exact ⟨readS, ltS⟩
    · exact ⟨readE, ltE⟩
  · intro ds W args ps h
    have h' : DataW.TrodAll enc Try.prog W 0 (fun _ => true) true Try.f7.params.toList args.toList ds ps := h
    rw [Try.params7] at h'
    obtain ⟨v0, v1, d0, d1, p0, p1, rfl, rfl, rfl, h0, h1⟩ := trodAll_two h'
    rfl
  · intro W base args ds ps hval0 hA0 hlt _
    have hval : ∀ (j : Nat) t v, Try.f7.params[j]? = some t → args[j]? = some v → Value.okWide Try.prog W .any base t v := hval0
    have hA : DataW.TrodAll enc Try.prog W 0 (fun _ => true) true Try.f7.params.toList args.toList ds ps := hA0
    rw [Try.params7] at hA hval
    obtain ⟨v0, v1, d0, d1, p0, p1, rfl, rfl, rfl, h0, h1⟩ := trodAll_two hA
    obtain ⟨a0, ha0, la0⟩ := Vc.rd_slice (u := .str) Try.underlying22 cellsS (by decide) (fun n cs y h => Vc.rd_str Try.underlying9 n cs y h) (hval 0 22 v0 rfl rfl) h0
    obtain ⟨a1, ha1, la1⟩ := Vc.rd_slice (u := .pair (.int .i64) (.pair .str .unit)) Try.underlying35 cellsE (by decide)
      (fun n cs y h => Vc.rd_two Try.underlying56 rfl rfl cellsE cellsI cellsS (fun n cs y h => Vc.rd_int Try.underlying3 n cs y h) (fun n cs y h => Vc.rd_str Try.underlying9 n cs y h) n cs y h) (hval 1 35 v1 rfl rfl) h1
    exact Vc.law_calls con7 (args := [(.val (.list .str) a0, none), (.val (.list (.pair (.int .i64) (.pair .str .unit))) a1, none)]) (vals := [v0, v1]) ⟨v0, [v1], rfl, ⟨ha0, trivial⟩, v1, [], rfl, ⟨ha1, trivial⟩, rfl⟩ rfl (by
      intro p hp
      simp only [List.mem_cons, List.not_mem_nil, or_false] at hp
      rcases hp with rfl | rfl
      · exact la0
      · exact la1)
end diffApplyLaw
/-- THE STATEMENT. -/
theorem diffApply_holds : Rows.DiffApplySaid :=
  OpenClaim.holds_of_wide 7 Try.f7 rfl rfl rfl rfl rfl rfl rfl ⟨rfl, rfl, rfl, rfl, rfl⟩ rfl rfl rfl rfl rfl (by kernel_rfl) Try.func7 (by kernel_rfl)
    (of_decide_eq_true (by kernel_rfl)) (by unfold Func.isWrapper; first | (rw [if_pos (by decide +kernel)]; kernel_rfl) | (rw [if_neg (by decide +kernel)]; exact ⟨rfl, rfl⟩))
    (fun os started H enc _ => diffApplyLaw.lifted os started H enc)
#print axioms diffApply_holds
end Go.Proofs.Ytfcibaiiobihnaa
