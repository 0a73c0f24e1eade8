/- DiffCommon: the statement. -/
import Derived.Test.YtfcibaiiobihnaaE09
import Derived.Test.YtfcibaiiobihnaaECr
import Derived.Test.YtfcibaiiobihnaaVl
namespace Go.Proofs.Ytfcibaiiobihnaa
open Go.RowKit Go.ChangeShapes Go.WideShapes Go.ChangeAt

namespace diffCommonLaw
theorem own : ownKnob Try.prog.godebug = none := by kernel_rfl
theorem laid : laidOutB Try.prog = true := by kernel_rfl
theorem cellsS : Try.prog.cellsOf 9 = 1 := by kernel_rfl
theorem readS : Try.prog.readableRec 22 = true := by kernel_rfl
theorem ltS : 22 < Try.prog.types.size := of_decide_eq_true (by kernel_rfl)

set_option maxRecDepth 100000 in
theorem lifted (os : Os) (started : os.Started) (H : Type) (enc : TypeId × Value → H) :
    ReturnsInHanded {} Try.checked os 4 .any (Rows.diffCommonSpec.pre6 enc Try.prog Try.f4 Rows.diffCommonRow.domain false) (Rows.diffCommonSpec.post enc Try.prog Try.f4 false true false false) := by
  refine law_lifted (C := Try.checked) (tb := 4) own started (by kernel_rfl) Try.func4 laid ?_ rfl rfl Try.underlying4 ?_
    (ChangeSpec.witness6 (enc := enc) (C := Try.checked) false ⟨#[], #[.slice none 0 0, .slice none 0 0], []⟩ 8 (by kernel_rfl) (by kernel_rfl) (by kernel_rfl) (by kernel_rfl)) ?_
  · intro t ht
    rw [Try.params4] at ht
    simp only [List.mem_cons, List.not_mem_nil, or_false] at ht
    rcases ht with rfl | rfl
    · exact ⟨readS, ltS⟩
    · exact ⟨readS, ltS⟩
  · intro ds W args ps h
    have h' : DataW.TrodAll enc Try.prog W 0 (fun _ => true) true Try.f4.params.toList args.toList ds ps := h
    rw [Try.params4] at h'
    obtain ⟨v0, v1, d0, d1, p0, p1, rfl, rfl, rfl, h0, h1⟩ := trodAll_two h'
    rfl
  · intro W base args ds ps hval0 hA0 hlt _
    have hval : ∀ (j : Nat) t v, Try.f4.params[j]? = some t → args[j]? = some v → Value.okWide Try.prog W .any base t v := hval0
    have hA : DataW.TrodAll enc Try.prog W 0 (fun _ => true) true Try.f4.params.toList args.toList ds ps := hA0
    rw [Try.params4] at hA hval
    obtain ⟨v0, v1, d0, d1, p0, p1, rfl, rfl, rfl, h0, h1⟩ := trodAll_two hA
    obtain ⟨a0, ha0, la0⟩ := Vc.rd_slice (u := .str) Try.underlying22 cellsS (by decide) (fun n cs y h => Vc.rd_str Try.underlying9 n cs y h) (hval 0 22 v0 rfl rfl) h0
    obtain ⟨a1, ha1, la1⟩ := Vc.rd_slice (u := .str) Try.underlying22 cellsS (by decide) (fun n cs y h => Vc.rd_str Try.underlying9 n cs y h) (hval 1 22 v1 rfl rfl) h1
    have e := Comm.law_is a0 a1 (by first | exact la0 | omega) (by first | exact la1 | omega)
    have hC : l05_DiffCommonC [(.val (.list .str) a0, none), (.val (.list .str) a1, none)] [] = some ⟨[(l05_DiffCommon a0 a1).isSome = true], [(.val .bool (Vc.val (l05_DiffCommon a0 a1)), none)], []⟩ := rfl
    rw [Vc.val_eq e] at hC
    exact Vc.law_calls l05_DiffCommon_con (args := [(.val (.list .str) a0, none), (.val (.list .str) a1, none)]) (vals := [v0, v1]) ⟨v0, [v1], rfl, ⟨ha0, trivial⟩, v1, [], rfl, ⟨ha1, trivial⟩, rfl⟩ hC (by
      intro p hp
      rw [List.mem_singleton.1 hp]
      exact Vc.isSome_eq e)
end diffCommonLaw
/-- THE STATEMENT. -/
theorem diffCommon_holds : Rows.DiffCommonSaid :=
  OpenClaim.holds_of_wide 4 Try.f4 rfl rfl rfl rfl rfl rfl rfl ⟨rfl, rfl, rfl, rfl, rfl⟩ rfl rfl rfl rfl rfl (by kernel_rfl) Try.func4 (by kernel_rfl)
    (of_decide_eq_true (by kernel_rfl)) (by unfold Func.isWrapper; first | (rw [if_pos (by decide +kernel)]; kernel_rfl) | (rw [if_neg (by decide +kernel)]; exact ⟨rfl, rfl⟩))
    (fun os started H enc _ => diffCommonLaw.lifted os started H enc)
#print axioms diffCommon_holds
end Go.Proofs.Ytfcibaiiobihnaa
