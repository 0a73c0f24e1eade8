/- DiffLongest: the statement. -/
import Derived.Test.YtfcibaiiobihnaaLongestWalk
import Derived.Test.YtfcibaiiobihnaaLaw
namespace Go.Proofs.Ytfcibaiiobihnaa
open Go.RowKit Go.ChangeShapes Go.WideShapes Go.ChangeAt

namespace diffLongestLaw
theorem own : ownKnob Try.prog.godebug = none := by kernel_rfl
theorem laid : laidOutB Try.prog = true := by kernel_rfl
theorem cellsS : Try.prog.cellsOf 9 = 1 := by kernel_rfl
theorem readS : Try.prog.readableRec 22 = true := by kernel_rfl
theorem ltS : 22 < Try.prog.types.size := of_decide_eq_true (by kernel_rfl)
theorem readU : Try.prog.readableRec 23 = true := by kernel_rfl
theorem ltU : 23 < Try.prog.types.size := of_decide_eq_true (by kernel_rfl)

set_option maxRecDepth 100000 in
theorem lifted (os : Os) (started : os.Started) (H : Type) (enc : TypeId × Value → H) :
    ReturnsInHanded {} Try.checked os 3 .any (Rows.diffLongestSpec.pre6 enc Try.prog Try.f3 Rows.diffLongestRow.domain false) (Rows.diffLongestSpec.post enc Try.prog Try.f3 false true false false) := by
  refine law_lifted (C := Try.checked) (tb := 4) own started (by kernel_rfl) Try.func3 laid ?_ rfl rfl Try.underlying4 ?_
    (ChangeSpec.witness6 (enc := enc) (C := Try.checked) false ⟨#[], #[.slice none 0 0, .slice none 0 0, .int .u32 0], []⟩ 8 (by kernel_rfl) (by kernel_rfl) (by kernel_rfl) (by kernel_rfl)) ?_
  · intro t ht
    rw [Try.params3] at ht
    simp only [List.mem_cons, List.not_mem_nil, or_false] at ht
    rcases ht with rfl | rfl | rfl
    · exact ⟨readS, ltS⟩
    · exact ⟨readS, ltS⟩
    · exact ⟨readU, ltU⟩
  · intro ds W args ps h
    have h' : DataW.TrodAll enc Try.prog W 0 (fun _ => true) true Try.f3.params.toList args.toList ds ps := h
    rw [Try.params3] at h'
    obtain ⟨v0, v1, v2, d0, d1, d2, p0, p1, p2, rfl, rfl, rfl, h0, h1, h2⟩ := trodAll_three h'
    rfl
  · intro W base args ds ps hval0 hA0 hlt _
    have hval : ∀ (j : Nat) t v, Try.f3.params[j]? = some t → args[j]? = some v → Value.okWide Try.prog W .any base t v := hval0
    have hA : DataW.TrodAll enc Try.prog W 0 (fun _ => true) true Try.f3.params.toList args.toList ds ps := hA0
    rw [Try.params3] at hA hval
    obtain ⟨v0, v1, v2, d0, d1, d2, p0, p1, p2, rfl, rfl, rfl, h0, h1, h2⟩ := trodAll_three hA
    obtain ⟨a0, ha0⟩ := strs_of_trod Try.underlying22 Try.underlying9 cellsS (hval 0 22 v0 rfl rfl) h0 (fun x hx => hlt x (by simp [hx]))
    obtain ⟨a1, ha1⟩ := strs_of_trod Try.underlying22 Try.underlying9 cellsS (hval 1 22 v1 rfl rfl) h1 (fun x hx => hlt x (by simp [hx]))
    obtain ⟨x2, rfl, rfl, rfl, wx2⟩ := open_int Try.underlying23 (hval 2 23 v2 rfl rfl) h2
    exact longest_walk (Go.bounds_u32 wx2) ha0 ha1
end diffLongestLaw
/-- THE STATEMENT. -/
theorem diffLongest_holds : Rows.DiffLongestSaid :=
  OpenClaim.holds_of_wide 3 Try.f3 rfl rfl rfl rfl rfl rfl rfl ⟨rfl, rfl, rfl, rfl, rfl⟩ rfl rfl rfl rfl rfl (by kernel_rfl) Try.func3 (by kernel_rfl)
    (of_decide_eq_true (by kernel_rfl)) (by unfold Func.isWrapper; first | (rw [if_pos (by decide +kernel)]; kernel_rfl) | (rw [if_neg (by decide +kernel)]; exact ⟨rfl, rfl⟩))
    (fun os started H enc _ => diffLongestLaw.lifted os started H enc)
#print axioms diffLongest_holds
end Go.Proofs.Ytfcibaiiobihnaa
