/- DiffScript: the statement. -/
import Derived.Test.YtfcibaiiobihnaaE10
import Derived.Test.YtfcibaiiobihnaaECs
import Derived.Test.YtfcibaiiobihnaaVl
namespace Go.Proofs.Ytfcibaiiobihnaa
open Go.RowKit Go.ChangeShapes Go.WideShapes Go.ChangeAt

namespace diffScriptLaw
theorem own : ownKnob Try.prog.godebug = none := by kernel_rfl
theorem laid : laidOutB Try.prog = true := by kernel_rfl
theorem cellsS : Try.prog.cellsOf 9 = 1 := by kernel_rfl
theorem readE : Try.prog.readableRec 35 = true := by kernel_rfl
theorem ltE : 35 < Try.prog.types.size := of_decide_eq_true (by kernel_rfl)
theorem readS : Try.prog.readableRec 22 = true := by kernel_rfl
theorem ltS : 22 < Try.prog.types.size := of_decide_eq_true (by kernel_rfl)
theorem cellsE : Try.prog.cellsOf 56 = 2 := by kernel_rfl
theorem cellsI : Try.prog.cellsOf 3 = 1 := by kernel_rfl

set_option maxRecDepth 100000 in
theorem lifted (os : Os) (started : os.Started) (H : Type) (enc : TypeId × Value → H) :
    ReturnsInHanded {} Try.checked os 8 .any (Rows.diffScriptSpec.pre6 enc Try.prog Try.f8 Rows.diffScriptRow.domain false) (Rows.diffScriptSpec.post enc Try.prog Try.f8 false true false false) := by
  refine law_lifted (C := Try.checked) (tb := 4) own started (by kernel_rfl) Try.func8 laid ?_ rfl rfl Try.underlying4 ?_
    (ChangeSpec.witness6 (enc := enc) (C := Try.checked) false ⟨#[], #[.slice none 0 0, .slice none 0 0, .slice none 0 0], []⟩ 8 (by kernel_rfl) (by kernel_rfl) (by kernel_rfl) (by kernel_rfl)) ?_
  · intro t ht
    rw [Try.params8] at ht
    simp only [List.mem_cons, List.not_mem_nil, or_false] at ht
    rcases ht with rfl | rfl | rfl
    · exact ⟨readS, ltS⟩
    · exact ⟨readS, ltS⟩
    · exact ⟨readE, ltE⟩
  · intro ds W args ps h
    have h' : DataW.TrodAll enc Try.prog W 0 (fun _ => true) true Try.f8.params.toList args.toList ds ps := h
    rw [Try.params8] at h'
    obtain ⟨v0, v1, v2, d0, d1, d2, p0, p1, p2, rfl, rfl, rfl, h0, h1, h2⟩ := trodAll_three h'
    rfl
  · intro W base args ds ps hval0 hA0 hlt _
    have hval : ∀ (j : Nat) t v, Try.f8.params[j]? = some t → args[j]? = some v → Value.okWide Try.prog W .any base t v := hval0
    have hA : DataW.TrodAll enc Try.prog W 0 (fun _ => true) true Try.f8.params.toList args.toList ds ps := hA0
    rw [Try.params8] at hA hval
    obtain ⟨v0, v1, v2, d0, d1, d2, p0, p1, p2, rfl, rfl, rfl, h0, h1, h2⟩ := trodAll_three hA
    obtain ⟨a0, ha0, la0⟩ := Vc.rd_slice (u := .str) Try.underlying22 cellsS (by decide) (fun n cs y h => Vc.rd_str Try.underlying9 n cs y h) (hval 0 22 v0 rfl rfl) h0
    obtain ⟨a1, ha1, la1⟩ := Vc.rd_slice (u := .str) Try.underlying22 cellsS (by decide) (fun n cs y h => Vc.rd_str Try.underlying9 n cs y h) (hval 1 22 v1 rfl rfl) h1
    obtain ⟨a2, ha2, la2⟩ := Vc.rd_slice (u := .pair (.int .i64) (.pair .str .unit)) Try.underlying35 cellsE (by decide)
      (fun n cs y h => Vc.rd_two Try.underlying56 rfl rfl cellsE cellsI cellsS (fun n cs y h => Vc.rd_int Try.underlying3 n cs y h) (fun n cs y h => Vc.rd_str Try.underlying9 n cs y h) n cs y h) (hval 2 35 v2 rfl rfl) h2
    have e := Scr.law_is a0 a1 a2 (by first | exact la0 | omega) (by first | exact la1 | omega) (by first | exact la2 | omega)
    have hC : l05_DiffScriptC [(.val (.list .str) a0, none), (.val (.list .str) a1, none), (.val (.list (.pair (.int .i64) (.pair .str .unit))) a2, none)] [] = some ⟨[(l05_DiffScript a0 a1 a2).isSome = true], [(.val .bool (Vc.val (l05_DiffScript a0 a1 a2)), none)], []⟩ := rfl
    rw [Vc.val_eq e] at hC
    exact Vc.law_calls l05_DiffScript_con (args := [(.val (.list .str) a0, none), (.val (.list .str) a1, none), (.val (.list (.pair (.int .i64) (.pair .str .unit))) a2, none)]) (vals := [v0, v1, v2]) ⟨v0, [v1, v2], rfl, ⟨ha0, trivial⟩, v1, [v2], rfl, ⟨ha1, trivial⟩, v2, [], rfl, ⟨ha2, trivial⟩, rfl⟩ hC (by
      intro p hp
      rw [List.mem_singleton.1 hp]
      exact Vc.isSome_eq e)
end diffScriptLaw
/-- THE STATEMENT. -/
theorem diffScript_holds : Rows.DiffScriptSaid :=
  OpenClaim.holds_of_wide 8 Try.f8 rfl rfl rfl rfl rfl rfl rfl ⟨rfl, rfl, rfl, rfl, rfl⟩ rfl rfl rfl rfl rfl (by kernel_rfl) Try.func8 (by kernel_rfl)
    (of_decide_eq_true (by kernel_rfl)) (by unfold Func.isWrapper; first | (rw [if_pos (by decide +kernel)]; kernel_rfl) | (rw [if_neg (by decide +kernel)]; exact ⟨rfl, rfl⟩))
    (fun os started H enc _ => diffScriptLaw.lifted os started H enc)
#print axioms diffScript_holds
end Go.Proofs.Ytfcibaiiobihnaa
