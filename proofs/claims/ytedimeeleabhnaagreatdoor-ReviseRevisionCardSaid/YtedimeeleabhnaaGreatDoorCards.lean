/-
  DERIVED. GIVEN WITH THE SEED: THE CARDS: each row of YtedimeeleabhnaaGreatDoorRows.lean that lists a variable, with what it lists TIED to the program's text (the seventh form; the later family's looks); each row that meets fmt, with fmt's text TOLD by the authors' own Lean function (tested against real Go, not proved from fmt's source: count such statements apart). THE CARD IS WHAT COUNTS. Prove the row's statement (the work); the ties are given (YtedimeeleabhnaaGreatDoorTie.lean); close each card by the builder's one call (the guide's Derived/Test/ToyasCard.lean, 'card_holds'). Laid BY PROGRAM, IN A SANDBOX (cutbox-door.mjs). By AI agents, Wed Nov 11 2026. No macro, syntax, notation, axiom, sorry.
-/
import Derived.Test.YtedimeeleabhnaaGreatDoorRows
import GoSem.ClaimSeven
namespace Go.Proofs.YtedimeeleabhnaaGreatDoor
namespace Rows

/-- THE TIED CARD OF 'calquelaw48.ReviseAtoms'. -/
def reviseAtomsCard : Claim7 := { stood := { row := reviseAtomsRow, standIns := [], harness := (true, "9011cd62ecf000981dcc54e00db774e6eb98add8cd041cfea77abe0e6c809ef6"), looks := false }, kinds := [], alts := [], laidByText := true, laidKinds := [.data, .data, .data, .data, .pinned], laidTests := true, laidLooks := .later }
def ReviseAtomsCardSaid : Prop := Claim7.holds Tryz.pinned (.plain (OpenSpec.ofChange reviseAtomsSpec)) reviseAtomsCard

/-- THE TIED CARD OF 'calquelaw48.ReviseRevision'. -/
def reviseRevisionCard : Claim7 := { stood := { row := reviseRevisionRow, standIns := [], harness := (true, "9011cd62ecf000981dcc54e00db774e6eb98add8cd041cfea77abe0e6c809ef6"), looks := false }, kinds := [], alts := [], laidByText := true, laidKinds := [.data, .data, .data, .data, .pinned], laidTests := true, laidLooks := .later }
def ReviseRevisionCardSaid : Prop := Claim7.holds Tryz.pinned (.plain (OpenSpec.ofChange reviseRevisionSpec)) reviseRevisionCard

/-- THE TIED CARD OF 'calquelaw48.ReviseBuild'. -/
def reviseBuildCard : Claim7 := { stood := { row := reviseBuildRow, standIns := [], harness := (true, "9011cd62ecf000981dcc54e00db774e6eb98add8cd041cfea77abe0e6c809ef6"), looks := false }, kinds := [], alts := [], laidByText := true, laidKinds := [.data, .data, .data, .data, .pinned], laidTests := true, laidLooks := .later }
def ReviseBuildCardSaid : Prop := Claim7.holds Tryz.pinned (.plain (OpenSpec.ofChange reviseBuildSpec)) reviseBuildCard

/-- THE TIED CARD OF 'calquelaw48.ReviseCommutes'. -/
def reviseCommutesCard : Claim7 := { stood := { row := reviseCommutesRow, standIns := [], harness := (true, "9011cd62ecf000981dcc54e00db774e6eb98add8cd041cfea77abe0e6c809ef6"), looks := false }, kinds := [], alts := [], laidByText := true, laidKinds := [.data, .data, .data, .data, .pinned], laidTests := true, laidLooks := .later }
def ReviseCommutesCardSaid : Prop := Claim7.holds Tryz.pinned (.plain (OpenSpec.ofChange reviseCommutesSpec)) reviseCommutesCard

/-- THE TIED CARD OF 'calquelaw48.ReviseLeast'. -/
def reviseLeastCard : Claim7 := { stood := { row := reviseLeastRow, standIns := [], harness := (true, "9011cd62ecf000981dcc54e00db774e6eb98add8cd041cfea77abe0e6c809ef6"), looks := false }, kinds := [], alts := [], laidByText := true, laidKinds := [.data, .data, .data, .data, .pinned], laidTests := true, laidLooks := .later }
def ReviseLeastCardSaid : Prop := Claim7.holds Tryz.pinned (.plain (OpenSpec.ofChange reviseLeastSpec)) reviseLeastCard

/-- THE TIED CARD OF 'calquelaw48.ReviseLeads'. -/
def reviseLeadsCard : Claim7 := { stood := { row := reviseLeadsRow, standIns := [], harness := (true, "9011cd62ecf000981dcc54e00db774e6eb98add8cd041cfea77abe0e6c809ef6"), looks := false }, kinds := [], alts := [], laidByText := true, laidKinds := [.data, .data, .data, .data, .pinned], laidTests := true, laidLooks := .later }
def ReviseLeadsCardSaid : Prop := Claim7.holds Tryz.pinned (.plain (OpenSpec.ofChange reviseLeadsSpec)) reviseLeadsCard

/-- THE TIED CARD OF 'calquelaw48.ReviseApply'. -/
def reviseApplyCard : Claim7 := { stood := { row := reviseApplyRow, standIns := [], harness := (true, "9011cd62ecf000981dcc54e00db774e6eb98add8cd041cfea77abe0e6c809ef6"), looks := false }, kinds := [], alts := [], laidByText := true, laidKinds := [.data, .data, .data, .data, .pinned], laidTests := true, laidLooks := .later }
def ReviseApplyCardSaid : Prop := Claim7.holds Tryz.pinned (.plain (OpenSpec.ofChange reviseApplySpec)) reviseApplyCard

/-- THE TIED CARD OF 'calquelaw48.ReviseBack'. -/
def reviseBackCard : Claim7 := { stood := { row := reviseBackRow, standIns := [], harness := (true, "9011cd62ecf000981dcc54e00db774e6eb98add8cd041cfea77abe0e6c809ef6"), looks := false }, kinds := [], alts := [], laidByText := true, laidKinds := [.data, .data, .data, .data, .pinned], laidTests := true, laidLooks := .later }
def ReviseBackCardSaid : Prop := Claim7.holds Tryz.pinned (.plain (OpenSpec.ofChange reviseBackSpec)) reviseBackCard

/-- THE SECOND FORM's CARD OF 'calquelaw48.ReviseAtoms'. -/
def reviseAtomsUptoCard : Claim7 := { stood := { row := reviseAtomsUptoRow, standIns := [], harness := (true, "9011cd62ecf000981dcc54e00db774e6eb98add8cd041cfea77abe0e6c809ef6"), looks := false }, kinds := [], alts := [], laidByText := true, laidKinds := [.data, .data, .data, .data, .pinned], laidTests := true, laidLooks := .later }
def ReviseAtomsUptoCardSaid : Prop := Claim7.holds Tryz.pinned (.plain (OpenSpec.upto reviseAtomsSpec)) reviseAtomsUptoCard

/-- THE SECOND FORM's CARD OF 'calquelaw48.ReviseRevision'. -/
def reviseRevisionUptoCard : Claim7 := { stood := { row := reviseRevisionUptoRow, standIns := [], harness := (true, "9011cd62ecf000981dcc54e00db774e6eb98add8cd041cfea77abe0e6c809ef6"), looks := false }, kinds := [], alts := [], laidByText := true, laidKinds := [.data, .data, .data, .data, .pinned], laidTests := true, laidLooks := .later }
def ReviseRevisionUptoCardSaid : Prop := Claim7.holds Tryz.pinned (.plain (OpenSpec.upto reviseRevisionSpec)) reviseRevisionUptoCard

/-- THE SECOND FORM's CARD OF 'calquelaw48.ReviseBuild'. -/
def reviseBuildUptoCard : Claim7 := { stood := { row := reviseBuildUptoRow, standIns := [], harness := (true, "9011cd62ecf000981dcc54e00db774e6eb98add8cd041cfea77abe0e6c809ef6"), looks := false }, kinds := [], alts := [], laidByText := true, laidKinds := [.data, .data, .data, .data, .pinned], laidTests := true, laidLooks := .later }
def ReviseBuildUptoCardSaid : Prop := Claim7.holds Tryz.pinned (.plain (OpenSpec.upto reviseBuildSpec)) reviseBuildUptoCard

/-- THE SECOND FORM's CARD OF 'calquelaw48.ReviseCommutes'. -/
def reviseCommutesUptoCard : Claim7 := { stood := { row := reviseCommutesUptoRow, standIns := [], harness := (true, "9011cd62ecf000981dcc54e00db774e6eb98add8cd041cfea77abe0e6c809ef6"), looks := false }, kinds := [], alts := [], laidByText := true, laidKinds := [.data, .data, .data, .data, .pinned], laidTests := true, laidLooks := .later }
def ReviseCommutesUptoCardSaid : Prop := Claim7.holds Tryz.pinned (.plain (OpenSpec.upto reviseCommutesSpec)) reviseCommutesUptoCard

/-- THE SECOND FORM's CARD OF 'calquelaw48.ReviseLeast'. -/
def reviseLeastUptoCard : Claim7 := { stood := { row := reviseLeastUptoRow, standIns := [], harness := (true, "9011cd62ecf000981dcc54e00db774e6eb98add8cd041cfea77abe0e6c809ef6"), looks := false }, kinds := [], alts := [], laidByText := true, laidKinds := [.data, .data, .data, .data, .pinned], laidTests := true, laidLooks := .later }
def ReviseLeastUptoCardSaid : Prop := Claim7.holds Tryz.pinned (.plain (OpenSpec.upto reviseLeastSpec)) reviseLeastUptoCard

/-- THE SECOND FORM's CARD OF 'calquelaw48.ReviseLeads'. -/
def reviseLeadsUptoCard : Claim7 := { stood := { row := reviseLeadsUptoRow, standIns := [], harness := (true, "9011cd62ecf000981dcc54e00db774e6eb98add8cd041cfea77abe0e6c809ef6"), looks := false }, kinds := [], alts := [], laidByText := true, laidKinds := [.data, .data, .data, .data, .pinned], laidTests := true, laidLooks := .later }
def ReviseLeadsUptoCardSaid : Prop := Claim7.holds Tryz.pinned (.plain (OpenSpec.upto reviseLeadsSpec)) reviseLeadsUptoCard

/-- THE SECOND FORM's CARD OF 'calquelaw48.ReviseApply'. -/
def reviseApplyUptoCard : Claim7 := { stood := { row := reviseApplyUptoRow, standIns := [], harness := (true, "9011cd62ecf000981dcc54e00db774e6eb98add8cd041cfea77abe0e6c809ef6"), looks := false }, kinds := [], alts := [], laidByText := true, laidKinds := [.data, .data, .data, .data, .pinned], laidTests := true, laidLooks := .later }
def ReviseApplyUptoCardSaid : Prop := Claim7.holds Tryz.pinned (.plain (OpenSpec.upto reviseApplySpec)) reviseApplyUptoCard

/-- THE SECOND FORM's CARD OF 'calquelaw48.ReviseBack'. -/
def reviseBackUptoCard : Claim7 := { stood := { row := reviseBackUptoRow, standIns := [], harness := (true, "9011cd62ecf000981dcc54e00db774e6eb98add8cd041cfea77abe0e6c809ef6"), looks := false }, kinds := [], alts := [], laidByText := true, laidKinds := [.data, .data, .data, .data, .pinned], laidTests := true, laidLooks := .later }
def ReviseBackUptoCardSaid : Prop := Claim7.holds Tryz.pinned (.plain (OpenSpec.upto reviseBackSpec)) reviseBackUptoCard
end Rows
end Go.Proofs.YtedimeeleabhnaaGreatDoor
