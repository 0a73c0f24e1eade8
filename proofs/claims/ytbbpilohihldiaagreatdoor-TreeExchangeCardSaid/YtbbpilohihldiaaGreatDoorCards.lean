/-
  DERIVED. GIVEN WITH THE SEED: THE CARDS: each row of YtbbpilohihldiaaGreatDoorRows.lean that lists a variable, with what it lists TIED to the program's text (the seventh form; the later family's looks); each row that meets fmt, with fmt's text TOLD by the authors' own Lean function (tested against real Go, not proved from fmt's source: count such statements apart). THE CARD IS WHAT COUNTS. Prove the row's statement (the work); the ties are given (YtbbpilohihldiaaGreatDoorTie.lean); close each card by the builder's one call (the guide's Derived/Test/ToyasCard.lean, 'card_holds'). Laid BY PROGRAM, IN A SANDBOX (cutbox-door.mjs). By AI agents, Wed Nov 11 2026. No macro, syntax, notation, axiom, sorry.
-/
import Derived.Test.YtbbpilohihldiaaGreatDoorRows
import GoSem.ClaimSeven
namespace Go.Proofs.YtbbpilohihldiaaGreatDoor
namespace Rows

/-- THE TIED CARD OF 'calquelaw40.TreeParse'. -/
def treeParseCard : Claim7 := { stood := { row := treeParseRow, standIns := [], harness := (true, "a32bce6e8aa7af12dc4e9cc10fcfd390a8b62eedc0063c9f8df073b3dc5897a3"), looks := false }, kinds := [], alts := [], laidByText := true, laidKinds := [.data, .pinned], laidTests := true, laidLooks := .later }
def TreeParseCardSaid : Prop := Claim7.holds Tryz.pinned (.plain (OpenSpec.ofChange treeParseSpec)) treeParseCard

/-- THE TIED CARD OF 'calquelaw40.TreeSplit'. -/
def treeSplitCard : Claim7 := { stood := { row := treeSplitRow, standIns := [], harness := (true, "a32bce6e8aa7af12dc4e9cc10fcfd390a8b62eedc0063c9f8df073b3dc5897a3"), looks := false }, kinds := [], alts := [], laidByText := true, laidKinds := [.data, .pinned], laidTests := true, laidLooks := .later }
def TreeSplitCardSaid : Prop := Claim7.holds Tryz.pinned (.plain (OpenSpec.ofChange treeSplitSpec)) treeSplitCard

/-- THE TIED CARD OF 'calquelaw40.TreeFree'. -/
def treeFreeCard : Claim7 := { stood := { row := treeFreeRow, standIns := [], harness := (true, "a32bce6e8aa7af12dc4e9cc10fcfd390a8b62eedc0063c9f8df073b3dc5897a3"), looks := false }, kinds := [], alts := [], laidByText := true, laidKinds := [.data, .pinned], laidTests := true, laidLooks := .later }
def TreeFreeCardSaid : Prop := Claim7.holds Tryz.pinned (.plain (OpenSpec.ofChange treeFreeSpec)) treeFreeCard

/-- THE TIED CARD OF 'calquelaw38.PropsParse'. -/
def propsParseCard : Claim7 := { stood := { row := propsParseRow, standIns := [], harness := (true, "a32bce6e8aa7af12dc4e9cc10fcfd390a8b62eedc0063c9f8df073b3dc5897a3"), looks := false }, kinds := [], alts := [], laidByText := true, laidKinds := [.data, .pinned], laidTests := true, laidLooks := .later }
def PropsParseCardSaid : Prop := Claim7.holds Tryz.pinned (.plain (OpenSpec.ofChange propsParseSpec)) propsParseCard

/-- THE TIED CARD OF 'calquelaw40.TreePrint'. -/
def treePrintCard : Claim7 := { stood := { row := treePrintRow, standIns := [], harness := (true, "a32bce6e8aa7af12dc4e9cc10fcfd390a8b62eedc0063c9f8df073b3dc5897a3"), looks := false }, kinds := [], alts := [], laidByText := true, laidKinds := [.data, .data, .data, .data, .pinned], laidTests := true, laidLooks := .later }
def TreePrintCardSaid : Prop := Claim7.holds Tryz.pinned (.plain (OpenSpec.ofChange treePrintSpec)) treePrintCard

/-- THE TIED CARD OF 'calquelaw40.TreeInverse'. -/
def treeInverseCard : Claim7 := { stood := { row := treeInverseRow, standIns := [], harness := (true, "a32bce6e8aa7af12dc4e9cc10fcfd390a8b62eedc0063c9f8df073b3dc5897a3"), looks := false }, kinds := [], alts := [], laidByText := true, laidKinds := [.data, .data, .data, .data, .pinned], laidTests := true, laidLooks := .later }
def TreeInverseCardSaid : Prop := Claim7.holds Tryz.pinned (.plain (OpenSpec.ofChange treeInverseSpec)) treeInverseCard

/-- THE TIED CARD OF 'calquelaw40.TreeExchange'. -/
def treeExchangeCard : Claim7 := { stood := { row := treeExchangeRow, standIns := [], harness := (true, "a32bce6e8aa7af12dc4e9cc10fcfd390a8b62eedc0063c9f8df073b3dc5897a3"), looks := false }, kinds := [], alts := [], laidByText := true, laidKinds := [.data, .data, .data, .data, .pinned], laidTests := true, laidLooks := .later }
def TreeExchangeCardSaid : Prop := Claim7.holds Tryz.pinned (.plain (OpenSpec.ofChange treeExchangeSpec)) treeExchangeCard

/-- THE TIED CARD OF 'calquelaw40.TreeWhole'. -/
def treeWholeCard : Claim7 := { stood := { row := treeWholeRow, standIns := [], harness := (true, "a32bce6e8aa7af12dc4e9cc10fcfd390a8b62eedc0063c9f8df073b3dc5897a3"), looks := false }, kinds := [], alts := [], laidByText := true, laidKinds := [.data, .data, .data, .data, .pinned], laidTests := true, laidLooks := .later }
def TreeWholeCardSaid : Prop := Claim7.holds Tryz.pinned (.plain (OpenSpec.ofChange treeWholeSpec)) treeWholeCard

/-- THE TIED CARD OF 'calquelaw38.PropsPrint'. -/
def propsPrintCard : Claim7 := { stood := { row := propsPrintRow, standIns := [], harness := (true, "a32bce6e8aa7af12dc4e9cc10fcfd390a8b62eedc0063c9f8df073b3dc5897a3"), looks := false }, kinds := [], alts := [], laidByText := true, laidKinds := [.data, .data, .data, .data, .pinned], laidTests := true, laidLooks := .later }
def PropsPrintCardSaid : Prop := Claim7.holds Tryz.pinned (.plain (OpenSpec.ofChange propsPrintSpec)) propsPrintCard

/-- THE TIED CARD OF 'calquelaw38.PropsInverse'. -/
def propsInverseCard : Claim7 := { stood := { row := propsInverseRow, standIns := [], harness := (true, "a32bce6e8aa7af12dc4e9cc10fcfd390a8b62eedc0063c9f8df073b3dc5897a3"), looks := false }, kinds := [], alts := [], laidByText := true, laidKinds := [.data, .data, .data, .data, .pinned], laidTests := true, laidLooks := .later }
def PropsInverseCardSaid : Prop := Claim7.holds Tryz.pinned (.plain (OpenSpec.ofChange propsInverseSpec)) propsInverseCard

/-- THE TIED CARD OF 'calquelaw38.PropsExchange'. -/
def propsExchangeCard : Claim7 := { stood := { row := propsExchangeRow, standIns := [], harness := (true, "a32bce6e8aa7af12dc4e9cc10fcfd390a8b62eedc0063c9f8df073b3dc5897a3"), looks := false }, kinds := [], alts := [], laidByText := true, laidKinds := [.data, .data, .data, .data, .pinned], laidTests := true, laidLooks := .later }
def PropsExchangeCardSaid : Prop := Claim7.holds Tryz.pinned (.plain (OpenSpec.ofChange propsExchangeSpec)) propsExchangeCard

/-- THE TIED CARD OF 'calquelaw38.PropsWhole'. -/
def propsWholeCard : Claim7 := { stood := { row := propsWholeRow, standIns := [], harness := (true, "a32bce6e8aa7af12dc4e9cc10fcfd390a8b62eedc0063c9f8df073b3dc5897a3"), looks := false }, kinds := [], alts := [], laidByText := true, laidKinds := [.data, .data, .data, .data, .pinned], laidTests := true, laidLooks := .later }
def PropsWholeCardSaid : Prop := Claim7.holds Tryz.pinned (.plain (OpenSpec.ofChange propsWholeSpec)) propsWholeCard

/-- THE SECOND FORM's CARD OF 'calquelaw40.TreeParse'. -/
def treeParseUptoCard : Claim7 := { stood := { row := treeParseUptoRow, standIns := [], harness := (true, "a32bce6e8aa7af12dc4e9cc10fcfd390a8b62eedc0063c9f8df073b3dc5897a3"), looks := false }, kinds := [], alts := [], laidByText := true, laidKinds := [.data, .pinned], laidTests := true, laidLooks := .later }
def TreeParseUptoCardSaid : Prop := Claim7.holds Tryz.pinned (.plain (OpenSpec.upto treeParseSpec)) treeParseUptoCard

/-- THE SECOND FORM's CARD OF 'calquelaw40.TreeSplit'. -/
def treeSplitUptoCard : Claim7 := { stood := { row := treeSplitUptoRow, standIns := [], harness := (true, "a32bce6e8aa7af12dc4e9cc10fcfd390a8b62eedc0063c9f8df073b3dc5897a3"), looks := false }, kinds := [], alts := [], laidByText := true, laidKinds := [.data, .pinned], laidTests := true, laidLooks := .later }
def TreeSplitUptoCardSaid : Prop := Claim7.holds Tryz.pinned (.plain (OpenSpec.upto treeSplitSpec)) treeSplitUptoCard

/-- THE SECOND FORM's CARD OF 'calquelaw40.TreeFree'. -/
def treeFreeUptoCard : Claim7 := { stood := { row := treeFreeUptoRow, standIns := [], harness := (true, "a32bce6e8aa7af12dc4e9cc10fcfd390a8b62eedc0063c9f8df073b3dc5897a3"), looks := false }, kinds := [], alts := [], laidByText := true, laidKinds := [.data, .pinned], laidTests := true, laidLooks := .later }
def TreeFreeUptoCardSaid : Prop := Claim7.holds Tryz.pinned (.plain (OpenSpec.upto treeFreeSpec)) treeFreeUptoCard

/-- THE SECOND FORM's CARD OF 'calquelaw38.PropsParse'. -/
def propsParseUptoCard : Claim7 := { stood := { row := propsParseUptoRow, standIns := [], harness := (true, "a32bce6e8aa7af12dc4e9cc10fcfd390a8b62eedc0063c9f8df073b3dc5897a3"), looks := false }, kinds := [], alts := [], laidByText := true, laidKinds := [.data, .pinned], laidTests := true, laidLooks := .later }
def PropsParseUptoCardSaid : Prop := Claim7.holds Tryz.pinned (.plain (OpenSpec.upto propsParseSpec)) propsParseUptoCard

/-- THE SECOND FORM's CARD OF 'calquelaw40.TreePrint'. -/
def treePrintUptoCard : Claim7 := { stood := { row := treePrintUptoRow, standIns := [], harness := (true, "a32bce6e8aa7af12dc4e9cc10fcfd390a8b62eedc0063c9f8df073b3dc5897a3"), looks := false }, kinds := [], alts := [], laidByText := true, laidKinds := [.data, .data, .data, .data, .pinned], laidTests := true, laidLooks := .later }
def TreePrintUptoCardSaid : Prop := Claim7.holds Tryz.pinned (.plain (OpenSpec.upto treePrintSpec)) treePrintUptoCard

/-- THE SECOND FORM's CARD OF 'calquelaw40.TreeInverse'. -/
def treeInverseUptoCard : Claim7 := { stood := { row := treeInverseUptoRow, standIns := [], harness := (true, "a32bce6e8aa7af12dc4e9cc10fcfd390a8b62eedc0063c9f8df073b3dc5897a3"), looks := false }, kinds := [], alts := [], laidByText := true, laidKinds := [.data, .data, .data, .data, .pinned], laidTests := true, laidLooks := .later }
def TreeInverseUptoCardSaid : Prop := Claim7.holds Tryz.pinned (.plain (OpenSpec.upto treeInverseSpec)) treeInverseUptoCard

/-- THE SECOND FORM's CARD OF 'calquelaw40.TreeExchange'. -/
def treeExchangeUptoCard : Claim7 := { stood := { row := treeExchangeUptoRow, standIns := [], harness := (true, "a32bce6e8aa7af12dc4e9cc10fcfd390a8b62eedc0063c9f8df073b3dc5897a3"), looks := false }, kinds := [], alts := [], laidByText := true, laidKinds := [.data, .data, .data, .data, .pinned], laidTests := true, laidLooks := .later }
def TreeExchangeUptoCardSaid : Prop := Claim7.holds Tryz.pinned (.plain (OpenSpec.upto treeExchangeSpec)) treeExchangeUptoCard

/-- THE SECOND FORM's CARD OF 'calquelaw40.TreeWhole'. -/
def treeWholeUptoCard : Claim7 := { stood := { row := treeWholeUptoRow, standIns := [], harness := (true, "a32bce6e8aa7af12dc4e9cc10fcfd390a8b62eedc0063c9f8df073b3dc5897a3"), looks := false }, kinds := [], alts := [], laidByText := true, laidKinds := [.data, .data, .data, .data, .pinned], laidTests := true, laidLooks := .later }
def TreeWholeUptoCardSaid : Prop := Claim7.holds Tryz.pinned (.plain (OpenSpec.upto treeWholeSpec)) treeWholeUptoCard

/-- THE SECOND FORM's CARD OF 'calquelaw38.PropsPrint'. -/
def propsPrintUptoCard : Claim7 := { stood := { row := propsPrintUptoRow, standIns := [], harness := (true, "a32bce6e8aa7af12dc4e9cc10fcfd390a8b62eedc0063c9f8df073b3dc5897a3"), looks := false }, kinds := [], alts := [], laidByText := true, laidKinds := [.data, .data, .data, .data, .pinned], laidTests := true, laidLooks := .later }
def PropsPrintUptoCardSaid : Prop := Claim7.holds Tryz.pinned (.plain (OpenSpec.upto propsPrintSpec)) propsPrintUptoCard

/-- THE SECOND FORM's CARD OF 'calquelaw38.PropsInverse'. -/
def propsInverseUptoCard : Claim7 := { stood := { row := propsInverseUptoRow, standIns := [], harness := (true, "a32bce6e8aa7af12dc4e9cc10fcfd390a8b62eedc0063c9f8df073b3dc5897a3"), looks := false }, kinds := [], alts := [], laidByText := true, laidKinds := [.data, .data, .data, .data, .pinned], laidTests := true, laidLooks := .later }
def PropsInverseUptoCardSaid : Prop := Claim7.holds Tryz.pinned (.plain (OpenSpec.upto propsInverseSpec)) propsInverseUptoCard

/-- THE SECOND FORM's CARD OF 'calquelaw38.PropsExchange'. -/
def propsExchangeUptoCard : Claim7 := { stood := { row := propsExchangeUptoRow, standIns := [], harness := (true, "a32bce6e8aa7af12dc4e9cc10fcfd390a8b62eedc0063c9f8df073b3dc5897a3"), looks := false }, kinds := [], alts := [], laidByText := true, laidKinds := [.data, .data, .data, .data, .pinned], laidTests := true, laidLooks := .later }
def PropsExchangeUptoCardSaid : Prop := Claim7.holds Tryz.pinned (.plain (OpenSpec.upto propsExchangeSpec)) propsExchangeUptoCard

/-- THE SECOND FORM's CARD OF 'calquelaw38.PropsWhole'. -/
def propsWholeUptoCard : Claim7 := { stood := { row := propsWholeUptoRow, standIns := [], harness := (true, "a32bce6e8aa7af12dc4e9cc10fcfd390a8b62eedc0063c9f8df073b3dc5897a3"), looks := false }, kinds := [], alts := [], laidByText := true, laidKinds := [.data, .data, .data, .data, .pinned], laidTests := true, laidLooks := .later }
def PropsWholeUptoCardSaid : Prop := Claim7.holds Tryz.pinned (.plain (OpenSpec.upto propsWholeSpec)) propsWholeUptoCard
end Rows
end Go.Proofs.YtbbpilohihldiaaGreatDoor
