/-
  DERIVED. GIVEN WITH THE SEED: THE CARDS: each row of YtcpbaddnmpeipaaGreatDoorRows.lean that lists a variable, with what it lists TIED to the program's text (the seventh form; the later family's looks); each row that meets fmt, with fmt's text TOLD by the authors' own Lean function (tested against real Go, not proved from fmt's source: count such statements apart). THE CARD IS WHAT COUNTS. Prove the row's statement (the work); the ties are given (YtcpbaddnmpeipaaGreatDoorTie.lean); close each card by the builder's one call (the guide's Derived/Test/ToyasCard.lean, 'card_holds'). Laid BY PROGRAM, IN A SANDBOX (cutbox-door.mjs). By AI agents, Wed Nov 11 2026. No macro, syntax, notation, axiom, sorry.
-/
import Derived.Test.YtcpbaddnmpeipaaGreatDoorRows
import GoSem.ClaimSeven
namespace Go.Proofs.YtcpbaddnmpeipaaGreatDoor
namespace Rows

/-- THE TIED CARD OF 'calquelaw39.BlocksParse'. -/
def blocksParseCard : Claim7 := { stood := { row := blocksParseRow, standIns := [], harness := (true, "5d87d424bdcb739eb2e592d3312f44549b2e7d9aae6f0497c2ce86444ec20ce9"), looks := false }, kinds := [], alts := [], laidByText := true, laidKinds := [.data, .pinned], laidTests := true, laidLooks := .later }
def BlocksParseCardSaid : Prop := Claim7.holds Tryz.pinned (.plain (OpenSpec.ofChange blocksParseSpec)) blocksParseCard

/-- THE TIED CARD OF 'calquelaw39.BlocksSplit'. -/
def blocksSplitCard : Claim7 := { stood := { row := blocksSplitRow, standIns := [], harness := (true, "5d87d424bdcb739eb2e592d3312f44549b2e7d9aae6f0497c2ce86444ec20ce9"), looks := false }, kinds := [], alts := [], laidByText := true, laidKinds := [.data, .pinned], laidTests := true, laidLooks := .later }
def BlocksSplitCardSaid : Prop := Claim7.holds Tryz.pinned (.plain (OpenSpec.ofChange blocksSplitSpec)) blocksSplitCard

/-- THE TIED CARD OF 'calquelaw39.BlocksContinued'. -/
def blocksContinuedCard : Claim7 := { stood := { row := blocksContinuedRow, standIns := [], harness := (true, "5d87d424bdcb739eb2e592d3312f44549b2e7d9aae6f0497c2ce86444ec20ce9"), looks := false }, kinds := [], alts := [], laidByText := true, laidKinds := [.data, .data, .data, .data, .pinned], laidTests := true, laidLooks := .later }
def BlocksContinuedCardSaid : Prop := Claim7.holds Tryz.pinned (.plain (OpenSpec.ofChange blocksContinuedSpec)) blocksContinuedCard

/-- THE TIED CARD OF 'calquelaw39.BlocksPrint'. -/
def blocksPrintCard : Claim7 := { stood := { row := blocksPrintRow, standIns := [], harness := (true, "5d87d424bdcb739eb2e592d3312f44549b2e7d9aae6f0497c2ce86444ec20ce9"), looks := false }, kinds := [], alts := [], laidByText := true, laidKinds := [.data, .data, .data, .data, .pinned], laidTests := true, laidLooks := .later }
def BlocksPrintCardSaid : Prop := Claim7.holds Tryz.pinned (.plain (OpenSpec.ofChange blocksPrintSpec)) blocksPrintCard

/-- THE TIED CARD OF 'calquelaw39.BlocksInverse'. -/
def blocksInverseCard : Claim7 := { stood := { row := blocksInverseRow, standIns := [], harness := (true, "5d87d424bdcb739eb2e592d3312f44549b2e7d9aae6f0497c2ce86444ec20ce9"), looks := false }, kinds := [], alts := [], laidByText := true, laidKinds := [.data, .data, .data, .data, .pinned], laidTests := true, laidLooks := .later }
def BlocksInverseCardSaid : Prop := Claim7.holds Tryz.pinned (.plain (OpenSpec.ofChange blocksInverseSpec)) blocksInverseCard

/-- THE TIED CARD OF 'calquelaw39.BlocksExchange'. -/
def blocksExchangeCard : Claim7 := { stood := { row := blocksExchangeRow, standIns := [], harness := (true, "5d87d424bdcb739eb2e592d3312f44549b2e7d9aae6f0497c2ce86444ec20ce9"), looks := false }, kinds := [], alts := [], laidByText := true, laidKinds := [.data, .data, .data, .data, .pinned], laidTests := true, laidLooks := .later }
def BlocksExchangeCardSaid : Prop := Claim7.holds Tryz.pinned (.plain (OpenSpec.ofChange blocksExchangeSpec)) blocksExchangeCard

/-- THE TIED CARD OF 'calquelaw39.BlocksWhole'. -/
def blocksWholeCard : Claim7 := { stood := { row := blocksWholeRow, standIns := [], harness := (true, "5d87d424bdcb739eb2e592d3312f44549b2e7d9aae6f0497c2ce86444ec20ce9"), looks := false }, kinds := [], alts := [], laidByText := true, laidKinds := [.data, .data, .data, .data, .pinned], laidTests := true, laidLooks := .later }
def BlocksWholeCardSaid : Prop := Claim7.holds Tryz.pinned (.plain (OpenSpec.ofChange blocksWholeSpec)) blocksWholeCard

/-- THE SECOND FORM's CARD OF 'calquelaw39.BlocksParse'. -/
def blocksParseUptoCard : Claim7 := { stood := { row := blocksParseUptoRow, standIns := [], harness := (true, "5d87d424bdcb739eb2e592d3312f44549b2e7d9aae6f0497c2ce86444ec20ce9"), looks := false }, kinds := [], alts := [], laidByText := true, laidKinds := [.data, .pinned], laidTests := true, laidLooks := .later }
def BlocksParseUptoCardSaid : Prop := Claim7.holds Tryz.pinned (.plain (OpenSpec.upto blocksParseSpec)) blocksParseUptoCard

/-- THE SECOND FORM's CARD OF 'calquelaw39.BlocksSplit'. -/
def blocksSplitUptoCard : Claim7 := { stood := { row := blocksSplitUptoRow, standIns := [], harness := (true, "5d87d424bdcb739eb2e592d3312f44549b2e7d9aae6f0497c2ce86444ec20ce9"), looks := false }, kinds := [], alts := [], laidByText := true, laidKinds := [.data, .pinned], laidTests := true, laidLooks := .later }
def BlocksSplitUptoCardSaid : Prop := Claim7.holds Tryz.pinned (.plain (OpenSpec.upto blocksSplitSpec)) blocksSplitUptoCard

/-- THE SECOND FORM's CARD OF 'calquelaw39.BlocksContinued'. -/
def blocksContinuedUptoCard : Claim7 := { stood := { row := blocksContinuedUptoRow, standIns := [], harness := (true, "5d87d424bdcb739eb2e592d3312f44549b2e7d9aae6f0497c2ce86444ec20ce9"), looks := false }, kinds := [], alts := [], laidByText := true, laidKinds := [.data, .data, .data, .data, .pinned], laidTests := true, laidLooks := .later }
def BlocksContinuedUptoCardSaid : Prop := Claim7.holds Tryz.pinned (.plain (OpenSpec.upto blocksContinuedSpec)) blocksContinuedUptoCard

/-- THE SECOND FORM's CARD OF 'calquelaw39.BlocksPrint'. -/
def blocksPrintUptoCard : Claim7 := { stood := { row := blocksPrintUptoRow, standIns := [], harness := (true, "5d87d424bdcb739eb2e592d3312f44549b2e7d9aae6f0497c2ce86444ec20ce9"), looks := false }, kinds := [], alts := [], laidByText := true, laidKinds := [.data, .data, .data, .data, .pinned], laidTests := true, laidLooks := .later }
def BlocksPrintUptoCardSaid : Prop := Claim7.holds Tryz.pinned (.plain (OpenSpec.upto blocksPrintSpec)) blocksPrintUptoCard

/-- THE SECOND FORM's CARD OF 'calquelaw39.BlocksInverse'. -/
def blocksInverseUptoCard : Claim7 := { stood := { row := blocksInverseUptoRow, standIns := [], harness := (true, "5d87d424bdcb739eb2e592d3312f44549b2e7d9aae6f0497c2ce86444ec20ce9"), looks := false }, kinds := [], alts := [], laidByText := true, laidKinds := [.data, .data, .data, .data, .pinned], laidTests := true, laidLooks := .later }
def BlocksInverseUptoCardSaid : Prop := Claim7.holds Tryz.pinned (.plain (OpenSpec.upto blocksInverseSpec)) blocksInverseUptoCard

/-- THE SECOND FORM's CARD OF 'calquelaw39.BlocksExchange'. -/
def blocksExchangeUptoCard : Claim7 := { stood := { row := blocksExchangeUptoRow, standIns := [], harness := (true, "5d87d424bdcb739eb2e592d3312f44549b2e7d9aae6f0497c2ce86444ec20ce9"), looks := false }, kinds := [], alts := [], laidByText := true, laidKinds := [.data, .data, .data, .data, .pinned], laidTests := true, laidLooks := .later }
def BlocksExchangeUptoCardSaid : Prop := Claim7.holds Tryz.pinned (.plain (OpenSpec.upto blocksExchangeSpec)) blocksExchangeUptoCard

/-- THE SECOND FORM's CARD OF 'calquelaw39.BlocksWhole'. -/
def blocksWholeUptoCard : Claim7 := { stood := { row := blocksWholeUptoRow, standIns := [], harness := (true, "5d87d424bdcb739eb2e592d3312f44549b2e7d9aae6f0497c2ce86444ec20ce9"), looks := false }, kinds := [], alts := [], laidByText := true, laidKinds := [.data, .data, .data, .data, .pinned], laidTests := true, laidLooks := .later }
def BlocksWholeUptoCardSaid : Prop := Claim7.holds Tryz.pinned (.plain (OpenSpec.upto blocksWholeSpec)) blocksWholeUptoCard
end Rows
end Go.Proofs.YtcpbaddnmpeipaaGreatDoor
