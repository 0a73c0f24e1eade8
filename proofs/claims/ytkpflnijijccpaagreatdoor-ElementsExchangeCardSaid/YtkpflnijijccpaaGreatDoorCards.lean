/-
  DERIVED. GIVEN WITH THE SEED: THE CARDS: each row of YtkpflnijijccpaaGreatDoorRows.lean that lists a variable, with what it lists TIED to the program's text (the seventh form; the later family's looks); each row that meets fmt, with fmt's text TOLD by the authors' own Lean function (tested against real Go, not proved from fmt's source: count such statements apart). THE CARD IS WHAT COUNTS. Prove the row's statement (the work); the ties are given (YtkpflnijijccpaaGreatDoorTie.lean); close each card by the builder's one call (the guide's Derived/Test/ToyasCard.lean, 'card_holds'). Laid BY PROGRAM, IN A SANDBOX (cutbox-door.mjs). By AI agents, Wed Nov 11 2026. No macro, syntax, notation, axiom, sorry.
-/
import Derived.Test.YtkpflnijijccpaaGreatDoorRows
import GoSem.ClaimSeven
namespace Go.Proofs.YtkpflnijijccpaaGreatDoor
namespace Rows

/-- THE TIED CARD OF 'calquelaw41.ElementsFree'. -/
def elementsFreeCard : Claim7 := { stood := { row := elementsFreeRow, standIns := [], harness := (true, "1008dd62a78bd228180e1c22f450e234c81a9eabf1ab0f49fd7302bf1e97eed2"), looks := false }, kinds := [], alts := [], laidByText := true, laidKinds := [.data, .listed, .data, .pinned], laidTests := true, laidLooks := .later }
def ElementsFreeCardSaid : Prop := Claim7.holds Tryz.pinned (.plain (OpenSpec.ofChange elementsFreeSpec)) elementsFreeCard

/-- THE TIED CARD OF 'calquelaw41.ElementsPrint'. -/
def elementsPrintCard : Claim7 := { stood := { row := elementsPrintRow, standIns := [], harness := (true, "1008dd62a78bd228180e1c22f450e234c81a9eabf1ab0f49fd7302bf1e97eed2"), looks := false }, kinds := [], alts := [], laidByText := true, laidKinds := [.data, .data, .data, .data, .listed, .data, .pinned], laidTests := true, laidLooks := .later }
def ElementsPrintCardSaid : Prop := Claim7.holds Tryz.pinned (.plain (OpenSpec.ofChange elementsPrintSpec)) elementsPrintCard

/-- THE TIED CARD OF 'calquelaw41.ElementsInverse'. -/
def elementsInverseCard : Claim7 := { stood := { row := elementsInverseRow, standIns := [], harness := (true, "1008dd62a78bd228180e1c22f450e234c81a9eabf1ab0f49fd7302bf1e97eed2"), looks := false }, kinds := [], alts := [], laidByText := true, laidKinds := [.data, .data, .data, .data, .listed, .data, .pinned], laidTests := true, laidLooks := .later }
def ElementsInverseCardSaid : Prop := Claim7.holds Tryz.pinned (.plain (OpenSpec.ofChange elementsInverseSpec)) elementsInverseCard

/-- THE TIED CARD OF 'calquelaw41.ElementsExchange'. -/
def elementsExchangeCard : Claim7 := { stood := { row := elementsExchangeRow, standIns := [], harness := (true, "1008dd62a78bd228180e1c22f450e234c81a9eabf1ab0f49fd7302bf1e97eed2"), looks := false }, kinds := [], alts := [], laidByText := true, laidKinds := [.data, .data, .data, .data, .listed, .data, .pinned], laidTests := true, laidLooks := .later }
def ElementsExchangeCardSaid : Prop := Claim7.holds Tryz.pinned (.plain (OpenSpec.ofChange elementsExchangeSpec)) elementsExchangeCard

/-- THE TIED CARD OF 'calquelaw41.ElementsWhole'. -/
def elementsWholeCard : Claim7 := { stood := { row := elementsWholeRow, standIns := [], harness := (true, "1008dd62a78bd228180e1c22f450e234c81a9eabf1ab0f49fd7302bf1e97eed2"), looks := false }, kinds := [], alts := [], laidByText := true, laidKinds := [.data, .data, .data, .data, .listed, .data, .pinned], laidTests := true, laidLooks := .later }
def ElementsWholeCardSaid : Prop := Claim7.holds Tryz.pinned (.plain (OpenSpec.ofChange elementsWholeSpec)) elementsWholeCard

/-- THE SECOND FORM's CARD OF 'calquelaw41.ElementsFree'. -/
def elementsFreeUptoCard : Claim7 := { stood := { row := elementsFreeUptoRow, standIns := [], harness := (true, "1008dd62a78bd228180e1c22f450e234c81a9eabf1ab0f49fd7302bf1e97eed2"), looks := false }, kinds := [], alts := [], laidByText := true, laidKinds := [.data, .listed, .data, .pinned], laidTests := true, laidLooks := .later }
def ElementsFreeUptoCardSaid : Prop := Claim7.holds Tryz.pinned (.plain (OpenSpec.upto elementsFreeSpec)) elementsFreeUptoCard

/-- THE SECOND FORM's CARD OF 'calquelaw41.ElementsPrint'. -/
def elementsPrintUptoCard : Claim7 := { stood := { row := elementsPrintUptoRow, standIns := [], harness := (true, "1008dd62a78bd228180e1c22f450e234c81a9eabf1ab0f49fd7302bf1e97eed2"), looks := false }, kinds := [], alts := [], laidByText := true, laidKinds := [.data, .data, .data, .data, .listed, .data, .pinned], laidTests := true, laidLooks := .later }
def ElementsPrintUptoCardSaid : Prop := Claim7.holds Tryz.pinned (.plain (OpenSpec.upto elementsPrintSpec)) elementsPrintUptoCard

/-- THE SECOND FORM's CARD OF 'calquelaw41.ElementsInverse'. -/
def elementsInverseUptoCard : Claim7 := { stood := { row := elementsInverseUptoRow, standIns := [], harness := (true, "1008dd62a78bd228180e1c22f450e234c81a9eabf1ab0f49fd7302bf1e97eed2"), looks := false }, kinds := [], alts := [], laidByText := true, laidKinds := [.data, .data, .data, .data, .listed, .data, .pinned], laidTests := true, laidLooks := .later }
def ElementsInverseUptoCardSaid : Prop := Claim7.holds Tryz.pinned (.plain (OpenSpec.upto elementsInverseSpec)) elementsInverseUptoCard

/-- THE SECOND FORM's CARD OF 'calquelaw41.ElementsExchange'. -/
def elementsExchangeUptoCard : Claim7 := { stood := { row := elementsExchangeUptoRow, standIns := [], harness := (true, "1008dd62a78bd228180e1c22f450e234c81a9eabf1ab0f49fd7302bf1e97eed2"), looks := false }, kinds := [], alts := [], laidByText := true, laidKinds := [.data, .data, .data, .data, .listed, .data, .pinned], laidTests := true, laidLooks := .later }
def ElementsExchangeUptoCardSaid : Prop := Claim7.holds Tryz.pinned (.plain (OpenSpec.upto elementsExchangeSpec)) elementsExchangeUptoCard

/-- THE SECOND FORM's CARD OF 'calquelaw41.ElementsWhole'. -/
def elementsWholeUptoCard : Claim7 := { stood := { row := elementsWholeUptoRow, standIns := [], harness := (true, "1008dd62a78bd228180e1c22f450e234c81a9eabf1ab0f49fd7302bf1e97eed2"), looks := false }, kinds := [], alts := [], laidByText := true, laidKinds := [.data, .data, .data, .data, .listed, .data, .pinned], laidTests := true, laidLooks := .later }
def ElementsWholeUptoCardSaid : Prop := Claim7.holds Tryz.pinned (.plain (OpenSpec.upto elementsWholeSpec)) elementsWholeUptoCard
end Rows
end Go.Proofs.YtkpflnijijccpaaGreatDoor
