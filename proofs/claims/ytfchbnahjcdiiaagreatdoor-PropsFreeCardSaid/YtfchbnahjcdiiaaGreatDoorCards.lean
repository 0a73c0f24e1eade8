/-
  DERIVED. GIVEN WITH THE SEED: THE CARDS: each row of YtfchbnahjcdiiaaGreatDoorRows.lean that lists a variable, with what it lists TIED to the program's text (the seventh form; the later family's looks); each row that meets fmt, with fmt's text TOLD by the authors' own Lean function (tested against real Go, not proved from fmt's source: count such statements apart). THE CARD IS WHAT COUNTS. Prove the row's statement (the work); the ties are given (YtfchbnahjcdiiaaGreatDoorTie.lean); close each card by the builder's one call (the guide's Derived/Test/ToyasCard.lean, 'card_holds'). Laid BY PROGRAM, IN A SANDBOX (cutbox-door.mjs). By AI agents, Wed Nov 11 2026. No macro, syntax, notation, axiom, sorry.
-/
import Derived.Test.YtfchbnahjcdiiaaGreatDoorRows
import GoSem.ClaimSeven
namespace Go.Proofs.YtfchbnahjcdiiaaGreatDoor
namespace Rows

/-- THE TIED CARD OF 'calquelaw40.TreeParse'. -/
def treeParseCard : Claim7 := { stood := { row := treeParseRow, standIns := [], harness := (true, "146bb05169042bd84b58c90b8373b19d6ea2c804118574bd5c158f8fcdc71822"), looks := false }, kinds := [], alts := [], laidByText := true, laidKinds := [.data, .pinned], laidTests := true, laidLooks := .later }
def TreeParseCardSaid : Prop := Claim7.holds Tryz.pinned (.plain (OpenSpec.ofChange treeParseSpec)) treeParseCard

/-- THE TIED CARD OF 'calquelaw40.TreeSplit'. -/
def treeSplitCard : Claim7 := { stood := { row := treeSplitRow, standIns := [], harness := (true, "146bb05169042bd84b58c90b8373b19d6ea2c804118574bd5c158f8fcdc71822"), looks := false }, kinds := [], alts := [], laidByText := true, laidKinds := [.data, .pinned], laidTests := true, laidLooks := .later }
def TreeSplitCardSaid : Prop := Claim7.holds Tryz.pinned (.plain (OpenSpec.ofChange treeSplitSpec)) treeSplitCard

/-- THE TIED CARD OF 'calquelaw40.TreeFree'. -/
def treeFreeCard : Claim7 := { stood := { row := treeFreeRow, standIns := [], harness := (true, "146bb05169042bd84b58c90b8373b19d6ea2c804118574bd5c158f8fcdc71822"), looks := false }, kinds := [], alts := [], laidByText := true, laidKinds := [.data, .pinned], laidTests := true, laidLooks := .later }
def TreeFreeCardSaid : Prop := Claim7.holds Tryz.pinned (.plain (OpenSpec.ofChange treeFreeSpec)) treeFreeCard

/-- THE TIED CARD OF 'calquelaw38.PropsParse'. -/
def propsParseCard : Claim7 := { stood := { row := propsParseRow, standIns := [], harness := (true, "146bb05169042bd84b58c90b8373b19d6ea2c804118574bd5c158f8fcdc71822"), looks := false }, kinds := [], alts := [], laidByText := true, laidKinds := [.data, .pinned], laidTests := true, laidLooks := .later }
def PropsParseCardSaid : Prop := Claim7.holds Tryz.pinned (.plain (OpenSpec.ofChange propsParseSpec)) propsParseCard

/-- THE TIED CARD OF 'calquelaw38.PropsFree'. -/
def propsFreeCard : Claim7 := { stood := { row := propsFreeRow, standIns := [], harness := (true, "146bb05169042bd84b58c90b8373b19d6ea2c804118574bd5c158f8fcdc71822"), looks := false }, kinds := [], alts := [], laidByText := true, laidKinds := [.data, .pinned], laidTests := true, laidLooks := .later }
def PropsFreeCardSaid : Prop := Claim7.holds Tryz.pinned (.plain (OpenSpec.ofChange propsFreeSpec)) propsFreeCard

/-- THE TIED CARD OF 'calquelaw38.PropsSplit'. -/
def propsSplitCard : Claim7 := { stood := { row := propsSplitRow, standIns := [], harness := (true, "146bb05169042bd84b58c90b8373b19d6ea2c804118574bd5c158f8fcdc71822"), looks := false }, kinds := [], alts := [], laidByText := true, laidKinds := [.data, .pinned], laidTests := true, laidLooks := .later }
def PropsSplitCardSaid : Prop := Claim7.holds Tryz.pinned (.plain (OpenSpec.ofChange propsSplitSpec)) propsSplitCard

/-- THE SECOND FORM's CARD OF 'calquelaw40.TreeParse'. -/
def treeParseUptoCard : Claim7 := { stood := { row := treeParseUptoRow, standIns := [], harness := (true, "146bb05169042bd84b58c90b8373b19d6ea2c804118574bd5c158f8fcdc71822"), looks := false }, kinds := [], alts := [], laidByText := true, laidKinds := [.data, .pinned], laidTests := true, laidLooks := .later }
def TreeParseUptoCardSaid : Prop := Claim7.holds Tryz.pinned (.plain (OpenSpec.upto treeParseSpec)) treeParseUptoCard

/-- THE SECOND FORM's CARD OF 'calquelaw40.TreeSplit'. -/
def treeSplitUptoCard : Claim7 := { stood := { row := treeSplitUptoRow, standIns := [], harness := (true, "146bb05169042bd84b58c90b8373b19d6ea2c804118574bd5c158f8fcdc71822"), looks := false }, kinds := [], alts := [], laidByText := true, laidKinds := [.data, .pinned], laidTests := true, laidLooks := .later }
def TreeSplitUptoCardSaid : Prop := Claim7.holds Tryz.pinned (.plain (OpenSpec.upto treeSplitSpec)) treeSplitUptoCard

/-- THE SECOND FORM's CARD OF 'calquelaw40.TreeFree'. -/
def treeFreeUptoCard : Claim7 := { stood := { row := treeFreeUptoRow, standIns := [], harness := (true, "146bb05169042bd84b58c90b8373b19d6ea2c804118574bd5c158f8fcdc71822"), looks := false }, kinds := [], alts := [], laidByText := true, laidKinds := [.data, .pinned], laidTests := true, laidLooks := .later }
def TreeFreeUptoCardSaid : Prop := Claim7.holds Tryz.pinned (.plain (OpenSpec.upto treeFreeSpec)) treeFreeUptoCard

/-- THE SECOND FORM's CARD OF 'calquelaw38.PropsParse'. -/
def propsParseUptoCard : Claim7 := { stood := { row := propsParseUptoRow, standIns := [], harness := (true, "146bb05169042bd84b58c90b8373b19d6ea2c804118574bd5c158f8fcdc71822"), looks := false }, kinds := [], alts := [], laidByText := true, laidKinds := [.data, .pinned], laidTests := true, laidLooks := .later }
def PropsParseUptoCardSaid : Prop := Claim7.holds Tryz.pinned (.plain (OpenSpec.upto propsParseSpec)) propsParseUptoCard

/-- THE SECOND FORM's CARD OF 'calquelaw38.PropsFree'. -/
def propsFreeUptoCard : Claim7 := { stood := { row := propsFreeUptoRow, standIns := [], harness := (true, "146bb05169042bd84b58c90b8373b19d6ea2c804118574bd5c158f8fcdc71822"), looks := false }, kinds := [], alts := [], laidByText := true, laidKinds := [.data, .pinned], laidTests := true, laidLooks := .later }
def PropsFreeUptoCardSaid : Prop := Claim7.holds Tryz.pinned (.plain (OpenSpec.upto propsFreeSpec)) propsFreeUptoCard

/-- THE SECOND FORM's CARD OF 'calquelaw38.PropsSplit'. -/
def propsSplitUptoCard : Claim7 := { stood := { row := propsSplitUptoRow, standIns := [], harness := (true, "146bb05169042bd84b58c90b8373b19d6ea2c804118574bd5c158f8fcdc71822"), looks := false }, kinds := [], alts := [], laidByText := true, laidKinds := [.data, .pinned], laidTests := true, laidLooks := .later }
def PropsSplitUptoCardSaid : Prop := Claim7.holds Tryz.pinned (.plain (OpenSpec.upto propsSplitSpec)) propsSplitUptoCard
end Rows
end Go.Proofs.YtfchbnahjcdiiaaGreatDoor
