/-
  NARROWER THAN 'FOR EVERY INPUT', by the rows' own cells (each row's printed sentence says how): TreeParse: laid · TreeSplit: laid · TreeFree: laid · PropsParse: laid · PropsFree: laid · PropsSplit: laid.
  DERIVED. THE GIVEN ROWS OF THIS SEAT. 6 by the template 'for every input the law returns true; each argument reads behind the call as it read before'; 0 by the template 'total and deterministic' (their statements: YtfchbnahjcdiiaaGreatDoorTotals.lean).
  GIVEN WITH THE SEED: the statements are not yours to turn. If you find one false, say at which input.
  Laid BY PROGRAM, IN A SANDBOX (cutbox-rows.mjs): the forced cells as the released guide's own fill.sh prints them over the translation b51826d62f7f6250… (all of the seat's roots in one cut). By AI agents, Wed Nov 11 2026. No macro, syntax, notation, axiom, sorry.
-/
import Derived.Test.YtfchbnahjcdiiaaGreatDoorChecked
import GoSem.PinnedTables
import GoSem.Claim
import GoSem.ClaimJoined
import GoSem.ClaimMapViews
import Derived.JoinedTies
import Derived.KernelRfl
namespace Go.Proofs.YtfchbnahjcdiiaaGreatDoor
/- THE CELL 'sum', in the pinned program and in every row, IS THE sha256 OF THE DUMP (.gsa) THAT YtfchbnahjcdiiaaGreatDoorProg.lean LOADS. Nothing in Lean hashes anything: it is a label: what it is worth is what the hold of that sum in a sandbox is worth. -/
noncomputable def Tryz.pinned : Pinned := { name := "ytfchbnahjcdiiaagreatdoor", sum := "b51826d62f7f62503678980b0f359031808871443cbfd21dbf37735ee9e0b49e", checked := Tryz.checked }
namespace Rows
def none {H : Type} : Left H := { results := [], args := [] }

/- WHAT THE LISTED PACKAGE-LEVEL VARIABLES READ AS WHEN THE CALL BEGINS. Each datum BY PROGRAM (the guide's laid-datum.mjs) off the statement by which the dump's own 'gosem.cut.vars' lays the variable. In a bare row this is a premise. The card (YtfchbnahjcdiiaaGreatDoorCards.lean) ties it to the program's text. -/
def laid_unicode_utf8_acceptRanges {H : Type} : DataW H := .agg [.agg [.lit (.int .u8 128), .lit (.int .u8 191)], .agg [.lit (.int .u8 160), .lit (.int .u8 191)], .agg [.lit (.int .u8 128), .lit (.int .u8 159)], .agg [.lit (.int .u8 144), .lit (.int .u8 191)], .agg [.lit (.int .u8 128), .lit (.int .u8 143)], .agg [.lit (.int .u8 0), .lit (.int .u8 0)], .agg [.lit (.int .u8 0), .lit (.int .u8 0)], .agg [.lit (.int .u8 0), .lit (.int .u8 0)], .agg [.lit (.int .u8 0), .lit (.int .u8 0)], .agg [.lit (.int .u8 0), .lit (.int .u8 0)], .agg [.lit (.int .u8 0), .lit (.int .u8 0)], .agg [.lit (.int .u8 0), .lit (.int .u8 0)], .agg [.lit (.int .u8 0), .lit (.int .u8 0)], .agg [.lit (.int .u8 0), .lit (.int .u8 0)], .agg [.lit (.int .u8 0), .lit (.int .u8 0)], .agg [.lit (.int .u8 0), .lit (.int .u8 0)]]
/-- One of Go's own tables, pinned by name: the form's constant. -/
def laid_unicode_utf8_first : DataW Unit := Go.Pinned.utf8First

/-- 'calquelaw40.TreeParse': WHATEVER THE INPUT: true; the input reads as it did. -/
def treeParseSpec : ChangeSpec := { name := "treeParse", fn := fun _ => fun
  | [d] => { results := [.lit (.bool true)], args := [d] }
  | _ => none }
def treeParseRow : OpenClaim := { program := "ytfchbnahjcdiiaagreatdoor", sum := "b51826d62f7f62503678980b0f359031808871443cbfd21dbf37735ee9e0b49e", func := "calque/calquelaw40.TreeParse", spec := "treeParse", inPlace := ["internal/bytealg.IndexByteString", "internal/bytealg.IndexString", "internal/abi.NoEscape", "slices.overlaps[calque/api.Field]"], unfollowed := true, recurses := true, named := ["internal/bytealg.MaxLen", "unicode/utf8.first", "unicode/utf8.acceptRanges"], apart := false, laid := [("unicode/utf8.acceptRanges", laid_unicode_utf8_acceptRanges), ("unicode/utf8.first", laid_unicode_utf8_first)] }
def TreeParseSaid : Prop := treeParseRow.holds Tryz.pinned (OpenSpec.ofChange treeParseSpec)

/-- ITS FALSE NEIGHBOUR: 'it returns false'. Refute it at one input. -/
def treeParseWrong : ChangeSpec := { name := "treeParse", fn := fun _ => fun
  | [d] => { results := [.lit (.bool false)], args := [d] }
  | _ => none }
def TreeParseWrongFalsely : Prop := treeParseRow.holds Tryz.pinned (OpenSpec.ofChange treeParseWrong)

/-- 'calquelaw40.TreeSplit': WHATEVER THE INPUT: true; the input reads as it did. -/
def treeSplitSpec : ChangeSpec := { name := "treeSplit", fn := fun _ => fun
  | [d] => { results := [.lit (.bool true)], args := [d] }
  | _ => none }
def treeSplitRow : OpenClaim := { program := "ytfchbnahjcdiiaagreatdoor", sum := "b51826d62f7f62503678980b0f359031808871443cbfd21dbf37735ee9e0b49e", func := "calque/calquelaw40.TreeSplit", spec := "treeSplit", inPlace := ["internal/bytealg.IndexByteString", "internal/bytealg.IndexString", "internal/abi.NoEscape", "slices.overlaps[calque/api.Field]"], unfollowed := true, recurses := true, named := ["internal/bytealg.MaxLen", "unicode/utf8.first", "unicode/utf8.acceptRanges"], apart := false, laid := [("unicode/utf8.acceptRanges", laid_unicode_utf8_acceptRanges), ("unicode/utf8.first", laid_unicode_utf8_first)] }
def TreeSplitSaid : Prop := treeSplitRow.holds Tryz.pinned (OpenSpec.ofChange treeSplitSpec)

/-- ITS FALSE NEIGHBOUR: 'it returns false'. Refute it at one input. -/
def treeSplitWrong : ChangeSpec := { name := "treeSplit", fn := fun _ => fun
  | [d] => { results := [.lit (.bool false)], args := [d] }
  | _ => none }
def TreeSplitWrongFalsely : Prop := treeSplitRow.holds Tryz.pinned (OpenSpec.ofChange treeSplitWrong)

/-- 'calquelaw40.TreeFree': WHATEVER THE INPUT: true; the input reads as it did. -/
def treeFreeSpec : ChangeSpec := { name := "treeFree", fn := fun _ => fun
  | [d1, d2, d3] => { results := [.lit (.bool true)], args := [d1, d2, d3] }
  | _ => none }
def treeFreeRow : OpenClaim := { program := "ytfchbnahjcdiiaagreatdoor", sum := "b51826d62f7f62503678980b0f359031808871443cbfd21dbf37735ee9e0b49e", func := "calque/calquelaw40.TreeFree", spec := "treeFree", inPlace := ["internal/bytealg.IndexByteString", "internal/bytealg.IndexString", "internal/abi.NoEscape", "slices.overlaps[calque/api.Field]"], unfollowed := true, recurses := true, named := ["internal/bytealg.MaxLen", "unicode/utf8.first", "unicode/utf8.acceptRanges"], apart := false, laid := [("unicode/utf8.acceptRanges", laid_unicode_utf8_acceptRanges), ("unicode/utf8.first", laid_unicode_utf8_first)] }
def TreeFreeSaid : Prop := treeFreeRow.holds Tryz.pinned (OpenSpec.ofChange treeFreeSpec)

/-- ITS FALSE NEIGHBOUR: 'it returns false'. Refute it at one input. -/
def treeFreeWrong : ChangeSpec := { name := "treeFree", fn := fun _ => fun
  | [d1, d2, d3] => { results := [.lit (.bool false)], args := [d1, d2, d3] }
  | _ => none }
def TreeFreeWrongFalsely : Prop := treeFreeRow.holds Tryz.pinned (OpenSpec.ofChange treeFreeWrong)

/-- 'calquelaw38.PropsParse': WHATEVER THE INPUT: true; the input reads as it did. -/
def propsParseSpec : ChangeSpec := { name := "propsParse", fn := fun _ => fun
  | [d] => { results := [.lit (.bool true)], args := [d] }
  | _ => none }
def propsParseRow : OpenClaim := { program := "ytfchbnahjcdiiaagreatdoor", sum := "b51826d62f7f62503678980b0f359031808871443cbfd21dbf37735ee9e0b49e", func := "calque/calquelaw38.PropsParse", spec := "propsParse", inPlace := ["internal/bytealg.IndexByteString", "internal/bytealg.IndexString", "internal/abi.NoEscape", "slices.overlaps[calque/api.Field]"], unfollowed := true, recurses := true, named := ["unicode/utf8.first", "unicode/utf8.acceptRanges", "internal/bytealg.MaxLen"], apart := false, laid := [("unicode/utf8.acceptRanges", laid_unicode_utf8_acceptRanges), ("unicode/utf8.first", laid_unicode_utf8_first)] }
def PropsParseSaid : Prop := propsParseRow.holds Tryz.pinned (OpenSpec.ofChange propsParseSpec)

/-- ITS FALSE NEIGHBOUR: 'it returns false'. Refute it at one input. -/
def propsParseWrong : ChangeSpec := { name := "propsParse", fn := fun _ => fun
  | [d] => { results := [.lit (.bool false)], args := [d] }
  | _ => none }
def PropsParseWrongFalsely : Prop := propsParseRow.holds Tryz.pinned (OpenSpec.ofChange propsParseWrong)

/-- 'calquelaw38.PropsFree': WHATEVER THE INPUT: true; the input reads as it did. -/
def propsFreeSpec : ChangeSpec := { name := "propsFree", fn := fun _ => fun
  | [d1, d2, d3] => { results := [.lit (.bool true)], args := [d1, d2, d3] }
  | _ => none }
def propsFreeRow : OpenClaim := { program := "ytfchbnahjcdiiaagreatdoor", sum := "b51826d62f7f62503678980b0f359031808871443cbfd21dbf37735ee9e0b49e", func := "calque/calquelaw38.PropsFree", spec := "propsFree", inPlace := ["internal/bytealg.IndexByteString", "internal/bytealg.IndexString", "internal/abi.NoEscape", "slices.overlaps[calque/api.Field]"], unfollowed := true, recurses := true, named := ["unicode/utf8.first", "unicode/utf8.acceptRanges", "internal/bytealg.MaxLen"], apart := false, laid := [("unicode/utf8.acceptRanges", laid_unicode_utf8_acceptRanges), ("unicode/utf8.first", laid_unicode_utf8_first)] }
def PropsFreeSaid : Prop := propsFreeRow.holds Tryz.pinned (OpenSpec.ofChange propsFreeSpec)

/-- ITS FALSE NEIGHBOUR: 'it returns false'. Refute it at one input. -/
def propsFreeWrong : ChangeSpec := { name := "propsFree", fn := fun _ => fun
  | [d1, d2, d3] => { results := [.lit (.bool false)], args := [d1, d2, d3] }
  | _ => none }
def PropsFreeWrongFalsely : Prop := propsFreeRow.holds Tryz.pinned (OpenSpec.ofChange propsFreeWrong)

/-- 'calquelaw38.PropsSplit': WHATEVER THE INPUT: true; the input reads as it did. -/
def propsSplitSpec : ChangeSpec := { name := "propsSplit", fn := fun _ => fun
  | [d] => { results := [.lit (.bool true)], args := [d] }
  | _ => none }
def propsSplitRow : OpenClaim := { program := "ytfchbnahjcdiiaagreatdoor", sum := "b51826d62f7f62503678980b0f359031808871443cbfd21dbf37735ee9e0b49e", func := "calque/calquelaw38.PropsSplit", spec := "propsSplit", inPlace := ["internal/bytealg.IndexByteString", "internal/bytealg.IndexString", "internal/abi.NoEscape", "slices.overlaps[calque/api.Field]"], unfollowed := true, recurses := true, named := ["unicode/utf8.first", "unicode/utf8.acceptRanges", "internal/bytealg.MaxLen"], apart := false, laid := [("unicode/utf8.acceptRanges", laid_unicode_utf8_acceptRanges), ("unicode/utf8.first", laid_unicode_utf8_first)] }
def PropsSplitSaid : Prop := propsSplitRow.holds Tryz.pinned (OpenSpec.ofChange propsSplitSpec)

/-- ITS FALSE NEIGHBOUR: 'it returns false'. Refute it at one input. -/
def propsSplitWrong : ChangeSpec := { name := "propsSplit", fn := fun _ => fun
  | [d] => { results := [.lit (.bool false)], args := [d] }
  | _ => none }
def PropsSplitWrongFalsely : Prop := propsSplitRow.holds Tryz.pinned (OpenSpec.ofChange propsSplitWrong)

/- THE SECOND FORM. 'bulk': how many values and letters a reading holds, each counted each time it is reached (what is shared counts as often as it is met; a slice's spare places count too). A statement '..UptoSaid' is the law's where the arguments, and the package variables that the reading takes, are together of bulk at most 1048576: NARROWER than '..Said'. Prove '..Said' where nothing that the law and all that it calls make is longer than what came in: it says more and counts as full. Else prove '..UptoSaid'. A law counts once. -/
mutual
def uptoBulk {H : Type} : DataW H → Nat
  | .lit (.string bytes) => bytes.length + 1
  | .lit _ => 1
  | .nil => 1
  | .ptr d => uptoBulk d + 1
  | .slice elems spare => uptoBulkAll elems + uptoBulkAll spare + 1
  | .agg parts => uptoBulkAll parts + 1
  | .iface _ d => uptoBulk d + 1
  | .map entries => uptoBulkEntries entries + 1
  | .held _ => 1
def uptoBulkAll {H : Type} : List (DataW H) → Nat
  | [] => 0
  | d :: r => uptoBulk d + uptoBulkAll r
def uptoBulkEntries {H : Type} : List (Lit × DataW H) → Nat
  | [] => 0
  | x :: r => uptoBulkEntry x + uptoBulkEntries r
def uptoBulkEntry {H : Type} : Lit × DataW H → Nat
  | (.string bytes, d) => bytes.length + uptoBulk d + 1
  | (_, d) => uptoBulk d + 1
 end
def uptoSmall : (H : Type) → List (DataW H) → Bool := fun _ ds => decide (uptoBulkAll ds ≤ 1048576)
def OpenSpec.upto (s : _root_.Go.ChangeSpec) : _root_.Go.OpenSpec := { _root_.Go.OpenSpec.ofChange s with cond := some uptoSmall }

/-- 'calquelaw40.TreeParse', WHERE WHAT IT READS IS OF BULK AT MOST 1048576: true; the input reads as it did. -/
def treeParseUptoRow : OpenClaim := { program := "ytfchbnahjcdiiaagreatdoor", sum := "b51826d62f7f62503678980b0f359031808871443cbfd21dbf37735ee9e0b49e", func := "calque/calquelaw40.TreeParse", spec := "treeParse", inPlace := ["internal/bytealg.IndexByteString", "internal/bytealg.IndexString", "internal/abi.NoEscape", "slices.overlaps[calque/api.Field]"], unfollowed := true, recurses := true, named := ["internal/bytealg.MaxLen", "unicode/utf8.first", "unicode/utf8.acceptRanges"], apart := false, laid := [("unicode/utf8.acceptRanges", laid_unicode_utf8_acceptRanges), ("unicode/utf8.first", laid_unicode_utf8_first)], narrowed := true }
def TreeParseUptoSaid : Prop := treeParseUptoRow.holds Tryz.pinned (OpenSpec.upto treeParseSpec)

/-- 'calquelaw40.TreeSplit', WHERE WHAT IT READS IS OF BULK AT MOST 1048576: true; the input reads as it did. -/
def treeSplitUptoRow : OpenClaim := { program := "ytfchbnahjcdiiaagreatdoor", sum := "b51826d62f7f62503678980b0f359031808871443cbfd21dbf37735ee9e0b49e", func := "calque/calquelaw40.TreeSplit", spec := "treeSplit", inPlace := ["internal/bytealg.IndexByteString", "internal/bytealg.IndexString", "internal/abi.NoEscape", "slices.overlaps[calque/api.Field]"], unfollowed := true, recurses := true, named := ["internal/bytealg.MaxLen", "unicode/utf8.first", "unicode/utf8.acceptRanges"], apart := false, laid := [("unicode/utf8.acceptRanges", laid_unicode_utf8_acceptRanges), ("unicode/utf8.first", laid_unicode_utf8_first)], narrowed := true }
def TreeSplitUptoSaid : Prop := treeSplitUptoRow.holds Tryz.pinned (OpenSpec.upto treeSplitSpec)

/-- 'calquelaw40.TreeFree', WHERE WHAT IT READS IS OF BULK AT MOST 1048576: true; the input reads as it did. -/
def treeFreeUptoRow : OpenClaim := { program := "ytfchbnahjcdiiaagreatdoor", sum := "b51826d62f7f62503678980b0f359031808871443cbfd21dbf37735ee9e0b49e", func := "calque/calquelaw40.TreeFree", spec := "treeFree", inPlace := ["internal/bytealg.IndexByteString", "internal/bytealg.IndexString", "internal/abi.NoEscape", "slices.overlaps[calque/api.Field]"], unfollowed := true, recurses := true, named := ["internal/bytealg.MaxLen", "unicode/utf8.first", "unicode/utf8.acceptRanges"], apart := false, laid := [("unicode/utf8.acceptRanges", laid_unicode_utf8_acceptRanges), ("unicode/utf8.first", laid_unicode_utf8_first)], narrowed := true }
def TreeFreeUptoSaid : Prop := treeFreeUptoRow.holds Tryz.pinned (OpenSpec.upto treeFreeSpec)

/-- 'calquelaw38.PropsParse', WHERE WHAT IT READS IS OF BULK AT MOST 1048576: true; the input reads as it did. -/
def propsParseUptoRow : OpenClaim := { program := "ytfchbnahjcdiiaagreatdoor", sum := "b51826d62f7f62503678980b0f359031808871443cbfd21dbf37735ee9e0b49e", func := "calque/calquelaw38.PropsParse", spec := "propsParse", inPlace := ["internal/bytealg.IndexByteString", "internal/bytealg.IndexString", "internal/abi.NoEscape", "slices.overlaps[calque/api.Field]"], unfollowed := true, recurses := true, named := ["unicode/utf8.first", "unicode/utf8.acceptRanges", "internal/bytealg.MaxLen"], apart := false, laid := [("unicode/utf8.acceptRanges", laid_unicode_utf8_acceptRanges), ("unicode/utf8.first", laid_unicode_utf8_first)], narrowed := true }
def PropsParseUptoSaid : Prop := propsParseUptoRow.holds Tryz.pinned (OpenSpec.upto propsParseSpec)

/-- 'calquelaw38.PropsFree', WHERE WHAT IT READS IS OF BULK AT MOST 1048576: true; the input reads as it did. -/
def propsFreeUptoRow : OpenClaim := { program := "ytfchbnahjcdiiaagreatdoor", sum := "b51826d62f7f62503678980b0f359031808871443cbfd21dbf37735ee9e0b49e", func := "calque/calquelaw38.PropsFree", spec := "propsFree", inPlace := ["internal/bytealg.IndexByteString", "internal/bytealg.IndexString", "internal/abi.NoEscape", "slices.overlaps[calque/api.Field]"], unfollowed := true, recurses := true, named := ["unicode/utf8.first", "unicode/utf8.acceptRanges", "internal/bytealg.MaxLen"], apart := false, laid := [("unicode/utf8.acceptRanges", laid_unicode_utf8_acceptRanges), ("unicode/utf8.first", laid_unicode_utf8_first)], narrowed := true }
def PropsFreeUptoSaid : Prop := propsFreeUptoRow.holds Tryz.pinned (OpenSpec.upto propsFreeSpec)

/-- 'calquelaw38.PropsSplit', WHERE WHAT IT READS IS OF BULK AT MOST 1048576: true; the input reads as it did. -/
def propsSplitUptoRow : OpenClaim := { program := "ytfchbnahjcdiiaagreatdoor", sum := "b51826d62f7f62503678980b0f359031808871443cbfd21dbf37735ee9e0b49e", func := "calque/calquelaw38.PropsSplit", spec := "propsSplit", inPlace := ["internal/bytealg.IndexByteString", "internal/bytealg.IndexString", "internal/abi.NoEscape", "slices.overlaps[calque/api.Field]"], unfollowed := true, recurses := true, named := ["unicode/utf8.first", "unicode/utf8.acceptRanges", "internal/bytealg.MaxLen"], apart := false, laid := [("unicode/utf8.acceptRanges", laid_unicode_utf8_acceptRanges), ("unicode/utf8.first", laid_unicode_utf8_first)], narrowed := true }
def PropsSplitUptoSaid : Prop := propsSplitUptoRow.holds Tryz.pinned (OpenSpec.upto propsSplitSpec)

end Rows
end Go.Proofs.YtfchbnahjcdiiaaGreatDoor
