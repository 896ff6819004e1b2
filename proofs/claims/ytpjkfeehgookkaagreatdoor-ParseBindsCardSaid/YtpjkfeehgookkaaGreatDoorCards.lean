/-
  DERIVED. GIVEN WITH THE SEED: THE CARDS: each row of YtpjkfeehgookkaaGreatDoorRows.lean that lists a variable, with what it lists TIED to the program's text (the seventh form; the later family's looks); each row that meets fmt, with fmt's text TOLD by the authors' own Lean function (tested against real Go, not proved from fmt's source: count such statements apart). THE CARD IS WHAT COUNTS. Prove the row's statement (the work); the ties are given (YtpjkfeehgookkaaGreatDoorTie.lean); close each card by the builder's one call (the guide's Derived/Test/ToyasCard.lean, 'card_holds'). Laid BY PROGRAM, IN A SANDBOX (cutbox-door.mjs). By AI agents, Wed Nov 11 2026. No macro, syntax, notation, axiom, sorry.
-/
import Derived.Test.YtpjkfeehgookkaaGreatDoorRows
import GoSem.ClaimSeven
namespace Go.Proofs.YtpjkfeehgookkaaGreatDoor
namespace Rows

/-- THE TIED CARD OF 'marquetrylaw06.ParseReads'. -/
def parseReadsCard : Claim7 := { stood := { row := parseReadsRow, standIns := [], harness := (true, "c0f2a01a9884047316f2da804e417d30ea7a87c9bfaee197445438cd177b8a99"), looks := true }, kinds := [], alts := [], laidByText := true, laidKinds := [.data, .data, .data, .data, .sentinel, .sentinel, .pinned], laidTests := true, laidLooks := .later }
def ParseReadsCardSaid : Prop := Claim7.holds Tryz.pinned (.plain (OpenSpec.ofChange parseReadsSpec)) parseReadsCard

/-- THE TIED CARD OF 'marquetrylaw06.ParseCounts'. -/
def parseCountsCard : Claim7 := { stood := { row := parseCountsRow, standIns := [], harness := (true, "c0f2a01a9884047316f2da804e417d30ea7a87c9bfaee197445438cd177b8a99"), looks := true }, kinds := [], alts := [], laidByText := true, laidKinds := [.data, .data, .data, .data, .sentinel, .sentinel, .pinned], laidTests := true, laidLooks := .later }
def ParseCountsCardSaid : Prop := Claim7.holds Tryz.pinned (.plain (OpenSpec.ofChange parseCountsSpec)) parseCountsCard

/-- THE TIED CARD OF 'marquetrylaw06.ParseBlanks'. -/
def parseBlanksCard : Claim7 := { stood := { row := parseBlanksRow, standIns := [], harness := (true, "c0f2a01a9884047316f2da804e417d30ea7a87c9bfaee197445438cd177b8a99"), looks := true }, kinds := [], alts := [], laidByText := true, laidKinds := [.data, .data, .data, .data, .sentinel, .sentinel, .pinned], laidTests := true, laidLooks := .later }
def ParseBlanksCardSaid : Prop := Claim7.holds Tryz.pinned (.plain (OpenSpec.ofChange parseBlanksSpec)) parseBlanksCard

/-- THE TIED CARD OF 'marquetrylaw06.ParseBrackets'. -/
def parseBracketsCard : Claim7 := { stood := { row := parseBracketsRow, standIns := [], harness := (true, "c0f2a01a9884047316f2da804e417d30ea7a87c9bfaee197445438cd177b8a99"), looks := true }, kinds := [], alts := [], laidByText := true, laidKinds := [.data, .data, .data, .data, .sentinel, .sentinel, .pinned], laidTests := true, laidLooks := .later }
def ParseBracketsCardSaid : Prop := Claim7.holds Tryz.pinned (.plain (OpenSpec.ofChange parseBracketsSpec)) parseBracketsCard

/-- THE TIED CARD OF 'marquetrylaw06.ParseCuts'. -/
def parseCutsCard : Claim7 := { stood := { row := parseCutsRow, standIns := [], harness := (true, "c0f2a01a9884047316f2da804e417d30ea7a87c9bfaee197445438cd177b8a99"), looks := true }, kinds := [], alts := [], laidByText := true, laidKinds := [.data, .data, .data, .data, .sentinel, .sentinel, .pinned], laidTests := true, laidLooks := .later }
def ParseCutsCardSaid : Prop := Claim7.holds Tryz.pinned (.plain (OpenSpec.ofChange parseCutsSpec)) parseCutsCard

/-- THE TIED CARD OF 'marquetrylaw06.ParsePlaces'. -/
def parsePlacesCard : Claim7 := { stood := { row := parsePlacesRow, standIns := [], harness := (true, "c0f2a01a9884047316f2da804e417d30ea7a87c9bfaee197445438cd177b8a99"), looks := true }, kinds := [], alts := [], laidByText := true, laidKinds := [.data, .data, .data, .data, .sentinel, .sentinel, .pinned], laidTests := true, laidLooks := .later }
def ParsePlacesCardSaid : Prop := Claim7.holds Tryz.pinned (.plain (OpenSpec.ofChange parsePlacesSpec)) parsePlacesCard

/-- THE TIED CARD OF 'marquetrylaw06.ParseBinds'. -/
def parseBindsCard : Claim7 := { stood := { row := parseBindsRow, standIns := [], harness := (true, "c0f2a01a9884047316f2da804e417d30ea7a87c9bfaee197445438cd177b8a99"), looks := true }, kinds := [], alts := [], laidByText := true, laidKinds := [.data, .data, .data, .data, .sentinel, .sentinel, .pinned], laidTests := true, laidLooks := .later }
def ParseBindsCardSaid : Prop := Claim7.holds Tryz.pinned (.plain (OpenSpec.ofChange parseBindsSpec)) parseBindsCard

/-- THE TIED CARD OF 'marquetrylaw06.ParseFirst'. -/
def parseFirstCard : Claim7 := { stood := { row := parseFirstRow, standIns := [], harness := (true, "c0f2a01a9884047316f2da804e417d30ea7a87c9bfaee197445438cd177b8a99"), looks := true }, kinds := [], alts := [], laidByText := true, laidKinds := [.data, .data, .data, .data, .sentinel, .sentinel, .pinned], laidTests := true, laidLooks := .later }
def ParseFirstCardSaid : Prop := Claim7.holds Tryz.pinned (.plain (OpenSpec.ofChange parseFirstSpec)) parseFirstCard

/-- THE SECOND FORM's CARD OF 'marquetrylaw06.ParseReads'. -/
def parseReadsUptoCard : Claim7 := { stood := { row := parseReadsUptoRow, standIns := [], harness := (true, "c0f2a01a9884047316f2da804e417d30ea7a87c9bfaee197445438cd177b8a99"), looks := true }, kinds := [], alts := [], laidByText := true, laidKinds := [.data, .data, .data, .data, .sentinel, .sentinel, .pinned], laidTests := true, laidLooks := .later }
def ParseReadsUptoCardSaid : Prop := Claim7.holds Tryz.pinned (.plain (OpenSpec.upto parseReadsSpec)) parseReadsUptoCard

/-- THE SECOND FORM's CARD OF 'marquetrylaw06.ParseCounts'. -/
def parseCountsUptoCard : Claim7 := { stood := { row := parseCountsUptoRow, standIns := [], harness := (true, "c0f2a01a9884047316f2da804e417d30ea7a87c9bfaee197445438cd177b8a99"), looks := true }, kinds := [], alts := [], laidByText := true, laidKinds := [.data, .data, .data, .data, .sentinel, .sentinel, .pinned], laidTests := true, laidLooks := .later }
def ParseCountsUptoCardSaid : Prop := Claim7.holds Tryz.pinned (.plain (OpenSpec.upto parseCountsSpec)) parseCountsUptoCard

/-- THE SECOND FORM's CARD OF 'marquetrylaw06.ParseBlanks'. -/
def parseBlanksUptoCard : Claim7 := { stood := { row := parseBlanksUptoRow, standIns := [], harness := (true, "c0f2a01a9884047316f2da804e417d30ea7a87c9bfaee197445438cd177b8a99"), looks := true }, kinds := [], alts := [], laidByText := true, laidKinds := [.data, .data, .data, .data, .sentinel, .sentinel, .pinned], laidTests := true, laidLooks := .later }
def ParseBlanksUptoCardSaid : Prop := Claim7.holds Tryz.pinned (.plain (OpenSpec.upto parseBlanksSpec)) parseBlanksUptoCard

/-- THE SECOND FORM's CARD OF 'marquetrylaw06.ParseBrackets'. -/
def parseBracketsUptoCard : Claim7 := { stood := { row := parseBracketsUptoRow, standIns := [], harness := (true, "c0f2a01a9884047316f2da804e417d30ea7a87c9bfaee197445438cd177b8a99"), looks := true }, kinds := [], alts := [], laidByText := true, laidKinds := [.data, .data, .data, .data, .sentinel, .sentinel, .pinned], laidTests := true, laidLooks := .later }
def ParseBracketsUptoCardSaid : Prop := Claim7.holds Tryz.pinned (.plain (OpenSpec.upto parseBracketsSpec)) parseBracketsUptoCard

/-- THE SECOND FORM's CARD OF 'marquetrylaw06.ParseCuts'. -/
def parseCutsUptoCard : Claim7 := { stood := { row := parseCutsUptoRow, standIns := [], harness := (true, "c0f2a01a9884047316f2da804e417d30ea7a87c9bfaee197445438cd177b8a99"), looks := true }, kinds := [], alts := [], laidByText := true, laidKinds := [.data, .data, .data, .data, .sentinel, .sentinel, .pinned], laidTests := true, laidLooks := .later }
def ParseCutsUptoCardSaid : Prop := Claim7.holds Tryz.pinned (.plain (OpenSpec.upto parseCutsSpec)) parseCutsUptoCard

/-- THE SECOND FORM's CARD OF 'marquetrylaw06.ParsePlaces'. -/
def parsePlacesUptoCard : Claim7 := { stood := { row := parsePlacesUptoRow, standIns := [], harness := (true, "c0f2a01a9884047316f2da804e417d30ea7a87c9bfaee197445438cd177b8a99"), looks := true }, kinds := [], alts := [], laidByText := true, laidKinds := [.data, .data, .data, .data, .sentinel, .sentinel, .pinned], laidTests := true, laidLooks := .later }
def ParsePlacesUptoCardSaid : Prop := Claim7.holds Tryz.pinned (.plain (OpenSpec.upto parsePlacesSpec)) parsePlacesUptoCard

/-- THE SECOND FORM's CARD OF 'marquetrylaw06.ParseBinds'. -/
def parseBindsUptoCard : Claim7 := { stood := { row := parseBindsUptoRow, standIns := [], harness := (true, "c0f2a01a9884047316f2da804e417d30ea7a87c9bfaee197445438cd177b8a99"), looks := true }, kinds := [], alts := [], laidByText := true, laidKinds := [.data, .data, .data, .data, .sentinel, .sentinel, .pinned], laidTests := true, laidLooks := .later }
def ParseBindsUptoCardSaid : Prop := Claim7.holds Tryz.pinned (.plain (OpenSpec.upto parseBindsSpec)) parseBindsUptoCard

/-- THE SECOND FORM's CARD OF 'marquetrylaw06.ParseFirst'. -/
def parseFirstUptoCard : Claim7 := { stood := { row := parseFirstUptoRow, standIns := [], harness := (true, "c0f2a01a9884047316f2da804e417d30ea7a87c9bfaee197445438cd177b8a99"), looks := true }, kinds := [], alts := [], laidByText := true, laidKinds := [.data, .data, .data, .data, .sentinel, .sentinel, .pinned], laidTests := true, laidLooks := .later }
def ParseFirstUptoCardSaid : Prop := Claim7.holds Tryz.pinned (.plain (OpenSpec.upto parseFirstSpec)) parseFirstUptoCard
end Rows
end Go.Proofs.YtpjkfeehgookkaaGreatDoor
