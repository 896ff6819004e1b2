/-
  DERIVED. GIVEN WITH THE SEED: THE CARDS: each row of YtbeekiclmfcohaaDoorRows.lean that lists a variable, with what it lists TIED to the program's text (the seventh form; the later family's looks); each row that meets fmt, with fmt's text TOLD by the authors' own Lean function (tested against real Go, not proved from fmt's source: count such statements apart). THE CARD IS WHAT COUNTS. Prove the row's statement (the work); the ties are given (YtbeekiclmfcohaaDoorTie.lean); close each card by the builder's one call (the guide's Derived/Test/ToyasCard.lean, 'card_holds'). Laid BY PROGRAM, IN A SANDBOX (cutbox-door.mjs). By AI agents, Wed Nov 11 2026. No macro, syntax, notation, axiom, sorry.
-/
import Derived.Test.YtbeekiclmfcohaaDoorRows
import GoSem.ClaimSeven
namespace Go.Proofs.YtbeekiclmfcohaaDoor
namespace Rows

/-- THE TIED CARD OF 'marquetrylaw01.WordWraps'. -/
def wordWrapsCard : Claim7 := { stood := { row := wordWrapsRow, standIns := [], harness := (true, "9937f2a1f8d7b098cf3cdb6e28dca9999ad1a891bba6fb206fcef82e00d4b0a8"), looks := true }, kinds := [], alts := [], laidByText := true, laidKinds := [.data, .data, .data, .data, .sentinel, .sentinel, .pinned], laidTests := true, laidLooks := .later }
def WordWrapsCardSaid : Prop := Claim7.holds Tryd.pinned (.plain (OpenSpec.ofChange wordWrapsSpec)) wordWrapsCard

/-- THE TIED CARD OF 'marquetrylaw01.WordDoes'. -/
def wordDoesCard : Claim7 := { stood := { row := wordDoesRow, standIns := [], harness := (true, "9937f2a1f8d7b098cf3cdb6e28dca9999ad1a891bba6fb206fcef82e00d4b0a8"), looks := true }, kinds := [], alts := [], laidByText := true, laidKinds := [.data, .data, .data, .data, .sentinel, .sentinel, .pinned], laidTests := true, laidLooks := .later }
def WordDoesCardSaid : Prop := Claim7.holds Tryd.pinned (.plain (OpenSpec.ofChange wordDoesSpec)) wordDoesCard

/-- THE TIED CARD OF 'marquetrylaw01.WordTexts'. -/
def wordTextsCard : Claim7 := { stood := { row := wordTextsRow, standIns := [], harness := (true, "9937f2a1f8d7b098cf3cdb6e28dca9999ad1a891bba6fb206fcef82e00d4b0a8"), looks := true }, kinds := [], alts := [], laidByText := true, laidKinds := [.data, .data, .data, .data, .sentinel, .sentinel, .pinned], laidTests := true, laidLooks := .later }
def WordTextsCardSaid : Prop := Claim7.holds Tryd.pinned (.plain (OpenSpec.ofChange wordTextsSpec)) wordTextsCard

/-- THE TIED CARD OF 'marquetrylaw01.WordQuotes'. -/
def wordQuotesCard : Claim7 := { stood := { row := wordQuotesRow, standIns := [], harness := (true, "9937f2a1f8d7b098cf3cdb6e28dca9999ad1a891bba6fb206fcef82e00d4b0a8"), looks := true }, kinds := [], alts := [], laidByText := true, laidKinds := [.data, .data, .data, .data, .sentinel, .sentinel, .pinned], laidTests := true, laidLooks := .later }
def WordQuotesCardSaid : Prop := Claim7.holds Tryd.pinned (.plain (OpenSpec.ofChange wordQuotesSpec)) wordQuotesCard

/-- THE TIED CARD OF 'marquetrylaw01.WordBack'. -/
def wordBackCard : Claim7 := { stood := { row := wordBackRow, standIns := [], harness := (true, "9937f2a1f8d7b098cf3cdb6e28dca9999ad1a891bba6fb206fcef82e00d4b0a8"), looks := true }, kinds := [], alts := [], laidByText := true, laidKinds := [.data, .data, .data, .data, .sentinel, .sentinel, .pinned], laidTests := true, laidLooks := .later }
def WordBackCardSaid : Prop := Claim7.holds Tryd.pinned (.plain (OpenSpec.ofChange wordBackSpec)) wordBackCard

/-- THE TIED CARD OF 'marquetrylaw01.WordRing'. -/
def wordRingCard : Claim7 := { stood := { row := wordRingRow, standIns := [], harness := (true, "9937f2a1f8d7b098cf3cdb6e28dca9999ad1a891bba6fb206fcef82e00d4b0a8"), looks := true }, kinds := [], alts := [], laidByText := true, laidKinds := [.data, .data, .data, .data, .sentinel, .sentinel, .pinned], laidTests := true, laidLooks := .later }
def WordRingCardSaid : Prop := Claim7.holds Tryd.pinned (.plain (OpenSpec.ofChange wordRingSpec)) wordRingCard

/-- THE TIED CARD OF 'marquetrylaw01.WordDivides'. -/
def wordDividesCard : Claim7 := { stood := { row := wordDividesRow, standIns := [], harness := (true, "9937f2a1f8d7b098cf3cdb6e28dca9999ad1a891bba6fb206fcef82e00d4b0a8"), looks := true }, kinds := [], alts := [], laidByText := true, laidKinds := [.data, .data, .data, .data, .sentinel, .sentinel, .pinned], laidTests := true, laidLooks := .later }
def WordDividesCardSaid : Prop := Claim7.holds Tryd.pinned (.plain (OpenSpec.ofChange wordDividesSpec)) wordDividesCard

/-- THE SECOND FORM's CARD OF 'marquetrylaw01.WordWraps'. -/
def wordWrapsUptoCard : Claim7 := { stood := { row := wordWrapsUptoRow, standIns := [], harness := (true, "9937f2a1f8d7b098cf3cdb6e28dca9999ad1a891bba6fb206fcef82e00d4b0a8"), looks := true }, kinds := [], alts := [], laidByText := true, laidKinds := [.data, .data, .data, .data, .sentinel, .sentinel, .pinned], laidTests := true, laidLooks := .later }
def WordWrapsUptoCardSaid : Prop := Claim7.holds Tryd.pinned (.plain (OpenSpec.upto wordWrapsSpec)) wordWrapsUptoCard

/-- THE SECOND FORM's CARD OF 'marquetrylaw01.WordDoes'. -/
def wordDoesUptoCard : Claim7 := { stood := { row := wordDoesUptoRow, standIns := [], harness := (true, "9937f2a1f8d7b098cf3cdb6e28dca9999ad1a891bba6fb206fcef82e00d4b0a8"), looks := true }, kinds := [], alts := [], laidByText := true, laidKinds := [.data, .data, .data, .data, .sentinel, .sentinel, .pinned], laidTests := true, laidLooks := .later }
def WordDoesUptoCardSaid : Prop := Claim7.holds Tryd.pinned (.plain (OpenSpec.upto wordDoesSpec)) wordDoesUptoCard

/-- THE SECOND FORM's CARD OF 'marquetrylaw01.WordTexts'. -/
def wordTextsUptoCard : Claim7 := { stood := { row := wordTextsUptoRow, standIns := [], harness := (true, "9937f2a1f8d7b098cf3cdb6e28dca9999ad1a891bba6fb206fcef82e00d4b0a8"), looks := true }, kinds := [], alts := [], laidByText := true, laidKinds := [.data, .data, .data, .data, .sentinel, .sentinel, .pinned], laidTests := true, laidLooks := .later }
def WordTextsUptoCardSaid : Prop := Claim7.holds Tryd.pinned (.plain (OpenSpec.upto wordTextsSpec)) wordTextsUptoCard

/-- THE SECOND FORM's CARD OF 'marquetrylaw01.WordQuotes'. -/
def wordQuotesUptoCard : Claim7 := { stood := { row := wordQuotesUptoRow, standIns := [], harness := (true, "9937f2a1f8d7b098cf3cdb6e28dca9999ad1a891bba6fb206fcef82e00d4b0a8"), looks := true }, kinds := [], alts := [], laidByText := true, laidKinds := [.data, .data, .data, .data, .sentinel, .sentinel, .pinned], laidTests := true, laidLooks := .later }
def WordQuotesUptoCardSaid : Prop := Claim7.holds Tryd.pinned (.plain (OpenSpec.upto wordQuotesSpec)) wordQuotesUptoCard

/-- THE SECOND FORM's CARD OF 'marquetrylaw01.WordBack'. -/
def wordBackUptoCard : Claim7 := { stood := { row := wordBackUptoRow, standIns := [], harness := (true, "9937f2a1f8d7b098cf3cdb6e28dca9999ad1a891bba6fb206fcef82e00d4b0a8"), looks := true }, kinds := [], alts := [], laidByText := true, laidKinds := [.data, .data, .data, .data, .sentinel, .sentinel, .pinned], laidTests := true, laidLooks := .later }
def WordBackUptoCardSaid : Prop := Claim7.holds Tryd.pinned (.plain (OpenSpec.upto wordBackSpec)) wordBackUptoCard

/-- THE SECOND FORM's CARD OF 'marquetrylaw01.WordRing'. -/
def wordRingUptoCard : Claim7 := { stood := { row := wordRingUptoRow, standIns := [], harness := (true, "9937f2a1f8d7b098cf3cdb6e28dca9999ad1a891bba6fb206fcef82e00d4b0a8"), looks := true }, kinds := [], alts := [], laidByText := true, laidKinds := [.data, .data, .data, .data, .sentinel, .sentinel, .pinned], laidTests := true, laidLooks := .later }
def WordRingUptoCardSaid : Prop := Claim7.holds Tryd.pinned (.plain (OpenSpec.upto wordRingSpec)) wordRingUptoCard

/-- THE SECOND FORM's CARD OF 'marquetrylaw01.WordDivides'. -/
def wordDividesUptoCard : Claim7 := { stood := { row := wordDividesUptoRow, standIns := [], harness := (true, "9937f2a1f8d7b098cf3cdb6e28dca9999ad1a891bba6fb206fcef82e00d4b0a8"), looks := true }, kinds := [], alts := [], laidByText := true, laidKinds := [.data, .data, .data, .data, .sentinel, .sentinel, .pinned], laidTests := true, laidLooks := .later }
def WordDividesUptoCardSaid : Prop := Claim7.holds Tryd.pinned (.plain (OpenSpec.upto wordDividesSpec)) wordDividesUptoCard
end Rows
end Go.Proofs.YtbeekiclmfcohaaDoor
