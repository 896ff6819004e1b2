/-
  DERIVED. GIVEN WITH THE SEED: THE CARDS: each row of YtoimdiballicnaaGreatDoorRows.lean that lists a variable, with what it lists TIED to the program's text (the seventh form; the later family's looks); each row that meets fmt, with fmt's text TOLD by the authors' own Lean function (tested against real Go, not proved from fmt's source: count such statements apart). THE CARD IS WHAT COUNTS. Prove the row's statement (the work); the ties are given (YtoimdiballicnaaGreatDoorTie.lean); close each card by the builder's one call (the guide's Derived/Test/ToyasCard.lean, 'card_holds'). Laid BY PROGRAM, IN A SANDBOX (cutbox-door.mjs). By AI agents, Wed Nov 11 2026. No macro, syntax, notation, axiom, sorry.
-/
import Derived.Test.YtoimdiballicnaaGreatDoorRows
import GoSem.ClaimSeven
namespace Go.Proofs.YtoimdiballicnaaGreatDoor
namespace Rows

/-- THE TIED CARD OF 'marquetrylaw10.RowSame'. -/
def rowSameCard : Claim7 := { stood := { row := rowSameRow, standIns := [], harness := (true, "e13aeb14557e4f09cc0f92c9c3dbc8cd55460f9cbfb2b15c185e88f361e90004"), looks := false }, kinds := [], alts := [], laidByText := true, laidKinds := [.data, .data, .data], laidTests := true, laidLooks := .later }
def RowSameCardSaid : Prop := Claim7.holds Tryz.pinned (.plain (OpenSpec.ofChange rowSameSpec)) rowSameCard

/-- THE TIED CARD OF 'marquetrylaw10.RowOrder'. -/
def rowOrderCard : Claim7 := { stood := { row := rowOrderRow, standIns := [], harness := (true, "e13aeb14557e4f09cc0f92c9c3dbc8cd55460f9cbfb2b15c185e88f361e90004"), looks := false }, kinds := [], alts := [], laidByText := true, laidKinds := [.data, .data, .data], laidTests := true, laidLooks := .later }
def RowOrderCardSaid : Prop := Claim7.holds Tryz.pinned (.plain (OpenSpec.ofChange rowOrderSpec)) rowOrderCard

/-- THE TIED CARD OF 'marquetrylaw10.RowNames'. -/
def rowNamesCard : Claim7 := { stood := { row := rowNamesRow, standIns := [], harness := (true, "e13aeb14557e4f09cc0f92c9c3dbc8cd55460f9cbfb2b15c185e88f361e90004"), looks := false }, kinds := [], alts := [], laidByText := true, laidKinds := [.data, .data, .data], laidTests := true, laidLooks := .later }
def RowNamesCardSaid : Prop := Claim7.holds Tryz.pinned (.plain (OpenSpec.ofChange rowNamesSpec)) rowNamesCard

/-- THE TIED CARD OF 'marquetrylaw10.RowTwice'. -/
def rowTwiceCard : Claim7 := { stood := { row := rowTwiceRow, standIns := [], harness := (true, "e13aeb14557e4f09cc0f92c9c3dbc8cd55460f9cbfb2b15c185e88f361e90004"), looks := false }, kinds := [], alts := [], laidByText := true, laidKinds := [.data, .data, .data], laidTests := true, laidLooks := .later }
def RowTwiceCardSaid : Prop := Claim7.holds Tryz.pinned (.plain (OpenSpec.ofChange rowTwiceSpec)) rowTwiceCard

/-- THE TIED CARD OF 'marquetrylaw10.RowParts'. -/
def rowPartsCard : Claim7 := { stood := { row := rowPartsRow, standIns := [], harness := (true, "e13aeb14557e4f09cc0f92c9c3dbc8cd55460f9cbfb2b15c185e88f361e90004"), looks := false }, kinds := [], alts := [], laidByText := true, laidKinds := [.data, .data, .data], laidTests := true, laidLooks := .later }
def RowPartsCardSaid : Prop := Claim7.holds Tryz.pinned (.plain (OpenSpec.ofChange rowPartsSpec)) rowPartsCard

/-- THE SECOND FORM's CARD OF 'marquetrylaw10.RowSame'. -/
def rowSameUptoCard : Claim7 := { stood := { row := rowSameUptoRow, standIns := [], harness := (true, "e13aeb14557e4f09cc0f92c9c3dbc8cd55460f9cbfb2b15c185e88f361e90004"), looks := false }, kinds := [], alts := [], laidByText := true, laidKinds := [.data, .data, .data], laidTests := true, laidLooks := .later }
def RowSameUptoCardSaid : Prop := Claim7.holds Tryz.pinned (.plain (OpenSpec.upto rowSameSpec)) rowSameUptoCard

/-- THE SECOND FORM's CARD OF 'marquetrylaw10.RowOrder'. -/
def rowOrderUptoCard : Claim7 := { stood := { row := rowOrderUptoRow, standIns := [], harness := (true, "e13aeb14557e4f09cc0f92c9c3dbc8cd55460f9cbfb2b15c185e88f361e90004"), looks := false }, kinds := [], alts := [], laidByText := true, laidKinds := [.data, .data, .data], laidTests := true, laidLooks := .later }
def RowOrderUptoCardSaid : Prop := Claim7.holds Tryz.pinned (.plain (OpenSpec.upto rowOrderSpec)) rowOrderUptoCard

/-- THE SECOND FORM's CARD OF 'marquetrylaw10.RowNames'. -/
def rowNamesUptoCard : Claim7 := { stood := { row := rowNamesUptoRow, standIns := [], harness := (true, "e13aeb14557e4f09cc0f92c9c3dbc8cd55460f9cbfb2b15c185e88f361e90004"), looks := false }, kinds := [], alts := [], laidByText := true, laidKinds := [.data, .data, .data], laidTests := true, laidLooks := .later }
def RowNamesUptoCardSaid : Prop := Claim7.holds Tryz.pinned (.plain (OpenSpec.upto rowNamesSpec)) rowNamesUptoCard

/-- THE SECOND FORM's CARD OF 'marquetrylaw10.RowTwice'. -/
def rowTwiceUptoCard : Claim7 := { stood := { row := rowTwiceUptoRow, standIns := [], harness := (true, "e13aeb14557e4f09cc0f92c9c3dbc8cd55460f9cbfb2b15c185e88f361e90004"), looks := false }, kinds := [], alts := [], laidByText := true, laidKinds := [.data, .data, .data], laidTests := true, laidLooks := .later }
def RowTwiceUptoCardSaid : Prop := Claim7.holds Tryz.pinned (.plain (OpenSpec.upto rowTwiceSpec)) rowTwiceUptoCard

/-- THE SECOND FORM's CARD OF 'marquetrylaw10.RowParts'. -/
def rowPartsUptoCard : Claim7 := { stood := { row := rowPartsUptoRow, standIns := [], harness := (true, "e13aeb14557e4f09cc0f92c9c3dbc8cd55460f9cbfb2b15c185e88f361e90004"), looks := false }, kinds := [], alts := [], laidByText := true, laidKinds := [.data, .data, .data], laidTests := true, laidLooks := .later }
def RowPartsUptoCardSaid : Prop := Claim7.holds Tryz.pinned (.plain (OpenSpec.upto rowPartsSpec)) rowPartsUptoCard
end Rows
end Go.Proofs.YtoimdiballicnaaGreatDoor
