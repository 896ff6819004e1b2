/-
  DERIVED. GIVEN WITH THE SEED: THE CARDS: each row of YtlafbbnikgcdlaaGreatDoorRows.lean that lists a variable, with what it lists TIED to the program's text (the seventh form; the later family's looks); each row that meets fmt, with fmt's text TOLD by the authors' own Lean function (tested against real Go, not proved from fmt's source: count such statements apart). THE CARD IS WHAT COUNTS. Prove the row's statement (the work); the ties are given (YtlafbbnikgcdlaaGreatDoorTie.lean); close each card by the builder's one call (the guide's Derived/Test/ToyasCard.lean, 'card_holds'). Laid BY PROGRAM, IN A SANDBOX (cutbox-door.mjs). By AI agents, Wed Nov 11 2026. No macro, syntax, notation, axiom, sorry.
-/
import Derived.Test.YtlafbbnikgcdlaaGreatDoorRows
import GoSem.ClaimSeven
namespace Go.Proofs.YtlafbbnikgcdlaaGreatDoor
namespace Rows

/-- THE TIED CARD OF 'marquetrylaw08.ResolveFits'. -/
def resolveFitsCard : Claim7 := { stood := { row := resolveFitsRow, standIns := [], harness := (true, "cf422a072ba31839dca0c462cbef0cea8ee32183fa15fd0dafc9a3d3e19656ef"), looks := true }, kinds := [], alts := [], laidByText := true, laidKinds := [.data, .data, .data, .data, .sentinel, .sentinel, .pinned], laidTests := true, laidLooks := .later }
def ResolveFitsCardSaid : Prop := Claim7.holds Tryz.pinned (.plain (OpenSpec.ofChange resolveFitsSpec)) resolveFitsCard

/-- THE TIED CARD OF 'marquetrylaw08.ResolveShort'. -/
def resolveShortCard : Claim7 := { stood := { row := resolveShortRow, standIns := [], harness := (true, "cf422a072ba31839dca0c462cbef0cea8ee32183fa15fd0dafc9a3d3e19656ef"), looks := true }, kinds := [], alts := [], laidByText := true, laidKinds := [.data, .data, .data, .data, .sentinel, .sentinel, .pinned], laidTests := true, laidLooks := .later }
def ResolveShortCardSaid : Prop := Claim7.holds Tryz.pinned (.plain (OpenSpec.ofChange resolveShortSpec)) resolveShortCard

/-- THE TIED CARD OF 'marquetrylaw08.ResolveBound'. -/
def resolveBoundCard : Claim7 := { stood := { row := resolveBoundRow, standIns := [], harness := (true, "cf422a072ba31839dca0c462cbef0cea8ee32183fa15fd0dafc9a3d3e19656ef"), looks := true }, kinds := [], alts := [], laidByText := true, laidKinds := [.data, .data, .data, .data, .sentinel, .sentinel, .pinned], laidTests := true, laidLooks := .later }
def ResolveBoundCardSaid : Prop := Claim7.holds Tryz.pinned (.plain (OpenSpec.ofChange resolveBoundSpec)) resolveBoundCard

/-- THE TIED CARD OF 'marquetrylaw08.ResolveShift'. -/
def resolveShiftCard : Claim7 := { stood := { row := resolveShiftRow, standIns := [], harness := (true, "cf422a072ba31839dca0c462cbef0cea8ee32183fa15fd0dafc9a3d3e19656ef"), looks := true }, kinds := [], alts := [], laidByText := true, laidKinds := [.data, .data, .data, .data, .sentinel, .sentinel, .pinned], laidTests := true, laidLooks := .later }
def ResolveShiftCardSaid : Prop := Claim7.holds Tryz.pinned (.plain (OpenSpec.ofChange resolveShiftSpec)) resolveShiftCard

/-- THE SECOND FORM's CARD OF 'marquetrylaw08.ResolveFits'. -/
def resolveFitsUptoCard : Claim7 := { stood := { row := resolveFitsUptoRow, standIns := [], harness := (true, "cf422a072ba31839dca0c462cbef0cea8ee32183fa15fd0dafc9a3d3e19656ef"), looks := true }, kinds := [], alts := [], laidByText := true, laidKinds := [.data, .data, .data, .data, .sentinel, .sentinel, .pinned], laidTests := true, laidLooks := .later }
def ResolveFitsUptoCardSaid : Prop := Claim7.holds Tryz.pinned (.plain (OpenSpec.upto resolveFitsSpec)) resolveFitsUptoCard

/-- THE SECOND FORM's CARD OF 'marquetrylaw08.ResolveShort'. -/
def resolveShortUptoCard : Claim7 := { stood := { row := resolveShortUptoRow, standIns := [], harness := (true, "cf422a072ba31839dca0c462cbef0cea8ee32183fa15fd0dafc9a3d3e19656ef"), looks := true }, kinds := [], alts := [], laidByText := true, laidKinds := [.data, .data, .data, .data, .sentinel, .sentinel, .pinned], laidTests := true, laidLooks := .later }
def ResolveShortUptoCardSaid : Prop := Claim7.holds Tryz.pinned (.plain (OpenSpec.upto resolveShortSpec)) resolveShortUptoCard

/-- THE SECOND FORM's CARD OF 'marquetrylaw08.ResolveBound'. -/
def resolveBoundUptoCard : Claim7 := { stood := { row := resolveBoundUptoRow, standIns := [], harness := (true, "cf422a072ba31839dca0c462cbef0cea8ee32183fa15fd0dafc9a3d3e19656ef"), looks := true }, kinds := [], alts := [], laidByText := true, laidKinds := [.data, .data, .data, .data, .sentinel, .sentinel, .pinned], laidTests := true, laidLooks := .later }
def ResolveBoundUptoCardSaid : Prop := Claim7.holds Tryz.pinned (.plain (OpenSpec.upto resolveBoundSpec)) resolveBoundUptoCard

/-- THE SECOND FORM's CARD OF 'marquetrylaw08.ResolveShift'. -/
def resolveShiftUptoCard : Claim7 := { stood := { row := resolveShiftUptoRow, standIns := [], harness := (true, "cf422a072ba31839dca0c462cbef0cea8ee32183fa15fd0dafc9a3d3e19656ef"), looks := true }, kinds := [], alts := [], laidByText := true, laidKinds := [.data, .data, .data, .data, .sentinel, .sentinel, .pinned], laidTests := true, laidLooks := .later }
def ResolveShiftUptoCardSaid : Prop := Claim7.holds Tryz.pinned (.plain (OpenSpec.upto resolveShiftSpec)) resolveShiftUptoCard
end Rows
end Go.Proofs.YtlafbbnikgcdlaaGreatDoor
