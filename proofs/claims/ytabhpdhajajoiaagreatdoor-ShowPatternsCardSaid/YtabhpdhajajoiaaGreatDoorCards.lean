/-
  DERIVED. GIVEN WITH THE SEED: THE CARDS: each row of YtabhpdhajajoiaaGreatDoorRows.lean that lists a variable, with what it lists TIED to the program's text (the seventh form; the later family's looks); each row that meets fmt, with fmt's text TOLD by the authors' own Lean function (tested against real Go, not proved from fmt's source: count such statements apart). THE CARD IS WHAT COUNTS. Prove the row's statement (the work); the ties are given (YtabhpdhajajoiaaGreatDoorTie.lean); close each card by the builder's one call (the guide's Derived/Test/ToyasCard.lean, 'card_holds'). Laid BY PROGRAM, IN A SANDBOX (cutbox-door.mjs). By AI agents, Wed Nov 11 2026. No macro, syntax, notation, axiom, sorry.
-/
import Derived.Test.YtabhpdhajajoiaaGreatDoorRows
import GoSem.ClaimSeven
namespace Go.Proofs.YtabhpdhajajoiaaGreatDoor
namespace Rows

/-- THE TIED CARD OF 'marquetrylaw07.ShowPatterns'. -/
def showPatternsCard : Claim7 := { stood := { row := showPatternsRow, standIns := [], harness := (true, "65238daf85657fa86060b8b0ccded22ae28d90c765749392330dcff963b09f1e"), looks := true }, kinds := [], alts := [], laidByText := true, laidKinds := [.data, .data, .data, .data, .sentinel, .sentinel, .pinned], laidTests := true, laidLooks := .later }
def ShowPatternsCardSaid : Prop := Claim7.holds Tryz.pinned (.plain (OpenSpec.ofChange showPatternsSpec)) showPatternsCard

/-- THE TIED CARD OF 'marquetrylaw07.ShowBack'. -/
def showBackCard : Claim7 := { stood := { row := showBackRow, standIns := [], harness := (true, "65238daf85657fa86060b8b0ccded22ae28d90c765749392330dcff963b09f1e"), looks := true }, kinds := [], alts := [], laidByText := true, laidKinds := [.data, .data, .data, .data, .sentinel, .sentinel, .pinned], laidTests := true, laidLooks := .later }
def ShowBackCardSaid : Prop := Claim7.holds Tryz.pinned (.plain (OpenSpec.ofChange showBackSpec)) showBackCard

/-- THE TIED CARD OF 'marquetrylaw07.ShowReads'. -/
def showReadsCard : Claim7 := { stood := { row := showReadsRow, standIns := [], harness := (true, "65238daf85657fa86060b8b0ccded22ae28d90c765749392330dcff963b09f1e"), looks := true }, kinds := [], alts := [], laidByText := true, laidKinds := [.data, .data, .data, .data, .sentinel, .sentinel, .pinned], laidTests := true, laidLooks := .later }
def ShowReadsCardSaid : Prop := Claim7.holds Tryz.pinned (.plain (OpenSpec.ofChange showReadsSpec)) showReadsCard

/-- THE TIED CARD OF 'marquetrylaw07.ShowApart'. -/
def showApartCard : Claim7 := { stood := { row := showApartRow, standIns := [], harness := (true, "65238daf85657fa86060b8b0ccded22ae28d90c765749392330dcff963b09f1e"), looks := true }, kinds := [], alts := [], laidByText := true, laidKinds := [.data, .data, .data, .data, .sentinel, .sentinel, .pinned], laidTests := true, laidLooks := .later }
def ShowApartCardSaid : Prop := Claim7.holds Tryz.pinned (.plain (OpenSpec.ofChange showApartSpec)) showApartCard

/-- THE TIED CARD OF 'marquetrylaw07.ShowCases'. -/
def showCasesCard : Claim7 := { stood := { row := showCasesRow, standIns := [], harness := (true, "65238daf85657fa86060b8b0ccded22ae28d90c765749392330dcff963b09f1e"), looks := true }, kinds := [], alts := [], laidByText := true, laidKinds := [.data, .data, .data, .data, .sentinel, .sentinel, .pinned], laidTests := true, laidLooks := .later }
def ShowCasesCardSaid : Prop := Claim7.holds Tryz.pinned (.plain (OpenSpec.ofChange showCasesSpec)) showCasesCard

/-- THE TIED CARD OF 'marquetrylaw08.ResolveFits'. -/
def resolveFitsCard : Claim7 := { stood := { row := resolveFitsRow, standIns := [], harness := (true, "65238daf85657fa86060b8b0ccded22ae28d90c765749392330dcff963b09f1e"), looks := true }, kinds := [], alts := [], laidByText := true, laidKinds := [.data, .data, .data, .data, .sentinel, .sentinel, .pinned], laidTests := true, laidLooks := .later }
def ResolveFitsCardSaid : Prop := Claim7.holds Tryz.pinned (.plain (OpenSpec.ofChange resolveFitsSpec)) resolveFitsCard

/-- THE TIED CARD OF 'marquetrylaw08.ResolveShort'. -/
def resolveShortCard : Claim7 := { stood := { row := resolveShortRow, standIns := [], harness := (true, "65238daf85657fa86060b8b0ccded22ae28d90c765749392330dcff963b09f1e"), looks := true }, kinds := [], alts := [], laidByText := true, laidKinds := [.data, .data, .data, .data, .sentinel, .sentinel, .pinned], laidTests := true, laidLooks := .later }
def ResolveShortCardSaid : Prop := Claim7.holds Tryz.pinned (.plain (OpenSpec.ofChange resolveShortSpec)) resolveShortCard

/-- THE TIED CARD OF 'marquetrylaw08.ResolveBound'. -/
def resolveBoundCard : Claim7 := { stood := { row := resolveBoundRow, standIns := [], harness := (true, "65238daf85657fa86060b8b0ccded22ae28d90c765749392330dcff963b09f1e"), looks := true }, kinds := [], alts := [], laidByText := true, laidKinds := [.data, .data, .data, .data, .sentinel, .sentinel, .pinned], laidTests := true, laidLooks := .later }
def ResolveBoundCardSaid : Prop := Claim7.holds Tryz.pinned (.plain (OpenSpec.ofChange resolveBoundSpec)) resolveBoundCard

/-- THE TIED CARD OF 'marquetrylaw08.ResolveShift'. -/
def resolveShiftCard : Claim7 := { stood := { row := resolveShiftRow, standIns := [], harness := (true, "65238daf85657fa86060b8b0ccded22ae28d90c765749392330dcff963b09f1e"), looks := true }, kinds := [], alts := [], laidByText := true, laidKinds := [.data, .data, .data, .data, .sentinel, .sentinel, .pinned], laidTests := true, laidLooks := .later }
def ResolveShiftCardSaid : Prop := Claim7.holds Tryz.pinned (.plain (OpenSpec.ofChange resolveShiftSpec)) resolveShiftCard

/-- THE SECOND FORM's CARD OF 'marquetrylaw07.ShowPatterns'. -/
def showPatternsUptoCard : Claim7 := { stood := { row := showPatternsUptoRow, standIns := [], harness := (true, "65238daf85657fa86060b8b0ccded22ae28d90c765749392330dcff963b09f1e"), looks := true }, kinds := [], alts := [], laidByText := true, laidKinds := [.data, .data, .data, .data, .sentinel, .sentinel, .pinned], laidTests := true, laidLooks := .later }
def ShowPatternsUptoCardSaid : Prop := Claim7.holds Tryz.pinned (.plain (OpenSpec.upto showPatternsSpec)) showPatternsUptoCard

/-- THE SECOND FORM's CARD OF 'marquetrylaw07.ShowBack'. -/
def showBackUptoCard : Claim7 := { stood := { row := showBackUptoRow, standIns := [], harness := (true, "65238daf85657fa86060b8b0ccded22ae28d90c765749392330dcff963b09f1e"), looks := true }, kinds := [], alts := [], laidByText := true, laidKinds := [.data, .data, .data, .data, .sentinel, .sentinel, .pinned], laidTests := true, laidLooks := .later }
def ShowBackUptoCardSaid : Prop := Claim7.holds Tryz.pinned (.plain (OpenSpec.upto showBackSpec)) showBackUptoCard

/-- THE SECOND FORM's CARD OF 'marquetrylaw07.ShowReads'. -/
def showReadsUptoCard : Claim7 := { stood := { row := showReadsUptoRow, standIns := [], harness := (true, "65238daf85657fa86060b8b0ccded22ae28d90c765749392330dcff963b09f1e"), looks := true }, kinds := [], alts := [], laidByText := true, laidKinds := [.data, .data, .data, .data, .sentinel, .sentinel, .pinned], laidTests := true, laidLooks := .later }
def ShowReadsUptoCardSaid : Prop := Claim7.holds Tryz.pinned (.plain (OpenSpec.upto showReadsSpec)) showReadsUptoCard

/-- THE SECOND FORM's CARD OF 'marquetrylaw07.ShowApart'. -/
def showApartUptoCard : Claim7 := { stood := { row := showApartUptoRow, standIns := [], harness := (true, "65238daf85657fa86060b8b0ccded22ae28d90c765749392330dcff963b09f1e"), looks := true }, kinds := [], alts := [], laidByText := true, laidKinds := [.data, .data, .data, .data, .sentinel, .sentinel, .pinned], laidTests := true, laidLooks := .later }
def ShowApartUptoCardSaid : Prop := Claim7.holds Tryz.pinned (.plain (OpenSpec.upto showApartSpec)) showApartUptoCard

/-- THE SECOND FORM's CARD OF 'marquetrylaw07.ShowCases'. -/
def showCasesUptoCard : Claim7 := { stood := { row := showCasesUptoRow, standIns := [], harness := (true, "65238daf85657fa86060b8b0ccded22ae28d90c765749392330dcff963b09f1e"), looks := true }, kinds := [], alts := [], laidByText := true, laidKinds := [.data, .data, .data, .data, .sentinel, .sentinel, .pinned], laidTests := true, laidLooks := .later }
def ShowCasesUptoCardSaid : Prop := Claim7.holds Tryz.pinned (.plain (OpenSpec.upto showCasesSpec)) showCasesUptoCard

/-- THE SECOND FORM's CARD OF 'marquetrylaw08.ResolveFits'. -/
def resolveFitsUptoCard : Claim7 := { stood := { row := resolveFitsUptoRow, standIns := [], harness := (true, "65238daf85657fa86060b8b0ccded22ae28d90c765749392330dcff963b09f1e"), looks := true }, kinds := [], alts := [], laidByText := true, laidKinds := [.data, .data, .data, .data, .sentinel, .sentinel, .pinned], laidTests := true, laidLooks := .later }
def ResolveFitsUptoCardSaid : Prop := Claim7.holds Tryz.pinned (.plain (OpenSpec.upto resolveFitsSpec)) resolveFitsUptoCard

/-- THE SECOND FORM's CARD OF 'marquetrylaw08.ResolveShort'. -/
def resolveShortUptoCard : Claim7 := { stood := { row := resolveShortUptoRow, standIns := [], harness := (true, "65238daf85657fa86060b8b0ccded22ae28d90c765749392330dcff963b09f1e"), looks := true }, kinds := [], alts := [], laidByText := true, laidKinds := [.data, .data, .data, .data, .sentinel, .sentinel, .pinned], laidTests := true, laidLooks := .later }
def ResolveShortUptoCardSaid : Prop := Claim7.holds Tryz.pinned (.plain (OpenSpec.upto resolveShortSpec)) resolveShortUptoCard

/-- THE SECOND FORM's CARD OF 'marquetrylaw08.ResolveBound'. -/
def resolveBoundUptoCard : Claim7 := { stood := { row := resolveBoundUptoRow, standIns := [], harness := (true, "65238daf85657fa86060b8b0ccded22ae28d90c765749392330dcff963b09f1e"), looks := true }, kinds := [], alts := [], laidByText := true, laidKinds := [.data, .data, .data, .data, .sentinel, .sentinel, .pinned], laidTests := true, laidLooks := .later }
def ResolveBoundUptoCardSaid : Prop := Claim7.holds Tryz.pinned (.plain (OpenSpec.upto resolveBoundSpec)) resolveBoundUptoCard

/-- THE SECOND FORM's CARD OF 'marquetrylaw08.ResolveShift'. -/
def resolveShiftUptoCard : Claim7 := { stood := { row := resolveShiftUptoRow, standIns := [], harness := (true, "65238daf85657fa86060b8b0ccded22ae28d90c765749392330dcff963b09f1e"), looks := true }, kinds := [], alts := [], laidByText := true, laidKinds := [.data, .data, .data, .data, .sentinel, .sentinel, .pinned], laidTests := true, laidLooks := .later }
def ResolveShiftUptoCardSaid : Prop := Claim7.holds Tryz.pinned (.plain (OpenSpec.upto resolveShiftSpec)) resolveShiftUptoCard
end Rows
end Go.Proofs.YtabhpdhajajoiaaGreatDoor
