/-
  DERIVED. GIVEN WITH THE SEED: THE CARDS: each row of YtmhdcgmfbjcndaaGreatDoorRows.lean that lists a variable, with what it lists TIED to the program's text (the seventh form; the later family's looks); each row that meets fmt, with fmt's text TOLD by the authors' own Lean function (tested against real Go, not proved from fmt's source: count such statements apart). THE CARD IS WHAT COUNTS. Prove the row's statement (the work); the ties are given (YtmhdcgmfbjcndaaGreatDoorTie.lean); close each card by the builder's one call (the guide's Derived/Test/ToyasCard.lean, 'card_holds'). Laid BY PROGRAM, IN A SANDBOX (cutbox-door.mjs). By AI agents, Wed Nov 11 2026. No macro, syntax, notation, axiom, sorry.
-/
import Derived.Test.YtmhdcgmfbjcndaaGreatDoorRows
import GoSem.ClaimSeven
namespace Go.Proofs.YtmhdcgmfbjcndaaGreatDoor
namespace Rows

/-- THE TIED CARD OF 'joisttop.TopUndone'. -/
def topUndoneCard : Claim7 := { stood := { row := topUndoneRow, standIns := [], harness := (true, "667338ca3d95f80cb10eee98e02d222e0818290f34a67ecfce58fc9101eb9652"), looks := false }, kinds := [], alts := [], laidByText := true, laidKinds := [.data, .pinned], laidTests := true, laidLooks := .later }
def TopUndoneCardSaid : Prop := Claim7.holds Tryz.pinned (.plain (OpenSpec.ofChange topUndoneSpec)) topUndoneCard

/-- THE TIED CARD OF 'joisttop.TopBytes'. -/
def topBytesCard : Claim7 := { stood := { row := topBytesRow, standIns := [], harness := (true, "667338ca3d95f80cb10eee98e02d222e0818290f34a67ecfce58fc9101eb9652"), looks := false }, kinds := [], alts := [], laidByText := true, laidKinds := [.data, .pinned], laidTests := true, laidLooks := .later }
def TopBytesCardSaid : Prop := Claim7.holds Tryz.pinned (.plain (OpenSpec.ofChange topBytesSpec)) topBytesCard

/-- THE SECOND FORM's CARD OF 'joisttop.TopUndone'. -/
def topUndoneUptoCard : Claim7 := { stood := { row := topUndoneUptoRow, standIns := [], harness := (true, "667338ca3d95f80cb10eee98e02d222e0818290f34a67ecfce58fc9101eb9652"), looks := false }, kinds := [], alts := [], laidByText := true, laidKinds := [.data, .pinned], laidTests := true, laidLooks := .later }
def TopUndoneUptoCardSaid : Prop := Claim7.holds Tryz.pinned (.plain (OpenSpec.upto topUndoneSpec)) topUndoneUptoCard

/-- THE SECOND FORM's CARD OF 'joisttop.TopBytes'. -/
def topBytesUptoCard : Claim7 := { stood := { row := topBytesUptoRow, standIns := [], harness := (true, "667338ca3d95f80cb10eee98e02d222e0818290f34a67ecfce58fc9101eb9652"), looks := false }, kinds := [], alts := [], laidByText := true, laidKinds := [.data, .pinned], laidTests := true, laidLooks := .later }
def TopBytesUptoCardSaid : Prop := Claim7.holds Tryz.pinned (.plain (OpenSpec.upto topBytesSpec)) topBytesUptoCard
end Rows
end Go.Proofs.YtmhdcgmfbjcndaaGreatDoor
