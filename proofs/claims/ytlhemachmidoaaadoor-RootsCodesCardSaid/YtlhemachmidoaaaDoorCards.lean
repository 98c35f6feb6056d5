/-
  DERIVED. GIVEN WITH THE SEED: THE CARDS: each row of YtlhemachmidoaaaDoorRows.lean that lists a variable, with what it lists TIED to the program's text (the seventh form; the later family's looks); each row that meets fmt, with fmt's text TOLD by the authors' own Lean function (tested against real Go, not proved from fmt's source: count such statements apart). THE CARD IS WHAT COUNTS. Prove the row's statement (the work); the ties are given (YtlhemachmidoaaaDoorTie.lean); close each card by the builder's one call (the guide's Derived/Test/ToyasCard.lean, 'card_holds'). Laid BY PROGRAM, IN A SANDBOX (cutbox-door.mjs). By AI agents, Wed Nov 11 2026. No macro, syntax, notation, axiom, sorry.
-/
import Derived.Test.YtlhemachmidoaaaDoorRows
import GoSem.ClaimSeven
namespace Go.Proofs.YtlhemachmidoaaaDoor
namespace Rows

/-- THE TIED CARD OF 'joistlaw06.NamesTells'. -/
def namesTellsCard : Claim7 := { stood := { row := namesTellsRow, standIns := [], harness := (true, "a345635ca1be20e3796f2305c25c62edc588089e65b8170081c2a5009ac3f87a"), looks := false }, kinds := [], alts := [], laidByText := true, laidKinds := [.data, .pinned], laidTests := true, laidLooks := .later }
def NamesTellsCardSaid : Prop := Claim7.holds Tryd.pinned (.plain (OpenSpec.ofChange namesTellsSpec)) namesTellsCard

/-- THE TIED CARD OF 'joistlaw06.NamesCodes'. -/
def namesCodesCard : Claim7 := { stood := { row := namesCodesRow, standIns := [], harness := (true, "a345635ca1be20e3796f2305c25c62edc588089e65b8170081c2a5009ac3f87a"), looks := false }, kinds := [], alts := [], laidByText := true, laidKinds := [.data, .pinned], laidTests := true, laidLooks := .later }
def NamesCodesCardSaid : Prop := Claim7.holds Tryd.pinned (.plain (OpenSpec.ofChange namesCodesSpec)) namesCodesCard

/-- THE TIED CARD OF 'joistlaw06.NamesBack'. -/
def namesBackCard : Claim7 := { stood := { row := namesBackRow, standIns := [], harness := (true, "a345635ca1be20e3796f2305c25c62edc588089e65b8170081c2a5009ac3f87a"), looks := false }, kinds := [], alts := [], laidByText := true, laidKinds := [.data, .pinned], laidTests := true, laidLooks := .later }
def NamesBackCardSaid : Prop := Claim7.holds Tryd.pinned (.plain (OpenSpec.ofChange namesBackSpec)) namesBackCard

/-- THE TIED CARD OF 'joistlaw06.NamesFolds'. -/
def namesFoldsCard : Claim7 := { stood := { row := namesFoldsRow, standIns := [], harness := (true, "a345635ca1be20e3796f2305c25c62edc588089e65b8170081c2a5009ac3f87a"), looks := false }, kinds := [], alts := [], laidByText := true, laidKinds := [.data, .pinned], laidTests := true, laidLooks := .later }
def NamesFoldsCardSaid : Prop := Claim7.holds Tryd.pinned (.plain (OpenSpec.ofChange namesFoldsSpec)) namesFoldsCard

/-- THE TIED CARD OF 'joistlaw06.NamesLengths'. -/
def namesLengthsCard : Claim7 := { stood := { row := namesLengthsRow, standIns := [], harness := (true, "a345635ca1be20e3796f2305c25c62edc588089e65b8170081c2a5009ac3f87a"), looks := false }, kinds := [], alts := [], laidByText := true, laidKinds := [.data, .pinned], laidTests := true, laidLooks := .later }
def NamesLengthsCardSaid : Prop := Claim7.holds Tryd.pinned (.plain (OpenSpec.ofChange namesLengthsSpec)) namesLengthsCard

/-- THE TIED CARD OF 'joistlaw09.RootsCodes'. -/
def rootsCodesCard : Claim7 := { stood := { row := rootsCodesRow, standIns := [], harness := (true, "a345635ca1be20e3796f2305c25c62edc588089e65b8170081c2a5009ac3f87a"), looks := false }, kinds := [], alts := [], laidByText := true, laidKinds := [.data, .pinned], laidTests := true, laidLooks := .later }
def RootsCodesCardSaid : Prop := Claim7.holds Tryd.pinned (.plain (OpenSpec.ofChange rootsCodesSpec)) rootsCodesCard

/-- THE TIED CARD OF 'joistlaw09.RootsBack'. -/
def rootsBackCard : Claim7 := { stood := { row := rootsBackRow, standIns := [], harness := (true, "a345635ca1be20e3796f2305c25c62edc588089e65b8170081c2a5009ac3f87a"), looks := false }, kinds := [], alts := [], laidByText := true, laidKinds := [.data, .pinned], laidTests := true, laidLooks := .later }
def RootsBackCardSaid : Prop := Claim7.holds Tryd.pinned (.plain (OpenSpec.ofChange rootsBackSpec)) rootsBackCard

/-- THE SECOND FORM's CARD OF 'joistlaw06.NamesTells'. -/
def namesTellsUptoCard : Claim7 := { stood := { row := namesTellsUptoRow, standIns := [], harness := (true, "a345635ca1be20e3796f2305c25c62edc588089e65b8170081c2a5009ac3f87a"), looks := false }, kinds := [], alts := [], laidByText := true, laidKinds := [.data, .pinned], laidTests := true, laidLooks := .later }
def NamesTellsUptoCardSaid : Prop := Claim7.holds Tryd.pinned (.plain (OpenSpec.upto namesTellsSpec)) namesTellsUptoCard

/-- THE SECOND FORM's CARD OF 'joistlaw06.NamesCodes'. -/
def namesCodesUptoCard : Claim7 := { stood := { row := namesCodesUptoRow, standIns := [], harness := (true, "a345635ca1be20e3796f2305c25c62edc588089e65b8170081c2a5009ac3f87a"), looks := false }, kinds := [], alts := [], laidByText := true, laidKinds := [.data, .pinned], laidTests := true, laidLooks := .later }
def NamesCodesUptoCardSaid : Prop := Claim7.holds Tryd.pinned (.plain (OpenSpec.upto namesCodesSpec)) namesCodesUptoCard

/-- THE SECOND FORM's CARD OF 'joistlaw06.NamesBack'. -/
def namesBackUptoCard : Claim7 := { stood := { row := namesBackUptoRow, standIns := [], harness := (true, "a345635ca1be20e3796f2305c25c62edc588089e65b8170081c2a5009ac3f87a"), looks := false }, kinds := [], alts := [], laidByText := true, laidKinds := [.data, .pinned], laidTests := true, laidLooks := .later }
def NamesBackUptoCardSaid : Prop := Claim7.holds Tryd.pinned (.plain (OpenSpec.upto namesBackSpec)) namesBackUptoCard

/-- THE SECOND FORM's CARD OF 'joistlaw06.NamesFolds'. -/
def namesFoldsUptoCard : Claim7 := { stood := { row := namesFoldsUptoRow, standIns := [], harness := (true, "a345635ca1be20e3796f2305c25c62edc588089e65b8170081c2a5009ac3f87a"), looks := false }, kinds := [], alts := [], laidByText := true, laidKinds := [.data, .pinned], laidTests := true, laidLooks := .later }
def NamesFoldsUptoCardSaid : Prop := Claim7.holds Tryd.pinned (.plain (OpenSpec.upto namesFoldsSpec)) namesFoldsUptoCard

/-- THE SECOND FORM's CARD OF 'joistlaw06.NamesLengths'. -/
def namesLengthsUptoCard : Claim7 := { stood := { row := namesLengthsUptoRow, standIns := [], harness := (true, "a345635ca1be20e3796f2305c25c62edc588089e65b8170081c2a5009ac3f87a"), looks := false }, kinds := [], alts := [], laidByText := true, laidKinds := [.data, .pinned], laidTests := true, laidLooks := .later }
def NamesLengthsUptoCardSaid : Prop := Claim7.holds Tryd.pinned (.plain (OpenSpec.upto namesLengthsSpec)) namesLengthsUptoCard

/-- THE SECOND FORM's CARD OF 'joistlaw09.RootsCodes'. -/
def rootsCodesUptoCard : Claim7 := { stood := { row := rootsCodesUptoRow, standIns := [], harness := (true, "a345635ca1be20e3796f2305c25c62edc588089e65b8170081c2a5009ac3f87a"), looks := false }, kinds := [], alts := [], laidByText := true, laidKinds := [.data, .pinned], laidTests := true, laidLooks := .later }
def RootsCodesUptoCardSaid : Prop := Claim7.holds Tryd.pinned (.plain (OpenSpec.upto rootsCodesSpec)) rootsCodesUptoCard

/-- THE SECOND FORM's CARD OF 'joistlaw09.RootsBack'. -/
def rootsBackUptoCard : Claim7 := { stood := { row := rootsBackUptoRow, standIns := [], harness := (true, "a345635ca1be20e3796f2305c25c62edc588089e65b8170081c2a5009ac3f87a"), looks := false }, kinds := [], alts := [], laidByText := true, laidKinds := [.data, .pinned], laidTests := true, laidLooks := .later }
def RootsBackUptoCardSaid : Prop := Claim7.holds Tryd.pinned (.plain (OpenSpec.upto rootsBackSpec)) rootsBackUptoCard
end Rows
end Go.Proofs.YtlhemachmidoaaaDoor
