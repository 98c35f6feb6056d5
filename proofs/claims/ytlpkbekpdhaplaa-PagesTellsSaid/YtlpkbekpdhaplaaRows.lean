/-
  No cell of these rows narrows 'for every input' (looked for: loops, veiled, ifaces, maps, wideKeys, modest, calm, conditions, laid).
  DERIVED. THE GIVEN ROWS OF THIS SEAT. 11 by the template 'for every input the law returns true; each argument reads behind the call as it read before'; 0 by the template 'total and deterministic' (their statements: YtlpkbekpdhaplaaTotals.lean).
  GIVEN WITH THE SEED: the statements are not yours to turn. If you find one false, say at which input.
  Laid BY PROGRAM, IN A SANDBOX (cutbox-rows.mjs): the forced cells as the released guide's own fill.sh prints them over the translation c05a5378eafb74e3… (all of the seat's roots in one cut). By AI agents, Wed Nov 11 2026. No macro, syntax, notation, axiom, sorry.
-/
import Derived.Test.YtlpkbekpdhaplaaChecked
import GoSem.Claim
import GoSem.ClaimJoined
import GoSem.ClaimMapViews
import Derived.JoinedTies
import Derived.KernelRfl
namespace Go.Proofs.Ytlpkbekpdhaplaa
/- THE CELL 'sum', in the pinned program and in every row, IS THE sha256 OF THE DUMP (.gsa) THAT YtlpkbekpdhaplaaProg.lean LOADS. Nothing in Lean hashes anything: it is a label: what it is worth is what the hold of that sum in a sandbox is worth. -/
noncomputable def Try.pinned : Pinned := { name := "ytlpkbekpdhaplaa", sum := "c05a5378eafb74e3dc3971a7990fbf95942af52af6127a2140e6d3585ca666ed", checked := Try.checked }
namespace Rows
def none {H : Type} : Left H := { results := [], args := [] }

/-- 'joistlaw12.ClassTells': WHATEVER THE INPUT: true; the input reads as it did. -/
def classTellsSpec : ChangeSpec := { name := "classTells", fn := fun _ => fun
  | [d1, d2, d3, d4] => { results := [.lit (.bool true)], args := [d1, d2, d3, d4] }
  | _ => none }
def classTellsRow : OpenClaim := { program := "ytlpkbekpdhaplaa", sum := "c05a5378eafb74e3dc3971a7990fbf95942af52af6127a2140e6d3585ca666ed", func := "joist/joistlaw12.ClassTells", spec := "classTells", apart := false }
def ClassTellsSaid : Prop := classTellsRow.holds Try.pinned (OpenSpec.ofChange classTellsSpec)

/-- ITS FALSE NEIGHBOUR: 'it returns false'. Refute it at one input. -/
def classTellsWrong : ChangeSpec := { name := "classTells", fn := fun _ => fun
  | [d1, d2, d3, d4] => { results := [.lit (.bool false)], args := [d1, d2, d3, d4] }
  | _ => none }
def ClassTellsWrongFalsely : Prop := classTellsRow.holds Try.pinned (OpenSpec.ofChange classTellsWrong)

/-- 'joistlaw12.ClassHolds': WHATEVER THE INPUT: true; the input reads as it did. -/
def classHoldsSpec : ChangeSpec := { name := "classHolds", fn := fun _ => fun
  | [d1, d2, d3] => { results := [.lit (.bool true)], args := [d1, d2, d3] }
  | _ => none }
def classHoldsRow : OpenClaim := { program := "ytlpkbekpdhaplaa", sum := "c05a5378eafb74e3dc3971a7990fbf95942af52af6127a2140e6d3585ca666ed", func := "joist/joistlaw12.ClassHolds", spec := "classHolds", apart := false }
def ClassHoldsSaid : Prop := classHoldsRow.holds Try.pinned (OpenSpec.ofChange classHoldsSpec)

/-- ITS FALSE NEIGHBOUR: 'it returns false'. Refute it at one input. -/
def classHoldsWrong : ChangeSpec := { name := "classHolds", fn := fun _ => fun
  | [d1, d2, d3] => { results := [.lit (.bool false)], args := [d1, d2, d3] }
  | _ => none }
def ClassHoldsWrongFalsely : Prop := classHoldsRow.holds Try.pinned (OpenSpec.ofChange classHoldsWrong)

/-- 'joistlaw12.ClassBack': WHATEVER THE INPUT: true; the input reads as it did. -/
def classBackSpec : ChangeSpec := { name := "classBack", fn := fun _ => fun
  | [d1, d2, d3] => { results := [.lit (.bool true)], args := [d1, d2, d3] }
  | _ => none }
def classBackRow : OpenClaim := { program := "ytlpkbekpdhaplaa", sum := "c05a5378eafb74e3dc3971a7990fbf95942af52af6127a2140e6d3585ca666ed", func := "joist/joistlaw12.ClassBack", spec := "classBack", apart := false }
def ClassBackSaid : Prop := classBackRow.holds Try.pinned (OpenSpec.ofChange classBackSpec)

/-- ITS FALSE NEIGHBOUR: 'it returns false'. Refute it at one input. -/
def classBackWrong : ChangeSpec := { name := "classBack", fn := fun _ => fun
  | [d1, d2, d3] => { results := [.lit (.bool false)], args := [d1, d2, d3] }
  | _ => none }
def ClassBackWrongFalsely : Prop := classBackRow.holds Try.pinned (OpenSpec.ofChange classBackWrong)

/-- 'joistlaw12.ClassRises': WHATEVER THE INPUT: true; the input reads as it did. -/
def classRisesSpec : ChangeSpec := { name := "classRises", fn := fun _ => fun
  | [d1, d2] => { results := [.lit (.bool true)], args := [d1, d2] }
  | _ => none }
def classRisesRow : OpenClaim := { program := "ytlpkbekpdhaplaa", sum := "c05a5378eafb74e3dc3971a7990fbf95942af52af6127a2140e6d3585ca666ed", func := "joist/joistlaw12.ClassRises", spec := "classRises", apart := false }
def ClassRisesSaid : Prop := classRisesRow.holds Try.pinned (OpenSpec.ofChange classRisesSpec)

/-- ITS FALSE NEIGHBOUR: 'it returns false'. Refute it at one input. -/
def classRisesWrong : ChangeSpec := { name := "classRises", fn := fun _ => fun
  | [d1, d2] => { results := [.lit (.bool false)], args := [d1, d2] }
  | _ => none }
def ClassRisesWrongFalsely : Prop := classRisesRow.holds Try.pinned (OpenSpec.ofChange classRisesWrong)

/-- 'joistlaw13.PagesRuns': WHATEVER THE INPUT: true; the input reads as it did. -/
def pagesRunsSpec : ChangeSpec := { name := "pagesRuns", fn := fun _ => fun
  | [d1, d2] => { results := [.lit (.bool true)], args := [d1, d2] }
  | _ => none }
def pagesRunsRow : OpenClaim := { program := "ytlpkbekpdhaplaa", sum := "c05a5378eafb74e3dc3971a7990fbf95942af52af6127a2140e6d3585ca666ed", func := "joist/joistlaw13.PagesRuns", spec := "pagesRuns", unfollowed := true, recurses := true, apart := false }
def PagesRunsSaid : Prop := pagesRunsRow.holds Try.pinned (OpenSpec.ofChange pagesRunsSpec)

/-- ITS FALSE NEIGHBOUR: 'it returns false'. Refute it at one input. -/
def pagesRunsWrong : ChangeSpec := { name := "pagesRuns", fn := fun _ => fun
  | [d1, d2] => { results := [.lit (.bool false)], args := [d1, d2] }
  | _ => none }
def PagesRunsWrongFalsely : Prop := pagesRunsRow.holds Try.pinned (OpenSpec.ofChange pagesRunsWrong)

/-- 'joistlaw13.PagesPlaces': WHATEVER THE INPUT: true; the input reads as it did. -/
def pagesPlacesSpec : ChangeSpec := { name := "pagesPlaces", fn := fun _ => fun
  | [d1, d2, d3] => { results := [.lit (.bool true)], args := [d1, d2, d3] }
  | _ => none }
def pagesPlacesRow : OpenClaim := { program := "ytlpkbekpdhaplaa", sum := "c05a5378eafb74e3dc3971a7990fbf95942af52af6127a2140e6d3585ca666ed", func := "joist/joistlaw13.PagesPlaces", spec := "pagesPlaces", unfollowed := true, recurses := true, apart := false }
def PagesPlacesSaid : Prop := pagesPlacesRow.holds Try.pinned (OpenSpec.ofChange pagesPlacesSpec)

/-- ITS FALSE NEIGHBOUR: 'it returns false'. Refute it at one input. -/
def pagesPlacesWrong : ChangeSpec := { name := "pagesPlaces", fn := fun _ => fun
  | [d1, d2, d3] => { results := [.lit (.bool false)], args := [d1, d2, d3] }
  | _ => none }
def PagesPlacesWrongFalsely : Prop := pagesPlacesRow.holds Try.pinned (OpenSpec.ofChange pagesPlacesWrong)

/-- 'joistlaw13.PagesFull': WHATEVER THE INPUT: true; the input reads as it did. -/
def pagesFullSpec : ChangeSpec := { name := "pagesFull", fn := fun _ => fun
  | [d1, d2, d3, d4] => { results := [.lit (.bool true)], args := [d1, d2, d3, d4] }
  | _ => none }
def pagesFullRow : OpenClaim := { program := "ytlpkbekpdhaplaa", sum := "c05a5378eafb74e3dc3971a7990fbf95942af52af6127a2140e6d3585ca666ed", func := "joist/joistlaw13.PagesFull", spec := "pagesFull", unfollowed := true, recurses := true, apart := false }
def PagesFullSaid : Prop := pagesFullRow.holds Try.pinned (OpenSpec.ofChange pagesFullSpec)

/-- ITS FALSE NEIGHBOUR: 'it returns false'. Refute it at one input. -/
def pagesFullWrong : ChangeSpec := { name := "pagesFull", fn := fun _ => fun
  | [d1, d2, d3, d4] => { results := [.lit (.bool false)], args := [d1, d2, d3, d4] }
  | _ => none }
def PagesFullWrongFalsely : Prop := pagesFullRow.holds Try.pinned (OpenSpec.ofChange pagesFullWrong)

/-- 'joistlaw13.PagesLeast': WHATEVER THE INPUT: true; the input reads as it did. -/
def pagesLeastSpec : ChangeSpec := { name := "pagesLeast", fn := fun _ => fun
  | [d1, d2] => { results := [.lit (.bool true)], args := [d1, d2] }
  | _ => none }
def pagesLeastRow : OpenClaim := { program := "ytlpkbekpdhaplaa", sum := "c05a5378eafb74e3dc3971a7990fbf95942af52af6127a2140e6d3585ca666ed", func := "joist/joistlaw13.PagesLeast", spec := "pagesLeast", unfollowed := true, recurses := true, apart := false }
def PagesLeastSaid : Prop := pagesLeastRow.holds Try.pinned (OpenSpec.ofChange pagesLeastSpec)

/-- ITS FALSE NEIGHBOUR: 'it returns false'. Refute it at one input. -/
def pagesLeastWrong : ChangeSpec := { name := "pagesLeast", fn := fun _ => fun
  | [d1, d2] => { results := [.lit (.bool false)], args := [d1, d2] }
  | _ => none }
def PagesLeastWrongFalsely : Prop := pagesLeastRow.holds Try.pinned (OpenSpec.ofChange pagesLeastWrong)

/-- 'joistlaw13.PagesTells': WHATEVER THE INPUT: true; the input reads as it did. -/
def pagesTellsSpec : ChangeSpec := { name := "pagesTells", fn := fun _ => fun
  | [d1, d2, d3, d4] => { results := [.lit (.bool true)], args := [d1, d2, d3, d4] }
  | _ => none }
def pagesTellsRow : OpenClaim := { program := "ytlpkbekpdhaplaa", sum := "c05a5378eafb74e3dc3971a7990fbf95942af52af6127a2140e6d3585ca666ed", func := "joist/joistlaw13.PagesTells", spec := "pagesTells", unfollowed := true, recurses := true, apart := false }
def PagesTellsSaid : Prop := pagesTellsRow.holds Try.pinned (OpenSpec.ofChange pagesTellsSpec)

/-- ITS FALSE NEIGHBOUR: 'it returns false'. Refute it at one input. -/
def pagesTellsWrong : ChangeSpec := { name := "pagesTells", fn := fun _ => fun
  | [d1, d2, d3, d4] => { results := [.lit (.bool false)], args := [d1, d2, d3, d4] }
  | _ => none }
def PagesTellsWrongFalsely : Prop := pagesTellsRow.holds Try.pinned (OpenSpec.ofChange pagesTellsWrong)

/-- 'joistlaw13.PagesMates': WHATEVER THE INPUT: true; the input reads as it did. -/
def pagesMatesSpec : ChangeSpec := { name := "pagesMates", fn := fun _ => fun
  | [d1, d2] => { results := [.lit (.bool true)], args := [d1, d2] }
  | _ => none }
def pagesMatesRow : OpenClaim := { program := "ytlpkbekpdhaplaa", sum := "c05a5378eafb74e3dc3971a7990fbf95942af52af6127a2140e6d3585ca666ed", func := "joist/joistlaw13.PagesMates", spec := "pagesMates", unfollowed := true, recurses := true, apart := false }
def PagesMatesSaid : Prop := pagesMatesRow.holds Try.pinned (OpenSpec.ofChange pagesMatesSpec)

/-- ITS FALSE NEIGHBOUR: 'it returns false'. Refute it at one input. -/
def pagesMatesWrong : ChangeSpec := { name := "pagesMates", fn := fun _ => fun
  | [d1, d2] => { results := [.lit (.bool false)], args := [d1, d2] }
  | _ => none }
def PagesMatesWrongFalsely : Prop := pagesMatesRow.holds Try.pinned (OpenSpec.ofChange pagesMatesWrong)

/-- 'joistlaw13.PagesFills': WHATEVER THE INPUT: true; the input reads as it did. -/
def pagesFillsSpec : ChangeSpec := { name := "pagesFills", fn := fun _ => fun
  | [d] => { results := [.lit (.bool true)], args := [d] }
  | _ => none }
def pagesFillsRow : OpenClaim := { program := "ytlpkbekpdhaplaa", sum := "c05a5378eafb74e3dc3971a7990fbf95942af52af6127a2140e6d3585ca666ed", func := "joist/joistlaw13.PagesFills", spec := "pagesFills", unfollowed := true, recurses := true, apart := false }
def PagesFillsSaid : Prop := pagesFillsRow.holds Try.pinned (OpenSpec.ofChange pagesFillsSpec)

/-- ITS FALSE NEIGHBOUR: 'it returns false'. Refute it at one input. -/
def pagesFillsWrong : ChangeSpec := { name := "pagesFills", fn := fun _ => fun
  | [d] => { results := [.lit (.bool false)], args := [d] }
  | _ => none }
def PagesFillsWrongFalsely : Prop := pagesFillsRow.holds Try.pinned (OpenSpec.ofChange pagesFillsWrong)

/- THE SECOND FORM. 'bulk': how many values and letters a reading holds, each counted each time it is reached (what is shared counts as often as it is met; a slice's spare places count too). A statement '..UptoSaid' is the law's where the arguments, and the package variables that the reading takes, are together of bulk at most 1048576: NARROWER than '..Said'. Prove '..Said' where nothing that the law and all that it calls make is longer than what came in: it says more and counts as full. Else prove '..UptoSaid'. A law counts once. -/
mutual
def uptoBulk {H : Type} : DataW H → Nat
  | .lit (.string bytes) => bytes.length + 1
  | .lit _ => 1
  | .nil => 1
  | .ptr d => uptoBulk d + 1
  | .slice elems spare => uptoBulkAll elems + uptoBulkAll spare + 1
  | .agg parts => uptoBulkAll parts + 1
  | .iface _ d => uptoBulk d + 1
  | .map entries => uptoBulkEntries entries + 1
  | .held _ => 1
def uptoBulkAll {H : Type} : List (DataW H) → Nat
  | [] => 0
  | d :: r => uptoBulk d + uptoBulkAll r
def uptoBulkEntries {H : Type} : List (Lit × DataW H) → Nat
  | [] => 0
  | x :: r => uptoBulkEntry x + uptoBulkEntries r
def uptoBulkEntry {H : Type} : Lit × DataW H → Nat
  | (.string bytes, d) => bytes.length + uptoBulk d + 1
  | (_, d) => uptoBulk d + 1
 end
def uptoSmall : (H : Type) → List (DataW H) → Bool := fun _ ds => decide (uptoBulkAll ds ≤ 1048576)
def OpenSpec.upto (s : _root_.Go.ChangeSpec) : _root_.Go.OpenSpec := { _root_.Go.OpenSpec.ofChange s with cond := some uptoSmall }

/-- 'joistlaw12.ClassTells', WHERE WHAT IT READS IS OF BULK AT MOST 1048576: true; the input reads as it did. -/
def classTellsUptoRow : OpenClaim := { program := "ytlpkbekpdhaplaa", sum := "c05a5378eafb74e3dc3971a7990fbf95942af52af6127a2140e6d3585ca666ed", func := "joist/joistlaw12.ClassTells", spec := "classTells", apart := false, narrowed := true }
def ClassTellsUptoSaid : Prop := classTellsUptoRow.holds Try.pinned (OpenSpec.upto classTellsSpec)

/-- 'joistlaw12.ClassHolds', WHERE WHAT IT READS IS OF BULK AT MOST 1048576: true; the input reads as it did. -/
def classHoldsUptoRow : OpenClaim := { program := "ytlpkbekpdhaplaa", sum := "c05a5378eafb74e3dc3971a7990fbf95942af52af6127a2140e6d3585ca666ed", func := "joist/joistlaw12.ClassHolds", spec := "classHolds", apart := false, narrowed := true }
def ClassHoldsUptoSaid : Prop := classHoldsUptoRow.holds Try.pinned (OpenSpec.upto classHoldsSpec)

/-- 'joistlaw12.ClassBack', WHERE WHAT IT READS IS OF BULK AT MOST 1048576: true; the input reads as it did. -/
def classBackUptoRow : OpenClaim := { program := "ytlpkbekpdhaplaa", sum := "c05a5378eafb74e3dc3971a7990fbf95942af52af6127a2140e6d3585ca666ed", func := "joist/joistlaw12.ClassBack", spec := "classBack", apart := false, narrowed := true }
def ClassBackUptoSaid : Prop := classBackUptoRow.holds Try.pinned (OpenSpec.upto classBackSpec)

/-- 'joistlaw12.ClassRises', WHERE WHAT IT READS IS OF BULK AT MOST 1048576: true; the input reads as it did. -/
def classRisesUptoRow : OpenClaim := { program := "ytlpkbekpdhaplaa", sum := "c05a5378eafb74e3dc3971a7990fbf95942af52af6127a2140e6d3585ca666ed", func := "joist/joistlaw12.ClassRises", spec := "classRises", apart := false, narrowed := true }
def ClassRisesUptoSaid : Prop := classRisesUptoRow.holds Try.pinned (OpenSpec.upto classRisesSpec)

/-- 'joistlaw13.PagesRuns', WHERE WHAT IT READS IS OF BULK AT MOST 1048576: true; the input reads as it did. -/
def pagesRunsUptoRow : OpenClaim := { program := "ytlpkbekpdhaplaa", sum := "c05a5378eafb74e3dc3971a7990fbf95942af52af6127a2140e6d3585ca666ed", func := "joist/joistlaw13.PagesRuns", spec := "pagesRuns", unfollowed := true, recurses := true, apart := false, narrowed := true }
def PagesRunsUptoSaid : Prop := pagesRunsUptoRow.holds Try.pinned (OpenSpec.upto pagesRunsSpec)

/-- 'joistlaw13.PagesPlaces', WHERE WHAT IT READS IS OF BULK AT MOST 1048576: true; the input reads as it did. -/
def pagesPlacesUptoRow : OpenClaim := { program := "ytlpkbekpdhaplaa", sum := "c05a5378eafb74e3dc3971a7990fbf95942af52af6127a2140e6d3585ca666ed", func := "joist/joistlaw13.PagesPlaces", spec := "pagesPlaces", unfollowed := true, recurses := true, apart := false, narrowed := true }
def PagesPlacesUptoSaid : Prop := pagesPlacesUptoRow.holds Try.pinned (OpenSpec.upto pagesPlacesSpec)

/-- 'joistlaw13.PagesFull', WHERE WHAT IT READS IS OF BULK AT MOST 1048576: true; the input reads as it did. -/
def pagesFullUptoRow : OpenClaim := { program := "ytlpkbekpdhaplaa", sum := "c05a5378eafb74e3dc3971a7990fbf95942af52af6127a2140e6d3585ca666ed", func := "joist/joistlaw13.PagesFull", spec := "pagesFull", unfollowed := true, recurses := true, apart := false, narrowed := true }
def PagesFullUptoSaid : Prop := pagesFullUptoRow.holds Try.pinned (OpenSpec.upto pagesFullSpec)

/-- 'joistlaw13.PagesLeast', WHERE WHAT IT READS IS OF BULK AT MOST 1048576: true; the input reads as it did. -/
def pagesLeastUptoRow : OpenClaim := { program := "ytlpkbekpdhaplaa", sum := "c05a5378eafb74e3dc3971a7990fbf95942af52af6127a2140e6d3585ca666ed", func := "joist/joistlaw13.PagesLeast", spec := "pagesLeast", unfollowed := true, recurses := true, apart := false, narrowed := true }
def PagesLeastUptoSaid : Prop := pagesLeastUptoRow.holds Try.pinned (OpenSpec.upto pagesLeastSpec)

/-- 'joistlaw13.PagesTells', WHERE WHAT IT READS IS OF BULK AT MOST 1048576: true; the input reads as it did. -/
def pagesTellsUptoRow : OpenClaim := { program := "ytlpkbekpdhaplaa", sum := "c05a5378eafb74e3dc3971a7990fbf95942af52af6127a2140e6d3585ca666ed", func := "joist/joistlaw13.PagesTells", spec := "pagesTells", unfollowed := true, recurses := true, apart := false, narrowed := true }
def PagesTellsUptoSaid : Prop := pagesTellsUptoRow.holds Try.pinned (OpenSpec.upto pagesTellsSpec)

/-- 'joistlaw13.PagesMates', WHERE WHAT IT READS IS OF BULK AT MOST 1048576: true; the input reads as it did. -/
def pagesMatesUptoRow : OpenClaim := { program := "ytlpkbekpdhaplaa", sum := "c05a5378eafb74e3dc3971a7990fbf95942af52af6127a2140e6d3585ca666ed", func := "joist/joistlaw13.PagesMates", spec := "pagesMates", unfollowed := true, recurses := true, apart := false, narrowed := true }
def PagesMatesUptoSaid : Prop := pagesMatesUptoRow.holds Try.pinned (OpenSpec.upto pagesMatesSpec)

/-- 'joistlaw13.PagesFills', WHERE WHAT IT READS IS OF BULK AT MOST 1048576: true; the input reads as it did. -/
def pagesFillsUptoRow : OpenClaim := { program := "ytlpkbekpdhaplaa", sum := "c05a5378eafb74e3dc3971a7990fbf95942af52af6127a2140e6d3585ca666ed", func := "joist/joistlaw13.PagesFills", spec := "pagesFills", unfollowed := true, recurses := true, apart := false, narrowed := true }
def PagesFillsUptoSaid : Prop := pagesFillsUptoRow.holds Try.pinned (OpenSpec.upto pagesFillsSpec)

end Rows
end Go.Proofs.Ytlpkbekpdhaplaa
