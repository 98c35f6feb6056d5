/-
  No cell of these rows narrows 'for every input' (looked for: loops, veiled, ifaces, maps, wideKeys, modest, calm, conditions, laid).
  DERIVED. THE GIVEN ROWS OF THIS SEAT. 4 by the template 'for every input the law returns true; each argument reads behind the call as it read before'; 0 by the template 'total and deterministic' (their statements: YtlhemachmidoaaaTotals.lean).
  GIVEN WITH THE SEED: the statements are not yours to turn. If you find one false, say at which input.
  Laid BY PROGRAM, IN A SANDBOX (cutbox-rows.mjs): the forced cells as the released guide's own fill.sh prints them over the translation 62461e8bb7dab891… (all of the seat's roots in one cut). By AI agents, Wed Nov 11 2026. No macro, syntax, notation, axiom, sorry.
-/
import Derived.Test.YtlhemachmidoaaaChecked
import GoSem.Claim
import GoSem.ClaimJoined
import GoSem.ClaimMapViews
import Derived.JoinedTies
import Derived.KernelRfl
namespace Go.Proofs.Ytlhemachmidoaaa
/- THE CELL 'sum', in the pinned program and in every row, IS THE sha256 OF THE DUMP (.gsa) THAT YtlhemachmidoaaaProg.lean LOADS. Nothing in Lean hashes anything: it is a label: what it is worth is what the hold of that sum in a sandbox is worth. -/
noncomputable def Try.pinned : Pinned := { name := "ytlhemachmidoaaa", sum := "62461e8bb7dab891589ec37f6db1657b2175c3df8f2d4b6079c7cfa80a5f0cb1", checked := Try.checked }
namespace Rows
def none {H : Type} : Left H := { results := [], args := [] }

/-- 'joistlaw09.RootsTells': WHATEVER THE INPUT: true; the input reads as it did. -/
def rootsTellsSpec : ChangeSpec := { name := "rootsTells", fn := fun _ => fun
  | [d1, d2, d3] => { results := [.lit (.bool true)], args := [d1, d2, d3] }
  | _ => none }
def rootsTellsRow : OpenClaim := { program := "ytlhemachmidoaaa", sum := "62461e8bb7dab891589ec37f6db1657b2175c3df8f2d4b6079c7cfa80a5f0cb1", func := "joist/joistlaw09.RootsTells", spec := "rootsTells", unfollowed := true, recurses := true, apart := false }
def RootsTellsSaid : Prop := rootsTellsRow.holds Try.pinned (OpenSpec.ofChange rootsTellsSpec)

/-- ITS FALSE NEIGHBOUR: 'it returns false'. Refute it at one input. -/
def rootsTellsWrong : ChangeSpec := { name := "rootsTells", fn := fun _ => fun
  | [d1, d2, d3] => { results := [.lit (.bool false)], args := [d1, d2, d3] }
  | _ => none }
def RootsTellsWrongFalsely : Prop := rootsTellsRow.holds Try.pinned (OpenSpec.ofChange rootsTellsWrong)

/-- 'joistlaw09.RootsTurns': WHATEVER THE INPUT: true; the input reads as it did. -/
def rootsTurnsSpec : ChangeSpec := { name := "rootsTurns", fn := fun _ => fun
  | [d1, d2, d3] => { results := [.lit (.bool true)], args := [d1, d2, d3] }
  | _ => none }
def rootsTurnsRow : OpenClaim := { program := "ytlhemachmidoaaa", sum := "62461e8bb7dab891589ec37f6db1657b2175c3df8f2d4b6079c7cfa80a5f0cb1", func := "joist/joistlaw09.RootsTurns", spec := "rootsTurns", unfollowed := true, recurses := true, apart := false }
def RootsTurnsSaid : Prop := rootsTurnsRow.holds Try.pinned (OpenSpec.ofChange rootsTurnsSpec)

/-- ITS FALSE NEIGHBOUR: 'it returns false'. Refute it at one input. -/
def rootsTurnsWrong : ChangeSpec := { name := "rootsTurns", fn := fun _ => fun
  | [d1, d2, d3] => { results := [.lit (.bool false)], args := [d1, d2, d3] }
  | _ => none }
def RootsTurnsWrongFalsely : Prop := rootsTurnsRow.holds Try.pinned (OpenSpec.ofChange rootsTurnsWrong)

/-- 'joistlaw09.RootsKeeps': WHATEVER THE INPUT: true; the input reads as it did. -/
def rootsKeepsSpec : ChangeSpec := { name := "rootsKeeps", fn := fun _ => fun
  | [d1, d2, d3, d4] => { results := [.lit (.bool true)], args := [d1, d2, d3, d4] }
  | _ => none }
def rootsKeepsRow : OpenClaim := { program := "ytlhemachmidoaaa", sum := "62461e8bb7dab891589ec37f6db1657b2175c3df8f2d4b6079c7cfa80a5f0cb1", func := "joist/joistlaw09.RootsKeeps", spec := "rootsKeeps", unfollowed := true, recurses := true, apart := false }
def RootsKeepsSaid : Prop := rootsKeepsRow.holds Try.pinned (OpenSpec.ofChange rootsKeepsSpec)

/-- ITS FALSE NEIGHBOUR: 'it returns false'. Refute it at one input. -/
def rootsKeepsWrong : ChangeSpec := { name := "rootsKeeps", fn := fun _ => fun
  | [d1, d2, d3, d4] => { results := [.lit (.bool false)], args := [d1, d2, d3, d4] }
  | _ => none }
def RootsKeepsWrongFalsely : Prop := rootsKeepsRow.holds Try.pinned (OpenSpec.ofChange rootsKeepsWrong)

/-- 'joistlaw09.RootsFills': WHATEVER THE INPUT: true; the input reads as it did. -/
def rootsFillsSpec : ChangeSpec := { name := "rootsFills", fn := fun _ => fun
  | [d1, d2] => { results := [.lit (.bool true)], args := [d1, d2] }
  | _ => none }
def rootsFillsRow : OpenClaim := { program := "ytlhemachmidoaaa", sum := "62461e8bb7dab891589ec37f6db1657b2175c3df8f2d4b6079c7cfa80a5f0cb1", func := "joist/joistlaw09.RootsFills", spec := "rootsFills", unfollowed := true, recurses := true, apart := false }
def RootsFillsSaid : Prop := rootsFillsRow.holds Try.pinned (OpenSpec.ofChange rootsFillsSpec)

/-- ITS FALSE NEIGHBOUR: 'it returns false'. Refute it at one input. -/
def rootsFillsWrong : ChangeSpec := { name := "rootsFills", fn := fun _ => fun
  | [d1, d2] => { results := [.lit (.bool false)], args := [d1, d2] }
  | _ => none }
def RootsFillsWrongFalsely : Prop := rootsFillsRow.holds Try.pinned (OpenSpec.ofChange rootsFillsWrong)

/- THE SECOND FORM. 'bulk': how many values and letters a reading holds, each counted each time it is reached (what is shared counts as often as it is met; a slice's spare places count too). A statement '..UptoSaid' is the law's where the arguments, and the package variables that the reading takes, are together of bulk at most 1048576: NARROWER than '..Said'. Prove '..Said' where nothing that the law and all that it calls make is longer than what came in: it says more and counts as full. Else prove '..UptoSaid'. A law counts once. -/
mutual
def uptoBulk {H : Type} : DataW H → Nat
  | .lit (.string bytes) => bytes.length + 1
  | .lit _ => 1
  | .nil => 1
  | .ptr d => uptoBulk d + 1
  | .slice elems spare => uptoBulkAll elems + uptoBulkAll spare + 1
  | .agg parts => uptoBulkAll parts + 1
  | .iface _ d => uptoBulk d + 1
  | .map entries => uptoBulkEntries entries + 1
  | .held _ => 1
def uptoBulkAll {H : Type} : List (DataW H) → Nat
  | [] => 0
  | d :: r => uptoBulk d + uptoBulkAll r
def uptoBulkEntries {H : Type} : List (Lit × DataW H) → Nat
  | [] => 0
  | x :: r => uptoBulkEntry x + uptoBulkEntries r
def uptoBulkEntry {H : Type} : Lit × DataW H → Nat
  | (.string bytes, d) => bytes.length + uptoBulk d + 1
  | (_, d) => uptoBulk d + 1
 end
def uptoSmall : (H : Type) → List (DataW H) → Bool := fun _ ds => decide (uptoBulkAll ds ≤ 1048576)
def OpenSpec.upto (s : _root_.Go.ChangeSpec) : _root_.Go.OpenSpec := { _root_.Go.OpenSpec.ofChange s with cond := some uptoSmall }

/-- 'joistlaw09.RootsTells', WHERE WHAT IT READS IS OF BULK AT MOST 1048576: true; the input reads as it did. -/
def rootsTellsUptoRow : OpenClaim := { program := "ytlhemachmidoaaa", sum := "62461e8bb7dab891589ec37f6db1657b2175c3df8f2d4b6079c7cfa80a5f0cb1", func := "joist/joistlaw09.RootsTells", spec := "rootsTells", unfollowed := true, recurses := true, apart := false, narrowed := true }
def RootsTellsUptoSaid : Prop := rootsTellsUptoRow.holds Try.pinned (OpenSpec.upto rootsTellsSpec)

/-- 'joistlaw09.RootsTurns', WHERE WHAT IT READS IS OF BULK AT MOST 1048576: true; the input reads as it did. -/
def rootsTurnsUptoRow : OpenClaim := { program := "ytlhemachmidoaaa", sum := "62461e8bb7dab891589ec37f6db1657b2175c3df8f2d4b6079c7cfa80a5f0cb1", func := "joist/joistlaw09.RootsTurns", spec := "rootsTurns", unfollowed := true, recurses := true, apart := false, narrowed := true }
def RootsTurnsUptoSaid : Prop := rootsTurnsUptoRow.holds Try.pinned (OpenSpec.upto rootsTurnsSpec)

/-- 'joistlaw09.RootsKeeps', WHERE WHAT IT READS IS OF BULK AT MOST 1048576: true; the input reads as it did. -/
def rootsKeepsUptoRow : OpenClaim := { program := "ytlhemachmidoaaa", sum := "62461e8bb7dab891589ec37f6db1657b2175c3df8f2d4b6079c7cfa80a5f0cb1", func := "joist/joistlaw09.RootsKeeps", spec := "rootsKeeps", unfollowed := true, recurses := true, apart := false, narrowed := true }
def RootsKeepsUptoSaid : Prop := rootsKeepsUptoRow.holds Try.pinned (OpenSpec.upto rootsKeepsSpec)

/-- 'joistlaw09.RootsFills', WHERE WHAT IT READS IS OF BULK AT MOST 1048576: true; the input reads as it did. -/
def rootsFillsUptoRow : OpenClaim := { program := "ytlhemachmidoaaa", sum := "62461e8bb7dab891589ec37f6db1657b2175c3df8f2d4b6079c7cfa80a5f0cb1", func := "joist/joistlaw09.RootsFills", spec := "rootsFills", unfollowed := true, recurses := true, apart := false, narrowed := true }
def RootsFillsUptoSaid : Prop := rootsFillsUptoRow.holds Try.pinned (OpenSpec.upto rootsFillsSpec)

end Rows
end Go.Proofs.Ytlhemachmidoaaa
