/-
  No cell of these rows narrows 'for every input' (looked for: loops, veiled, ifaces, maps, wideKeys, modest, calm, conditions, laid).
  DERIVED. THE GIVEN ROWS OF THIS SEAT. 6 by the template 'for every input the law returns true; each argument reads behind the call as it read before'; 0 by the template 'total and deterministic' (their statements: YtcjalhlejneddaaTotals.lean).
  GIVEN WITH THE SEED: the statements are not yours to turn. If you find one false, say at which input.
  Laid BY PROGRAM, IN A SANDBOX (cutbox-rows.mjs): the forced cells as the released guide's own fill.sh prints them over the translation 5c97e89c65186a12… (all of the seat's roots in one cut). By AI agents, Wed Nov 11 2026. No macro, syntax, notation, axiom, sorry.
-/
import Derived.Test.YtcjalhlejneddaaChecked
import GoSem.Claim
import GoSem.ClaimJoined
import GoSem.ClaimMapViews
import Derived.JoinedTies
import Derived.KernelRfl
namespace Go.Proofs.Ytcjalhlejneddaa
/- THE CELL 'sum', in the pinned program and in every row, IS THE sha256 OF THE DUMP (.gsa) THAT YtcjalhlejneddaaProg.lean LOADS. Nothing in Lean hashes anything: it is a label: what it is worth is what the hold of that sum in a sandbox is worth. -/
noncomputable def Try.pinned : Pinned := { name := "ytcjalhlejneddaa", sum := "5c97e89c65186a124f46203f09ce69885b0d372b5d7a62babb47e0456b356bbb", checked := Try.checked }
namespace Rows
def none {H : Type} : Left H := { results := [], args := [] }

/-- 'joistlaw10.GapsBests': WHATEVER THE INPUT: true; the input reads as it did. -/
def gapsBestsSpec : ChangeSpec := { name := "gapsBests", fn := fun _ => fun
  | [d1, d2] => { results := [.lit (.bool true)], args := [d1, d2] }
  | _ => none }
def gapsBestsRow : OpenClaim := { program := "ytcjalhlejneddaa", sum := "5c97e89c65186a124f46203f09ce69885b0d372b5d7a62babb47e0456b356bbb", func := "joist/joistlaw10.GapsBests", spec := "gapsBests", unfollowed := true, recurses := true, apart := false }
def GapsBestsSaid : Prop := gapsBestsRow.holds Try.pinned (OpenSpec.ofChange gapsBestsSpec)

/-- ITS FALSE NEIGHBOUR: 'it returns false'. Refute it at one input. -/
def gapsBestsWrong : ChangeSpec := { name := "gapsBests", fn := fun _ => fun
  | [d1, d2] => { results := [.lit (.bool false)], args := [d1, d2] }
  | _ => none }
def GapsBestsWrongFalsely : Prop := gapsBestsRow.holds Try.pinned (OpenSpec.ofChange gapsBestsWrong)

/-- 'joistlaw10.GapsNeeds': WHATEVER THE INPUT: true; the input reads as it did. -/
def gapsNeedsSpec : ChangeSpec := { name := "gapsNeeds", fn := fun _ => fun
  | [d] => { results := [.lit (.bool true)], args := [d] }
  | _ => none }
def gapsNeedsRow : OpenClaim := { program := "ytcjalhlejneddaa", sum := "5c97e89c65186a124f46203f09ce69885b0d372b5d7a62babb47e0456b356bbb", func := "joist/joistlaw10.GapsNeeds", spec := "gapsNeeds", unfollowed := true, recurses := true, apart := false }
def GapsNeedsSaid : Prop := gapsNeedsRow.holds Try.pinned (OpenSpec.ofChange gapsNeedsSpec)

/-- ITS FALSE NEIGHBOUR: 'it returns false'. Refute it at one input. -/
def gapsNeedsWrong : ChangeSpec := { name := "gapsNeeds", fn := fun _ => fun
  | [d] => { results := [.lit (.bool false)], args := [d] }
  | _ => none }
def GapsNeedsWrongFalsely : Prop := gapsNeedsRow.holds Try.pinned (OpenSpec.ofChange gapsNeedsWrong)

/-- 'joistlaw10.GapsLeast': WHATEVER THE INPUT: true; the input reads as it did. -/
def gapsLeastSpec : ChangeSpec := { name := "gapsLeast", fn := fun _ => fun
  | [d1, d2] => { results := [.lit (.bool true)], args := [d1, d2] }
  | _ => none }
def gapsLeastRow : OpenClaim := { program := "ytcjalhlejneddaa", sum := "5c97e89c65186a124f46203f09ce69885b0d372b5d7a62babb47e0456b356bbb", func := "joist/joistlaw10.GapsLeast", spec := "gapsLeast", unfollowed := true, recurses := true, apart := false }
def GapsLeastSaid : Prop := gapsLeastRow.holds Try.pinned (OpenSpec.ofChange gapsLeastSpec)

/-- ITS FALSE NEIGHBOUR: 'it returns false'. Refute it at one input. -/
def gapsLeastWrong : ChangeSpec := { name := "gapsLeast", fn := fun _ => fun
  | [d1, d2] => { results := [.lit (.bool false)], args := [d1, d2] }
  | _ => none }
def GapsLeastWrongFalsely : Prop := gapsLeastRow.holds Try.pinned (OpenSpec.ofChange gapsLeastWrong)

/-- 'joistlaw10.GapsTells': WHATEVER THE INPUT: true; the input reads as it did. -/
def gapsTellsSpec : ChangeSpec := { name := "gapsTells", fn := fun _ => fun
  | [d1, d2, d3, d4, d5] => { results := [.lit (.bool true)], args := [d1, d2, d3, d4, d5] }
  | _ => none }
def gapsTellsRow : OpenClaim := { program := "ytcjalhlejneddaa", sum := "5c97e89c65186a124f46203f09ce69885b0d372b5d7a62babb47e0456b356bbb", func := "joist/joistlaw10.GapsTells", spec := "gapsTells", unfollowed := true, recurses := true, apart := false }
def GapsTellsSaid : Prop := gapsTellsRow.holds Try.pinned (OpenSpec.ofChange gapsTellsSpec)

/-- ITS FALSE NEIGHBOUR: 'it returns false'. Refute it at one input. -/
def gapsTellsWrong : ChangeSpec := { name := "gapsTells", fn := fun _ => fun
  | [d1, d2, d3, d4, d5] => { results := [.lit (.bool false)], args := [d1, d2, d3, d4, d5] }
  | _ => none }
def GapsTellsWrongFalsely : Prop := gapsTellsRow.holds Try.pinned (OpenSpec.ofChange gapsTellsWrong)

/-- 'joistlaw10.GapsCovers': WHATEVER THE INPUT: true; the input reads as it did. -/
def gapsCoversSpec : ChangeSpec := { name := "gapsCovers", fn := fun _ => fun
  | [d1, d2, d3] => { results := [.lit (.bool true)], args := [d1, d2, d3] }
  | _ => none }
def gapsCoversRow : OpenClaim := { program := "ytcjalhlejneddaa", sum := "5c97e89c65186a124f46203f09ce69885b0d372b5d7a62babb47e0456b356bbb", func := "joist/joistlaw10.GapsCovers", spec := "gapsCovers", unfollowed := true, recurses := true, apart := false }
def GapsCoversSaid : Prop := gapsCoversRow.holds Try.pinned (OpenSpec.ofChange gapsCoversSpec)

/-- ITS FALSE NEIGHBOUR: 'it returns false'. Refute it at one input. -/
def gapsCoversWrong : ChangeSpec := { name := "gapsCovers", fn := fun _ => fun
  | [d1, d2, d3] => { results := [.lit (.bool false)], args := [d1, d2, d3] }
  | _ => none }
def GapsCoversWrongFalsely : Prop := gapsCoversRow.holds Try.pinned (OpenSpec.ofChange gapsCoversWrong)

/-- 'joistlaw10.GapsLays': WHATEVER THE INPUT: true; the input reads as it did. -/
def gapsLaysSpec : ChangeSpec := { name := "gapsLays", fn := fun _ => fun
  | [d1, d2, d3, d4] => { results := [.lit (.bool true)], args := [d1, d2, d3, d4] }
  | _ => none }
def gapsLaysRow : OpenClaim := { program := "ytcjalhlejneddaa", sum := "5c97e89c65186a124f46203f09ce69885b0d372b5d7a62babb47e0456b356bbb", func := "joist/joistlaw10.GapsLays", spec := "gapsLays", unfollowed := true, recurses := true, apart := false }
def GapsLaysSaid : Prop := gapsLaysRow.holds Try.pinned (OpenSpec.ofChange gapsLaysSpec)

/-- ITS FALSE NEIGHBOUR: 'it returns false'. Refute it at one input. -/
def gapsLaysWrong : ChangeSpec := { name := "gapsLays", fn := fun _ => fun
  | [d1, d2, d3, d4] => { results := [.lit (.bool false)], args := [d1, d2, d3, d4] }
  | _ => none }
def GapsLaysWrongFalsely : Prop := gapsLaysRow.holds Try.pinned (OpenSpec.ofChange gapsLaysWrong)

/- THE SECOND FORM. 'bulk': how many values and letters a reading holds, each counted each time it is reached (what is shared counts as often as it is met; a slice's spare places count too). A statement '..UptoSaid' is the law's where the arguments, and the package variables that the reading takes, are together of bulk at most 1048576: NARROWER than '..Said'. Prove '..Said' where nothing that the law and all that it calls make is longer than what came in: it says more and counts as full. Else prove '..UptoSaid'. A law counts once. -/
mutual
def uptoBulk {H : Type} : DataW H → Nat
  | .lit (.string bytes) => bytes.length + 1
  | .lit _ => 1
  | .nil => 1
  | .ptr d => uptoBulk d + 1
  | .slice elems spare => uptoBulkAll elems + uptoBulkAll spare + 1
  | .agg parts => uptoBulkAll parts + 1
  | .iface _ d => uptoBulk d + 1
  | .map entries => uptoBulkEntries entries + 1
  | .held _ => 1
def uptoBulkAll {H : Type} : List (DataW H) → Nat
  | [] => 0
  | d :: r => uptoBulk d + uptoBulkAll r
def uptoBulkEntries {H : Type} : List (Lit × DataW H) → Nat
  | [] => 0
  | x :: r => uptoBulkEntry x + uptoBulkEntries r
def uptoBulkEntry {H : Type} : Lit × DataW H → Nat
  | (.string bytes, d) => bytes.length + uptoBulk d + 1
  | (_, d) => uptoBulk d + 1
 end
def uptoSmall : (H : Type) → List (DataW H) → Bool := fun _ ds => decide (uptoBulkAll ds ≤ 1048576)
def OpenSpec.upto (s : _root_.Go.ChangeSpec) : _root_.Go.OpenSpec := { _root_.Go.OpenSpec.ofChange s with cond := some uptoSmall }

/-- 'joistlaw10.GapsBests', WHERE WHAT IT READS IS OF BULK AT MOST 1048576: true; the input reads as it did. -/
def gapsBestsUptoRow : OpenClaim := { program := "ytcjalhlejneddaa", sum := "5c97e89c65186a124f46203f09ce69885b0d372b5d7a62babb47e0456b356bbb", func := "joist/joistlaw10.GapsBests", spec := "gapsBests", unfollowed := true, recurses := true, apart := false, narrowed := true }
def GapsBestsUptoSaid : Prop := gapsBestsUptoRow.holds Try.pinned (OpenSpec.upto gapsBestsSpec)

/-- 'joistlaw10.GapsNeeds', WHERE WHAT IT READS IS OF BULK AT MOST 1048576: true; the input reads as it did. -/
def gapsNeedsUptoRow : OpenClaim := { program := "ytcjalhlejneddaa", sum := "5c97e89c65186a124f46203f09ce69885b0d372b5d7a62babb47e0456b356bbb", func := "joist/joistlaw10.GapsNeeds", spec := "gapsNeeds", unfollowed := true, recurses := true, apart := false, narrowed := true }
def GapsNeedsUptoSaid : Prop := gapsNeedsUptoRow.holds Try.pinned (OpenSpec.upto gapsNeedsSpec)

/-- 'joistlaw10.GapsLeast', WHERE WHAT IT READS IS OF BULK AT MOST 1048576: true; the input reads as it did. -/
def gapsLeastUptoRow : OpenClaim := { program := "ytcjalhlejneddaa", sum := "5c97e89c65186a124f46203f09ce69885b0d372b5d7a62babb47e0456b356bbb", func := "joist/joistlaw10.GapsLeast", spec := "gapsLeast", unfollowed := true, recurses := true, apart := false, narrowed := true }
def GapsLeastUptoSaid : Prop := gapsLeastUptoRow.holds Try.pinned (OpenSpec.upto gapsLeastSpec)

/-- 'joistlaw10.GapsTells', WHERE WHAT IT READS IS OF BULK AT MOST 1048576: true; the input reads as it did. -/
def gapsTellsUptoRow : OpenClaim := { program := "ytcjalhlejneddaa", sum := "5c97e89c65186a124f46203f09ce69885b0d372b5d7a62babb47e0456b356bbb", func := "joist/joistlaw10.GapsTells", spec := "gapsTells", unfollowed := true, recurses := true, apart := false, narrowed := true }
def GapsTellsUptoSaid : Prop := gapsTellsUptoRow.holds Try.pinned (OpenSpec.upto gapsTellsSpec)

/-- 'joistlaw10.GapsCovers', WHERE WHAT IT READS IS OF BULK AT MOST 1048576: true; the input reads as it did. -/
def gapsCoversUptoRow : OpenClaim := { program := "ytcjalhlejneddaa", sum := "5c97e89c65186a124f46203f09ce69885b0d372b5d7a62babb47e0456b356bbb", func := "joist/joistlaw10.GapsCovers", spec := "gapsCovers", unfollowed := true, recurses := true, apart := false, narrowed := true }
def GapsCoversUptoSaid : Prop := gapsCoversUptoRow.holds Try.pinned (OpenSpec.upto gapsCoversSpec)

/-- 'joistlaw10.GapsLays', WHERE WHAT IT READS IS OF BULK AT MOST 1048576: true; the input reads as it did. -/
def gapsLaysUptoRow : OpenClaim := { program := "ytcjalhlejneddaa", sum := "5c97e89c65186a124f46203f09ce69885b0d372b5d7a62babb47e0456b356bbb", func := "joist/joistlaw10.GapsLays", spec := "gapsLays", unfollowed := true, recurses := true, apart := false, narrowed := true }
def GapsLaysUptoSaid : Prop := gapsLaysUptoRow.holds Try.pinned (OpenSpec.upto gapsLaysSpec)

end Rows
end Go.Proofs.Ytcjalhlejneddaa
