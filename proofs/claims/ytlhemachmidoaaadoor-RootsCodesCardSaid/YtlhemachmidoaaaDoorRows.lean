/-
  NARROWER THAN 'FOR EVERY INPUT', by the rows' own cells (each row's printed sentence says how): NamesTells: laid · NamesCodes: laid · NamesBack: laid · NamesFolds: laid · NamesLengths: laid · RootsCodes: laid · RootsBack: laid.
  DERIVED. THE GIVEN ROWS OF THIS SEAT. 7 by the template 'for every input the law returns true; each argument reads behind the call as it read before'; 0 by the template 'total and deterministic' (their statements: YtlhemachmidoaaaDoorTotals.lean).
  GIVEN WITH THE SEED: the statements are not yours to turn. If you find one false, say at which input.
  Laid BY PROGRAM, IN A SANDBOX (cutbox-rows.mjs): the forced cells as the released guide's own fill.sh prints them over the translation 6b0ea87911f23217… (all of the seat's roots in one cut). By AI agents, Wed Nov 11 2026. No macro, syntax, notation, axiom, sorry.
-/
import Derived.Test.YtlhemachmidoaaaDoorChecked
import GoSem.PinnedTables
import GoSem.Claim
import GoSem.ClaimJoined
import GoSem.ClaimMapViews
import Derived.JoinedTies
import Derived.KernelRfl
namespace Go.Proofs.YtlhemachmidoaaaDoor
/- THE CELL 'sum', in the pinned program and in every row, IS THE sha256 OF THE DUMP (.gsa) THAT YtlhemachmidoaaaDoorProg.lean LOADS. Nothing in Lean hashes anything: it is a label: what it is worth is what the hold of that sum in a sandbox is worth. -/
noncomputable def Tryd.pinned : Pinned := { name := "ytlhemachmidoaaadoor", sum := "6b0ea87911f232179f55b0d9888bc7afa3a633b03b091226a6f35dc4845964f8", checked := Tryd.checked }
namespace Rows
def none {H : Type} : Left H := { results := [], args := [] }

/- WHAT THE LISTED PACKAGE-LEVEL VARIABLES READ AS WHEN THE CALL BEGINS. Each datum BY PROGRAM (the guide's laid-datum.mjs) off the statement by which the dump's own 'gosem.cut.vars' lays the variable. In a bare row this is a premise. The card (YtlhemachmidoaaaDoorCards.lean) ties it to the program's text. -/
def laid_unicode_utf8_acceptRanges {H : Type} : DataW H := .agg [.agg [.lit (.int .u8 128), .lit (.int .u8 191)], .agg [.lit (.int .u8 160), .lit (.int .u8 191)], .agg [.lit (.int .u8 128), .lit (.int .u8 159)], .agg [.lit (.int .u8 144), .lit (.int .u8 191)], .agg [.lit (.int .u8 128), .lit (.int .u8 143)], .agg [.lit (.int .u8 0), .lit (.int .u8 0)], .agg [.lit (.int .u8 0), .lit (.int .u8 0)], .agg [.lit (.int .u8 0), .lit (.int .u8 0)], .agg [.lit (.int .u8 0), .lit (.int .u8 0)], .agg [.lit (.int .u8 0), .lit (.int .u8 0)], .agg [.lit (.int .u8 0), .lit (.int .u8 0)], .agg [.lit (.int .u8 0), .lit (.int .u8 0)], .agg [.lit (.int .u8 0), .lit (.int .u8 0)], .agg [.lit (.int .u8 0), .lit (.int .u8 0)], .agg [.lit (.int .u8 0), .lit (.int .u8 0)], .agg [.lit (.int .u8 0), .lit (.int .u8 0)]]
/-- One of Go's own tables, pinned by name: the form's constant. -/
def laid_unicode_utf8_first : DataW Unit := Go.Pinned.utf8First

/-- 'joistlaw06.NamesTells': WHATEVER THE INPUT: true; the input reads as it did. -/
def namesTellsSpec : ChangeSpec := { name := "namesTells", fn := fun _ => fun
  | [d] => { results := [.lit (.bool true)], args := [d] }
  | _ => none }
def namesTellsRow : OpenClaim := { program := "ytlhemachmidoaaadoor", sum := "6b0ea87911f232179f55b0d9888bc7afa3a633b03b091226a6f35dc4845964f8", func := "joist/joistlaw06.NamesTells", spec := "namesTells", named := ["unicode/utf8.first", "unicode/utf8.acceptRanges"], apart := false, laid := [("unicode/utf8.acceptRanges", laid_unicode_utf8_acceptRanges), ("unicode/utf8.first", laid_unicode_utf8_first)] }
def NamesTellsSaid : Prop := namesTellsRow.holds Tryd.pinned (OpenSpec.ofChange namesTellsSpec)

/-- ITS FALSE NEIGHBOUR: 'it returns false'. Refute it at one input. -/
def namesTellsWrong : ChangeSpec := { name := "namesTells", fn := fun _ => fun
  | [d] => { results := [.lit (.bool false)], args := [d] }
  | _ => none }
def NamesTellsWrongFalsely : Prop := namesTellsRow.holds Tryd.pinned (OpenSpec.ofChange namesTellsWrong)

/-- 'joistlaw06.NamesCodes': WHATEVER THE INPUT: true; the input reads as it did. -/
def namesCodesSpec : ChangeSpec := { name := "namesCodes", fn := fun _ => fun
  | [d1, d2] => { results := [.lit (.bool true)], args := [d1, d2] }
  | _ => none }
def namesCodesRow : OpenClaim := { program := "ytlhemachmidoaaadoor", sum := "6b0ea87911f232179f55b0d9888bc7afa3a633b03b091226a6f35dc4845964f8", func := "joist/joistlaw06.NamesCodes", spec := "namesCodes", named := ["unicode/utf8.first", "unicode/utf8.acceptRanges"], apart := false, laid := [("unicode/utf8.acceptRanges", laid_unicode_utf8_acceptRanges), ("unicode/utf8.first", laid_unicode_utf8_first)] }
def NamesCodesSaid : Prop := namesCodesRow.holds Tryd.pinned (OpenSpec.ofChange namesCodesSpec)

/-- ITS FALSE NEIGHBOUR: 'it returns false'. Refute it at one input. -/
def namesCodesWrong : ChangeSpec := { name := "namesCodes", fn := fun _ => fun
  | [d1, d2] => { results := [.lit (.bool false)], args := [d1, d2] }
  | _ => none }
def NamesCodesWrongFalsely : Prop := namesCodesRow.holds Tryd.pinned (OpenSpec.ofChange namesCodesWrong)

/-- 'joistlaw06.NamesBack': WHATEVER THE INPUT: true; the input reads as it did. -/
def namesBackSpec : ChangeSpec := { name := "namesBack", fn := fun _ => fun
  | [d1, d2] => { results := [.lit (.bool true)], args := [d1, d2] }
  | _ => none }
def namesBackRow : OpenClaim := { program := "ytlhemachmidoaaadoor", sum := "6b0ea87911f232179f55b0d9888bc7afa3a633b03b091226a6f35dc4845964f8", func := "joist/joistlaw06.NamesBack", spec := "namesBack", named := ["unicode/utf8.first", "unicode/utf8.acceptRanges"], apart := false, laid := [("unicode/utf8.acceptRanges", laid_unicode_utf8_acceptRanges), ("unicode/utf8.first", laid_unicode_utf8_first)] }
def NamesBackSaid : Prop := namesBackRow.holds Tryd.pinned (OpenSpec.ofChange namesBackSpec)

/-- ITS FALSE NEIGHBOUR: 'it returns false'. Refute it at one input. -/
def namesBackWrong : ChangeSpec := { name := "namesBack", fn := fun _ => fun
  | [d1, d2] => { results := [.lit (.bool false)], args := [d1, d2] }
  | _ => none }
def NamesBackWrongFalsely : Prop := namesBackRow.holds Tryd.pinned (OpenSpec.ofChange namesBackWrong)

/-- 'joistlaw06.NamesFolds': WHATEVER THE INPUT: true; the input reads as it did. -/
def namesFoldsSpec : ChangeSpec := { name := "namesFolds", fn := fun _ => fun
  | [d] => { results := [.lit (.bool true)], args := [d] }
  | _ => none }
def namesFoldsRow : OpenClaim := { program := "ytlhemachmidoaaadoor", sum := "6b0ea87911f232179f55b0d9888bc7afa3a633b03b091226a6f35dc4845964f8", func := "joist/joistlaw06.NamesFolds", spec := "namesFolds", named := ["unicode/utf8.first", "unicode/utf8.acceptRanges"], apart := false, laid := [("unicode/utf8.acceptRanges", laid_unicode_utf8_acceptRanges), ("unicode/utf8.first", laid_unicode_utf8_first)] }
def NamesFoldsSaid : Prop := namesFoldsRow.holds Tryd.pinned (OpenSpec.ofChange namesFoldsSpec)

/-- ITS FALSE NEIGHBOUR: 'it returns false'. Refute it at one input. -/
def namesFoldsWrong : ChangeSpec := { name := "namesFolds", fn := fun _ => fun
  | [d] => { results := [.lit (.bool false)], args := [d] }
  | _ => none }
def NamesFoldsWrongFalsely : Prop := namesFoldsRow.holds Tryd.pinned (OpenSpec.ofChange namesFoldsWrong)

/-- 'joistlaw06.NamesLengths': WHATEVER THE INPUT: true; the input reads as it did. -/
def namesLengthsSpec : ChangeSpec := { name := "namesLengths", fn := fun _ => fun
  | [d] => { results := [.lit (.bool true)], args := [d] }
  | _ => none }
def namesLengthsRow : OpenClaim := { program := "ytlhemachmidoaaadoor", sum := "6b0ea87911f232179f55b0d9888bc7afa3a633b03b091226a6f35dc4845964f8", func := "joist/joistlaw06.NamesLengths", spec := "namesLengths", named := ["unicode/utf8.first", "unicode/utf8.acceptRanges"], apart := false, laid := [("unicode/utf8.acceptRanges", laid_unicode_utf8_acceptRanges), ("unicode/utf8.first", laid_unicode_utf8_first)] }
def NamesLengthsSaid : Prop := namesLengthsRow.holds Tryd.pinned (OpenSpec.ofChange namesLengthsSpec)

/-- ITS FALSE NEIGHBOUR: 'it returns false'. Refute it at one input. -/
def namesLengthsWrong : ChangeSpec := { name := "namesLengths", fn := fun _ => fun
  | [d] => { results := [.lit (.bool false)], args := [d] }
  | _ => none }
def NamesLengthsWrongFalsely : Prop := namesLengthsRow.holds Tryd.pinned (OpenSpec.ofChange namesLengthsWrong)

/-- 'joistlaw09.RootsCodes': WHATEVER THE INPUT: true; the input reads as it did. -/
def rootsCodesSpec : ChangeSpec := { name := "rootsCodes", fn := fun _ => fun
  | [d1, d2] => { results := [.lit (.bool true)], args := [d1, d2] }
  | _ => none }
def rootsCodesRow : OpenClaim := { program := "ytlhemachmidoaaadoor", sum := "6b0ea87911f232179f55b0d9888bc7afa3a633b03b091226a6f35dc4845964f8", func := "joist/joistlaw09.RootsCodes", spec := "rootsCodes", unfollowed := true, recurses := true, named := ["unicode/utf8.first", "unicode/utf8.acceptRanges"], apart := false, laid := [("unicode/utf8.acceptRanges", laid_unicode_utf8_acceptRanges), ("unicode/utf8.first", laid_unicode_utf8_first)] }
def RootsCodesSaid : Prop := rootsCodesRow.holds Tryd.pinned (OpenSpec.ofChange rootsCodesSpec)

/-- ITS FALSE NEIGHBOUR: 'it returns false'. Refute it at one input. -/
def rootsCodesWrong : ChangeSpec := { name := "rootsCodes", fn := fun _ => fun
  | [d1, d2] => { results := [.lit (.bool false)], args := [d1, d2] }
  | _ => none }
def RootsCodesWrongFalsely : Prop := rootsCodesRow.holds Tryd.pinned (OpenSpec.ofChange rootsCodesWrong)

/-- 'joistlaw09.RootsBack': WHATEVER THE INPUT: true; the input reads as it did. -/
def rootsBackSpec : ChangeSpec := { name := "rootsBack", fn := fun _ => fun
  | [d1, d2] => { results := [.lit (.bool true)], args := [d1, d2] }
  | _ => none }
def rootsBackRow : OpenClaim := { program := "ytlhemachmidoaaadoor", sum := "6b0ea87911f232179f55b0d9888bc7afa3a633b03b091226a6f35dc4845964f8", func := "joist/joistlaw09.RootsBack", spec := "rootsBack", unfollowed := true, recurses := true, named := ["unicode/utf8.first", "unicode/utf8.acceptRanges"], apart := false, laid := [("unicode/utf8.acceptRanges", laid_unicode_utf8_acceptRanges), ("unicode/utf8.first", laid_unicode_utf8_first)] }
def RootsBackSaid : Prop := rootsBackRow.holds Tryd.pinned (OpenSpec.ofChange rootsBackSpec)

/-- ITS FALSE NEIGHBOUR: 'it returns false'. Refute it at one input. -/
def rootsBackWrong : ChangeSpec := { name := "rootsBack", fn := fun _ => fun
  | [d1, d2] => { results := [.lit (.bool false)], args := [d1, d2] }
  | _ => none }
def RootsBackWrongFalsely : Prop := rootsBackRow.holds Tryd.pinned (OpenSpec.ofChange rootsBackWrong)

/- THE SECOND FORM. 'bulk': how many values and letters a reading holds, each counted each time it is reached (what is shared counts as often as it is met; a slice's spare places count too). A statement '..UptoSaid' is the law's where the arguments, and the package variables that the reading takes, are together of bulk at most 1048576: NARROWER than '..Said'. Prove '..Said' where nothing that the law and all that it calls make is longer than what came in: it says more and counts as full. Else prove '..UptoSaid'. A law counts once. -/
mutual
def uptoBulk {H : Type} : DataW H → Nat
  | .lit (.string bytes) => bytes.length + 1
  | .lit _ => 1
  | .nil => 1
  | .ptr d => uptoBulk d + 1
  | .slice elems spare => uptoBulkAll elems + uptoBulkAll spare + 1
  | .agg parts => uptoBulkAll parts + 1
  | .iface _ d => uptoBulk d + 1
  | .map entries => uptoBulkEntries entries + 1
  | .held _ => 1
def uptoBulkAll {H : Type} : List (DataW H) → Nat
  | [] => 0
  | d :: r => uptoBulk d + uptoBulkAll r
def uptoBulkEntries {H : Type} : List (Lit × DataW H) → Nat
  | [] => 0
  | x :: r => uptoBulkEntry x + uptoBulkEntries r
def uptoBulkEntry {H : Type} : Lit × DataW H → Nat
  | (.string bytes, d) => bytes.length + uptoBulk d + 1
  | (_, d) => uptoBulk d + 1
 end
def uptoSmall : (H : Type) → List (DataW H) → Bool := fun _ ds => decide (uptoBulkAll ds ≤ 1048576)
def OpenSpec.upto (s : _root_.Go.ChangeSpec) : _root_.Go.OpenSpec := { _root_.Go.OpenSpec.ofChange s with cond := some uptoSmall }

/-- 'joistlaw06.NamesTells', WHERE WHAT IT READS IS OF BULK AT MOST 1048576: true; the input reads as it did. -/
def namesTellsUptoRow : OpenClaim := { program := "ytlhemachmidoaaadoor", sum := "6b0ea87911f232179f55b0d9888bc7afa3a633b03b091226a6f35dc4845964f8", func := "joist/joistlaw06.NamesTells", spec := "namesTells", named := ["unicode/utf8.first", "unicode/utf8.acceptRanges"], apart := false, laid := [("unicode/utf8.acceptRanges", laid_unicode_utf8_acceptRanges), ("unicode/utf8.first", laid_unicode_utf8_first)], narrowed := true }
def NamesTellsUptoSaid : Prop := namesTellsUptoRow.holds Tryd.pinned (OpenSpec.upto namesTellsSpec)

/-- 'joistlaw06.NamesCodes', WHERE WHAT IT READS IS OF BULK AT MOST 1048576: true; the input reads as it did. -/
def namesCodesUptoRow : OpenClaim := { program := "ytlhemachmidoaaadoor", sum := "6b0ea87911f232179f55b0d9888bc7afa3a633b03b091226a6f35dc4845964f8", func := "joist/joistlaw06.NamesCodes", spec := "namesCodes", named := ["unicode/utf8.first", "unicode/utf8.acceptRanges"], apart := false, laid := [("unicode/utf8.acceptRanges", laid_unicode_utf8_acceptRanges), ("unicode/utf8.first", laid_unicode_utf8_first)], narrowed := true }
def NamesCodesUptoSaid : Prop := namesCodesUptoRow.holds Tryd.pinned (OpenSpec.upto namesCodesSpec)

/-- 'joistlaw06.NamesBack', WHERE WHAT IT READS IS OF BULK AT MOST 1048576: true; the input reads as it did. -/
def namesBackUptoRow : OpenClaim := { program := "ytlhemachmidoaaadoor", sum := "6b0ea87911f232179f55b0d9888bc7afa3a633b03b091226a6f35dc4845964f8", func := "joist/joistlaw06.NamesBack", spec := "namesBack", named := ["unicode/utf8.first", "unicode/utf8.acceptRanges"], apart := false, laid := [("unicode/utf8.acceptRanges", laid_unicode_utf8_acceptRanges), ("unicode/utf8.first", laid_unicode_utf8_first)], narrowed := true }
def NamesBackUptoSaid : Prop := namesBackUptoRow.holds Tryd.pinned (OpenSpec.upto namesBackSpec)

/-- 'joistlaw06.NamesFolds', WHERE WHAT IT READS IS OF BULK AT MOST 1048576: true; the input reads as it did. -/
def namesFoldsUptoRow : OpenClaim := { program := "ytlhemachmidoaaadoor", sum := "6b0ea87911f232179f55b0d9888bc7afa3a633b03b091226a6f35dc4845964f8", func := "joist/joistlaw06.NamesFolds", spec := "namesFolds", named := ["unicode/utf8.first", "unicode/utf8.acceptRanges"], apart := false, laid := [("unicode/utf8.acceptRanges", laid_unicode_utf8_acceptRanges), ("unicode/utf8.first", laid_unicode_utf8_first)], narrowed := true }
def NamesFoldsUptoSaid : Prop := namesFoldsUptoRow.holds Tryd.pinned (OpenSpec.upto namesFoldsSpec)

/-- 'joistlaw06.NamesLengths', WHERE WHAT IT READS IS OF BULK AT MOST 1048576: true; the input reads as it did. -/
def namesLengthsUptoRow : OpenClaim := { program := "ytlhemachmidoaaadoor", sum := "6b0ea87911f232179f55b0d9888bc7afa3a633b03b091226a6f35dc4845964f8", func := "joist/joistlaw06.NamesLengths", spec := "namesLengths", named := ["unicode/utf8.first", "unicode/utf8.acceptRanges"], apart := false, laid := [("unicode/utf8.acceptRanges", laid_unicode_utf8_acceptRanges), ("unicode/utf8.first", laid_unicode_utf8_first)], narrowed := true }
def NamesLengthsUptoSaid : Prop := namesLengthsUptoRow.holds Tryd.pinned (OpenSpec.upto namesLengthsSpec)

/-- 'joistlaw09.RootsCodes', WHERE WHAT IT READS IS OF BULK AT MOST 1048576: true; the input reads as it did. -/
def rootsCodesUptoRow : OpenClaim := { program := "ytlhemachmidoaaadoor", sum := "6b0ea87911f232179f55b0d9888bc7afa3a633b03b091226a6f35dc4845964f8", func := "joist/joistlaw09.RootsCodes", spec := "rootsCodes", unfollowed := true, recurses := true, named := ["unicode/utf8.first", "unicode/utf8.acceptRanges"], apart := false, laid := [("unicode/utf8.acceptRanges", laid_unicode_utf8_acceptRanges), ("unicode/utf8.first", laid_unicode_utf8_first)], narrowed := true }
def RootsCodesUptoSaid : Prop := rootsCodesUptoRow.holds Tryd.pinned (OpenSpec.upto rootsCodesSpec)

/-- 'joistlaw09.RootsBack', WHERE WHAT IT READS IS OF BULK AT MOST 1048576: true; the input reads as it did. -/
def rootsBackUptoRow : OpenClaim := { program := "ytlhemachmidoaaadoor", sum := "6b0ea87911f232179f55b0d9888bc7afa3a633b03b091226a6f35dc4845964f8", func := "joist/joistlaw09.RootsBack", spec := "rootsBack", unfollowed := true, recurses := true, named := ["unicode/utf8.first", "unicode/utf8.acceptRanges"], apart := false, laid := [("unicode/utf8.acceptRanges", laid_unicode_utf8_acceptRanges), ("unicode/utf8.first", laid_unicode_utf8_first)], narrowed := true }
def RootsBackUptoSaid : Prop := rootsBackUptoRow.holds Tryd.pinned (OpenSpec.upto rootsBackSpec)

end Rows
end Go.Proofs.YtlhemachmidoaaaDoor
