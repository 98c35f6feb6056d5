/- Arguments of this seat's own types that read as data. Printed by wip/tools/pp.py. -/
import Derived.Test.YtcjalhlejneddaaOpen
import Derived.KernelRfl
namespace Go.Proofs.Ytcjalhlejneddaa.Open
open Go.ChangeShapes Go.WideShapes Go.Deep Go.RowKit Go.Proofs.Ytcjalhlejneddaa.P Go.Proofs.YtcjalhlejneddaaW.PrintWords
def ok25 (b : S25) : Prop := (Lit.int .i64 b.f0).wf = true ∧ (Lit.int .i64 b.f1).wf = true
theorem opens25 : Opens Try.prog 25 k25 ok25 := Opens.struct (fun x => ⟨x.1, x.2⟩) (fun _ => rfl) Try.underlying25 (by kernel_rfl) (OpensF.cons rfl (by kernel_rfl) (Opens.int Try.underlying3) (OpensF.one rfl (by kernel_rfl) (Opens.int Try.underlying3)))
end Go.Proofs.Ytcjalhlejneddaa.Open
