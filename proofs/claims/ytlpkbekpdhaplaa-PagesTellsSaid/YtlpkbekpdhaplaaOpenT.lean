/- Arguments of this seat's own types that read as data. Printed by wip/tools/pp.py. -/
import Derived.Test.YtlpkbekpdhaplaaOpen
import Derived.KernelRfl
namespace Go.Proofs.Ytlpkbekpdhaplaa.Open
open Go.ChangeShapes Go.WideShapes Go.Deep Go.RowKit Go.Proofs.Ytlpkbekpdhaplaa.P Go.Proofs.YtlpkbekpdhaplaaW.PrintWords
def ok44 (b : S44) : Prop := (Lit.int .i64 b.f0).wf = true ∧ (Lit.int .i64 b.f1).wf = true
theorem opens44 : Opens Try.prog 44 k44 ok44 := Opens.struct (fun x => ⟨x.1, x.2⟩) (fun _ => rfl) Try.underlying44 (by kernel_rfl) (OpensF.cons rfl (by kernel_rfl) (Opens.int Try.underlying3) (OpensF.one rfl (by kernel_rfl) (Opens.int Try.underlying3)))
end Go.Proofs.Ytlpkbekpdhaplaa.Open
