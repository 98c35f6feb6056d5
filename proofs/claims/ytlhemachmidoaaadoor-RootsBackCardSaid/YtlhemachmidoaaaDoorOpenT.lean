/- Arguments of this seat's own types that read as data. Printed by wip/tools/pp.py. -/
import Derived.Test.YtlhemachmidoaaaDoorOpen
import Derived.KernelRfl
namespace Go.Proofs.YtlhemachmidoaaaDoor.Open
open Go.ChangeShapes Go.WideShapes Go.Deep Go.RowKit Go.Proofs.YtlhemachmidoaaaDoor.P Go.Proofs.YtlhemachmidoaaaDoorW.PrintWords
def ok52 (b : S52) : Prop := (Lit.int .i64 b.f0).wf = true ∧ (Lit.int .i64 b.f1).wf = true
theorem opens52 : Opens Tryd.prog 52 k52 ok52 := Opens.struct (fun x => ⟨x.1, x.2⟩) (fun _ => rfl) Tryd.underlying52 (by kernel_rfl) (OpensF.cons rfl (by kernel_rfl) (Opens.int Tryd.underlying3) (OpensF.one rfl (by kernel_rfl) (Opens.int Tryd.underlying3)))
def ok56 (b : S56) : Prop := b.f0.size ≤ 140737488351232 ∧ ok52 b.f1
theorem opens56 : Opens Tryd.prog 56 k56 ok56 := Opens.struct (fun x => ⟨x.1, x.2⟩) (fun _ => rfl) Tryd.underlying56 (by kernel_rfl) (OpensF.cons rfl (by kernel_rfl) (Opens.string Tryd.underlying9) (OpensF.one rfl (by kernel_rfl) opens52))
end Go.Proofs.YtlhemachmidoaaaDoor.Open
