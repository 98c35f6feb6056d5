/- Arguments of this seat's own types that read as data. Printed by wip/tools/pp.py. -/
import Derived.Test.YtlhemachmidoaaaOpen
import Derived.KernelRfl
namespace Go.Proofs.Ytlhemachmidoaaa.Open
open Go.ChangeShapes Go.WideShapes Go.Deep Go.RowKit Go.Proofs.Ytlhemachmidoaaa.P Go.Proofs.YtlhemachmidoaaaW.PrintWords
def ok29 (b : S29) : Prop := (Lit.int .i64 b.f0).wf = true ∧ (Lit.int .i64 b.f1).wf = true
theorem opens29 : Opens Try.prog 29 k29 ok29 := Opens.struct (fun x => ⟨x.1, x.2⟩) (fun _ => rfl) Try.underlying29 (by kernel_rfl) (OpensF.cons rfl (by kernel_rfl) (Opens.int Try.underlying3) (OpensF.one rfl (by kernel_rfl) (Opens.int Try.underlying3)))
def ok37 (b : S37) : Prop := b.f0.size ≤ 140737488351232 ∧ ok29 b.f1
theorem opens37 : Opens Try.prog 37 k37 ok37 := Opens.struct (fun x => ⟨x.1, x.2⟩) (fun _ => rfl) Try.underlying37 (by kernel_rfl) (OpensF.cons rfl (by kernel_rfl) (Opens.string Try.underlying9) (OpensF.one rfl (by kernel_rfl) opens29))
end Go.Proofs.Ytlhemachmidoaaa.Open
