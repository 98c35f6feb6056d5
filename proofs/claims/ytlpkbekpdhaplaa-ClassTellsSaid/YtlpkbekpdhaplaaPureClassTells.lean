/- Classes, words, cells, pages, places of cells and what begins at a word are the document's: for any integers. -/
import Derived.Test.YtlpkbekpdhaplaaC1
namespace Go.Proofs.Ytlpkbekpdhaplaa.Pure
open Go.RowKit Go.Proofs.Ytlpkbekpdhaplaa.P Go.Proofs.YtlpkbekpdhaplaaW.PrintWords Go.Proofs.YtlpkbekpdhaplaaW.PrintLast

theorem ClassTells : joistlaw12_ClassTells.Pure := by
  intro n c k o hn hc hk ho
  have ho' := bounds_i64 ho
  refine ⟨16, ?_⟩
  unfold joistlaw12_ClassTells.f
  obtain ⟨a1, b1, e1⟩ := Of_some n
  obtain ⟨a2, b2, e2⟩ := Words_some c
  obtain ⟨a3, b3, e3⟩ := Cells_some c
  obtain ⟨a4, b4, e4⟩ := Pages_some n
  obtain ⟨a5, b5, e5⟩ := Cell_some c k
  obtain ⟨a6, b6, e6⟩ := Which_some c o ho'.2
  rw [class_small, ref_Of n 16 (by omega), ref_Words, ref_Cells, ref_Pages, ref_Cell, ref_Which c o 16 (by omega) ho'.2, e1, e2, e3, e4, e5, e6]
  simp

end Go.Proofs.Ytlpkbekpdhaplaa.Pure
