/- The span that fits best is the document's: for any spans and any size. -/
import Derived.Test.YtcjalhlejneddaaG1
namespace Go.Proofs.Ytcjalhlejneddaa.Pure
open Go.RowKit Go.Proofs.Ytcjalhlejneddaa.P Go.Proofs.Ytcjalhlejneddaa.Open Go.Proofs.YtcjalhlejneddaaW.PrintWords Go.Proofs.YtcjalhlejneddaaW.PrintLast
set_option linter.unusedVariables false

theorem GapsBests (l0 : List (S25)) (a1 : Int) (w0 : (l0.length ≤ maxLen ∧ l0.length * 16 ≤ 140737488351232 ∧ ∀ x ∈ l0, ok25 x)) (w1 : (Lit.int .i64 a1).wf = true) : ∃ k, joistlaw10_GapsBests.f k l0 a1 = some true := by
  refine ⟨l0.length + 5, ?_⟩
  unfold joistlaw10_GapsBests.f
  rw [small_at (by omega), Best_is l0 a1 (by omega) _ (by omega), refBest_is l0 a1 (by omega) _ (by omega)]
  simp

end Go.Proofs.Ytcjalhlejneddaa.Pure
