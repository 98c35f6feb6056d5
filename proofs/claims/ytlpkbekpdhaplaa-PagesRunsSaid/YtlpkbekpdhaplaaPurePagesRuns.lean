/- Rows of free pages and the one that fits best: the document's answers are the program's, at any kinds. -/
import Derived.Test.YtlpkbekpdhaplaaP9
import Derived.Test.YtlpkbekpdhaplaaX1
namespace Go.Proofs.Ytlpkbekpdhaplaa.Pure
open Go.RowKit Go.Proofs.Ytlpkbekpdhaplaa.P Go.Proofs.YtlpkbekpdhaplaaW.PrintWords Go.Proofs.YtlpkbekpdhaplaaW.PrintLast
set_option linter.unusedVariables false
theorem PagesRuns : joistlaw13_PagesRuns.Pure := by
  intro l0 a1 w0 w1 w2 w3
  refine ⟨3000, ?_⟩
  unfold joistlaw13_PagesRuns.f
  rw [small_at (by decide)]
  simp only [Option.bind_some]
  by_cases hl : (l0.length : Int) > 1024
  · rw [if_pos hl]
  · rw [if_neg hl]
    have hl' : l0.length ≤ 1024 := by omega
    rw [best_is l0 a1 hl' 3000 (by omega), refBest_is l0 a1 hl' 3000 (by omega), runs_is l0 hl', refRuns_is l0 hl' 3000 (by omega)]
    have hlen := specR_length l0 0 0
    simp only [Option.bind_some, if_true]
    rw [Same_is _ (by omega) 3000 (by omega)]
    simp
end Go.Proofs.Ytlpkbekpdhaplaa.Pure
