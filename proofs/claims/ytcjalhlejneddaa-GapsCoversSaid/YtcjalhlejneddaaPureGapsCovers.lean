/- The Go function joistlaw10.GapsCovers returns true: its value, at any arguments. -/
import Derived.Test.YtcjalhlejneddaaGc
import Derived.Test.YtcjalhlejneddaaOpenT
namespace Go.Proofs.Ytcjalhlejneddaa.Pure
open Go.RowKit Go.Proofs.Ytcjalhlejneddaa.P Go.Proofs.Ytcjalhlejneddaa.Open Go.Proofs.YtcjalhlejneddaaW.PrintWords Go.Proofs.YtcjalhlejneddaaW.PrintLast
set_option linter.unusedVariables false

theorem GapsCovers (a0 : Int) (a1 : Int) (l2 : List (S25)) (w0 : (Lit.int .i64 a0).wf = true) (w1 : (Lit.int .i64 a1).wf = true) (w2 : (l2.length ≤ maxLen ∧ l2.length * 16 ≤ 140737488351232 ∧ ∀ x ∈ l2, ok25 x)) : joistlaw10_GapsCovers.f a0 a1 l2 = some true := rfl

end Go.Proofs.Ytcjalhlejneddaa.Pure
