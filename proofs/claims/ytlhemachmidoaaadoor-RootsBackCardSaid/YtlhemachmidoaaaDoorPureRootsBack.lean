/- RootsBack over the printed functions, as the row asks. -/
import Derived.Test.YtlhemachmidoaaaDoorR9
import Derived.Test.YtlhemachmidoaaaDoorOpenT
namespace Go.Proofs.YtlhemachmidoaaaDoor.Pure
open Go.RowKit Go.Proofs.YtlhemachmidoaaaDoor.P Go.Proofs.YtlhemachmidoaaaDoor.Open Go.Proofs.YtlhemachmidoaaaDoorW.PrintWords Go.Proofs.YtlhemachmidoaaaDoorW.PrintLast
set_option linter.unusedVariables false

theorem RootsBack (l0 : List (S56)) (l1 : List Int) (w0 : (l0.length ≤ maxLen ∧ l0.length * 32 ≤ 140737488351232 ∧ ∀ x ∈ l0, ok56 x)) (w1 : (l1.length ≤ maxLen ∧ l1.length * 1 ≤ 140737488351232 ∧ ∀ x ∈ l1, (Lit.int .u8 x).wf = true)) : ∃ k, joistlaw09_RootsBack.f k l0 l1 = some true :=
  rootsBack l0 l1 (by have := w0.2.1; omega)

end Go.Proofs.YtlhemachmidoaaaDoor.Pure
