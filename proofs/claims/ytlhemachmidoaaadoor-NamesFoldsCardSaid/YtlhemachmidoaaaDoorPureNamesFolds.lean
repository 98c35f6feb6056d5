/- NamesFolds over the printed functions. -/
import Derived.Test.YtlhemachmidoaaaDoorU1
import Derived.Test.YtlhemachmidoaaaDoorP12
import Derived.OpenShut
namespace Go.Proofs.YtlhemachmidoaaaDoor.Pure
open Go.RowKit Go.Proofs.YtlhemachmidoaaaDoor.P Go.Proofs.YtlhemachmidoaaaDoorW.PrintWords Go.Proofs.YtlhemachmidoaaaDoorW.PrintLast
set_option linter.unusedVariables false
set_option linter.unusedSimpArgs false

theorem NamesFolds : joistlaw06_NamesFolds.Pure := by
  intro s hs
  unfold joistlaw06_NamesFolds.f
  rw [small_true]
  simp only [Option.bind_some, if_true]
  by_cases h : (s.size : Int) > 4096
  · rw [if_pos h]
  · have hsz := fold_size s
    rw [if_neg h]
    unfold names_Fold.f names_Right.f
    rw [if_pos (by omega)]
    simp only [Option.bind_some]
    rw [if_pos (by omega)]
    simp only [Option.bind_some]
    rw [fold_again, if_pos rfl]
    cases hr : names_right s with
    | false => rfl
    | true =>
      obtain ⟨h1, h2⟩ := fold_keeps hr
      rw [h1, h2]
      simp
end Go.Proofs.YtlhemachmidoaaaDoor.Pure
