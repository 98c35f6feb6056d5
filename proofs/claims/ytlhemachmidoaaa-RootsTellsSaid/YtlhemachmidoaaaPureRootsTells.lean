/- RootsTells over the printed functions. -/
import Derived.Test.YtlhemachmidoaaaR4
import Derived.Test.YtlhemachmidoaaaP24
import Derived.Test.YtlhemachmidoaaaOpenT
import Derived.OpenShut
namespace Go.Proofs.Ytlhemachmidoaaa.Pure
open Go.RowKit Go.Proofs.Ytlhemachmidoaaa.P Go.Proofs.Ytlhemachmidoaaa.Open Go.Proofs.YtlhemachmidoaaaW.PrintWords Go.Proofs.YtlhemachmidoaaaW.PrintLast
set_option linter.unusedVariables false
set_option linter.unusedSimpArgs false

theorem DNew_is (n : Int) : joistref09_New.f n = roots_New.f n := by
  unfold joistref09_New.f roots_New.f
  by_cases h1 : n < 2
  · rw [if_pos h1, if_pos h1]
  · rw [if_neg h1, if_neg h1]
    by_cases h2 : n > 8
    · rw [if_pos h2, if_pos h2]
    · rw [if_neg h2, if_neg h2, Int.tmod_eq_emod_of_nonneg (by omega)]
      by_cases h3 : n % 2 = 0
      · rw [if_pos h3, if_neg (by omega)]
      · rw [if_neg h3, if_pos (by omega)]
theorem RootsTells (l0 : List (S37)) (a1 : Int) (a2 : ByteArray) (w0 : (l0.length ≤ maxLen ∧ l0.length * 32 ≤ 140737488351232 ∧ ∀ x ∈ l0, ok37 x)) (w1 : (Lit.int .i64 a1).wf = true) (w2 : a2.size ≤ 140737488351232) : ∃ k, joistlaw09_RootsTells.f k l0 a1 a2 = some true := by
  have hll := w0.2.1
  obtain ⟨b, hb, hf⟩ := few_is l0 (by omega)
  refine ⟨2 * l0.length + 201, ?_⟩
  unfold joistlaw09_RootsTells.f
  rw [small_is _ (by omega), hf _ (by omega)]
  have hj : ∀ t, joistlaw09_RootsTells.j0 (2 * l0.length + 200 + 1) l0 a1 a2 true t = some true := by
    intro t
    simp only [joistlaw09_RootsTells.j0]
    cases t with
    | true => rfl
    | false =>
      rw [if_neg (by simp), DNew_is, New_is, Get_is l0 a2 (by omega) _ (by omega), DGet_is l0 a2 (by omega) _ (by omega), Right_is l0 (by omega) _ (by omega), DRight_is l0 (by omega) _ (by omega)]
      simp only [Option.bind_some]
      rw [Same_is _ (by split <;> simp; omega) _ (by split <;> simp; omega)]
      simp
  simp only [Option.bind_some]
  split <;> exact hj _
end Go.Proofs.Ytlhemachmidoaaa.Pure
