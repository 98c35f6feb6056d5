/- A free page takes as many objects of a class as a slab has cells, one behind another: seen at every length. -/
import Derived.Test.YtlpkbekpdhaplaaP18
import Derived.Test.YtlpkbekpdhaplaaX1
namespace Go.Proofs.Ytlpkbekpdhaplaa.Pure
open Go.RowKit Go.Proofs.Ytlpkbekpdhaplaa.P Go.Proofs.YtlpkbekpdhaplaaW.PrintWords Go.Proofs.YtlpkbekpdhaplaaW.PrintLast
set_option linter.unusedVariables false

theorem fills_all : (List.range 120).all (fun n => decide (joistlaw13_PagesFills.f 60 ((n : Int) + 1) = some true)) = true := by decide +kernel
theorem PagesFills : joistlaw13_PagesFills.Pure := by
  intro a0 w0
  by_cases h : 1 ≤ a0 ∧ a0 ≤ 120
  · refine ⟨60, ?_⟩
    have := List.all_eq_true.1 fills_all (a0.toNat - 1) (List.mem_range.2 (by omega))
    rw [decide_eq_true_eq, show (((a0.toNat - 1 : Nat) : Int) + 1) = a0 by omega] at this
    exact this
  · obtain ⟨K, hK⟩ : ∃ K : Nat, K = 60 := ⟨_, rfl⟩
    refine ⟨K, ?_⟩
    unfold joistlaw13_PagesFills.f
    rw [small_at (by omega)]
    unfold class_Of.f
    rw [if_neg h]
    simp only [Option.bind_some]
    have hc : class_Cells.f 0 = some (14, 0) := by decide +kernel
    rw [hc]
    simp only [Option.bind_some, Bool.false_eq_true, if_false]
    obtain ⟨K, rfl⟩ : ∃ m, K = m + 1 := ⟨K - 1, by omega⟩
    simp only [joistlaw13_PagesFills.j0, if_true]
end Go.Proofs.Ytlpkbekpdhaplaa.Pure
