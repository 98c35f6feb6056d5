/- Classes rise with the bytes by at most one, pages too, and a slab of greater cells has no more of them: for any integers. -/
import Derived.Test.YtlpkbekpdhaplaaC1
import Derived.Test.YtlpkbekpdhaplaaP8
namespace Go.Proofs.Ytlpkbekpdhaplaa.Pure
open Go.RowKit Go.Proofs.Ytlpkbekpdhaplaa.P Go.Proofs.YtlpkbekpdhaplaaW.PrintWords Go.Proofs.YtlpkbekpdhaplaaW.PrintLast

theorem rises_cells (c : Int) (hc : -9223372036854775808 ≤ c ∧ c ≤ 9223372036854775807) (m : Nat) : joistlaw12_ClassRises.j2 (m + 1) c true false = some true := by
  simp only [joistlaw12_ClassRises.j2, Bool.false_eq_true, if_false]
  by_cases h : 0 ≤ c ∧ c < 6
  · obtain h | h | h | h | h | h := six h
    all_goals subst h; decide +kernel
  · unfold class_Cells.f
    rw [if_neg h]
    rfl
theorem pages_of (n : Int) (hn : -9223372036854775808 ≤ n ∧ n ≤ 9223372036854775000) : class_Pages.f n = if 120 < n ∧ n ≤ 2048 then some ((n + 255) / 256, 0) else some (0, 1) := by
  unfold class_Pages.f class_largest.f
  simp only [Option.bind_some]
  by_cases h : 120 < n ∧ n ≤ 2048
  · rw [if_pos h, if_neg (show ¬ n ≤ 120 by omega), if_neg (show ¬ n > 2048 by omega)]
    rw [wrap_in (n := n + 256) (by omega) (by omega), wrap_in (n := n + 256 - 1) (by omega) (by omega), Int.tdiv_eq_ediv_of_nonneg (by omega), wrap_in (by omega) (by omega)]
    have : n + 256 - 1 = n + 255 := by omega
    rw [this]
  · rw [if_neg h]
    by_cases h1 : n ≤ 120
    · rw [if_pos h1]
    · rw [if_neg h1, if_pos (by omega)]
theorem ClassRises : joistlaw12_ClassRises.Pure := by
  intro n c hn hc
  have hn' := bounds_i64 hn
  have hc' := bounds_i64 hc
  refine ⟨3, ?_⟩
  unfold joistlaw12_ClassRises.f
  rw [class_small]
  simp only [Option.bind_some]
  by_cases g : n > 1099511627776
  · rw [if_pos g]
    simp [joistlaw12_ClassRises.j0]
  · rw [if_neg g]
    by_cases g2 : n < -1099511627776
    · simp [joistlaw12_ClassRises.j0, g2]
    · have ed : decide (n < -1099511627776) = false := decide_eq_false g2
      rw [ed]
      have t1 : joistlaw12_ClassRises.j1 2 n c true (decide (1 ≤ n ∧ n ≤ 120)) (if 120 < n ∧ n ≤ 2048 then 0 else 1) false = some true := by
        have hj : ∀ b, b = false → joistlaw12_ClassRises.j2 1 c true b = some true := fun b hb => by subst hb; exact rises_cells c hc' 0
        simp only [joistlaw12_ClassRises.j1, Bool.false_eq_true, if_false]
        by_cases h1 : 1 ≤ n ∧ n ≤ 120
        · rw [decide_eq_true h1, if_pos rfl, if_pos h1.1, decide_eq_true (show n ≤ 2048 by omega)]
          exact hj _ rfl
        · rw [decide_eq_false h1, if_neg (by decide)]
          by_cases h2 : n ≥ 1
          · rw [if_pos h2]
            by_cases h3 : n ≤ 2048
            · rw [if_pos (show 120 < n ∧ n ≤ 2048 by omega), decide_eq_true h3]
              exact hj _ rfl
            · rw [if_neg (show ¬ (120 < n ∧ n ≤ 2048) by omega), decide_eq_false h3]
              exact hj _ rfl
          · rw [if_neg h2, if_neg (show ¬ (120 < n ∧ n ≤ 2048) by omega)]
            exact hj _ rfl
      simp only [joistlaw12_ClassRises.j0, Bool.false_eq_true, if_false]
      rw [wrap_in (n := n + 1) (by omega) (by omega), pages_of n (by omega), pages_of (n + 1) (by omega)]
      unfold class_Of.f
      by_cases h1 : 1 ≤ n ∧ n ≤ 120
      · rw [decide_eq_true h1, if_neg (show ¬ (120 < n ∧ n ≤ 2048) by omega)] at t1
        rw [if_pos h1, if_neg (show ¬ (120 < n ∧ n ≤ 2048) by omega)]
        by_cases h2 : n + 1 ≤ 120
        · rw [if_pos (show 1 ≤ n + 1 ∧ n + 1 ≤ 120 by omega), if_neg (show ¬ (120 < n + 1 ∧ n + 1 ≤ 2048) by omega)]
          simp only [Option.bind_some, if_true]
          have hr : class_of n ≤ class_of (n + 1) ∧ class_of (n + 1) ≤ class_of n + 1 ∧ 0 ≤ class_of n ∧ class_of n ≤ 5 := by unfold class_of; omega
          rw [if_neg (by omega), wrap_in (by omega) (by omega), if_neg (by omega), if_neg (by decide)]
          exact t1
        · rw [if_neg (show ¬ (1 ≤ n + 1 ∧ n + 1 ≤ 120) by omega), if_pos (show 120 < n + 1 ∧ n + 1 ≤ 2048 by omega)]
          simp only [Option.bind_some, if_true]
          rw [if_neg (by decide), if_neg (by decide)]
          exact t1
      · rw [decide_eq_false h1] at t1
        rw [if_neg h1]
        simp only [Option.bind_some, Bool.false_eq_true, if_false]
        by_cases h3 : 120 < n ∧ n ≤ 2048
        · rw [if_pos h3] at t1
          rw [if_pos h3]
          rw [if_neg (show ¬ (1 ≤ n + 1 ∧ n + 1 ≤ 120) by omega)]
          simp only [Option.bind_some, if_true]
          by_cases h4 : 120 < n + 1 ∧ n + 1 ≤ 2048
          · rw [if_pos h4]
            simp only [Option.bind_some, if_true]
            rw [if_neg (by omega), wrap_in (n := (n + 255) / 256 + 1) (by omega) (by omega), decide_eq_false (by omega)]
            exact t1
          · rw [if_neg h4]
            simp only [Option.bind_some]
            rw [if_neg (by decide)]
            exact t1
        · rw [if_neg h3] at t1
          rw [if_neg h3]
          obtain ⟨a, b, e1⟩ := Of_some (n + 1)
          unfold class_Of.f at e1
          rw [e1]
          obtain ⟨p, q, e2⟩ := Pages_some (n + 1)
          rw [pages_of (n + 1) (by omega)] at e2
          rw [e2]
          simp only [Option.bind_some]
          rw [if_neg (by decide)]
          exact t1

end Go.Proofs.Ytlpkbekpdhaplaa.Pure
