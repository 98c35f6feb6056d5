/- Cells lie behind the head and within the page, one behind another; each object's cell holds it, and one of a lesser class does not: for any integers. -/
import Derived.Test.YtlpkbekpdhaplaaC1
import Derived.Test.YtlpkbekpdhaplaaP7
namespace Go.Proofs.Ytlpkbekpdhaplaa.Pure
open Go.RowKit Go.Proofs.Ytlpkbekpdhaplaa.P Go.Proofs.YtlpkbekpdhaplaaW.PrintWords Go.Proofs.YtlpkbekpdhaplaaW.PrintLast

theorem holds_tail (c k : Int) (m : Nat) : joistlaw12_ClassHolds.j0 (m + 1) c k true = some true := by
  simp only [joistlaw12_ClassHolds.j0]
  by_cases h : 0 ≤ c ∧ c < 6
  · unfold class_Cells.f class_Cell.f class_Words.f
    simp only [if_pos h, Option.bind_some]
    obtain ⟨v, hv, h2, h3, h4, h5, h6⟩ : ∃ v, rd [2, 3, 5, 7, 10, 15] c = v ∧ 2 ≤ v ∧ v ≤ 15 ∧ 4 + v * (28 / v) ≤ 32 ∧ 32 < 4 + v * (28 / v + 1) ∧ (0 ≤ 28 / v ∧ 28 / v ≤ 14) := by
      obtain h | h | h | h | h | h := six h
      all_goals subst h; exact ⟨_, rfl, by decide +kernel, by decide +kernel, by decide +kernel, by decide +kernel, by decide +kernel⟩
    rw [hv]
    by_cases hk : 0 ≤ k ∧ k < 28 / v
    · rw [if_pos ⟨h, hk⟩]
      simp only [Option.bind_some, if_true]
      generalize 28 / v = M at *
      have a1 : 0 ≤ v * k := Int.mul_nonneg (by omega) (by omega)
      have a2 : v * k + v ≤ v * M := by
        have := Int.mul_le_mul_of_nonneg_left (show k + 1 ≤ M by omega) (show 0 ≤ v by omega)
        rw [Int.mul_add, Int.mul_one] at this
        exact this
      have a3 : v * (M + 1) = v * M + v := by rw [Int.mul_add, Int.mul_one]
      rw [a3] at h5
      rw [wrap_in (n := M + 1) (by omega) (by omega), a3, wrap_in (n := v * k) (by omega) (by omega), wrap_in (n := v * M) (by omega) (by omega), wrap_in (n := v * M + v) (by omega) (by omega), Int.mul_comm k v,
        wrap_in (n := 4 + v * k) (by omega) (by omega), wrap_in (n := 4 + v * k + v) (by omega) (by omega), wrap_in (n := 4 + v * M) (by omega) (by omega), wrap_in (n := 4 + (v * M + v)) (by omega) (by omega)]
      rw [if_pos rfl, if_pos (by omega), if_pos (by omega)]
      simp; omega
    · rw [if_neg (fun z => hk z.2)]
      simp only [Option.bind_some, if_true]
      rw [if_neg (by decide)]
      by_cases h0 : k < 0
      · rw [if_pos h0]
      · rw [if_neg h0]
        simp; omega
  · unfold class_Cells.f class_Cell.f class_Words.f
    rw [if_neg h, if_neg h, if_neg (fun z => h z.1)]
    rfl
theorem ClassHolds : joistlaw12_ClassHolds.Pure := by
  intro n c k hn hc hk
  have hn' := bounds_i64 hn
  refine ⟨1, ?_⟩
  unfold joistlaw12_ClassHolds.f
  rw [class_small]
  simp only [Option.bind_some, holds_tail]
  by_cases h : 1 ≤ n ∧ n ≤ 120
  · obtain ⟨a, ha, h2, h3⟩ : ∃ a, class_Of.f n = some (a, true) ∧ (0 ≤ a ∧ a < 6) ∧ n ≤ 8 * rd [2, 3, 5, 7, 10, 15] a ∧ (1 ≤ a → 8 * rd [2, 3, 5, 7, 10, 15] (a - 1) < n) := by
      refine ⟨class_of n, by unfold class_Of.f; rw [if_pos h], ?_⟩
      unfold class_of
      split
      · exact ⟨by omega, by simp [rd]; omega, by omega⟩
      · split
        · exact ⟨by omega, by simp [rd]; omega, by simp [rd]; omega⟩
        · split
          · exact ⟨by omega, by simp [rd]; omega, by simp [rd]; omega⟩
          · split
            · exact ⟨by omega, by simp [rd]; omega, by simp [rd]; omega⟩
            · split
              · exact ⟨by omega, by simp [rd]; omega, by simp [rd]; omega⟩
              · exact ⟨by omega, by simp [rd]; omega, by simp [rd]; omega⟩
    rw [ha]
    simp only [Option.bind_some, if_true]
    rw [wrap_in (n := a - 1) (by omega) (by omega)]
    unfold class_Words.f
    have hb : ∀ j : Int, 0 ≤ j ∧ j < 6 → 2 ≤ rd [2, 3, 5, 7, 10, 15] j ∧ rd [2, 3, 5, 7, 10, 15] j ≤ 15 := fun j hj => class_words_bd hj
    have b1 := hb a h2
    rw [if_pos h2]
    simp only [Option.bind_some]
    rw [wrap_in (n := 8 * rd [2, 3, 5, 7, 10, 15] a) (by omega) (by omega)]
    by_cases h1 : 1 ≤ a
    · have b2 := hb (a - 1) (by omega)
      rw [if_pos (show 0 ≤ a - 1 ∧ a - 1 < 6 by omega)]
      simp only [Option.bind_some, if_true]
      rw [wrap_in (n := 8 * rd [2, 3, 5, 7, 10, 15] (a - 1)) (by omega) (by omega), if_neg (show ¬ n < 1 by omega), if_neg (show ¬ 8 * rd [2, 3, 5, 7, 10, 15] a < n by omega), if_neg (by have := h3.2 h1; omega)]
    · rw [if_neg (show ¬ (0 ≤ a - 1 ∧ a - 1 < 6) by omega)]
      simp only [Option.bind_some, if_true]
      rw [if_neg (show ¬ n < 1 by omega), if_neg (show ¬ 8 * rd [2, 3, 5, 7, 10, 15] a < n by omega), if_neg (by decide)]
  · have ha : class_Of.f n = some (0, false) := by unfold class_Of.f; rw [if_neg h]
    rw [ha]
    simp only [Option.bind_some]
    have hw : class_Words.f 0 = some (2, 0) := by decide +kernel
    rw [hw]
    simp only [Option.bind_some]
    rw [if_neg (by decide)]
    unfold class_Pages.f class_largest.f
    simp only [Option.bind_some]
    by_cases h1 : n ≤ 120
    · rw [if_pos h1]
      simp only [Option.bind_some]
      rw [if_neg (by decide), if_neg (by omega)]
    · rw [if_neg h1]
      by_cases h2 : n > 2048
      · rw [if_pos h2]
        simp only [Option.bind_some]
        rw [if_neg (by decide), if_pos (by omega), if_neg (by omega)]
      · rw [if_neg h2]
        simp only [Option.bind_some, if_true]
        have e : wrap64 (Int.tdiv (wrap64 ((wrap64 (n + 256)) - 1)) 256) = (n + 255) / 256 := by
          rw [wrap_in (n := n + 256) (by omega) (by omega), wrap_in (n := n + 256 - 1) (by omega) (by omega), Int.tdiv_eq_ediv_of_nonneg (by omega), wrap_in (by omega) (by omega)]
          omega
        rw [e, wrap_in (n := (n + 255) / 256 - 1) (by omega) (by omega), wrap_in (n := 256 * ((n + 255) / 256)) (by omega) (by omega), wrap_in (n := 256 * ((n + 255) / 256 - 1)) (by omega) (by omega)]
        rw [if_neg (by omega), if_neg (by omega)]

end Go.Proofs.Ytlpkbekpdhaplaa.Pure
