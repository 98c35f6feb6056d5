/- The need of bytes rises by multiples of Unit, and holds them: for any integer. -/
import Derived.Test.YtcjalhlejneddaaG1
import Derived.Test.YtcjalhlejneddaaP4
namespace Go.Proofs.Ytcjalhlejneddaa.Pure
open Go.RowKit Go.Proofs.Ytcjalhlejneddaa.P Go.Proofs.YtcjalhlejneddaaW.PrintWords Go.Proofs.YtcjalhlejneddaaW.PrintLast

theorem need_is (n : Int) (hn : -9223372036854775808 ≤ n ∧ n ≤ 9223372036854775807) : gaps_Need.f n = some (if 1 ≤ n ∧ n ≤ 2048 then ((2 + (n + 7) / 8 + 3) / 4 * 4, 0) else (0, 1)) := by
  unfold gaps_Need.f
  by_cases h : 1 ≤ n ∧ n ≤ 2048
  · rw [if_pos h, if_neg (by omega), if_neg (by omega)]
    unfold gaps_up.f
    have e1 : wrap64 ((wrap64 (n + 8)) - 1) = n + 7 := by
      rw [wrap_in (n := n + 8) (by omega) (by omega), wrap_in (by omega) (by omega)]
      omega
    rw [e1, Int.tdiv_eq_ediv_of_nonneg (a := n + 7) (by omega), wrap_in (n := (n + 7) / 8) (by omega) (by omega), wrap_in (n := 2 + (n + 7) / 8) (by omega) (by omega)]
    have e2 : wrap64 ((wrap64 (2 + (n + 7) / 8 + 4)) - 1) = 2 + (n + 7) / 8 + 3 := by
      rw [wrap_in (n := 2 + (n + 7) / 8 + 4) (by omega) (by omega), wrap_in (by omega) (by omega)]
      omega
    rw [e2, Int.tdiv_eq_ediv_of_nonneg (a := 2 + (n + 7) / 8 + 3) (by omega), wrap_in (n := (2 + (n + 7) / 8 + 3) / 4) (by omega) (by omega), wrap_in (by omega) (by omega)]
    rfl
  · rw [if_neg h]
    by_cases h1 : n < 1
    · rw [if_pos h1]
    · rw [if_neg h1, if_pos (by omega)]
theorem GapsNeeds : joistlaw10_GapsNeeds.Pure := by
  intro n hn
  have hn' := bounds_i64 hn
  refine ⟨5, ?_⟩
  unfold joistlaw10_GapsNeeds.f
  rw [small5, need_is n hn']
  simp only [Option.bind_some]
  by_cases h : 1 ≤ n ∧ n ≤ 2048
  · rw [if_pos h]
    simp only [if_true]
    rw [wrap_in (n := n + 1) (by omega) (by omega), need_is (n + 1) (by omega)]
    simp only [Option.bind_some]
    generalize hw : (2 + (n + 7) / 8 + 3) / 4 * 4 = v
    have hv : 0 ≤ v ∧ v ≤ 300 ∧ v % 4 = 0 := by omega
    rw [if_pos (show n ≥ 1 by omega), if_pos (show n ≤ 2048 by omega), Int.tmod_eq_emod_of_nonneg (by omega), if_pos (by omega), wrap_in (n := v - 2) (by omega) (by omega), wrap_in (n := 8 * (v - 2)) (by omega) (by omega), wrap_in (n := v - 2 - 4) (by omega) (by omega), wrap_in (n := 8 * (v - 2 - 4)) (by omega) (by omega), if_pos (by omega), if_pos (by omega)]
    by_cases h2 : 1 ≤ n + 1 ∧ n + 1 ≤ 2048
    · rw [if_pos h2]
      simp only [if_true]
      rw [wrap_in (n := v + 4) (by omega) (by omega)]
      split
      · rfl
      · congr 1
        rw [beq_iff_eq]
        omega
    · rw [if_neg h2]
      simp only
      rw [if_neg (by decide), if_pos (by omega)]
  · rw [if_neg h]
    simp only
    rw [if_neg (by decide)]
    simp only [if_true]
    by_cases h1 : n < 1
    · rw [if_pos h1]
    · rw [if_neg h1, decide_eq_true (by omega)]

end Go.Proofs.Ytcjalhlejneddaa.Pure
