/- The cell's place and the cell that begins at a place undo each other: for any integers. -/
import Derived.Test.YtlpkbekpdhaplaaC1
import Derived.Test.YtlpkbekpdhaplaaP7
namespace Go.Proofs.Ytlpkbekpdhaplaa.Pure
open Go.RowKit Go.Proofs.Ytlpkbekpdhaplaa.P Go.Proofs.YtlpkbekpdhaplaaW.PrintWords Go.Proofs.YtlpkbekpdhaplaaW.PrintLast

theorem which_cell (c k : Int) (h : 0 ≤ c ∧ c < 6) (hk : 0 ≤ k ∧ k < 28 / rd [2, 3, 5, 7, 10, 15] c) : class_Which.f c (4 + k * rd [2, 3, 5, 7, 10, 15] c) = some (k, true) ∧ 4 + k * rd [2, 3, 5, 7, 10, 15] c ≤ 4 + 14 * 15 := by
  have hb := class_words_bd h
  have hd : 28 / rd [2, 3, 5, 7, 10, 15] c ≤ 14 := Int.ediv_le_of_le_mul (by omega) (by omega)
  have hm : k * rd [2, 3, 5, 7, 10, 15] c ≤ 14 * 15 := Int.mul_le_mul (by omega) hb.2 (by omega) (by omega)
  have hm0 : 0 ≤ k * rd [2, 3, 5, 7, 10, 15] c := Int.mul_nonneg hk.1 (by omega)
  refine ⟨?_, by omega⟩
  unfold class_Which.f
  rw [if_pos (by omega)]
  have e : 4 + k * rd [2, 3, 5, 7, 10, 15] c - 4 = k * rd [2, 3, 5, 7, 10, 15] c := by omega
  rw [e, Int.mul_emod_left, Int.mul_ediv_cancel _ (by omega), if_pos ⟨h, by omega, rfl, hk.2⟩]
theorem back_tail (c o : Int) (ho : o ≤ 9223372036854775807) (m : Nat) : joistlaw12_ClassBack.j0 (m + 1) c o true = some true := by
  simp only [joistlaw12_ClassBack.j0]
  unfold class_Which.f
  rw [if_pos ho]
  by_cases h : (0 ≤ c ∧ c < 6) ∧ 4 ≤ o ∧ (o - 4) % rd [2, 3, 5, 7, 10, 15] c = 0 ∧ (o - 4) / rd [2, 3, 5, 7, 10, 15] c < 28 / rd [2, 3, 5, 7, 10, 15] c
  · rw [if_pos h]
    have hb := class_words_bd h.1
    simp only [Option.bind_some, if_true]
    unfold class_Cell.f
    rw [if_pos ⟨h.1, Int.ediv_nonneg (by omega) (by omega), h.2.2.2⟩, Int.ediv_mul_cancel (Int.dvd_of_emod_eq_zero h.2.2.1)]
    simp
    omega
  · rw [if_neg h]
    rfl
theorem ClassBack : joistlaw12_ClassBack.Pure := by
  intro c k o hc hk ho
  have ho' := bounds_i64 ho
  refine ⟨1, ?_⟩
  unfold joistlaw12_ClassBack.f
  rw [class_small]
  simp only [Option.bind_some, back_tail c o ho'.2]
  by_cases h : (0 ≤ c ∧ c < 6) ∧ 0 ≤ k ∧ k < 28 / rd [2, 3, 5, 7, 10, 15] c
  · unfold class_Cell.f
    rw [if_pos h]
    simp only [Option.bind_some, if_true]
    rw [(which_cell c k h.1 h.2).1]
    simp
  · unfold class_Cell.f
    rw [if_neg h]
    rfl

end Go.Proofs.Ytlpkbekpdhaplaa.Pure
