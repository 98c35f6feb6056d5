/- The document's answers on classes are the program's: for any integers (a place within int's range for Which). -/
import Derived.Test.YtlpkbekpdhaplaaP6
import Derived.OpenShut
namespace Go.Proofs.Ytlpkbekpdhaplaa.Pure
open Go.RowKit Go.Proofs.Ytlpkbekpdhaplaa.P Go.Proofs.YtlpkbekpdhaplaaW.PrintWords Go.Proofs.YtlpkbekpdhaplaaW.PrintLast
set_option linter.unusedSimpArgs false

theorem class_small : joistlaw12_small.f = some true := by decide +kernel
theorem six {c : Int} (h : 0 ≤ c ∧ c < 6) : c = 0 ∨ c = 1 ∨ c = 2 ∨ c = 3 ∨ c = 4 ∨ c = 5 := by omega
theorem wrap_in {n : Int} (h0 : -9223372036854775808 ≤ n) (h1 : n ≤ 9223372036854775807) : wrap64 n = n := by unfold wrap64; omega
theorem ref_Words (c : Int) : joistref12_Words.f c = class_Words.f c := by
  unfold joistref12_Words.f class_Words.f joistref12_sizes.f
  by_cases h : 0 ≤ c ∧ c < 6
  · rw [if_pos h]
    simp only [Option.bind_some, List.length_cons, List.length_nil]
    rw [if_neg (by omega), if_neg (by omega), if_pos h.1, if_pos (by omega)]
  · rw [if_neg h]
    simp only [Option.bind_some, List.length_cons, List.length_nil]
    by_cases h0 : c < 0
    · rw [if_pos h0]
    · rw [if_neg h0, if_pos (by omega)]
theorem ref_Cells (c : Int) : joistref12_Cells.f c = class_Cells.f c := by
  unfold joistref12_Cells.f class_Cells.f
  rw [ref_Words]
  unfold class_Words.f
  by_cases h : 0 ≤ c ∧ c < 6
  · rw [if_pos h, if_pos h]
    obtain h | h | h | h | h | h := six h
    all_goals subst h; decide +kernel
  · rw [if_neg h, if_neg h]
    rfl
theorem ref_Pages (n : Int) : joistref12_Pages.f n = class_Pages.f n := by
  unfold joistref12_Pages.f class_Pages.f class_largest.f
  rfl
theorem ref_Cell (c k : Int) : joistref12_Cell.f c k = class_Cell.f c k := by
  unfold joistref12_Cell.f class_Cell.f
  rw [ref_Cells, ref_Words]
  unfold class_Cells.f class_Words.f
  by_cases h : 0 ≤ c ∧ c < 6
  · simp only [if_pos h, Option.bind_some, if_true]
    have h14 : 28 / rd [2, 3, 5, 7, 10, 15] c ≤ 14 ∧ 0 ≤ rd [2, 3, 5, 7, 10, 15] c ∧ rd [2, 3, 5, 7, 10, 15] c ≤ 15 := by
      obtain h | h | h | h | h | h := six h
      all_goals subst h; decide +kernel
    by_cases h0 : k < 0
    · rw [if_pos h0, if_neg (by omega)]
    · rw [if_neg h0]
      by_cases h1 : k ≥ 28 / rd [2, 3, 5, 7, 10, 15] c
      · rw [if_pos h1, if_neg (by omega)]
      · rw [if_neg h1, if_pos ⟨h, by omega, by omega⟩]
        have hm : 0 ≤ rd [2, 3, 5, 7, 10, 15] c * k := Int.mul_nonneg h14.2.1 (by omega)
        have hm2 : rd [2, 3, 5, 7, 10, 15] c * k ≤ 15 * 14 := Int.mul_le_mul h14.2.2 (by omega) (by omega) (by omega)
        rw [wrap_in (n := rd [2, 3, 5, 7, 10, 15] c * k) (by omega) (by omega), wrap_in (by omega) (by omega), Int.mul_comm k]
  · simp only [if_neg h, Option.bind_some]
    rw [if_neg (by omega), if_neg (fun z => h z.1)]
theorem ref_Of_from (n : Int) (hn : 1 ≤ n) : ∀ d (k i : Nat), i + d = 6 → d < k → class_past i n ∨ i = 6 ∧ 120 < n → joistref12_Of.l0 k n [2, 3, 5, 7, 10, 15] i = class_Of.f n := by
  intro d
  induction d with
  | zero =>
    intro k i hi hk h
    obtain ⟨k, rfl⟩ : ∃ m, k = m + 1 := ⟨k - 1, by omega⟩
    obtain rfl : i = 6 := by omega
    rcases h with h | h
    · exact absurd h.1 (by omega)
    · simp only [joistref12_Of.l0, List.length_cons, List.length_nil]
      rw [if_neg (by omega)]
      unfold class_Of.f
      rw [if_neg (by omega)]
  | succ d ih =>
    intro k i hi hk h
    obtain ⟨k, rfl⟩ : ∃ m, k = m + 1 := ⟨k - 1, by omega⟩
    rcases h with h | h
    · simp only [joistref12_Of.l0, List.length_cons, List.length_nil]
      rw [if_pos (by omega), if_pos (by omega), if_pos (by omega)]
      have hb : 0 ≤ rd [2, 3, 5, 7, 10, 15] i ∧ rd [2, 3, 5, 7, 10, 15] i ≤ 15 := by
        obtain h | h | h | h | h | h := six (c := (i : Int)) (by omega)
        all_goals rw [h]; decide +kernel
      rw [wrap_in (by omega) (by omega), wrap_in (n := (i : Int) + 1) (by omega) (by omega)]
      by_cases hle : n ≤ 8 * rd [2, 3, 5, 7, 10, 15] i
      · rw [if_pos hle]
        unfold class_Of.f
        rw [if_pos ⟨hn, by omega⟩, class_of_at h hle]
      · rw [if_neg hle]
        refine ih k (i + 1) (by omega) (by omega) ?_
        by_cases h120 : n ≤ 120
        · by_cases h5 : i = 5
          · subst h5; exact absurd hle (by simp [rd]; omega)
          · exact .inl (class_past_next h hle h120)
        · by_cases h5 : i = 5
          · exact .inr ⟨by omega, by omega⟩
          · refine .inl ?_
            unfold class_past
            omega
    · omega
theorem ref_Of (n : Int) (k : Nat) (hk : 6 < k) : joistref12_Of.f k n = class_Of.f n := by
  unfold joistref12_Of.f joistref12_sizes.f
  simp only [Option.bind_some]
  by_cases hn : 1 ≤ n
  · exact ref_Of_from n hn 6 k 0 rfl hk (.inl (by unfold class_past; omega))
  · have key : ∀ d (k i : Nat), i + d = 6 → d < k → joistref12_Of.l0 k n [2, 3, 5, 7, 10, 15] i = some (0, false) := by
      intro d
      induction d with
      | zero =>
        intro k i hi hk
        obtain ⟨k, rfl⟩ : ∃ m, k = m + 1 := ⟨k - 1, by omega⟩
        obtain rfl : i = 6 := by omega
        simp only [joistref12_Of.l0, List.length_cons, List.length_nil]
        rw [if_neg (by omega)]
      | succ d ih =>
        intro k i hi hk
        obtain ⟨k, rfl⟩ : ∃ m, k = m + 1 := ⟨k - 1, by omega⟩
        simp only [joistref12_Of.l0, List.length_cons, List.length_nil]
        rw [if_pos (by omega), if_neg (by omega), wrap_in (by omega) (by omega)]
        exact ih k (i + 1) (by omega) (by omega)
    rw [show (0 : Int) = ((0 : Nat) : Int) from rfl, key 6 k 0 rfl hk]
    unfold class_Of.f
    rw [if_neg (by omega)]
/-- The reference looks at cell after cell. -/
theorem ref_Which (c o : Int) (k : Nat) (hk : 15 < k) (ho : o ≤ 9223372036854775807) : joistref12_Which.f k c o = class_Which.f c o := by
  unfold joistref12_Which.f class_Which.f
  rw [ref_Cells, if_pos ho]
  by_cases h : 0 ≤ c ∧ c < 6
  · unfold class_Cells.f
    rw [if_pos h]
    simp only [Option.bind_some]
    have hb : (2 ≤ rd [2, 3, 5, 7, 10, 15] c ∧ rd [2, 3, 5, 7, 10, 15] c ≤ 15) ∧ 0 ≤ 28 / rd [2, 3, 5, 7, 10, 15] c ∧ 28 / rd [2, 3, 5, 7, 10, 15] c ≤ 14 := by
      obtain h | h | h | h | h | h := six h
      all_goals subst h; decide +kernel
    have hcell : ∀ i : Nat, (i : Int) < 28 / rd [2, 3, 5, 7, 10, 15] c → joistref12_Cell.f c i = some (4 + (i : Int) * rd [2, 3, 5, 7, 10, 15] c, 0) := by
      intro i hi
      rw [ref_Cell]
      unfold class_Cell.f
      rw [if_pos ⟨h, by omega, hi⟩]
    revert hb hcell
    generalize rd [2, 3, 5, 7, 10, 15] c = v
    generalize hM : 28 / v = M
    intro hb hcell
    obtain ⟨⟨hv1, hv2⟩, hM0, hM1⟩ := hb
    clear hM
    have key : ∀ (d : Nat) (k i : Nat), (i : Int) + d = M → d < k → (∀ j : Nat, j < i → 4 + (j : Int) * v ≠ o) →
        joistref12_Which.l0 k c o M i = if (0 ≤ c ∧ c < 6) ∧ 4 ≤ o ∧ (o - 4) % v = 0 ∧ (o - 4) / v < M then some ((o - 4) / v, true) else some (0, false) := by
      intro d
      induction d with
      | zero =>
        intro k i hi hk hno
        obtain ⟨k, rfl⟩ : ∃ m, k = m + 1 := ⟨k - 1, by omega⟩
        simp only [joistref12_Which.l0]
        rw [if_neg (by omega), if_neg]
        rintro ⟨_, h4, hr, hq⟩
        have hq0 : 0 ≤ (o - 4) / v := Int.ediv_nonneg (by omega) (by omega)
        refine hno ((o - 4) / v).toNat (by omega) ?_
        rw [Int.toNat_of_nonneg hq0, Int.ediv_mul_cancel (Int.dvd_of_emod_eq_zero hr)]
        omega
      | succ d ih =>
        intro k i hi hk hno
        obtain ⟨k, rfl⟩ : ∃ m, k = m + 1 := ⟨k - 1, by omega⟩
        simp only [joistref12_Which.l0]
        rw [if_pos (by omega), hcell i (by omega)]
        simp only [Option.bind_some]
        by_cases he : 4 + (i : Int) * v = o
        · have e1 : o - 4 = (i : Int) * v := by omega
          rw [if_pos he, e1, Int.mul_emod_left, Int.mul_ediv_cancel _ (by omega)]
          have hnn : 0 ≤ (i : Int) * v := Int.mul_nonneg (by omega) (by omega)
          rw [if_pos ⟨h, by omega, rfl, by omega⟩]
        · rw [if_neg he, wrap_in (by omega) (by omega)]
          refine ih k (i + 1) (by omega) (by omega) ?_
          intro j hj
          by_cases hji : j = i
          · subst hji; exact he
          · exact hno j (by omega)
    exact key M.toNat k 0 (by omega) (by omega) (fun j hj => by omega)
  · unfold class_Cells.f
    rw [if_neg h, if_neg (fun z => h z.1)]
    simp only [Option.bind_some]
    obtain ⟨k, rfl⟩ : ∃ m, k = m + 1 := ⟨k - 1, by omega⟩
    simp only [joistref12_Which.l0]
    rw [if_neg (by omega)]
theorem Of_some (n : Int) : ∃ a b, class_Of.f n = some (a, b) := by unfold class_Of.f; split <;> exact ⟨_, _, rfl⟩
theorem Words_some (n : Int) : ∃ a b, class_Words.f n = some (a, b) := by unfold class_Words.f; split <;> exact ⟨_, _, rfl⟩
theorem Cells_some (n : Int) : ∃ a b, class_Cells.f n = some (a, b) := by unfold class_Cells.f; split <;> exact ⟨_, _, rfl⟩
theorem Cell_some (n k : Int) : ∃ a b, class_Cell.f n k = some (a, b) := by unfold class_Cell.f; split <;> exact ⟨_, _, rfl⟩
theorem Which_some (n k : Int) (h : k ≤ 9223372036854775807) : ∃ a b, class_Which.f n k = some (a, b) := by
  unfold class_Which.f
  rw [if_pos h]
  split <;> exact ⟨_, _, rfl⟩
theorem Pages_some (n : Int) : ∃ a b, class_Pages.f n = some (a, b) := by
  unfold class_Pages.f class_largest.f
  simp only [Option.bind_some]
  split
  · exact ⟨_, _, rfl⟩
  · split <;> exact ⟨_, _, rfl⟩
end Go.Proofs.Ytlpkbekpdhaplaa.Pure
