/- Which used blocks are right, the gaps, and what is behind a block: the document's answers are the program's. -/
import Derived.Test.YtcjalhlejneddaaG1
import Derived.Test.YtcjalhlejneddaaP7
namespace Go.Proofs.Ytcjalhlejneddaa.Pure
open Go.RowKit Go.Proofs.Ytcjalhlejneddaa.P Go.Proofs.Ytcjalhlejneddaa.Open Go.Proofs.YtcjalhlejneddaaW.PrintWords Go.Proofs.YtcjalhlejneddaaW.PrintLast
set_option linter.unusedSimpArgs false
set_option linter.unusedVariables false

theorem refRight_from (l : List S25) (tt : Int) (ht : tt ≤ 2048) (hl : l.length ≤ 140737488351232) : ∀ (d k i : Nat) (a : Int) (acc : List S25), i + d = l.length → d < k → 0 ≤ a → a ≤ tt →
    joistref10_Right.l0 k tt l a i = some (gaps_walk tt acc a (l.drop i)).isSome := by
  intro d
  induction d with
  | zero =>
    intro k i a acc hi hk h0 h1
    obtain ⟨k, rfl⟩ : ∃ m, k = m + 1 := ⟨k - 1, by omega⟩
    simp only [joistref10_Right.l0]
    rw [if_neg (by omega), List.drop_of_length_le (by omega)]
    rfl
  | succ d ih =>
    intro k i a acc hi hk h0 h1
    obtain ⟨k, rfl⟩ : ∃ m, k = m + 1 := ⟨k - 1, by omega⟩
    have hlt : i < l.length := by omega
    rw [drop_rd hlt]
    simp only [joistref10_Right.l0, gaps_walk]
    generalize rd_T25 l i = s
    rw [if_pos (by omega), if_pos (by omega), wrap_in (n := (i : Int) + 1) (by omega) (by omega)]
    have e1 : ((i : Int) + 1) = ((i + 1 : Nat) : Int) := by omega
    rw [e1]
    by_cases hf : gaps_fits a tt s
    · have hN := fun acc2 => ih k (i + 1) (s.f0 + s.f1) acc2 (by omega) (by omega)
      rw [if_pos hf]
      obtain ⟨f1, f2, f3, f4, f5, f6⟩ := hf
      rw [if_neg (by omega), if_neg (by omega), if_neg (by omega), wrap_in (n := tt - s.f0) (by omega) (by omega), if_neg (by omega), Int.tmod_eq_emod_of_nonneg (a := s.f0) (by omega), Int.tmod_eq_emod_of_nonneg (a := s.f1) (by omega), if_pos f5, if_pos f6, wrap_in (n := s.f0 + s.f1) (by omega) (by omega)]
      exact hN _ (by omega) (by omega)
    · rw [if_neg hf]
      unfold gaps_fits at hf
      by_cases c1 : s.f0 < a
      · rw [if_pos c1]; rfl
      · rw [if_neg c1]
        by_cases c2 : s.f0 > tt
        · rw [if_pos c2]; rfl
        · rw [if_neg c2]
          by_cases c3 : s.f1 < 4
          · rw [if_pos c3]; rfl
          · rw [if_neg c3, wrap_in (n := tt - s.f0) (by omega) (by omega)]
            by_cases c4 : s.f1 > tt - s.f0
            · rw [if_pos c4]; rfl
            · rw [if_neg c4, Int.tmod_eq_emod_of_nonneg (a := s.f0) (by omega), Int.tmod_eq_emod_of_nonneg (a := s.f1) (by omega)]
              by_cases c5 : s.f0 % 4 = 0
              · rw [if_pos c5, if_neg (fun c6 => hf ⟨by omega, by omega, by omega, by omega, c5, c6⟩)]; rfl
              · rw [if_neg c5]; rfl
theorem refRight_is (fr tt : Int) (l : List S25) (hl : l.length ≤ 140737488351232) (k : Nat) (hk : l.length + 1 < k) : joistref10_Right.f k fr tt l = gaps_Right.f fr tt l := by
  obtain ⟨k, rfl⟩ : ∃ m, k = m + 1 := ⟨k - 1, by omega⟩
  unfold joistref10_Right.f gaps_Right.f
  have hj : ∀ b, joistref10_Right.j0 (k + 1) fr tt l b = if b = true then some false else joistref10_Right.l0 k tt l fr 0 := fun b => rfl
  simp only [hj, if_true]
  by_cases h : gaps_edges fr tt
  · rw [if_pos h]
    obtain ⟨h1, h2, h3, h4, h5⟩ := h
    rw [if_neg (by omega), if_neg (by omega), if_neg (by omega), Int.tmod_eq_emod_of_nonneg (a := fr) (by omega), Int.tmod_eq_emod_of_nonneg (a := tt) (by omega), if_pos h4, if_neg (by rw [h5]; decide)]
    exact refRight_from l tt h3 hl l.length k 0 fr [] (by omega) (by omega) h1 h2
  · rw [if_neg h]
    unfold gaps_edges at h
    by_cases c1 : fr < 0
    · rw [if_pos c1]
    · rw [if_neg c1]
      by_cases c2 : fr > tt
      · rw [if_pos c2]
      · rw [if_neg c2]
        by_cases c3 : tt > 2048
        · rw [if_pos c3]
        · rw [if_neg c3, Int.tmod_eq_emod_of_nonneg (a := fr) (by omega), Int.tmod_eq_emod_of_nonneg (a := tt) (by omega)]
          by_cases c4 : fr % 4 = 0
          · rw [if_pos c4, if_pos (by rw [bne_iff_ne]; exact fun c5 => h ⟨by omega, by omega, by omega, c4, c5⟩)]
          · rw [if_neg c4]
theorem refGaps_from (l : List S25) (tt : Int) (ht : tt ≤ 2048) (hl : l.length ≤ 8796093022200) (r : List S25) : ∀ (d k i : Nat) (a : Int) (acc : List S25), i + d = l.length → 2 * d + 3 ≤ k → 0 ≤ a → a ≤ tt → acc.length ≤ i →
    gaps_walk tt acc a (l.drop i) = some r → joistref10_Gaps.l0 k tt l acc a i = some (r, 0) := by
  intro d
  induction d with
  | zero =>
    intro k i a acc hi hk h0 h1 hacc hw
    obtain ⟨k, rfl⟩ : ∃ m, k = m + 3 := ⟨k - 3, by omega⟩
    rw [List.drop_of_length_le (by omega)] at hw
    simp only [gaps_walk, Option.some.injEq] at hw
    subst hw
    simp only [joistref10_Gaps.l0, joistref10_Gaps.j1]
    rw [if_pos (by omega), if_neg (by omega)]
    unfold gaps_push
    rw [wrap_in (n := (i : Int) + 1) (by omega) (by omega)]
    by_cases hp : tt > a
    · rw [if_pos hp, if_pos hp, if_pos (by omega)]
      simp only [Option.bind_some]
      rw [if_neg (by omega), if_neg (by omega), wrap_in (n := tt - a) (by omega) (by omega)]
    · rw [if_neg hp, if_neg hp, if_neg (by omega), if_neg (by omega)]
  | succ d ih =>
    intro k i a acc hi hk h0 h1 hacc hw
    obtain ⟨k, rfl⟩ : ∃ m, k = m + 2 := ⟨k - 2, by omega⟩
    have hlt : i < l.length := by omega
    rw [drop_rd hlt] at hw
    simp only [gaps_walk] at hw
    simp only [joistref10_Gaps.l0, joistref10_Gaps.j1]
    rw [if_pos (by omega), if_pos (by omega), if_pos (by omega), wrap_in (n := (i : Int) + 1) (by omega) (by omega)]
    generalize rd_T25 l i = s at hw ⊢
    have e1 : ((i : Int) + 1) = ((i + 1 : Nat) : Int) := by omega
    rw [e1]
    by_cases hf : gaps_fits a tt s
    · rw [if_pos hf] at hw
      have hN := ih k (i + 1) (s.f0 + s.f1) (gaps_push acc a s.f0) (by omega) (by omega)
      obtain ⟨f1, f2, f3, f4, f5, f6⟩ := hf
      have hlen := gaps_push_length acc a s.f0
      have hR := hN (by omega) (by omega) (by omega) hw
      rw [wrap_in (n := s.f0 + s.f1) (by omega) (by omega)]
      unfold gaps_push at hR
      by_cases hp : s.f0 > a
      · rw [if_pos hp] at hR
        rw [if_pos hp, if_pos (by omega)]
        simp only [Option.bind_some]
        rw [if_pos (by omega), if_pos (by omega), wrap_in (n := s.f0 - a) (by omega) (by omega)]
        exact hR
      · rw [if_neg hp] at hR
        rw [if_neg hp, if_pos (by omega), if_pos (by omega)]
        exact hR
    · rw [if_neg hf] at hw
      cases hw
theorem refGaps_is (fr tt : Int) (l : List S25) (hl : l.length ≤ 8796093022200) (k : Nat) (hk : 2 * l.length + 3 ≤ k) : joistref10_Gaps.f k fr tt l = gaps_Gaps.f fr tt l := by
  unfold joistref10_Gaps.f
  rw [refRight_is fr tt l (by omega) k (by omega)]
  unfold gaps_Right.f gaps_Gaps.f
  by_cases h : gaps_edges fr tt
  · rw [if_pos h, if_pos h]
    obtain ⟨h1, h2, h3, h4, h5⟩ := h
    cases hw : gaps_walk tt [] fr l with
    | none => rfl
    | some r =>
      simp only [Option.isSome_some, Option.bind_some, if_true]
      exact refGaps_from l tt h3 hl r l.length k 0 fr [] (by omega) (by omega) h1 h2 (by simp) hw
  · rw [if_neg h, if_neg h]
    rfl
theorem refBehind_is (fr tt : Int) (l : List S25) (x : Int) (hl : l.length ≤ 8796093022200) (k : Nat) (hk : 2 * l.length + 3 ≤ k) : joistref10_Behind.f k fr tt l x = gaps_Behind.f k fr tt l x := by
  unfold joistref10_Behind.f gaps_Behind.f
  rw [refGaps_is fr tt l hl k hk]
  have hl0 : ∀ (k : Nat) (i : Int) (m : List S25), joistref10_Behind.l0 k l x m i = gaps_Behind.l0 k l x m (m.length : Int) i := by
    intro k
    induction k with
    | zero => intro i m; rfl
    | succ k ih =>
      intro i m
      simp only [joistref10_Behind.l0, gaps_Behind.l0]
      by_cases c1 : i < (m.length : Int)
      · simp only [if_pos c1, ih, beq_iff_eq]
      · simp only [if_neg c1]
  have hj : ∀ (k : Nat) (m : List S25) (b : Bool), joistref10_Behind.j0 k l x m b = gaps_Behind.j0 k l x m b := by
    intro k m b
    cases k with
    | zero => rfl
    | succ k => simp only [joistref10_Behind.j0, gaps_Behind.j0, hl0]
  simp only [hj]
theorem Same_from (l : List S25) (hl : l.length ≤ 140737488351232) : ∀ (d k i : Nat), i + d = l.length → d < k → joistref10_Same.l0 k l l i = some true := by
  intro d
  induction d with
  | zero =>
    intro k i hi hk
    obtain ⟨k, rfl⟩ : ∃ m, k = m + 1 := ⟨k - 1, by omega⟩
    simp only [joistref10_Same.l0]
    rw [if_neg (by omega)]
  | succ d ih =>
    intro k i hi hk
    obtain ⟨k, rfl⟩ : ∃ m, k = m + 1 := ⟨k - 1, by omega⟩
    simp only [joistref10_Same.l0]
    rw [if_pos (by omega), if_pos (by omega), if_pos (by omega), wrap_in (n := (i : Int) + 1) (by omega) (by omega)]
    have e1 : ((i : Int) + 1) = ((i + 1 : Nat) : Int) := by omega
    rw [e1]
    simp
    exact ih k (i + 1) (by omega) (by omega)
theorem Same_is (l : List S25) (hl : l.length ≤ 140737488351232) (k : Nat) (hk : l.length < k) : joistref10_Same.f k l l = some true := by
  unfold joistref10_Same.f
  rw [if_pos rfl]
  exact Same_from l hl l.length k 0 (by omega) hk
/-- How many gaps there are. -/
theorem walk_length (tt : Int) : ∀ (l acc : List S25) (a : Int) (r : List S25), gaps_walk tt acc a l = some r → r.length ≤ acc.length + l.length + 1 := by
  intro l
  induction l with
  | nil =>
    intro acc a r h
    simp only [gaps_walk, Option.some.injEq] at h
    subst h
    have := gaps_push_length acc a tt
    simp; omega
  | cons s l ih =>
    intro acc a r h
    simp only [gaps_walk] at h
    split at h
    · have h1 := ih _ _ _ h
      have h2 := gaps_push_length acc a s.f0
      simp; omega
    · cases h
theorem Behind_ends (fr tt : Int) (l : List S25) (x : Int) (hl : l.length ≤ 8796093022200) (hx : -9223372036854775808 ≤ x ∧ x ≤ 9223372036854775807) (k : Nat) (hk : l.length + 5 ≤ k) : ∃ r, gaps_Behind.f k fr tt l x = some r := by
  obtain ⟨k, rfl⟩ : ∃ m, k = m + 1 := ⟨k - 1, by omega⟩
  unfold gaps_Behind.f
  have hj : ∀ m b, gaps_Behind.j0 (k + 1) l x m b = if b = true then some (0, 1) else gaps_Behind.l0 k l x m (m.length : Int) 0 := fun m b => rfl
  simp only [hj, if_true]
  have key : ∀ (m : List S25), m.length ≤ l.length + 1 → 0 ≤ x → x < (l.length : Int) → ∀ (d k i : Nat), i + d = m.length → d < k → ∃ r, gaps_Behind.l0 k l x m (m.length : Int) i = some r := by
    intro m hm h0 h1 d
    induction d with
    | zero =>
      intro k i hi hk
      obtain ⟨k, rfl⟩ : ∃ m, k = m + 1 := ⟨k - 1, by omega⟩
      simp only [gaps_Behind.l0]
      rw [if_neg (by omega)]
      exact ⟨_, rfl⟩
    | succ d ih =>
      intro k i hi hk
      obtain ⟨k, rfl⟩ : ∃ m, k = m + 1 := ⟨k - 1, by omega⟩
      simp only [gaps_Behind.l0]
      rw [if_pos (by omega), if_pos (by omega), if_pos (by omega), if_pos h0, if_pos h1, wrap_in (n := (i : Int) + 1) (by omega) (by omega)]
      have e1 : ((i : Int) + 1) = ((i + 1 : Nat) : Int) := by omega
      rw [e1]
      split
      · exact ⟨_, rfl⟩
      · exact ih k (i + 1) (by omega) (by omega)
  unfold gaps_Gaps.f
  simp only [Option.bind_some]
  by_cases he : gaps_edges fr tt
  · rw [if_pos he]
    cases hw : gaps_walk tt [] fr l with
    | none => exact ⟨_, rfl⟩
    | some r =>
      simp only [if_true]
      have hlen := walk_length tt l [] fr r hw
      simp only [List.length_nil] at hlen
      by_cases h0 : x < 0
      · rw [if_pos h0]; exact ⟨_, rfl⟩
      · rw [if_neg h0]
        by_cases h1 : x ≥ (l.length : Int)
        · rw [decide_eq_true h1]; exact ⟨_, rfl⟩
        · rw [decide_eq_false h1, if_neg (by decide)]
          exact key r (by omega) (by omega) (by omega) r.length k 0 (by omega) (by omega)
  · rw [if_neg he]
    exact ⟨_, rfl⟩
end Go.Proofs.Ytcjalhlejneddaa.Pure
