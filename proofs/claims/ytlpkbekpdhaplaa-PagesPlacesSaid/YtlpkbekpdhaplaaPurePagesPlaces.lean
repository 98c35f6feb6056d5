/- What Place tells can be laid with the others, and their pages keep their kinds. -/
import Derived.Test.YtlpkbekpdhaplaaP9
import Derived.Test.YtlpkbekpdhaplaaX3
namespace Go.Proofs.Ytlpkbekpdhaplaa.Pure
open Go.RowKit Go.Proofs.Ytlpkbekpdhaplaa.P Go.Proofs.Ytlpkbekpdhaplaa.Open Go.Proofs.YtlpkbekpdhaplaaW.PrintWords Go.Proofs.YtlpkbekpdhaplaaW.PrintLast
set_option linter.unusedVariables false
set_option linter.unusedSimpArgs false

theorem places_l0 (n : Nat) (hn : n ≤ 64) (was now : List Int) (hw : was.length = n) (hw2 : now.length = n) (h : ∀ p : Nat, p < n → was.getD p 0 ≠ -1 → now.getD p 0 = was.getD p 0) :
    ∀ (d k i : Nat), i + d = n → d < k → joistlaw13_PagesPlaces.l0 k n true was now i = some true := by
  intro d
  induction d with
  | zero =>
    intro k i hi hk
    obtain ⟨k, rfl⟩ : ∃ m, k = m + 1 := ⟨k - 1, by omega⟩
    simp only [joistlaw13_PagesPlaces.l0]
    rw [if_neg (by omega)]
  | succ d ih =>
    intro k i hi hk
    obtain ⟨k, rfl⟩ : ∃ m, k = m + 1 := ⟨k - 1, by omega⟩
    have hn := ih k (i + 1) (by omega) (by omega)
    simp only [joistlaw13_PagesPlaces.l0]
    rw [if_pos (by omega), if_pos (by omega), if_pos (by omega), wrap_in (n := (i : Int) + 1) (by omega) (by omega), show ((i : Int) + 1) = ((i + 1 : Nat) : Int) by omega, rd_nat, rd_nat]
    by_cases h1 : was.getD i 0 = -1
    · rw [if_pos h1]; exact hn
    · rw [if_neg h1, if_pos (by omega), if_pos (h i (by omega) h1)]
      exact hn
theorem PagesPlaces (a0 : Int) (l1 : List (S44)) (a2 : Int) (w0 : (Lit.int .i64 a0).wf = true) (w1 : (l1.length ≤ maxLen ∧ l1.length * 16 ≤ 140737488351232 ∧ ∀ x ∈ l1, ok44 x)) (w2 : (Lit.int .i64 a2).wf = true) : ∃ k, joistlaw13_PagesPlaces.f k a0 l1 a2 = some true := by
  obtain ⟨K, hK⟩ : ∃ K : Nat, K = 100 := ⟨_, rfl⟩
  refine ⟨K, ?_⟩
  unfold joistlaw13_PagesPlaces.f
  rw [small_at (by omega)]
  simp only [Option.bind_some]
  by_cases hl : (l1.length : Int) > 200
  · rw [if_pos hl]
  · rw [if_neg hl]
    have hok : okL l1 = true := okL_of w1.2.2 (by omega)
    rw [kinds_is hok, place_is hok (by omega)]
    simp only [Option.bind_some, List.nil_append, List.length_nil]
    cases hla : laid a0 l1 with
    | none => simp
    | some st =>
      obtain ⟨h0, h1, h2, h3⟩ := laid_length hla
      obtain ⟨n, rfl⟩ : ∃ n : Nat, a0 = (n : Int) := ⟨a0.toNat, by omega⟩
      rw [Int.toNat_natCast] at h2
      simp only [if_true]
      cases hp : (placeOf st.1 st.2 a2).2 with
      | false =>
        rw [if_neg (by decide)]
        have : (placeOf st.1 st.2 a2).1 = 0 := by
          unfold placeOf at hp ⊢
          by_cases c1 : 1 ≤ a2 ∧ a2 ≤ 120
          · rw [if_pos c1] at hp ⊢
            unfold cellRes at hp ⊢
            cases g1 : first (slabOf st.1 st.2 (class_of a2) (28 / wordsOf (class_of a2)).toNat) st.1.length with
            | some pk => rw [g1] at hp; simp at hp
            | none =>
              rw [g1] at hp
              cases g2 : first (pageOf st.1) st.1.length with
              | some q => rw [g2] at hp; simp at hp
              | none => rfl
          · rw [if_neg c1] at hp ⊢
            by_cases c2 : 120 < a2 ∧ a2 ≤ 2048
            · rw [if_pos c2] at hp ⊢
              cases hf : (specR 0 st.1 0).foldl (bstep ((a2 + 255) / 256)) none with
              | none => rfl
              | some s => rw [hf] at hp; simp at hp
            · rw [if_neg c2]
        rw [this]
        rfl
      | true =>
        rw [if_pos rfl, if_pos (show 0 + l1.length < 8796093022208 by omega), if_pos (show l1.length < 8796093022208 by omega)]
        obtain ⟨at_, hat⟩ : ∃ x, (placeOf st.1 st.2 a2).1 = x := ⟨_, rfl⟩
        obtain ⟨g1, st', g2, g3⟩ := place_good (n := n) (by omega) h2 (at_ := at_) (by rw [← hat, ← hp])
        have hin := spotv_in n at_ a2 (by omega) (by omega) g1
        have hab : -9223372036854775808 ≤ at_ ∧ at_ ≤ 9223372036854775807 := by
          have hp0 := hin.p0
          have hp1 := hin.p1
          unfold spotv at hp0 hp1 g1
          by_cases c0 : at_ < 0
          · rw [if_pos c0] at g1; cases g1
          · rw [if_neg c0] at hp0 hp1 g1
            rw [Int.toNat_natCast] at hp1
            by_cases c1 : 1 ≤ a2 ∧ a2 ≤ 120
            · rw [if_pos c1] at hp1
              split at hp1 <;> (simp only at hp1; omega)
            · rw [if_neg c1] at hp1
              split at hp1 <;> (simp only at hp1; omega)
        have hok2 : okL (l1 ++ [⟨at_, a2⟩]) = true := okL_of (fun x hx => by
          rcases List.mem_append.1 hx with hx | hx
          · exact w1.2.2 x hx
          · rw [List.mem_singleton.1 hx]; exact ⟨WalkArith.wf_i64 hab, w2⟩) (by rw [List.length_append, List.length_singleton]; omega)
        rw [hat, kinds_is hok2, laid_snoc, hla]
        simp only [Option.bind_some]
        rw [if_pos g1, g2]
        have hl2 := (layOf_length g2).1
        simp only [Option.bind_some, if_true]
        rw [if_pos (show (st'.1.length : Int) = (n : Int) by omega), show ((st.1.length : Int) != (n : Int)) = false from by rw [h2]; exact bne_self_eq_false _]
        obtain ⟨K, rfl⟩ : ∃ m, K = m + 1 := ⟨K - 1, by omega⟩
        simp only [joistlaw13_PagesPlaces.j0, Bool.false_eq_true, if_false]
        exact places_l0 n (by omega) st.1 st'.1 h2 (by omega) g3 n K 0 (by omega) (by omega)
end Go.Proofs.Ytlpkbekpdhaplaa.Pure
