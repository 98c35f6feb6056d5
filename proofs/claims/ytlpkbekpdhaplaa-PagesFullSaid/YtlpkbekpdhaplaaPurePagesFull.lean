/- Where Place tells no room, no further object of that length can be laid, wherever. -/
import Derived.Test.YtlpkbekpdhaplaaP9
import Derived.Test.YtlpkbekpdhaplaaX3
namespace Go.Proofs.Ytlpkbekpdhaplaa.Pure
open Go.RowKit Go.Proofs.Ytlpkbekpdhaplaa.P Go.Proofs.Ytlpkbekpdhaplaa.Open Go.Proofs.YtlpkbekpdhaplaaW.PrintWords Go.Proofs.YtlpkbekpdhaplaaW.PrintLast
set_option linter.unusedVariables false

theorem PagesFull (a0 : Int) (l1 : List (S44)) (a2 : Int) (a3 : Int) (w0 : (Lit.int .i64 a0).wf = true) (w1 : (l1.length ≤ maxLen ∧ l1.length * 16 ≤ 140737488351232 ∧ ∀ x ∈ l1, ok44 x)) (w2 : (Lit.int .i64 a2).wf = true) (w3 : (Lit.int .i64 a3).wf = true) : ∃ k, joistlaw13_PagesFull.f k a0 l1 a2 a3 = some true := by
  obtain ⟨K, hK⟩ : ∃ K : Nat, K = 100 := ⟨_, rfl⟩
  refine ⟨K, ?_⟩
  unfold joistlaw13_PagesFull.f
  rw [small_at (by omega)]
  simp only [Option.bind_some]
  by_cases hl : (l1.length : Int) > 200
  · rw [if_pos hl]
  · rw [if_neg hl]
    have hok : okL l1 = true := okL_of w1.2.2 (by omega)
    have hok2 : okL (l1 ++ [⟨a3, a2⟩]) = true := okL_of (fun x hx => by
      rcases List.mem_append.1 hx with hx | hx
      · exact w1.2.2 x hx
      · rw [List.mem_singleton.1 hx]; exact ⟨w3, w2⟩) (by rw [List.length_append, List.length_singleton]; omega)
    rw [kinds_is hok, place_is hok (by omega)]
    simp only [Option.bind_some, List.nil_append, List.length_nil]
    rw [if_pos (show 0 + l1.length < 8796093022208 by omega), if_pos (show l1.length < 8796093022208 by omega), kinds_is hok2, laid_snoc]
    cases hla : laid a0 l1 with
    | none => simp
    | some st =>
      obtain ⟨h0, h1, h2, h3⟩ := laid_length hla
      simp only [Option.bind_some, if_true]
      by_cases hp : (placeOf st.1 st.2 a2).2 = true
      · rw [if_pos hp]
      · rw [if_neg hp]
        rw [Bool.not_eq_true] at hp
        have hnone : (if (spotv a0 a3 a2).2.2.2.2.2 = true then layOf (spotv a0 a3 a2) st.1 st.2 else none) = none := by
          by_cases hs : (spotv a0 a3 a2).2.2.2.2.2 = true
          · rw [if_pos hs]
            have := place_full (n := a0.toNat) (by omega) h2 hp a3 (by rw [Int.toNat_of_nonneg h0]; exact hs)
            rwa [Int.toNat_of_nonneg h0] at this
          · rw [if_neg hs]
        rw [hnone]
        rfl
end Go.Proofs.Ytlpkbekpdhaplaa.Pure
