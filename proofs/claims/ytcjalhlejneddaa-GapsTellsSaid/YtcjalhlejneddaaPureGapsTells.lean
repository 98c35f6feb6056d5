/- The need of bytes, which used blocks are right, the gaps, and what is free behind a block, are the document's: for any blocks and any integers. -/
import Derived.Test.YtcjalhlejneddaaG2
import Derived.Test.YtcjalhlejneddaaPureGapsNeeds
import Derived.Test.YtcjalhlejneddaaP8
namespace Go.Proofs.Ytcjalhlejneddaa.Pure
open Go.RowKit Go.Proofs.Ytcjalhlejneddaa.P Go.Proofs.Ytcjalhlejneddaa.Open Go.Proofs.YtcjalhlejneddaaW.PrintWords Go.Proofs.YtcjalhlejneddaaW.PrintLast
set_option linter.unusedVariables false

theorem refNeed_from (v : Int) (h0 : 0 ≤ v) (h1 : v ≤ 1000) : ∀ (d k : Nat), (v + 3) / 4 * 4 - v = d → d < k → joistref10_Need.l0 k v = some ((v + 3) / 4 * 4, 0) := by
  intro d
  induction d generalizing v with
  | zero =>
    intro k hd hk
    obtain ⟨k, rfl⟩ : ∃ m, k = m + 1 := ⟨k - 1, by omega⟩
    simp only [joistref10_Need.l0]
    rw [Int.tmod_eq_emod_of_nonneg h0, if_pos (by omega), show v = (v + 3) / 4 * 4 by omega]
    congr 2
    omega
  | succ d ih =>
    intro k hd hk
    obtain ⟨k, rfl⟩ : ∃ m, k = m + 1 := ⟨k - 1, by omega⟩
    simp only [joistref10_Need.l0]
    rw [Int.tmod_eq_emod_of_nonneg h0, if_neg (by omega), wrap_in (n := v + 1) (by omega) (by omega)]
    have h2 : v ≤ 996 ∨ 996 < v := by omega
    have := ih (v + 1) (by omega) (by omega) k (by omega) (by omega)
    rw [this, show (v + 1 + 3) / 4 * 4 = (v + 3) / 4 * 4 by omega]
theorem refNeed_is (n : Int) (hn : -9223372036854775808 ≤ n ∧ n ≤ 9223372036854775807) (k : Nat) (hk : 6 ≤ k) : joistref10_Need.f k n = gaps_Need.f n := by
  rw [need_is n hn]
  obtain ⟨k, rfl⟩ : ∃ m, k = m + 1 := ⟨k - 1, by omega⟩
  unfold joistref10_Need.f
  have hj : ∀ b, joistref10_Need.j0 (k + 1) n b = if b = true then some (0, 1) else joistref10_Need.l0 k (wrap64 (2 + (wrap64 (Int.tdiv (wrap64 (n + 7)) 8)))) := fun b => rfl
  simp only [hj, if_true]
  by_cases h : 1 ≤ n ∧ n ≤ 2048
  · rw [if_pos h, if_neg (by omega), decide_eq_false (by omega), if_neg (by decide)]
    rw [wrap_in (n := n + 7) (by omega) (by omega), Int.tdiv_eq_ediv_of_nonneg (a := n + 7) (by omega), wrap_in (n := (n + 7) / 8) (by omega) (by omega), wrap_in (n := 2 + (n + 7) / 8) (by omega) (by omega)]
    exact refNeed_from (2 + (n + 7) / 8) (by omega) (by omega) ((2 + (n + 7) / 8 + 3) / 4 * 4 - (2 + (n + 7) / 8)).toNat k (by omega) (by omega)
  · rw [if_neg h]
    by_cases h1 : n < 1
    · rw [if_pos h1]
    · rw [if_neg h1, decide_eq_true (by omega), if_pos rfl]
theorem GapsTells (a0 : Int) (a1 : Int) (l2 : List (S25)) (a3 : Int) (a4 : Int) (w0 : (Lit.int .i64 a0).wf = true) (w1 : (Lit.int .i64 a1).wf = true) (w2 : (l2.length ≤ maxLen ∧ l2.length * 16 ≤ 140737488351232 ∧ ∀ x ∈ l2, ok25 x)) (w3 : (Lit.int .i64 a3).wf = true) (w4 : (Lit.int .i64 a4).wf = true) : ∃ k, joistlaw10_GapsTells.f k a0 a1 l2 a3 a4 = some true := by
  have hl : l2.length ≤ 8796093022200 := by omega
  refine ⟨2 * l2.length + 10, ?_⟩
  unfold joistlaw10_GapsTells.f
  rw [small_at (by omega)]
  simp only [Option.bind_some, List.nil_append, List.length_nil]
  rw [if_pos (by omega), refNeed_is a4 (bounds_i64 w4) _ (by omega), refGaps_is a0 a1 l2 hl _ (by omega), refBehind_is a0 a1 l2 a3 hl _ (by omega), refRight_is a0 a1 l2 (by omega) _ (by omega)]
  obtain ⟨r, hr⟩ := Behind_ends a0 a1 l2 a3 hl (bounds_i64 w3) (2 * l2.length + 10) (by omega)
  rw [need_is a4 (bounds_i64 w4), hr]
  unfold gaps_Right.f
  have hg : ∃ g e, gaps_Gaps.f a0 a1 l2 = some (g, e) ∧ g.length ≤ l2.length + 1 := by
    unfold gaps_Gaps.f
    by_cases he : gaps_edges a0 a1
    · rw [if_pos he]
      cases hw : gaps_walk a1 [] a0 l2 with
      | none => exact ⟨_, _, rfl, by simp⟩
      | some r => exact ⟨_, _, rfl, by have := walk_length a1 l2 [] a0 r hw; simpa using this⟩
    · rw [if_neg he]; exact ⟨_, _, rfl, by simp⟩
  obtain ⟨g, e, hg, hgl⟩ := hg
  rw [hg]
  simp only [Option.bind_some]
  rw [Same_is g (by omega) _ (by omega), Same_is l2 (by omega) _ (by omega)]
  simp

end Go.Proofs.Ytcjalhlejneddaa.Pure
