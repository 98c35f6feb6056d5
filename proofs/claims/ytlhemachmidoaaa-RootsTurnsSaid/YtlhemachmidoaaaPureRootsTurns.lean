/- RootsTurns over the printed functions. -/
import Derived.Test.YtlhemachmidoaaaR4
import Derived.Test.YtlhemachmidoaaaP28
import Derived.Test.YtlhemachmidoaaaOpenT
import Derived.OpenShut
namespace Go.Proofs.Ytlhemachmidoaaa.Pure
open Go.RowKit Go.Proofs.Ytlhemachmidoaaa.P Go.Proofs.Ytlhemachmidoaaa.Open Go.Proofs.YtlhemachmidoaaaW.PrintWords Go.Proofs.YtlhemachmidoaaaW.PrintLast
set_option linter.unusedVariables false
set_option linter.unusedSimpArgs false

theorem turns1 (l : List S37) (c d : Int) (hl : l.length ≤ 140737488351232) : ∀ (n k i : Nat) (x : List S37), x.length ≤ 140737488351232 → i + n = x.length → n + l.length + 2 ≤ k →
    joistlaw09_RootsTurns.l1 k l true l c x d c d true true i = some true := by
  intro n
  induction n with
  | zero =>
    intro k i x hx hi hk
    obtain ⟨k, rfl⟩ : ∃ m, k = m + 1 := ⟨k - 1, by omega⟩
    simp only [joistlaw09_RootsTurns.l1]
    rw [if_neg (by omega), Same_is l hl k (by omega)]
    simp
  | succ n ih =>
    intro k i x hx hi hk
    obtain ⟨k, rfl⟩ : ∃ m, k = m + 1 := ⟨k - 1, by omega⟩
    simp only [joistlaw09_RootsTurns.l1]
    rw [if_pos (by omega), if_pos (by omega), wrap_in (n := (i : Int) + 1) (by omega) (by omega)]
    have e1 : ((i : Int) + 1) = ((i + 1 : Nat) : Int) := by omega
    rw [e1]
    exact ih k (i + 1) _ (by rw [List.length_set]; exact hx) (by rw [List.length_set]; omega) (by omega)
theorem turns0 (l y : List S37) (c d : Int) (hl : l.length ≤ 140737488351232) (hy : y.length ≤ 140737488351232) : ∀ (n k i : Nat) (x : List S37), x.length ≤ 140737488351232 → i + n = x.length → n + y.length + l.length + 4 ≤ k →
    joistlaw09_RootsTurns.l0 k l true l x c y d c d true true i = some true := by
  intro n
  induction n with
  | zero =>
    intro k i x hx hi hk
    obtain ⟨k, rfl⟩ : ∃ m, k = m + 1 := ⟨k - 1, by omega⟩
    simp only [joistlaw09_RootsTurns.l0]
    rw [if_neg (by omega)]
    exact turns1 l c d hl y.length k 0 y hy (by omega) (by omega)
  | succ n ih =>
    intro k i x hx hi hk
    obtain ⟨k, rfl⟩ : ∃ m, k = m + 1 := ⟨k - 1, by omega⟩
    simp only [joistlaw09_RootsTurns.l0]
    rw [if_pos (by omega), if_pos (by omega), wrap_in (n := (i : Int) + 1) (by omega) (by omega)]
    have e1 : ((i : Int) + 1) = ((i + 1 : Nat) : Int) := by omega
    rw [e1]
    exact ih k (i + 1) _ (by rw [List.length_set]; exact hx) (by rw [List.length_set]; omega) (by omega)
theorem RootsTurns (l0 : List (S37)) (a1 : ByteArray) (a2 : S29) (w0 : (l0.length ≤ maxLen ∧ l0.length * 32 ≤ 140737488351232 ∧ ∀ x ∈ l0, ok37 x)) (w1 : a1.size ≤ 140737488351232) (w2 : ok29 a2) : ∃ k, joistlaw09_RootsTurns.f k l0 a1 a2.f0 a2.f1 = some true := by
  have hll := w0.2.1
  obtain ⟨b, hb, hf⟩ := few_is l0 (by omega)
  refine ⟨2 * l0.length + 301, ?_⟩
  unfold joistlaw09_RootsTurns.f
  rw [small_is _ (by omega), hf _ (by omega)]
  have hj : ∀ t, b = true ∨ t = true → joistlaw09_RootsTurns.j0 (2 * l0.length + 300 + 1) l0 a1 true t a2.f0 a2.f1 = some true := by
    intro t ht
    simp only [joistlaw09_RootsTurns.j0]
    cases t with
    | true => rfl
    | false =>
      have hl : l0.length ≤ 40 := hb (by simpa using ht)
      have h1 := set_len l0 a1 a2.f0 a2.f1
      have h2 := drop_len l0 a1
      rw [if_neg (by simp)]
      simp only [Option.bind_some, List.nil_append]
      rw [if_pos (by simp; omega), Set_is l0 a1 _ _ (by omega) _ (by omega), Drop_is l0 a1 (by omega) _ (by omega), DSet_is l0 a1 _ _ (by omega) _ (by omega), DDrop_is l0 a1 (by omega) _ (by omega)]
      simp only [Option.bind_some]
      rw [Same_is l0 (by omega) _ (by omega), Same_is (set_of l0 a1 a2.f0 a2.f1).1 (by omega) _ (by omega), Same_is (drop_of l0 a1).1 (by omega) _ (by omega)]
      simp only [Option.bind_some, if_true]
      rw [show 2 * l0.length + 300 = (2 * l0.length + 299) + 1 by omega]
      simp only [joistlaw09_RootsTurns.j1]
      exact turns0 l0 (drop_of l0 a1).1 _ _ (by omega) (by omega) (set_of l0 a1 a2.f0 a2.f1).1.length _ 0 _ (by omega) (by omega) (by omega)
  simp only [Option.bind_some]
  split
  · rename_i h
    exact hj _ (Or.inl h)
  · exact hj _ (Or.inr rfl)
end Go.Proofs.Ytlhemachmidoaaa.Pure
