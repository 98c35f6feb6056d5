/- RootsKeeps over the printed functions. -/
import Derived.Test.YtlhemachmidoaaaR5
import Derived.Test.YtlhemachmidoaaaP29
import Derived.Test.YtlhemachmidoaaaOpenT
import Derived.OpenShut
namespace Go.Proofs.Ytlhemachmidoaaa.Pure
open Go.RowKit Go.Proofs.Ytlhemachmidoaaa.P Go.Proofs.Ytlhemachmidoaaa.Open Go.Proofs.YtlhemachmidoaaaW.PrintWords Go.Proofs.YtlhemachmidoaaaW.PrintLast
set_option linter.unusedVariables false
set_option linter.unusedSimpArgs false

theorem keeps2 (l : List S37) (s t : ByteArray) (hl : l.length ≤ 40) (k : Nat) (hk : 100 ≤ k) :
    joistlaw09_RootsKeeps.j2 k l s t true (get_of l t).2.2 (get_of l t).1 (get_of l t).2.1 = some true := by
  obtain ⟨k, rfl⟩ : ∃ m, k = m + 1 := ⟨k - 1, by omega⟩
  simp only [joistlaw09_RootsKeeps.j2]
  rw [Drop_is l s (by omega) k (by omega)]
  have hlen := drop_len l s
  have hk := @drop_kept l s
  generalize drop_of l s = d at hlen hk ⊢
  simp only [Option.bind_some]
  by_cases h : d.2 = 0
  · obtain ⟨⟨h1, h2, h3⟩, h4⟩ := hk h
    rw [if_pos h, Get_is d.1 s (by omega) k (by omega), Get_is d.1 t (by omega) k (by omega), Right_is d.1 (by omega) k (by omega)]
    simp only [Option.bind_some, if_true]
    rw [if_pos h4, h1, if_pos rfl]
    by_cases ht : t.toList = s.toList
    · rw [if_pos ht]
    · rw [if_neg ht, h3 t ht]
      simp
  · rw [if_neg h]
theorem keeps1 (l : List S37) (s t : ByteArray) (hl : l.length ≤ 40) (k : Nat) (hk : 101 ≤ k) :
    joistlaw09_RootsKeeps.j1 k l s t true (get_of l t).2.2 false (get_of l t).1 (get_of l t).2.1 = some true := by
  obtain ⟨k, rfl⟩ : ∃ m, k = m + 1 := ⟨k - 1, by omega⟩
  simp only [joistlaw09_RootsKeeps.j1]
  rw [if_neg (by simp)]
  exact keeps2 l s t hl k (by omega)
theorem keeps0 (l : List S37) (s t : ByteArray) (a b : Int) (hl : l.length ≤ 40) (k : Nat) (hk : 102 ≤ k) :
    joistlaw09_RootsKeeps.j0 k l s t true false a b = some true := by
  obtain ⟨k, rfl⟩ : ∃ m, k = m + 1 := ⟨k - 1, by omega⟩
  simp only [joistlaw09_RootsKeeps.j0]
  rw [if_neg (by simp), Get_is l t (by omega) k (by omega), Set_is l s a b (by omega) k (by omega)]
  have hlen := set_len l s a b
  have hk := @set_kept l s a b
  generalize set_of l s a b = d at hlen hk ⊢
  simp only [Option.bind_some]
  by_cases h : d.2 = 0
  · obtain ⟨⟨h1, h2, h3⟩, h4⟩ := hk h
    rw [if_pos h, Get_is d.1 s (by omega) k (by omega), Get_is d.1 t (by omega) k (by omega), Right_is d.1 (by omega) k (by omega), h4, h1]
    simp only [Option.bind_some, if_true]
    rw [if_neg (by simp), if_pos (by omega)]
    by_cases ht : t.toList = s.toList
    · rw [if_pos ht]
      exact keeps1 l s t hl k (by omega)
    · rw [if_neg ht, h3 t ht, if_neg (by simp)]
      have : ((get_of l t).2.2 != (get_of l t).2.2) = false := by simp
      rw [this]
      exact keeps1 l s t hl k (by omega)
  · rw [if_neg h]
    exact keeps2 l s t hl k (by omega)
theorem RootsKeeps (l0 : List (S37)) (a1 : ByteArray) (a2 : S29) (a3 : ByteArray) (w0 : (l0.length ≤ maxLen ∧ l0.length * 32 ≤ 140737488351232 ∧ ∀ x ∈ l0, ok37 x)) (w1 : a1.size ≤ 140737488351232) (w2 : ok29 a2) (w3 : a3.size ≤ 140737488351232) : ∃ k, joistlaw09_RootsKeeps.f k l0 a1 a2.f0 a2.f1 a3 = some true := by
  have hll := w0.2.1
  obtain ⟨b, hb, hf⟩ := few_is l0 (by omega)
  refine ⟨l0.length + 201, ?_⟩
  unfold joistlaw09_RootsKeeps.f
  rw [small_is _ (by omega), hf _ (by omega)]
  have hj : ∀ t, b = true ∨ t = true → joistlaw09_RootsKeeps.j0 (l0.length + 201) l0 a1 a3 true t a2.f0 a2.f1 = some true := by
    intro t ht
    cases t with
    | true => rfl
    | false => exact keeps0 l0 a1 a3 a2.f0 a2.f1 (hb (by simpa using ht)) _ (by omega)
  simp only [Option.bind_some]
  split
  · rename_i h
    split <;> exact hj _ (Or.inl h)
  · exact hj _ (Or.inr rfl)
end Go.Proofs.Ytlhemachmidoaaa.Pure
