/- RootsFills over the printed functions. -/
import Derived.Test.YtlhemachmidoaaaR4
import Derived.Test.YtlhemachmidoaaaP30
import Derived.Test.YtlhemachmidoaaaOpenT
import Derived.OpenShut
namespace Go.Proofs.Ytlhemachmidoaaa.Pure
open Go.RowKit Go.Proofs.Ytlhemachmidoaaa.P Go.Proofs.Ytlhemachmidoaaa.Open Go.Proofs.YtlhemachmidoaaaW.PrintWords Go.Proofs.YtlhemachmidoaaaW.PrintLast
set_option linter.unusedVariables false
set_option linter.unusedSimpArgs false

def full2 : List S37 := [⟨⟨#[97]⟩, ⟨0, 0⟩⟩, ⟨⟨#[97, 97]⟩, ⟨1, 0⟩⟩]
theorem fills2 (a b : Int) : joistlaw09_RootsFills.l0 90 2 true (List.replicate 2 z37) ⟨#[]⟩ 0 a b = (roots_Set.f 87 full2 ⟨#[97]⟩ a b).bind fun t => if t.2 = 0 then some true else some (t.2 == 1) := by
  kernel_rfl
theorem last2 (a b : Int) : (roots_Set.f 87 full2 ⟨#[97]⟩ a b).bind (fun t => if t.2 = 0 then some true else some (t.2 == 1)) = some true := by
  rw [Set_is full2 ⟨#[97]⟩ a b (by decide) _ (by decide)]
  unfold set_of
  rw [if_pos (by decide +kernel), if_pos (by decide +kernel), if_neg (show ¬ place_of full2 ⟨#[97]⟩ < 0 by decide +kernel)]
  split <;> rfl
def full4 : List S37 := [⟨⟨#[97]⟩, ⟨0, 0⟩⟩, ⟨⟨#[97, 97]⟩, ⟨1, 0⟩⟩, ⟨⟨#[97, 97, 97]⟩, ⟨2, 0⟩⟩, ⟨⟨#[97, 97, 97, 97]⟩, ⟨3, 0⟩⟩]
theorem fills4 (a b : Int) : joistlaw09_RootsFills.l0 90 4 true (List.replicate 4 z37) ⟨#[]⟩ 0 a b = (roots_Set.f 85 full4 ⟨#[97]⟩ a b).bind fun t => if t.2 = 0 then some true else some (t.2 == 1) := by
  kernel_rfl
theorem last4 (a b : Int) : (roots_Set.f 85 full4 ⟨#[97]⟩ a b).bind (fun t => if t.2 = 0 then some true else some (t.2 == 1)) = some true := by
  rw [Set_is full4 ⟨#[97]⟩ a b (by decide) _ (by decide)]
  unfold set_of
  rw [if_pos (by decide +kernel), if_pos (by decide +kernel), if_neg (show ¬ place_of full4 ⟨#[97]⟩ < 0 by decide +kernel)]
  split <;> rfl
def full6 : List S37 := [⟨⟨#[97]⟩, ⟨0, 0⟩⟩, ⟨⟨#[97, 97]⟩, ⟨1, 0⟩⟩, ⟨⟨#[97, 97, 97]⟩, ⟨2, 0⟩⟩, ⟨⟨#[97, 97, 97, 97]⟩, ⟨3, 0⟩⟩, ⟨⟨#[97, 97, 97, 97, 97]⟩, ⟨4, 0⟩⟩, ⟨⟨#[97, 97, 97, 97, 97, 97]⟩, ⟨5, 0⟩⟩]
theorem fills6 (a b : Int) : joistlaw09_RootsFills.l0 90 6 true (List.replicate 6 z37) ⟨#[]⟩ 0 a b = (roots_Set.f 83 full6 ⟨#[97]⟩ a b).bind fun t => if t.2 = 0 then some true else some (t.2 == 1) := by
  kernel_rfl
theorem last6 (a b : Int) : (roots_Set.f 83 full6 ⟨#[97]⟩ a b).bind (fun t => if t.2 = 0 then some true else some (t.2 == 1)) = some true := by
  rw [Set_is full6 ⟨#[97]⟩ a b (by decide) _ (by decide)]
  unfold set_of
  rw [if_pos (by decide +kernel), if_pos (by decide +kernel), if_neg (show ¬ place_of full6 ⟨#[97]⟩ < 0 by decide +kernel)]
  split <;> rfl
def full8 : List S37 := [⟨⟨#[97]⟩, ⟨0, 0⟩⟩, ⟨⟨#[97, 97]⟩, ⟨1, 0⟩⟩, ⟨⟨#[97, 97, 97]⟩, ⟨2, 0⟩⟩, ⟨⟨#[97, 97, 97, 97]⟩, ⟨3, 0⟩⟩, ⟨⟨#[97, 97, 97, 97, 97]⟩, ⟨4, 0⟩⟩, ⟨⟨#[97, 97, 97, 97, 97, 97]⟩, ⟨5, 0⟩⟩, ⟨⟨#[97, 97, 97, 97, 97, 97, 97]⟩, ⟨6, 0⟩⟩, ⟨⟨#[97, 97, 97, 97, 97, 97, 97, 97]⟩, ⟨7, 0⟩⟩]
theorem fills8 (a b : Int) : joistlaw09_RootsFills.l0 90 8 true (List.replicate 8 z37) ⟨#[]⟩ 0 a b = (roots_Set.f 81 full8 ⟨#[97]⟩ a b).bind fun t => if t.2 = 0 then some true else some (t.2 == 1) := by
  kernel_rfl
theorem last8 (a b : Int) : (roots_Set.f 81 full8 ⟨#[97]⟩ a b).bind (fun t => if t.2 = 0 then some true else some (t.2 == 1)) = some true := by
  rw [Set_is full8 ⟨#[97]⟩ a b (by decide) _ (by decide)]
  unfold set_of
  rw [if_pos (by decide +kernel), if_pos (by decide +kernel), if_neg (show ¬ place_of full8 ⟨#[97]⟩ < 0 by decide +kernel)]
  split <;> rfl
theorem RootsFills (a0 : Int) (a1 : S29) (w0 : (Lit.int .i64 a0).wf = true) (w1 : ok29 a1) : ∃ k, joistlaw09_RootsFills.f k a0 a1.f0 a1.f1 = some true := by
  refine ⟨90, ?_⟩
  unfold joistlaw09_RootsFills.f
  rw [small_is _ (by omega), New_is]
  by_cases h : 2 ≤ a0 ∧ a0 ≤ 8 ∧ a0 % 2 = 0
  · rw [if_pos h]
    simp only [Option.bind_some, if_true]
    have : a0 = 2 ∨ a0 = 4 ∨ a0 = 6 ∨ a0 = 8 := by omega
    rcases this with rfl | rfl | rfl | rfl
    · exact (fills2 _ _).trans (last2 _ _)
    · exact (fills4 _ _).trans (last4 _ _)
    · exact (fills6 _ _).trans (last6 _ _)
    · exact (fills8 _ _).trans (last8 _ _)
  · rw [if_neg h]
    rfl
end Go.Proofs.Ytlhemachmidoaaa.Pure
