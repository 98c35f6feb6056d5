/- A name's bytes are read as it: plain lists. -/
import Derived.Test.YtlhemachmidoaaaDoorU1
namespace Go.Proofs.YtlhemachmidoaaaDoor.Pure
open Go.RowKit Go.Proofs.YtlhemachmidoaaaDoor.P Go.Proofs.YtlhemachmidoaaaDoorW.PrintWords Go.Proofs.YtlhemachmidoaaaDoorW.PrintLast
set_option linter.unusedVariables false
set_option linter.unusedSimpArgs false

theorem strOf_numsOf (s : ByteArray) : strOfNums (numsOf s) = s := by
  unfold numsOf strOfNums
  rw [List.map_map]
  have : (s.data.toList.map ((fun n : Int => UInt8.ofNat n.toNat) ∘ fun b => (b.toNat : Int))) = s.data.toList := by
    conv => rhs; rw [← List.map_id s.data.toList]
    refine List.map_congr_left fun x _ => ?_
    simp
  rw [this]
theorem numsOf_strOf (l : List Int) (h : ∀ x ∈ l, 0 ≤ x ∧ x < 256) : numsOf (strOfNums l) = l := by
  unfold numsOf
  rw [strOfNums_data, List.map_map]
  conv => rhs; rw [← List.map_id l]
  refine List.map_congr_left fun x hx => ?_
  have := h x hx
  have e := ofNat_small x.toNat (by omega)
  simp only [Function.comp, id]
  rw [e]
  omega
theorem trim_zeros : ∀ (n : Nat) (l : List Int), trim_of (l ++ List.replicate n 0) = trim_of l := by
  intro n
  induction n with
  | zero => intro l; simp
  | succ n ih =>
    intro l
    rw [List.replicate_succ', ← List.append_assoc, trim_snoc, if_pos rfl, ih]
theorem trim_full (l : List Int) (h : ∀ x ∈ l, x ≠ 0) : trim_of l = l := by
  by_cases hne : l = []
  · subst hne; rfl
  · obtain ⟨l', x, rfl⟩ : ∃ l' x, l = l' ++ [x] := ⟨l.dropLast, l.getLast hne, (List.dropLast_concat_getLast _).symm⟩
    rw [trim_snoc, if_neg (h x (by simp))]
theorem trim_back : ∀ (n : Nat) (l : List Int), l.length = n → l = trim_of l ++ List.replicate (l.length - (trim_of l).length) 0 := by
  intro n
  induction n with
  | zero =>
    intro l hl
    obtain rfl := List.eq_nil_of_length_eq_zero hl
    rfl
  | succ n ih =>
    intro l hl
    obtain ⟨l', x, rfl⟩ : ∃ l' x, l = l' ++ [x] := ⟨l.dropLast, l.getLast (by intro h; rw [h] at hl; cases hl), (List.dropLast_concat_getLast _).symm⟩
    rw [List.length_append, List.length_singleton] at hl
    have hle := trim_le l'
    rw [trim_snoc]
    by_cases h : x = 0
    · rw [if_pos h, h, List.length_append, List.length_singleton, show l'.length + 1 - (trim_of l').length = (l'.length - (trim_of l').length) + 1 by omega, List.replicate_succ', ← List.append_assoc, ← ih l' (by omega)]
    · rw [if_neg h, Nat.sub_self, List.replicate_zero, List.append_nil]
theorem name_trim {s : ByteArray} (h : s.size = 0 ∨ names_right s = true) : trim_of (pad16 s) = numsOf s := by
  unfold pad16
  rw [trim_zeros]
  refine trim_full _ fun x hx => ?_
  unfold numsOf at hx
  rw [List.mem_map] at hx
  obtain ⟨b, hb, rfl⟩ := hx
  rcases h with h | h
  · rw [Lib.size_eq] at h
    rw [List.eq_nil_of_length_eq_zero h] at hb
    cases hb
  · intro h0
    refine name_full h b hb ?_
    exact UInt8.toNat_inj.1 (by have : (0 : UInt8).toNat = 0 := rfl; omega)
theorem pad_length {s : ByteArray} (h : s.size ≤ 16) : (pad16 s).length = 16 := by
  unfold pad16
  rw [List.length_append, numsOf_length, List.length_replicate]
  omega
theorem read_bytes {s : ByteArray} (h : s.size = 0 ∨ names_right s = true) : read_of (pad16 s) = (s, true) := by
  have h16 : s.size ≤ 16 := by
    rcases h with h | h
    · omega
    · exact (right_size h).2
  unfold read_of
  rw [name_trim h, strOf_numsOf, pad_length h16, numsOf_length, if_pos ⟨rfl, h⟩]
theorem bytes_read {l : List Int} (hl : ∀ x ∈ l, 0 ≤ x ∧ x < 256) (h : l.length = 16) : pad16 (strOfNums (trim_of l)) = l := by
  unfold pad16
  have hb := trim_back l.length l rfl
  rw [numsOf_strOf _ (fun x hx => hl x (by rw [hb]; exact List.mem_append_left _ hx)), strOfNums_size, ← h]
  exact hb.symm
end Go.Proofs.YtlhemachmidoaaaDoor.Pure
