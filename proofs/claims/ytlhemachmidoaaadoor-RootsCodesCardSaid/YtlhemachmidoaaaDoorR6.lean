/- The document's bytes of a name, and its reading of them, are the program's: for any text, any bytes. -/
import Derived.Test.YtlhemachmidoaaaDoorU3
import Derived.Test.YtlhemachmidoaaaDoorR2
import Derived.Test.YtlhemachmidoaaaDoorP11
import Derived.Test.YtlhemachmidoaaaDoorP12
namespace Go.Proofs.YtlhemachmidoaaaDoor.Pure
open Go.RowKit Go.Proofs.YtlhemachmidoaaaDoor.P Go.Proofs.YtlhemachmidoaaaDoorW.PrintWords Go.Proofs.YtlhemachmidoaaaDoorW.PrintLast
set_option linter.unusedVariables false
set_option linter.unusedSimpArgs false

theorem numsOf_get (s : ByteArray) (i : Nat) (h : i < s.size) : (numsOf s)[i]? = some (bt s i) := by
  unfold numsOf
  rw [List.getElem?_map, bt_get s i h]
  have h2 : i < s.data.size := h
  have e : s.get! i = s.data[i] := by
    show s.data[i]! = _
    rw [getElem!_pos s.data i h2]
  rw [e, Array.getElem?_toList, Array.getElem?_eq_getElem h2]
  rfl
theorem refBytes_loop (s : ByteArray) (hs : s.size ≤ 16) : ∀ (d k i : Nat), i + d = s.size → d < k → joistref06_Bytes.l0 k s ((numsOf s).take i ++ List.replicate (16 - i) 0) i = some (pad16 s, 0) := by
  intro d
  induction d with
  | zero =>
    intro k i hi hk
    obtain ⟨k, rfl⟩ : ∃ m, k = m + 1 := ⟨k - 1, by omega⟩
    simp only [joistref06_Bytes.l0]
    rw [if_neg (by omega), List.take_of_length_le (by rw [numsOf_length]; omega)]
    unfold pad16
    rw [show 16 - i = 16 - s.size by omega]
  | succ d ih =>
    intro k i hi hk
    obtain ⟨k, rfl⟩ : ∃ m, k = m + 1 := ⟨k - 1, by omega⟩
    have hlen : ((numsOf s).take i).length = i := by rw [List.length_take, numsOf_length]; omega
    have hset : ((numsOf s).take i ++ List.replicate (16 - i) 0).set i (bt s i) = (numsOf s).take (i + 1) ++ List.replicate (16 - (i + 1)) 0 := by
      rw [List.set_append_right _ _ (by omega), hlen, Nat.sub_self, show 16 - i = (16 - (i + 1)) + 1 by omega, List.replicate_succ, List.set_cons_zero]
      have : (numsOf s).take (i + 1) = (numsOf s).take i ++ [bt s i] := by
        rw [List.take_add_one, numsOf_get s i (by omega)]
        rfl
      rw [this, List.append_assoc]
      rfl
    simp only [joistref06_Bytes.l0]
    rw [if_pos (by omega), if_pos (by omega), if_pos (by rw [List.length_append, hlen, List.length_replicate]; omega), wrap_in (n := (i : Int) + 1) (by omega) (by omega), Int.toNat_natCast, hset]
    have e1 : ((i : Int) + 1) = ((i + 1 : Nat) : Int) := by omega
    rw [e1]
    exact ih k (i + 1) (by omega) (by omega)
theorem refBytes_is (s : ByteArray) (k : Nat) (hk : 40 ≤ k) : joistref06_Bytes.f k s = names_Bytes.f s := by
  obtain ⟨k, rfl⟩ : ∃ m, k = m + 1 := ⟨k - 1, by omega⟩
  unfold joistref06_Bytes.f names_Bytes.f
  rw [names_is s _ (by omega)]
  unfold names_Right.f
  simp only [Option.bind_some]
  have go : ∀ h : s.size ≤ 16, joistref06_Bytes.j0 (k + 1) s false = some (pad16 s, 0) := by
    intro h
    simp only [joistref06_Bytes.j0]
    rw [if_neg (by decide), if_pos (by decide)]
    have := refBytes_loop s h s.size k 0 (by omega) (by omega)
    rw [List.take_zero, List.nil_append] at this
    exact this
  by_cases h0 : s.size = 0
  · rw [if_pos (string_empty h0), if_pos (Or.inl h0), go (by omega)]
  · rw [if_neg (string_full h0)]
    cases hr : names_right s with
    | true => rw [if_pos (Or.inr rfl)]; exact go (right_size hr).2
    | false => rw [if_neg (by simp [h0])]; rfl
theorem refRead_end (l : List Int) (i k : Nat) (hl : l.length = 16) (hi : i ≤ 16) (hk : 32 ≤ k) (ht : trim_of l = l.take i) :
    ((joistref06_Right.f k (strOfNums (l.take ((i : Int)).toNat))).bind fun t => if (strOfNums (l.take ((i : Int)).toNat)).toList = ([] : List UInt8) then some (strOfNums (l.take ((i : Int)).toNat), true) else if t = true then some (strOfNums (l.take ((i : Int)).toNat), true) else some ((⟨#[]⟩ : ByteArray), false)) = some (read_of l) := by
  rw [names_is _ _ hk, Int.toNat_natCast, ← ht]
  unfold names_Right.f read_of
  simp only [Option.bind_some]
  by_cases h0 : (trim_of l).length = 0
  · rw [if_pos (string_empty (by rw [strOfNums_size]; exact h0)), if_pos ⟨hl, Or.inl h0⟩]
  · rw [if_neg (string_full (by rw [strOfNums_size]; exact h0))]
    cases hr : names_right (strOfNums (trim_of l)) with
    | true =>
      rw [if_pos (show l.length = 16 ∧ ((trim_of l).length = 0 ∨ true = true) from ⟨hl, Or.inr rfl⟩)]
      rfl
    | false =>
      rw [if_neg (show ¬ (l.length = 16 ∧ ((trim_of l).length = 0 ∨ false = true)) by simp [h0])]
      rfl
theorem refRead_loop (l : List Int) (hl : l.length = 16) : ∀ (i k : Nat), i ≤ 16 → i + 40 ≤ k → trim_of l = trim_of (l.take i) → joistref06_Read.l0 k l i = some (read_of l) := by
  intro i
  induction i with
  | zero =>
    intro k hi hk ht
    obtain ⟨k, rfl⟩ : ∃ m, k = m + 1 := ⟨k - 1, by omega⟩
    simp only [joistref06_Read.l0]
    rw [if_neg (by omega), if_pos (by omega), if_pos (by omega)]
    exact refRead_end l 0 k hl (by omega) (by omega) (by rw [ht]; rfl)
  | succ i ih =>
    intro k hi hk ht
    obtain ⟨k, rfl⟩ : ∃ m, k = m + 1 := ⟨k - 1, by omega⟩
    have hw : wrap64 (((i + 1 : Nat) : Int) - 1) = (i : Int) := by rw [wrap_in (n := ((i + 1 : Nat) : Int) - 1) (by omega) (by omega)]; omega
    have hsp : l.take (i + 1) = l.take i ++ [rd l i] := by
      rw [List.take_succ_eq_append_getElem (by omega)]
      unfold rd
      rw [Int.toNat_natCast, List.getD_eq_getElem?_getD, List.getElem?_eq_getElem (by omega)]
      rfl
    rw [hsp, trim_snoc] at ht
    simp only [joistref06_Read.l0]
    rw [hw, if_pos (by omega), if_pos (by omega), if_pos (by omega)]
    by_cases h0 : rd l i = 0
    · rw [if_pos h0]
      rw [if_pos h0] at ht
      exact ih k (by omega) (by omega) ht
    · rw [if_neg h0]
      rw [if_neg h0, ← hsp] at ht
      rw [if_pos (by omega), if_pos (by omega)]
      exact refRead_end l (i + 1) k hl hi (by omega) ht
theorem refRead_is (l : List Int) (k : Nat) (hk : 60 ≤ k) : joistref06_Read.f k l = some (read_of l) := by
  unfold joistref06_Read.f
  by_cases h : l.length = 16
  · rw [if_pos (by omega)]
    exact refRead_loop l h 16 k (Nat.le_refl _) (by omega) (by rw [List.take_of_length_le (by omega)])
  · rw [if_neg (by omega)]
    unfold read_of
    rw [if_neg (fun hh => h hh.1)]
end Go.Proofs.YtlhemachmidoaaaDoor.Pure
