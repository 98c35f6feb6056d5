/- Names as lists of bytes: folding twice is folding once; a name's bytes; plain lists. -/
import Derived.Test.YtlhemachmidoaaaDoorEf
import Derived.Laws.Cover4
import Derived.Lib.MapLaws
import Derived.Lib.QuoteLoop
import Derived.Stop.FmtQuoteTie
namespace Go.Proofs.YtlhemachmidoaaaDoor.Pure
open Go.RowKit Go.Proofs.YtlhemachmidoaaaDoor.P
set_option linter.unusedVariables false
set_option linter.unusedSimpArgs false

def validR (r : Int) : Prop := (0 ≤ r ∧ r < 55296) ∨ (57343 < r ∧ r ≤ 1114111)
theorem ofNat_small (n : Nat) (h : n < 256) : (UInt8.ofNat n).toNat = n := by simp; omega
theorem byteZ (z : Int) (h0 : 0 ≤ z) (h1 : z < 256) : (z.toNat.toUInt8).toNat = z.toNat := by
  have : z.toNat < 256 := by omega
  show (UInt8.ofNat z.toNat).toNat = z.toNat
  exact ofNat_small _ this
theorem decode_encode {r : Int} (h : validR r) (rest : List UInt8) : Lib.decodeL (Lib.encodeRune r ++ rest) = (r.toNat, (Lib.encodeRune r).length) := by
  rw [Lib.decodeL_N]
  unfold Lib.encodeRune validR at *
  by_cases h1 : r ≤ 127
  · rw [Lib.encodeRuneZ_one (by omega) h1]
    have e := byteZ r (by omega) (by omega)
    simp only [List.map_cons, List.map_nil, List.cons_append, List.nil_append, List.getD_cons_zero]
    rw [e]
    unfold Lib.decodeN
    rw [if_pos (by omega)]
    rfl
  · by_cases h2 : r ≤ 2047
    · rw [Lib.encodeRuneZ_two (by omega) h2]
      have e0 := byteZ (192 + r / 64) (by omega) (by omega)
      have e1 := byteZ (128 + r % 64) (by omega) (by omega)
      simp only [List.map_cons, List.map_nil, List.cons_append, List.nil_append, List.getD_cons_zero, List.getD_cons_succ, List.length_cons, List.length_nil]
      rw [e0, e1]
      unfold Lib.decodeN
      rw [if_neg (by omega), if_pos (by omega), if_pos (by omega)]
      exact Prod.ext (by dsimp only; omega) rfl
    · by_cases h3 : r ≤ 65535
      · rw [Lib.encodeRuneZ_three (by omega)]
        have e0 := byteZ (224 + r / 4096) (by omega) (by omega)
        have e1 := byteZ (128 + r / 64 % 64) (by omega) (by omega)
        have e2 := byteZ (128 + r % 64) (by omega) (by omega)
        simp only [List.map_cons, List.map_nil, List.cons_append, List.nil_append, List.getD_cons_zero, List.getD_cons_succ, List.length_cons, List.length_nil]
        rw [e0, e1, e2]
        unfold Lib.decodeN
        rw [if_neg (by omega), if_neg (by omega), if_pos (by omega), if_pos (by omega)]
        exact Prod.ext (by dsimp only; omega) rfl
      · rw [Lib.encodeRuneZ_four (by omega) (by omega)]
        have e0 := byteZ (240 + r / 262144) (by omega) (by omega)
        have e1 := byteZ (128 + r / 4096 % 64) (by omega) (by omega)
        have e2 := byteZ (128 + r / 64 % 64) (by omega) (by omega)
        have e3 := byteZ (128 + r % 64) (by omega) (by omega)
        simp only [List.map_cons, List.map_nil, List.cons_append, List.nil_append, List.getD_cons_zero, List.getD_cons_succ, List.length_cons, List.length_nil]
        rw [e0, e1, e2, e3]
        unfold Lib.decodeN
        rw [if_neg (by omega), if_neg (by omega), if_neg (by omega), if_pos (by omega), if_pos (by omega)]
        exact Prod.ext (by dsimp only; omega) rfl
theorem decode_valid (l : List UInt8) : validR ((Lib.decodeL l).1 : Int) := by
  rw [Lib.decodeL_N]
  have := Lib.decodeN_valid l.length (l.getD 0 0).toNat (l.getD 1 0).toNat (l.getD 2 0).toNat (l.getD 3 0).toNat (l.getD 0 0).toNat_lt
  unfold validR
  omega
theorem valid_pos {r : Int} (h : validR r) : 0 ≤ r := by unfold validR at h; omega
theorem encode_pos (r : Int) : 0 < (Lib.encodeRune r).length := by
  unfold Lib.encodeRune
  rw [List.length_map]
  exact (Lib.encodeRuneZ_length r).1
def rmL : Nat → List UInt8 → Bool
  | 0, _ => true
  | n + 1, l => if l = [] then true else mayB (Lib.decodeL l).1 && rmL n (l.drop (Lib.decodeL l).2)
theorem rmL_nil (n : Nat) : rmL n [] = true := by
  cases n with
  | zero => rfl
  | succ n => simp [rmL]
theorem rmL_is (s : ByteArray) : ∀ (d pos : Nat), runes_may s d pos = rmL d (s.data.toList.drop pos) := by
  intro d
  induction d with
  | zero => intro pos; rfl
  | succ d ih =>
    intro pos
    simp only [runes_may, rmL]
    by_cases hp : pos < s.size
    · rw [if_pos hp, if_neg (by
        intro h
        have := congrArg List.length h
        rw [List.length_drop, List.length_nil, ← Lib.size_eq] at this
        omega), ih, Lib.decodeL_drop, List.drop_drop]
    · rw [if_neg hp, if_pos (List.drop_of_length_le (by rw [← Lib.size_eq]; omega))]
theorem may_good {c : Int} (h : mayB c = true) : 32 < c ∧ c ≠ 65533 := by
  unfold mayB at h
  simp at h
  omega
theorem bytes_full {c : Int} (h : 32 < c) (hv : validR c) : ∀ x ∈ Lib.encodeRune c, x ≠ 0 := by
  intro x hx hx0
  unfold Lib.encodeRune at hx
  rw [List.mem_map] at hx
  obtain ⟨z, hz, rfl⟩ := hx
  have hb := Lib.encodeRuneZ_byte c z hz
  have e := byteZ z hb.1 hb.2
  rw [hx0] at e
  have hz0 : z = 0 := by
    have : (0 : UInt8).toNat = 0 := rfl
    omega
  subst hz0
  unfold validR at hv
  by_cases h1 : c ≤ 127
  · rw [Lib.encodeRuneZ_one (by omega) h1] at hz
    simp at hz
    omega
  · by_cases h2 : c ≤ 2047
    · rw [Lib.encodeRuneZ_two (by omega) h2] at hz
      simp at hz
      omega
    · by_cases h3 : c ≤ 65535
      · rw [Lib.encodeRuneZ_three (by omega)] at hz
        simp at hz
        omega
      · rw [Lib.encodeRuneZ_four (by omega) (by omega)] at hz
        simp at hz
        omega
theorem right_full : ∀ (n : Nat) (l : List UInt8), l.length ≤ n → rmL n l = true → ∀ x ∈ l, x ≠ 0 := by
  intro n
  induction n with
  | zero =>
    intro l hl _
    obtain rfl := List.eq_nil_of_length_eq_zero (by omega : l.length = 0)
    intro x hx
    cases hx
  | succ n ih =>
    intro l hl hr
    by_cases hne : l = []
    · subst hne
      intro x hx
      cases hx
    · have hw := Lib.decodeL_width l
      have hlen : 0 < l.length := List.length_pos_iff.2 hne
      simp only [rmL] at hr
      rw [if_neg hne, Bool.and_eq_true] at hr
      have hg := may_good hr.1
      have he := Lib.encode_decode l hne (fun h => hg.2 (by rw [h.1]; rfl))
      intro x hx
      rw [← List.take_append_drop (Lib.decodeL l).2 l, List.mem_append] at hx
      rcases hx with hx | hx
      · rw [← he] at hx
        exact bytes_full hg.1 (decode_valid l) x hx
      · exact ih _ (by rw [List.length_drop]; omega) hr.2 x hx
/-! ### what names.Fold returns, as a list of bytes -/
theorem encode_bytes (r : Nat) : (Utf8.encode (r : Int)).data.toList = Lib.encodeRune (r : Int) := by
  have h := Go.Extern.FmtText.encode_eq r
  unfold Lib.encodeRune
  rw [← h]
  unfold Go.Extern.FmtText.nums
  rw [List.map_map]
  conv => lhs; rw [← List.map_id (Utf8.encode (r : Int)).data.toList]
  refine List.map_congr_left fun x _ => ?_
  simp
theorem runes_of (s : ByteArray) : runes_may s s.size 0 = rmL s.size s.data.toList := by rw [rmL_is, List.drop_zero]
theorem name_full {s : ByteArray} (h : names_right s = true) : ∀ x ∈ s.data.toList, x ≠ 0 := by
  unfold names_right at h
  rw [Bool.and_eq_true, runes_of] at h
  exact right_full s.size s.data.toList (by rw [← Lib.size_eq]; exact Nat.le_refl _) h.1
end Go.Proofs.YtlhemachmidoaaaDoor.Pure
/- A name's bytes are read as it: plain lists. -/
namespace Go.Proofs.YtlhemachmidoaaaDoor.Pure
open Go.RowKit Go.Proofs.YtlhemachmidoaaaDoor.P Go.Proofs.YtlhemachmidoaaaDoorW.PrintWords Go.Proofs.YtlhemachmidoaaaDoorW.PrintLast
set_option linter.unusedVariables false
set_option linter.unusedSimpArgs false

theorem strOf_numsOf (s : ByteArray) : strOfNums (numsOf s) = s := by
  unfold numsOf strOfNums
  rw [List.map_map]
  have : (s.data.toList.map ((fun n : Int => UInt8.ofNat n.toNat) ∘ fun b => (b.toNat : Int))) = s.data.toList := by
    conv => rhs; rw [← List.map_id s.data.toList]
    refine List.map_congr_left fun x _ => ?_
    simp
  rw [this]
theorem numsOf_strOf (l : List Int) (h : ∀ x ∈ l, 0 ≤ x ∧ x < 256) : numsOf (strOfNums l) = l := by
  unfold numsOf
  rw [strOfNums_data, List.map_map]
  conv => rhs; rw [← List.map_id l]
  refine List.map_congr_left fun x hx => ?_
  have := h x hx
  have e := ofNat_small x.toNat (by omega)
  simp only [Function.comp, id]
  rw [e]
  omega
theorem trim_zeros : ∀ (n : Nat) (l : List Int), trim_of (l ++ List.replicate n 0) = trim_of l := by
  intro n
  induction n with
  | zero => intro l; simp
  | succ n ih =>
    intro l
    rw [List.replicate_succ', ← List.append_assoc, trim_snoc, if_pos rfl, ih]
theorem trim_full (l : List Int) (h : ∀ x ∈ l, x ≠ 0) : trim_of l = l := by
  by_cases hne : l = []
  · subst hne; rfl
  · obtain ⟨l', x, rfl⟩ : ∃ l' x, l = l' ++ [x] := ⟨l.dropLast, l.getLast hne, (List.dropLast_concat_getLast _).symm⟩
    rw [trim_snoc, if_neg (h x (by simp))]
theorem trim_back : ∀ (n : Nat) (l : List Int), l.length = n → l = trim_of l ++ List.replicate (l.length - (trim_of l).length) 0 := by
  intro n
  induction n with
  | zero =>
    intro l hl
    obtain rfl := List.eq_nil_of_length_eq_zero hl
    rfl
  | succ n ih =>
    intro l hl
    obtain ⟨l', x, rfl⟩ : ∃ l' x, l = l' ++ [x] := ⟨l.dropLast, l.getLast (by intro h; rw [h] at hl; cases hl), (List.dropLast_concat_getLast _).symm⟩
    rw [List.length_append, List.length_singleton] at hl
    have hle := trim_le l'
    rw [trim_snoc]
    by_cases h : x = 0
    · rw [if_pos h, h, List.length_append, List.length_singleton, show l'.length + 1 - (trim_of l').length = (l'.length - (trim_of l').length) + 1 by omega, List.replicate_succ', ← List.append_assoc, ← ih l' (by omega)]
    · rw [if_neg h, Nat.sub_self, List.replicate_zero, List.append_nil]
theorem name_trim {s : ByteArray} (h : s.size = 0 ∨ names_right s = true) : trim_of (pad16 s) = numsOf s := by
  unfold pad16
  rw [trim_zeros]
  refine trim_full _ fun x hx => ?_
  unfold numsOf at hx
  rw [List.mem_map] at hx
  obtain ⟨b, hb, rfl⟩ := hx
  rcases h with h | h
  · rw [Lib.size_eq] at h
    rw [List.eq_nil_of_length_eq_zero h] at hb
    cases hb
  · intro h0
    refine name_full h b hb ?_
    exact UInt8.toNat_inj.1 (by have : (0 : UInt8).toNat = 0 := rfl; omega)
theorem pad_length {s : ByteArray} (h : s.size ≤ 16) : (pad16 s).length = 16 := by
  unfold pad16
  rw [List.length_append, numsOf_length, List.length_replicate]
  omega
theorem read_bytes {s : ByteArray} (h : s.size = 0 ∨ names_right s = true) : read_of (pad16 s) = (s, true) := by
  have h16 : s.size ≤ 16 := by
    rcases h with h | h
    · omega
    · exact (right_size h).2
  unfold read_of
  rw [name_trim h, strOf_numsOf, pad_length h16, numsOf_length, if_pos ⟨rfl, h⟩]
theorem bytes_read {l : List Int} (hl : ∀ x ∈ l, 0 ≤ x ∧ x < 256) (h : l.length = 16) : pad16 (strOfNums (trim_of l)) = l := by
  unfold pad16
  have hb := trim_back l.length l rfl
  rw [numsOf_strOf _ (fun x hx => hl x (by rw [hb]; exact List.mem_append_left _ hx)), strOfNums_size, ← h]
  exact hb.symm
end Go.Proofs.YtlhemachmidoaaaDoor.Pure
