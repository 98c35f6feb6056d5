/- Names as lists of bytes: folding twice is folding once; a name's bytes; plain lists. -/
import Derived.Test.YtlhemachmidoaaaDoorEd
import Derived.Lib.MapLaws
import Derived.Lib.QuoteLoop
import Derived.Stop.FmtQuoteTie
namespace Go.Proofs.YtlhemachmidoaaaDoor.Pure
open Go.RowKit Go.Proofs.YtlhemachmidoaaaDoor.P
set_option linter.unusedVariables false
set_option linter.unusedSimpArgs false

def validR (r : Int) : Prop := (0 ≤ r ∧ r < 55296) ∨ (57343 < r ∧ r ≤ 1114111)
theorem ofNat_small (n : Nat) (h : n < 256) : (UInt8.ofNat n).toNat = n := by simp; omega
theorem byteZ (z : Int) (h0 : 0 ≤ z) (h1 : z < 256) : (z.toNat.toUInt8).toNat = z.toNat := by
  have : z.toNat < 256 := by omega
  show (UInt8.ofNat z.toNat).toNat = z.toNat
  exact ofNat_small _ this
theorem decode_encode {r : Int} (h : validR r) (rest : List UInt8) : Lib.decodeL (Lib.encodeRune r ++ rest) = (r.toNat, (Lib.encodeRune r).length) := by
  rw [Lib.decodeL_N]
  unfold Lib.encodeRune validR at *
  by_cases h1 : r ≤ 127
  · rw [Lib.encodeRuneZ_one (by omega) h1]
    have e := byteZ r (by omega) (by omega)
    simp only [List.map_cons, List.map_nil, List.cons_append, List.nil_append, List.getD_cons_zero]
    rw [e]
    unfold Lib.decodeN
    rw [if_pos (by omega)]
    rfl
  · by_cases h2 : r ≤ 2047
    · rw [Lib.encodeRuneZ_two (by omega) h2]
      have e0 := byteZ (192 + r / 64) (by omega) (by omega)
      have e1 := byteZ (128 + r % 64) (by omega) (by omega)
      simp only [List.map_cons, List.map_nil, List.cons_append, List.nil_append, List.getD_cons_zero, List.getD_cons_succ, List.length_cons, List.length_nil]
      rw [e0, e1]
      unfold Lib.decodeN
      rw [if_neg (by omega), if_pos (by omega), if_pos (by omega)]
      exact Prod.ext (by dsimp only; omega) rfl
    · by_cases h3 : r ≤ 65535
      · rw [Lib.encodeRuneZ_three (by omega)]
        have e0 := byteZ (224 + r / 4096) (by omega) (by omega)
        have e1 := byteZ (128 + r / 64 % 64) (by omega) (by omega)
        have e2 := byteZ (128 + r % 64) (by omega) (by omega)
        simp only [List.map_cons, List.map_nil, List.cons_append, List.nil_append, List.getD_cons_zero, List.getD_cons_succ, List.length_cons, List.length_nil]
        rw [e0, e1, e2]
        unfold Lib.decodeN
        rw [if_neg (by omega), if_neg (by omega), if_pos (by omega), if_pos (by omega)]
        exact Prod.ext (by dsimp only; omega) rfl
      · rw [Lib.encodeRuneZ_four (by omega) (by omega)]
        have e0 := byteZ (240 + r / 262144) (by omega) (by omega)
        have e1 := byteZ (128 + r / 4096 % 64) (by omega) (by omega)
        have e2 := byteZ (128 + r / 64 % 64) (by omega) (by omega)
        have e3 := byteZ (128 + r % 64) (by omega) (by omega)
        simp only [List.map_cons, List.map_nil, List.cons_append, List.nil_append, List.getD_cons_zero, List.getD_cons_succ, List.length_cons, List.length_nil]
        rw [e0, e1, e2, e3]
        unfold Lib.decodeN
        rw [if_neg (by omega), if_neg (by omega), if_neg (by omega), if_pos (by omega), if_pos (by omega)]
        exact Prod.ext (by dsimp only; omega) rfl
theorem decode_valid (l : List UInt8) : validR ((Lib.decodeL l).1 : Int) := by
  rw [Lib.decodeL_N]
  have := Lib.decodeN_valid l.length (l.getD 0 0).toNat (l.getD 1 0).toNat (l.getD 2 0).toNat (l.getD 3 0).toNat (l.getD 0 0).toNat_lt
  unfold validR
  omega
theorem fold_valid {r : Int} (h : validR r) : validR (fold_rune r) := by
  unfold fold_rune validR at *
  split <;> omega
theorem fold_fold (r : Int) : fold_rune (fold_rune r) = fold_rune r := by
  unfold fold_rune
  split
  · rw [if_neg (by omega)]
  · rfl
theorem valid_pos {r : Int} (h : validR r) : 0 ≤ r := by unfold validR at h; omega
theorem encode_pos (r : Int) : 0 < (Lib.encodeRune r).length := by
  unfold Lib.encodeRune
  rw [List.length_map]
  exact (Lib.encodeRuneZ_length r).1
theorem mapF_step (l : List UInt8) (hne : l ≠ []) : Lib.mapD fold_rune l = Lib.encodeRune (fold_rune (Lib.decodeL l).1) ++ Lib.mapD fold_rune (l.drop (Lib.decodeL l).2) := by
  rw [Lib.mapD_step _ _ hne, if_pos (valid_pos (fold_valid (decode_valid l)))]
theorem mapF_twice : ∀ (n : Nat) (l : List UInt8), l.length ≤ n → Lib.mapD fold_rune (Lib.mapD fold_rune l) = Lib.mapD fold_rune l := by
  intro n
  induction n with
  | zero =>
    intro l hl
    obtain rfl := List.eq_nil_of_length_eq_zero (by omega : l.length = 0)
    rfl
  | succ n ih =>
    intro l hl
    by_cases hne : l = []
    · subst hne; rfl
    · have hw := Lib.decodeL_width l
      have hlen : 0 < l.length := List.length_pos_iff.2 hne
      have hv := fold_valid (decode_valid l)
      rw [mapF_step l hne]
      have hne2 : Lib.encodeRune (fold_rune (Lib.decodeL l).1) ++ Lib.mapD fold_rune (l.drop (Lib.decodeL l).2) ≠ [] := by
        intro h
        have := congrArg List.length h
        rw [List.length_append, List.length_nil] at this
        have := encode_pos (fold_rune (Lib.decodeL l).1)
        omega
      rw [mapF_step _ hne2, decode_encode hv]
      dsimp only
      rw [List.drop_left, Int.toNat_of_nonneg (valid_pos hv), fold_fold, ih _ (by rw [List.length_drop]; omega)]
/-! ### which lists of bytes are runes that may stand in a name -/
def rmL : Nat → List UInt8 → Bool
  | 0, _ => true
  | n + 1, l => if l = [] then true else mayB (Lib.decodeL l).1 && rmL n (l.drop (Lib.decodeL l).2)
theorem rmL_nil (n : Nat) : rmL n [] = true := by
  cases n with
  | zero => rfl
  | succ n => simp [rmL]
theorem rmL_is (s : ByteArray) : ∀ (d pos : Nat), runes_may s d pos = rmL d (s.data.toList.drop pos) := by
  intro d
  induction d with
  | zero => intro pos; rfl
  | succ d ih =>
    intro pos
    simp only [runes_may, rmL]
    by_cases hp : pos < s.size
    · rw [if_pos hp, if_neg (by
        intro h
        have := congrArg List.length h
        rw [List.length_drop, List.length_nil, ← Lib.size_eq] at this
        omega), ih, Lib.decodeL_drop, List.drop_drop]
    · rw [if_neg hp, if_pos (List.drop_of_length_le (by rw [← Lib.size_eq]; omega))]
theorem may_fold {c : Int} (h : mayB c = true) : mayB (fold_rune c) = true := by
  unfold mayB at *
  unfold fold_rune
  split
  · rename_i hc
    simp
    omega
  · exact h
theorem may_good {c : Int} (h : mayB c = true) : 32 < c ∧ c ≠ 65533 := by
  unfold mayB at h
  simp at h
  omega
theorem fold_width (l : List UInt8) (hne : l ≠ []) (hm : mayB (Lib.decodeL l).1 = true) : (Lib.encodeRune (fold_rune (Lib.decodeL l).1)).length = (Lib.decodeL l).2 := by
  have hg := may_good hm
  have he := Lib.encode_decode l hne (fun h => hg.2 (by rw [h.1]; rfl))
  have hle := Lib.decodeL_le l hne
  have h1 : (Lib.encodeRune ((Lib.decodeL l).1 : Int)).length = (Lib.decodeL l).2 := by
    rw [he, List.length_take]
    omega
  rw [← h1]
  unfold fold_rune
  split
  · rename_i hc
    unfold Lib.encodeRune
    rw [List.length_map, List.length_map, Lib.encodeRuneZ_one (by omega) (by omega), Lib.encodeRuneZ_one (by omega) (by omega)]
    rfl
  · rfl
theorem fold_right : ∀ (n m : Nat) (l : List UInt8), l.length ≤ n → rmL n l = true → rmL m (Lib.mapD fold_rune l) = true ∧ (Lib.mapD fold_rune l).length = l.length := by
  intro n
  induction n with
  | zero =>
    intro m l hl _
    obtain rfl := List.eq_nil_of_length_eq_zero (by omega : l.length = 0)
    exact ⟨rmL_nil m, rfl⟩
  | succ n ih =>
    intro m l hl hr
    by_cases hne : l = []
    · subst hne
      exact ⟨rmL_nil m, rfl⟩
    · have hw := Lib.decodeL_width l
      have hlen : 0 < l.length := List.length_pos_iff.2 hne
      have hle := Lib.decodeL_le l hne
      simp only [rmL] at hr
      rw [if_neg hne, Bool.and_eq_true] at hr
      have hv := fold_valid (decode_valid l)
      have hwid := fold_width l hne hr.1
      have hih := fun m => ih m (l.drop (Lib.decodeL l).2) (by rw [List.length_drop]; omega) hr.2
      rw [mapF_step l hne]
      have hne2 : Lib.encodeRune (fold_rune (Lib.decodeL l).1) ++ Lib.mapD fold_rune (l.drop (Lib.decodeL l).2) ≠ [] := by
        intro h
        have := congrArg List.length h
        rw [List.length_append, List.length_nil] at this
        have := encode_pos (fold_rune (Lib.decodeL l).1)
        omega
      refine ⟨?_, by rw [List.length_append, hwid, (hih 0).2, List.length_drop]; omega⟩
      cases m with
      | zero => rfl
      | succ m =>
        simp only [rmL]
        rw [if_neg hne2, decode_encode hv]
        dsimp only
        rw [List.drop_left, Int.toNat_of_nonneg (valid_pos hv), may_fold hr.1, (hih m).1]
        rfl
theorem bytes_full {c : Int} (h : 32 < c) (hv : validR c) : ∀ x ∈ Lib.encodeRune c, x ≠ 0 := by
  intro x hx hx0
  unfold Lib.encodeRune at hx
  rw [List.mem_map] at hx
  obtain ⟨z, hz, rfl⟩ := hx
  have hb := Lib.encodeRuneZ_byte c z hz
  have e := byteZ z hb.1 hb.2
  rw [hx0] at e
  have hz0 : z = 0 := by
    have : (0 : UInt8).toNat = 0 := rfl
    omega
  subst hz0
  unfold validR at hv
  by_cases h1 : c ≤ 127
  · rw [Lib.encodeRuneZ_one (by omega) h1] at hz
    simp at hz
    omega
  · by_cases h2 : c ≤ 2047
    · rw [Lib.encodeRuneZ_two (by omega) h2] at hz
      simp at hz
      omega
    · by_cases h3 : c ≤ 65535
      · rw [Lib.encodeRuneZ_three (by omega)] at hz
        simp at hz
        omega
      · rw [Lib.encodeRuneZ_four (by omega) (by omega)] at hz
        simp at hz
        omega
theorem right_full : ∀ (n : Nat) (l : List UInt8), l.length ≤ n → rmL n l = true → ∀ x ∈ l, x ≠ 0 := by
  intro n
  induction n with
  | zero =>
    intro l hl _
    obtain rfl := List.eq_nil_of_length_eq_zero (by omega : l.length = 0)
    intro x hx
    cases hx
  | succ n ih =>
    intro l hl hr
    by_cases hne : l = []
    · subst hne
      intro x hx
      cases hx
    · have hw := Lib.decodeL_width l
      have hlen : 0 < l.length := List.length_pos_iff.2 hne
      simp only [rmL] at hr
      rw [if_neg hne, Bool.and_eq_true] at hr
      have hg := may_good hr.1
      have he := Lib.encode_decode l hne (fun h => hg.2 (by rw [h.1]; rfl))
      intro x hx
      rw [← List.take_append_drop (Lib.decodeL l).2 l, List.mem_append] at hx
      rcases hx with hx | hx
      · rw [← he] at hx
        exact bytes_full hg.1 (decode_valid l) x hx
      · exact ih _ (by rw [List.length_drop]; omega) hr.2 x hx
/-! ### what names.Fold returns, as a list of bytes -/
theorem encode_bytes (r : Nat) : (Utf8.encode (r : Int)).data.toList = Lib.encodeRune (r : Int) := by
  have h := Go.Extern.FmtText.encode_eq r
  unfold Lib.encodeRune
  rw [← h]
  unfold Go.Extern.FmtText.nums
  rw [List.map_map]
  conv => lhs; rw [← List.map_id (Utf8.encode (r : Int)).data.toList]
  refine List.map_congr_left fun x _ => ?_
  simp
theorem runes_list : ∀ (ns : List Int) (acc : ByteArray), (ns.foldl (fun r n => r ++ Utf8.encode n) acc).data.toList = acc.data.toList ++ (ns.map fun n => (Utf8.encode n).data.toList).flatten := by
  intro ns
  induction ns with
  | nil => intro acc; simp
  | cons n ns ih =>
    intro acc
    rw [List.foldl_cons, ih, List.map_cons, List.flatten_cons, ← List.append_assoc, ByteArray.data_append, Array.toList_append]
theorem fold_list (s : ByteArray) : ∀ (d pos : Nat), s.size ≤ pos + d → ((fold_runes s d pos).map fun n => (Utf8.encode n).data.toList).flatten = Lib.mapD fold_rune (s.data.toList.drop pos) := by
  intro d
  induction d with
  | zero =>
    intro pos h
    rw [List.drop_of_length_le (by rw [← Lib.size_eq]; omega)]
    rfl
  | succ d ih =>
    intro pos h
    simp only [fold_runes]
    by_cases hp : pos < s.size
    · have hw := Lib.decode_width_pos s pos hp
      have hne : s.data.toList.drop pos ≠ [] := by
        intro h
        have := congrArg List.length h
        rw [List.length_drop, List.length_nil, ← Lib.size_eq] at this
        omega
      rw [if_pos hp, mapF_step _ hne, List.map_cons, List.flatten_cons, ih _ (by omega), Lib.decodeL_drop, List.drop_drop]
      congr 1
      have hv := fold_valid (decode_valid (s.data.toList.drop pos))
      rw [Lib.decodeL_drop] at hv
      have he := encode_bytes (fold_rune ((Utf8.decode s pos).1 : Int)).toNat
      rw [Int.toNat_of_nonneg (valid_pos hv)] at he
      exact he
    · rw [if_neg hp, List.drop_of_length_le (by rw [← Lib.size_eq]; omega)]
      rfl
theorem fold_bytes (s : ByteArray) : (fold_of s).data.toList = Lib.mapD fold_rune s.data.toList := by
  unfold fold_of runesBytes
  rw [runes_list, fold_list s s.size 0 (by omega)]
  rw [List.drop_zero]
  rfl
theorem fold_count (s : ByteArray) : ∀ (d pos : Nat), (fold_runes s d pos).length ≤ d := by
  intro d
  induction d with
  | zero => intro pos; exact Nat.le_refl _
  | succ d ih =>
    intro pos
    simp only [fold_runes]
    split
    · rw [List.length_cons]
      have := ih (pos + (Utf8.decode s pos).2)
      omega
    · exact Nat.zero_le _
theorem fold_size (s : ByteArray) : (fold_of s).size ≤ 4 * s.size := by
  have h := runesBytes_size_le (fold_runes s s.size 0)
  have := fold_count s s.size 0
  unfold fold_of
  omega
theorem fold_again (s : ByteArray) : fold_of (fold_of s) = fold_of s := by
  have h : (fold_of (fold_of s)).data.toList = (fold_of s).data.toList := by
    rw [fold_bytes, fold_bytes, mapF_twice _ _ (Nat.le_refl _)]
  exact ByteArray.ext (Array.toList_inj.1 h)
theorem runes_of (s : ByteArray) : runes_may s s.size 0 = rmL s.size s.data.toList := by rw [rmL_is, List.drop_zero]
theorem fold_keeps {s : ByteArray} (h : names_right s = true) : names_right (fold_of s) = true ∧ (fold_of s).size = s.size := by
  have hs := right_size h
  unfold names_right at h
  rw [Bool.and_eq_true, runes_of] at h
  have hl : s.data.toList.length = s.size := (Lib.size_eq s).symm
  have hf := fun m => fold_right s.size m s.data.toList (by omega) h.1
  have hsz : (fold_of s).size = s.size := by rw [Lib.size_eq, fold_bytes, (hf 0).2, hl]
  refine ⟨?_, hsz⟩
  unfold names_right
  rw [runes_of, fold_bytes, (hf _).1, hsz]
  exact h.2
theorem name_full {s : ByteArray} (h : names_right s = true) : ∀ x ∈ s.data.toList, x ≠ 0 := by
  unfold names_right at h
  rw [Bool.and_eq_true, runes_of] at h
  exact right_full s.size s.data.toList (by rw [← Lib.size_eq]; exact Nat.le_refl _) h.1
end Go.Proofs.YtlhemachmidoaaaDoor.Pure
