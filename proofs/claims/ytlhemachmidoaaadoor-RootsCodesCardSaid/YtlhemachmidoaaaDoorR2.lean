/- The document's reading of a rune is the model's; the document's names are the program's: for any text. -/
import Derived.Test.YtlhemachmidoaaaDoorP11
import Derived.Test.YtlhemachmidoaaaDoorEn
import Derived.Lib.RuneCountTail
import Derived.Lib.DecodeN
namespace Go.Proofs.YtlhemachmidoaaaDoor.Pure
open Go.RowKit Go.Proofs.YtlhemachmidoaaaDoor.P Go.Proofs.YtlhemachmidoaaaDoorW.PrintWords Go.Proofs.YtlhemachmidoaaaDoorW.PrintLast
set_option linter.unusedVariables false
set_option linter.unusedSimpArgs false

theorem wrap_in {n : Int} (h0 : -9223372036854775808 ≤ n) (h1 : n ≤ 9223372036854775807) : wrap64 n = n := by unfold wrap64; omega
theorem bt_get (s : ByteArray) (i : Nat) (h : i < s.size) : bt s i = ((s.get! i).toNat : Int) := by
  unfold bt
  rw [dif_pos (by rw [Int.toNat_natCast]; exact h)]
  simp only [Int.toNat_natCast]
  simp [ByteArray.get!, getElem!_pos, h]
  rfl
theorem runeOf_step (m : Nat) (s : ByteArray) (x5 x6 x7 : Int) (j b : Nat) (hj : (j : Int) < x6) (hlt : j < s.size) (hb : (s.get! j).toNat = b) (h0 : 0 ≤ x5) (h1 : x5 ≤ 100000000) (hj9 : j < 100) :
    joistref06_runeOf.l0 (m + 1) s x5 x6 x7 j = if b < 128 ∨ 192 ≤ b then some (0, 0) else joistref06_runeOf.l0 m s (x5 * 64 + b - 128) x6 x7 ((j + 1 : Nat) : Int) := by
  have hb8 := (s.get! j).toNat_lt
  have e := bt_get s j hlt
  rw [hb] at e hb8
  simp only [joistref06_runeOf.l0]
  rw [if_pos hj, if_pos (by omega), if_pos (by omega), e, wrap_in (n := (b : Int)) (by omega) (by omega)]
  by_cases c1 : b < 128
  · rw [if_pos (by omega), if_pos (.inl c1)]
  · rw [if_neg (by omega)]
    by_cases c2 : 192 ≤ b
    · rw [if_pos (by omega), if_pos (.inr c2)]
    · rw [if_neg (by omega), if_neg (by omega), wrap_in (n := x5 * 64) (by omega) (by omega), wrap_in (n := x5 * 64 + (b : Int)) (by omega) (by omega), wrap_in (n := x5 * 64 + (b : Int) - 128) (by omega) (by omega), wrap_in (n := (j : Int) + 1) (by omega) (by omega)]
      rfl
theorem runeOf_end (m : Nat) (s : ByteArray) (x5 x6 x7 : Int) :
    joistref06_runeOf.l0 (m + 1) s x5 x6 x7 x6 = if x5 < x7 ∨ x5 > 1114111 ∨ 55296 ≤ x5 ∧ x5 ≤ 57343 then some (0, 0) else some (x5, x6) := by
  simp only [joistref06_runeOf.l0]
  rw [if_neg (by omega)]
  by_cases c1 : x5 < x7
  · rw [if_pos c1, if_pos (.inl c1)]
  · rw [if_neg c1]
    by_cases c2 : x5 > 1114111
    · rw [if_pos c2, if_pos (.inr (.inl c2))]
    · rw [if_neg c2]
      by_cases c3 : x5 ≥ 55296
      · rw [if_pos c3]
        by_cases c4 : x5 ≤ 57343
        · rw [if_pos c4, if_pos (.inr (.inr ⟨c3, c4⟩))]
        · rw [if_neg c4, if_neg (by omega)]
      · rw [if_neg c3, if_neg (by omega)]
def finN (a least size : Int) : Int × Int := if a < least ∨ a > 1114111 ∨ 55296 ≤ a ∧ a ≤ 57343 then (0, 0) else (a, size)
/-- What the document's function makes of a text's first bytes. -/
def refN (n b0 b1 b2 b3 : Nat) : Int × Int :=
  if b0 < 128 then ((b0 : Int), 1)
  else if 194 ≤ b0 ∧ b0 < 224 then (if n < 2 then (0, 0) else if (b1 < 128 ∨ 192 ≤ b1) then (0, 0) else finN (((b0 : Int) - 192) * 64 + b1 - 128) 128 2)
  else if 224 ≤ b0 ∧ b0 < 240 then (if n < 3 then (0, 0) else if (b1 < 128 ∨ 192 ≤ b1) then (0, 0) else if (b2 < 128 ∨ 192 ≤ b2) then (0, 0) else finN ((((b0 : Int) - 224) * 64 + b1 - 128) * 64 + b2 - 128) 2048 3)
  else if 240 ≤ b0 ∧ b0 < 245 then (if n < 4 then (0, 0) else if (b1 < 128 ∨ 192 ≤ b1) then (0, 0) else if (b2 < 128 ∨ 192 ≤ b2) then (0, 0) else if (b3 < 128 ∨ 192 ≤ b3) then (0, 0) else finN (((((b0 : Int) - 240) * 64 + b1 - 128) * 64 + b2 - 128) * 64 + b3 - 128) 65536 4)
  else (0, 0)
theorem fin_some (m : Nat) (s : ByteArray) (x5 x6 x7 : Int) (j : Int) (hj : j = x6) : joistref06_runeOf.l0 (m + 1) s x5 x6 x7 j = some (finN x5 x7 x6) := by
  subst hj
  rw [runeOf_end]
  unfold finN
  split <;> rfl
theorem runeOf_ref (s : ByteArray) (hs : 0 < s.size) (hsz : s.size ≤ 140737488351232) (k b0 b1 b2 b3 : Nat) (h0 : (s.get! 0).toNat = b0) (h1 : (s.get! 1).toNat = b1) (h2 : (s.get! 2).toNat = b2) (h3 : (s.get! 3).toNat = b3) :
    joistref06_runeOf.f (k + 10) s = some (refN s.size b0 b1 b2 b3) := by
  have hb0 : b0 < 256 := by rw [← h0]; exact (s.get! 0).toNat_lt
  have hb1 : b1 < 256 := by rw [← h1]; exact (s.get! 1).toNat_lt
  have hb2 : b2 < 256 := by rw [← h2]; exact (s.get! 2).toNat_lt
  have hb3 : b3 < 256 := by rw [← h3]; exact (s.get! 3).toNat_lt
  have e0 := bt_get s 0 hs
  rw [h0, show ((0 : Nat) : Int) = 0 from rfl] at e0
  unfold joistref06_runeOf.f refN
  rw [if_pos (by omega), e0, wrap_in (n := (b0 : Int)) (by omega) (by omega)]
  -- where a size and a least rune are known
  have key : ∀ (m : Nat) (x5 : Int) (size least : Nat), 2 ≤ size → size ≤ 4 → 0 ≤ x5 → x5 ≤ 100 →
      joistref06_runeOf.j2 (m + 6) s (s.size : Int) x5 size least = some (if s.size < size then (0, 0) else if (b1 < 128 ∨ 192 ≤ b1) then (0, 0) else if size = 2 then finN (x5 * 64 + b1 - 128) least 2 else if (b2 < 128 ∨ 192 ≤ b2) then (0, 0) else if size = 3 then finN ((x5 * 64 + b1 - 128) * 64 + b2 - 128) least 3 else if (b3 < 128 ∨ 192 ≤ b3) then (0, 0) else finN (((x5 * 64 + b1 - 128) * 64 + b2 - 128) * 64 + b3 - 128) least 4) := by
    intro m x5 size least g2 g4 p0 p1
    simp only [joistref06_runeOf.j2, joistref06_runeOf.j3]
    rw [if_neg (by omega)]
    by_cases hc : s.size < size
    · rw [decide_eq_true (by omega), if_pos rfl, if_pos hc]
    · rw [decide_eq_false (by omega), if_neg (by decide), if_neg hc, show (1 : Int) = ((1 : Nat) : Int) from rfl, runeOf_step (m + 3) s x5 size least 1 b1 (by omega) (by omega) h1 p0 (by omega) (by omega)]
      by_cases q1 : b1 < 128 ∨ 192 ≤ b1
      · rw [if_pos q1, if_pos q1]
      · rw [if_neg q1, if_neg q1]
        by_cases z2 : size = 2
        · rw [if_pos z2]
          subst z2
          exact fin_some (m + 2) s _ _ _ _ rfl
        · rw [if_neg z2, runeOf_step (m + 2) s _ size least 2 b2 (by omega) (by omega) h2 (by omega) (by omega) (by omega)]
          by_cases q2 : b2 < 128 ∨ 192 ≤ b2
          · rw [if_pos q2, if_pos q2]
          · rw [if_neg q2, if_neg q2]
            by_cases z3 : size = 3
            · rw [if_pos z3]
              subst z3
              exact fin_some (m + 1) s _ _ _ _ rfl
            · rw [if_neg z3, runeOf_step (m + 1) s _ size least 3 b3 (by omega) (by omega) h3 (by omega) (by omega) (by omega)]
              by_cases q3 : b3 < 128 ∨ 192 ≤ b3
              · rw [if_pos q3, if_pos q3]
              · rw [if_neg q3, if_neg q3]
                obtain rfl : size = 4 := by omega
                exact fin_some m s _ _ _ _ rfl
  have bad : ∀ (m : Nat) (x5 : Int), joistref06_runeOf.j2 (m + 2) s (s.size : Int) x5 0 0 = some (0, 0) := fun m x5 => by simp only [joistref06_runeOf.j2, joistref06_runeOf.j3, if_true]
  by_cases c0 : b0 < 128
  · rw [if_pos (by omega), if_pos c0]
  · rw [if_neg (by omega), if_neg c0]
    by_cases c1 : 194 ≤ b0
    · rw [if_pos (by omega)]
      by_cases c2 : b0 < 224
      · rw [decide_eq_true (by omega), if_pos ⟨c1, c2⟩]
        have := key (k + 3) ((b0 : Int) - 192) 2 128 (by omega) (by omega) (by omega) (by omega)
        simp only [joistref06_runeOf.j0, if_true]
        rw [wrap_in (n := (b0 : Int) - 192) (by omega) (by omega)]
        exact this
      · rw [decide_eq_false (by omega), if_neg (by omega)]
        simp only [joistref06_runeOf.j0, Bool.false_eq_true, if_false]
        rw [if_pos (by omega)]
        by_cases c3 : b0 < 240
        · rw [decide_eq_true (by omega), if_pos ⟨by omega, c3⟩]
          have := key (k + 2) ((b0 : Int) - 224) 3 2048 (by omega) (by omega) (by omega) (by omega)
          simp only [joistref06_runeOf.j1, if_true]
          rw [wrap_in (n := (b0 : Int) - 224) (by omega) (by omega)]
          exact this
        · rw [decide_eq_false (by omega), if_neg (by omega)]
          simp only [joistref06_runeOf.j1, Bool.false_eq_true, if_false]
          rw [if_pos (by omega)]
          by_cases c4 : b0 < 245
          · rw [if_pos (by omega), if_pos ⟨by omega, c4⟩]
            have := key (k + 2) ((b0 : Int) - 240) 4 65536 (by omega) (by omega) (by omega) (by omega)
            rw [wrap_in (n := (b0 : Int) - 240) (by omega) (by omega)]
            exact this
          · rw [if_neg (by omega), if_neg (by omega)]
            exact bad (k + 6) _
    · rw [if_neg (by omega), if_neg (by omega), if_neg (by omega), if_neg (by omega)]
      simp only [joistref06_runeOf.j0, Bool.false_eq_true, if_false]
      rw [if_neg (by omega)]
      simp only [joistref06_runeOf.j1, Bool.false_eq_true, if_false]
      rw [if_neg (by omega)]
      exact bad (k + 6) _
theorem refN_zero {n b0 b1 b2 b3 : Nat} (hd : Lib.decodeN n b0 b1 b2 b3 = (65533, 1)) (c0 : ¬ b0 < 128) (hr : refN n b0 b1 b2 b3 = (0, 0)) :
    refN n b0 b1 b2 b3 = if (Lib.decodeN n b0 b1 b2 b3).2 = 1 ∧ ¬ b0 < 128 then (0, 0) else (((Lib.decodeN n b0 b1 b2 b3).1 : Int), ((Lib.decodeN n b0 b1 b2 b3).2 : Int)) := by
  rw [hd, hr, if_pos ⟨rfl, c0⟩]
theorem refN_some {n b0 b1 b2 b3 c z : Nat} (hd : Lib.decodeN n b0 b1 b2 b3 = (c, z)) (hz : z ≠ 1) (hr : refN n b0 b1 b2 b3 = ((c : Int), (z : Int))) :
    refN n b0 b1 b2 b3 = if (Lib.decodeN n b0 b1 b2 b3).2 = 1 ∧ ¬ b0 < 128 then (0, 0) else (((Lib.decodeN n b0 b1 b2 b3).1 : Int), ((Lib.decodeN n b0 b1 b2 b3).2 : Int)) := by
  rw [hd, hr, if_neg (fun h => hz h.1)]
set_option maxHeartbeats 4000000 in
theorem refN_is (n b0 b1 b2 b3 : Nat) (hn : 1 ≤ n) (h0 : b0 < 256) (h1 : b1 < 256) (h2 : b2 < 256) (h3 : b3 < 256) :
    refN n b0 b1 b2 b3 = if (Lib.decodeN n b0 b1 b2 b3).2 = 1 ∧ ¬ b0 < 128 then (0, 0) else (((Lib.decodeN n b0 b1 b2 b3).1 : Int), ((Lib.decodeN n b0 b1 b2 b3).2 : Int)) := by
  by_cases c0 : b0 < 128
  · have hd : Lib.decodeN n b0 b1 b2 b3 = (b0, 1) := by unfold Lib.decodeN; rw [if_pos c0]
    rw [hd, if_neg (fun z => z.2 c0)]
    unfold refN
    rw [if_pos c0]
    rfl
  · by_cases c2 : (194 ≤ b0 ∧ b0 < 224) ∧ (1 < n ∧ b1 / 64 = 2)
    · refine refN_some (c := b0 % 32 * 64 + b1 % 64) (z := 2) ?_ (by decide) ?_
      · unfold Lib.decodeN; rw [if_neg c0, if_pos (by omega), if_pos (by omega)]
      · unfold refN finN; rw [if_neg c0, if_pos c2.1, if_neg (by omega), if_neg (by omega), if_neg (by omega)]
        apply Prod.ext <;> simp only <;> omega
    · by_cases c3 : (224 ≤ b0 ∧ b0 < 240) ∧ ((1 < n ∧ b1 / 64 = 2) ∧ (2 < n ∧ b2 / 64 = 2)) ∧ b0 % 16 * 4096 + b1 % 64 * 64 + b2 % 64 ≥ 2048 ∧ (b0 % 16 * 4096 + b1 % 64 * 64 + b2 % 64 < 55296 ∨ (57344 ≤ b0 % 16 * 4096 + b1 % 64 * 64 + b2 % 64 ∧ b0 % 16 * 4096 + b1 % 64 * 64 + b2 % 64 ≤ 1114111))
      · refine refN_some (c := b0 % 16 * 4096 + b1 % 64 * 64 + b2 % 64) (z := 3) ?_ (by decide) ?_
        · unfold Lib.decodeN; rw [if_neg c0, if_neg (by omega), if_pos (by omega), if_pos c3.2.2]
        · unfold refN finN; rw [if_neg c0, if_neg (by omega), if_pos c3.1, if_neg (by omega), if_neg (by omega), if_neg (by omega), if_neg (by omega)]
          apply Prod.ext <;> simp only <;> omega
      · by_cases c4 : (240 ≤ b0 ∧ b0 < 245) ∧ ((1 < n ∧ b1 / 64 = 2) ∧ (2 < n ∧ b2 / 64 = 2) ∧ (3 < n ∧ b3 / 64 = 2)) ∧ b0 % 8 * 262144 + b1 % 64 * 4096 + b2 % 64 * 64 + b3 % 64 ≥ 65536 ∧ (b0 % 8 * 262144 + b1 % 64 * 4096 + b2 % 64 * 64 + b3 % 64 < 55296 ∨ (57344 ≤ b0 % 8 * 262144 + b1 % 64 * 4096 + b2 % 64 * 64 + b3 % 64 ∧ b0 % 8 * 262144 + b1 % 64 * 4096 + b2 % 64 * 64 + b3 % 64 ≤ 1114111))
        · refine refN_some (c := b0 % 8 * 262144 + b1 % 64 * 4096 + b2 % 64 * 64 + b3 % 64) (z := 4) ?_ (by decide) ?_
          · unfold Lib.decodeN; rw [if_neg c0, if_neg (by omega), if_neg (by omega), if_pos (by omega), if_pos c4.2.2]
          · unfold refN finN; rw [if_neg c0, if_neg (by omega), if_neg (by omega), if_pos c4.1, if_neg (by omega), if_neg (by omega), if_neg (by omega), if_neg (by omega), if_neg (by omega)]
            apply Prod.ext <;> simp only <;> omega
        · refine refN_zero ?_ c0 ?_
          · unfold Lib.decodeN
            rw [if_neg c0]
            repeat' split
            all_goals first | rfl | (exfalso; omega)
          · unfold refN finN
            rw [if_neg c0]
            repeat' split
            all_goals first | rfl | (exfalso; omega)
/-- A text's first rune: the document's, by the model's. -/
theorem runeOf_is (s : ByteArray) (hs : 0 < s.size) (hsz : s.size ≤ 140737488351232) (k : Nat) (hk : 10 ≤ k) :
    joistref06_runeOf.f k s = some (if (Utf8.decode s 0).2 = 1 ∧ ¬ (s.get! 0).toNat < 128 then (0, 0) else (((Utf8.decode s 0).1 : Int), ((Utf8.decode s 0).2 : Int))) := by
  obtain ⟨k, rfl⟩ : ∃ m, k = m + 10 := ⟨k - 10, by omega⟩
  rw [runeOf_ref s hs hsz k _ _ _ _ rfl rfl rfl rfl, refN_is _ _ _ _ _ hs (s.get! 0).toNat_lt (s.get! 1).toNat_lt (s.get! 2).toNat_lt (s.get! 3).toNat_lt, Lib.decode_at]
  rfl
end Go.Proofs.YtlhemachmidoaaaDoor.Pure
/- Which texts are names: the document's answer is the program's: for any text. -/
namespace Go.Proofs.YtlhemachmidoaaaDoor.Pure
open Go.RowKit Go.Proofs.YtlhemachmidoaaaDoor.P Go.Proofs.YtlhemachmidoaaaDoorW.PrintWords Go.Proofs.YtlhemachmidoaaaDoorW.PrintLast
set_option linter.unusedVariables false
set_option linter.unusedSimpArgs false

theorem decode_bad (s : ByteArray) (h : (Utf8.decode s 0).2 = 1) (h2 : ¬ (s.get! 0).toNat < 128) : (Utf8.decode s 0).1 = 65533 := by
  rw [Lib.decode_at] at h ⊢
  revert h h2
  generalize (s.get! 0).toNat = b0
  intro h h2
  revert h
  unfold Lib.decodeN
  rw [if_neg h2]
  repeat' split
  all_goals (intro h; first | rfl | (simp at h))
theorem ext_size (s : ByteArray) (pos : Nat) : (s.extract pos s.size).size = s.size - pos := by
  rw [ByteArray.size_extract]; omega
theorem ext_ext (s : ByteArray) (pos w : Nat) : (s.extract pos s.size).extract w (s.extract pos s.size).size = s.extract (pos + w) s.size := by
  rw [ByteArray.extract_extract, ext_size]
  congr 1
  omega
theorem names_from (s : ByteArray) (hsz : s.size ≤ 140737488351232) : ∀ (d pos k : Nat), s.size - pos ≤ d → pos ≤ s.size → d + 12 ≤ k →
    joistref06_Right.l0 k (s.extract pos s.size) = some (runes_may s (s.size - pos) pos) := by
  intro d
  induction d with
  | zero =>
    intro pos k hd hp hk
    obtain ⟨k, rfl⟩ : ∃ m, k = m + 1 := ⟨k - 1, by omega⟩
    simp only [joistref06_Right.l0]
    rw [if_neg (by rw [ext_size]; omega), show s.size - pos = 0 by omega]
    rfl
  | succ d ih =>
    intro pos k hd hp hk
    obtain ⟨k, rfl⟩ : ∃ m, k = m + 1 := ⟨k - 1, by omega⟩
    by_cases hlt : pos < s.size
    · have hsize := ext_size s pos
      have hdec : Utf8.decode (s.extract pos s.size) 0 = Utf8.decode s pos := Lib.tail_decode s pos 0
      have hw := Lib.decode_width_pos s pos hlt
      have hw2 := decode_within s pos hlt
      have hrun := runeOf_is (s.extract pos s.size) (by omega) (by omega) k (by omega)
      have hbad := decode_bad (s.extract pos s.size)
      rw [hdec] at hrun hbad
      have hfin : runes_may s (s.size - pos) pos = (mayB (Utf8.decode s pos).1 && runes_may s (s.size - (pos + (Utf8.decode s pos).2)) (pos + (Utf8.decode s pos).2)) := by
        rw [show s.size - pos = (s.size - pos - 1) + 1 by omega]
        simp only [runes_may]
        rw [if_pos hlt]
        congr 1
        have := runes_may_more s (s.size - (pos + (Utf8.decode s pos).2)) (pos + (Utf8.decode s pos).2) (by omega) (s.size - pos - 1 - (s.size - (pos + (Utf8.decode s pos).2)))
        rw [← this]
        congr 1
        omega
      have hN := ih (pos + (Utf8.decode s pos).2) k (by omega) (by omega) (by omega)
      rw [← ext_ext] at hN
      rw [hfin]
      generalize runes_may s (s.size - (pos + (Utf8.decode s pos).2)) (pos + (Utf8.decode s pos).2) = tail at hN ⊢
      generalize Utf8.decode s pos = cw at hrun hbad hw hw2 hN ⊢
      obtain ⟨c, z⟩ := cw
      simp only at hrun hbad hw hw2 hN ⊢
      simp only [joistref06_Right.l0]
      rw [if_pos (by omega), hrun]
      simp only [Option.bind_some]
      by_cases hb : z = 1 ∧ ¬ ((s.extract pos s.size).get! 0).toNat < 128
      · rw [if_pos hb]
        have := hbad hb.1 hb.2
        subst this
        simp [mayB]
      · rw [if_neg hb]
        simp only
        rw [if_neg (by omega)]
        have hN' : joistref06_Right.l0 k ((s.extract pos s.size).extract ((z : Int)).toNat (s.extract pos s.size).size) = some tail := by rw [Int.toNat_natCast]; exact hN
        have hin : (if 0 ≤ (z : Int) then (if (z : Int) ≤ ((s.extract pos s.size).size : Int) then joistref06_Right.l0 k ((s.extract pos s.size).extract ((z : Int)).toNat (s.extract pos s.size).size) else none) else none) = some tail := by
          rw [if_pos (by omega), if_pos (by omega)]; exact hN'
        rw [hin]
        unfold mayB
        by_cases c1 : (c : Int) ≤ 32
        · rw [if_pos c1]; simp [c1]
        · rw [if_neg c1]
          by_cases c2 : (127 : Int) ≤ c
          · rw [if_pos (show (c : Int) ≥ 127 from c2)]
            by_cases c3 : (c : Int) ≤ 160
            · rw [if_pos c3]; simp [c2, c3]
            · rw [if_neg c3]
              by_cases c4 : (c : Int) = 65533
              · rw [if_pos c4]; simp [c4]
              · have e4 : ((c : Int) == 65533) = false := beq_eq_false_iff_ne.2 c4
                rw [if_neg c4, decide_eq_false c1, decide_eq_false c3, e4]; simp
          · have c4 : ¬ (c : Int) = 65533 := by omega
            have e4 : ((c : Int) == 65533) = false := beq_eq_false_iff_ne.2 c4
            rw [if_neg (show ¬ (c : Int) ≥ 127 from c2), if_neg c4, decide_eq_false c1, decide_eq_false c2, e4]; simp
    · simp only [joistref06_Right.l0]
      rw [if_neg (by rw [ext_size]; omega), show s.size - pos = 0 by omega]
      rfl
theorem names_is (s : ByteArray) (k : Nat) (hk : 32 ≤ k) : joistref06_Right.f k s = names_Right.f s := by
  obtain ⟨k, rfl⟩ : ∃ m, k = m + 1 := ⟨k - 1, by omega⟩
  unfold joistref06_Right.f names_Right.f names_right
  have hj : ∀ b, joistref06_Right.j0 (k + 1) s b = if b = true then some false else joistref06_Right.l0 k s := fun b => rfl
  simp only [hj, if_true]
  by_cases h0 : s.size = 0
  · rw [if_pos (by omega)]
    simp [h0]
  · rw [if_neg (by omega)]
    by_cases h1 : s.size ≤ 16
    · rw [decide_eq_false (by omega), if_neg (by decide)]
      have := names_from s (by omega) s.size 0 k (by omega) (by omega) (by omega)
      have e : s.extract 0 s.size = s := ByteArray.extract_zero_size
      rw [e, Nat.sub_zero] at this
      rw [this]
      simp [h0, h1]
    · rw [decide_eq_true (by omega), if_pos rfl]
      simp [h1]
end Go.Proofs.YtlhemachmidoaaaDoor.Pure
