/- Which texts are names: the document's answer is the program's: for any text. -/
import Derived.Test.YtlhemachmidoaaaDoorR1
namespace Go.Proofs.YtlhemachmidoaaaDoor.Pure
open Go.RowKit Go.Proofs.YtlhemachmidoaaaDoor.P Go.Proofs.YtlhemachmidoaaaDoorW.PrintWords Go.Proofs.YtlhemachmidoaaaDoorW.PrintLast
set_option linter.unusedVariables false
set_option linter.unusedSimpArgs false

theorem decode_bad (s : ByteArray) (h : (Utf8.decode s 0).2 = 1) (h2 : ¬ (s.get! 0).toNat < 128) : (Utf8.decode s 0).1 = 65533 := by
  rw [Lib.decode_at] at h ⊢
  revert h h2
  generalize (s.get! 0).toNat = b0
  intro h h2
  revert h
  unfold Lib.decodeN
  rw [if_neg h2]
  repeat' split
  all_goals (intro h; first | rfl | (simp at h))
theorem ext_size (s : ByteArray) (pos : Nat) : (s.extract pos s.size).size = s.size - pos := by
  rw [ByteArray.size_extract]; omega
theorem ext_ext (s : ByteArray) (pos w : Nat) : (s.extract pos s.size).extract w (s.extract pos s.size).size = s.extract (pos + w) s.size := by
  rw [ByteArray.extract_extract, ext_size]
  congr 1
  omega
theorem names_from (s : ByteArray) (hsz : s.size ≤ 140737488351232) : ∀ (d pos k : Nat), s.size - pos ≤ d → pos ≤ s.size → d + 12 ≤ k →
    joistref06_Right.l0 k (s.extract pos s.size) = some (runes_may s (s.size - pos) pos) := by
  intro d
  induction d with
  | zero =>
    intro pos k hd hp hk
    obtain ⟨k, rfl⟩ : ∃ m, k = m + 1 := ⟨k - 1, by omega⟩
    simp only [joistref06_Right.l0]
    rw [if_neg (by rw [ext_size]; omega), show s.size - pos = 0 by omega]
    rfl
  | succ d ih =>
    intro pos k hd hp hk
    obtain ⟨k, rfl⟩ : ∃ m, k = m + 1 := ⟨k - 1, by omega⟩
    by_cases hlt : pos < s.size
    · have hsize := ext_size s pos
      have hdec : Utf8.decode (s.extract pos s.size) 0 = Utf8.decode s pos := Lib.tail_decode s pos 0
      have hw := Lib.decode_width_pos s pos hlt
      have hw2 := decode_within s pos hlt
      have hrun := runeOf_is (s.extract pos s.size) (by omega) (by omega) k (by omega)
      have hbad := decode_bad (s.extract pos s.size)
      rw [hdec] at hrun hbad
      have hfin : runes_may s (s.size - pos) pos = (mayB (Utf8.decode s pos).1 && runes_may s (s.size - (pos + (Utf8.decode s pos).2)) (pos + (Utf8.decode s pos).2)) := by
        rw [show s.size - pos = (s.size - pos - 1) + 1 by omega]
        simp only [runes_may]
        rw [if_pos hlt]
        congr 1
        have := runes_may_more s (s.size - (pos + (Utf8.decode s pos).2)) (pos + (Utf8.decode s pos).2) (by omega) (s.size - pos - 1 - (s.size - (pos + (Utf8.decode s pos).2)))
        rw [← this]
        congr 1
        omega
      have hN := ih (pos + (Utf8.decode s pos).2) k (by omega) (by omega) (by omega)
      rw [← ext_ext] at hN
      rw [hfin]
      generalize runes_may s (s.size - (pos + (Utf8.decode s pos).2)) (pos + (Utf8.decode s pos).2) = tail at hN ⊢
      generalize Utf8.decode s pos = cw at hrun hbad hw hw2 hN ⊢
      obtain ⟨c, z⟩ := cw
      simp only at hrun hbad hw hw2 hN ⊢
      simp only [joistref06_Right.l0]
      rw [if_pos (by omega), hrun]
      simp only [Option.bind_some]
      by_cases hb : z = 1 ∧ ¬ ((s.extract pos s.size).get! 0).toNat < 128
      · rw [if_pos hb]
        have := hbad hb.1 hb.2
        subst this
        simp [mayB]
      · rw [if_neg hb]
        simp only
        rw [if_neg (by omega)]
        have hN' : joistref06_Right.l0 k ((s.extract pos s.size).extract ((z : Int)).toNat (s.extract pos s.size).size) = some tail := by rw [Int.toNat_natCast]; exact hN
        have hin : (if 0 ≤ (z : Int) then (if (z : Int) ≤ ((s.extract pos s.size).size : Int) then joistref06_Right.l0 k ((s.extract pos s.size).extract ((z : Int)).toNat (s.extract pos s.size).size) else none) else none) = some tail := by
          rw [if_pos (by omega), if_pos (by omega)]; exact hN'
        rw [hin]
        unfold mayB
        by_cases c1 : (c : Int) ≤ 32
        · rw [if_pos c1]; simp [c1]
        · rw [if_neg c1]
          by_cases c2 : (127 : Int) ≤ c
          · rw [if_pos (show (c : Int) ≥ 127 from c2)]
            by_cases c3 : (c : Int) ≤ 160
            · rw [if_pos c3]; simp [c2, c3]
            · rw [if_neg c3]
              by_cases c4 : (c : Int) = 65533
              · rw [if_pos c4]; simp [c4]
              · have e4 : ((c : Int) == 65533) = false := beq_eq_false_iff_ne.2 c4
                rw [if_neg c4, decide_eq_false c1, decide_eq_false c3, e4]; simp
          · have c4 : ¬ (c : Int) = 65533 := by omega
            have e4 : ((c : Int) == 65533) = false := beq_eq_false_iff_ne.2 c4
            rw [if_neg (show ¬ (c : Int) ≥ 127 from c2), if_neg c4, decide_eq_false c1, decide_eq_false c2, e4]; simp
    · simp only [joistref06_Right.l0]
      rw [if_neg (by rw [ext_size]; omega), show s.size - pos = 0 by omega]
      rfl
theorem names_is (s : ByteArray) (k : Nat) (hk : 32 ≤ k) : joistref06_Right.f k s = names_Right.f s := by
  obtain ⟨k, rfl⟩ : ∃ m, k = m + 1 := ⟨k - 1, by omega⟩
  unfold joistref06_Right.f names_Right.f names_right
  have hj : ∀ b, joistref06_Right.j0 (k + 1) s b = if b = true then some false else joistref06_Right.l0 k s := fun b => rfl
  simp only [hj, if_true]
  by_cases h0 : s.size = 0
  · rw [if_pos (by omega)]
    simp [h0]
  · rw [if_neg (by omega)]
    by_cases h1 : s.size ≤ 16
    · rw [decide_eq_false (by omega), if_neg (by decide)]
      have := names_from s (by omega) s.size 0 k (by omega) (by omega) (by omega)
      have e : s.extract 0 s.size = s := ByteArray.extract_zero_size
      rw [e, Nat.sub_zero] at this
      rw [this]
      simp [h0, h1]
    · rw [decide_eq_true (by omega), if_pos rfl]
      simp [h1]
end Go.Proofs.YtlhemachmidoaaaDoor.Pure
