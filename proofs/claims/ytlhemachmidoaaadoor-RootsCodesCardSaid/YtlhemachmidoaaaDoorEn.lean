/- What names.Right returns, whatever text it is called with. -/
import Derived.Test.YtlhemachmidoaaaDoorP0
import Derived.Lib.OthersKept
import Derived.Laws.RangeAny
import Derived.Lib.RuneCount
import Derived.WalkSpells
import Derived.WalkSmall
import Derived.LoopTactic
import Derived.Outline
namespace Go.Proofs.YtlhemachmidoaaaDoor.P
open Go.RowKit Go.Proofs.YtlhemachmidoaaaDoorW.PrintWords Go.Proofs.YtlhemachmidoaaaDoorW.PrintLast Go.Proofs.YtlhemachmidoaaaDoorW.PrintMore
set_option linter.unusedVariables false
set_option linter.unusedSimpArgs false

/-! ### names.may: function 30 -/
def mayB (c : Int) : Bool := !(decide (c ≤ 32) || (decide (127 ≤ c) && decide (c ≤ 160)) || c == 65533)
theorem names_may.calls (c : Int) (b : Bool) (h : mayB c = b) (w : World) :
    Calls Tryd.prog 30 #[.int .i32 c] w fun e w' => e = .returned (.bool b) ∧ w = w' := by
  unfold mayB at h
  by_cases h1 : c ≤ 32
  · obtain rfl : b = false := by rw [← h]; simp [h1]
    clear h
    go_enter Tryd.func30, Tryd.ntmps30
    go_wp2
    go_ret
    exact ⟨rfl, rfl⟩
  · by_cases h2 : 127 ≤ c
    · by_cases h3 : c ≤ 160
      · obtain rfl : b = false := by rw [← h]; simp [h2, h3]
        clear h
        go_enter Tryd.func30, Tryd.ntmps30
        go_wp2
        go_ret
        exact ⟨rfl, rfl⟩
      · by_cases h4 : c = 65533
        · obtain rfl : b = false := by rw [← h]; simp [h4]
          clear h
          go_enter Tryd.func30, Tryd.ntmps30
          go_wp2
          go_ret
          exact ⟨rfl, rfl⟩
        · obtain rfl : b = true := by rw [← h]; simp [h1, h3, h4]
          have h5 : (c == 65533) = false := beq_eq_false_iff_ne.2 h4
          clear h h4
          go_enter Tryd.func30, Tryd.ntmps30
          go_wp2
          go_ret
          exact ⟨rfl, rfl⟩
    · have h4 : ¬ c = 65533 := by omega
      obtain rfl : b = true := by rw [← h]; simp [h1, h2, h4]
      have h5 : (c == 65533) = false := beq_eq_false_iff_ne.2 h4
      clear h h4
      go_enter Tryd.func30, Tryd.ntmps30
      go_wp2
      go_ret
      exact ⟨rfl, rfl⟩
theorem decode_within (s : ByteArray) (pos : Nat) (h : pos < s.size) : pos + (Utf8.decode s pos).2 ≤ s.size := by
  simp only [Utf8.decode]
  repeat' split
  all_goals simp_all
  all_goals omega
/-! ### names.Right: function 11 -/
def runes_may (s : ByteArray) : Nat → Nat → Bool
  | 0, _ => true
  | d + 1, pos => if pos < s.size then mayB (Utf8.decode s pos).1 && runes_may s d (pos + (Utf8.decode s pos).2) else true
theorem runes_may_more (s : ByteArray) : ∀ (d pos : Nat), s.size ≤ pos + d → ∀ k, runes_may s (d + k) pos = runes_may s d pos := by
  intro d
  induction d with
  | zero =>
    intro pos h k
    cases k with
    | zero => rfl
    | succ k => rw [Nat.zero_add]; simp only [runes_may]; rw [if_neg (by omega)]
  | succ d ih =>
    intro pos h k
    rw [show d + 1 + k = (d + k) + 1 by omega]
    simp only [runes_may]
    by_cases hp : pos < s.size
    · have hw := Lib.decode_width_pos s pos hp
      rw [if_pos hp, if_pos hp, ih _ (by omega)]
    · rw [if_neg hp, if_neg hp]
def names_right (s : ByteArray) : Bool := runes_may s s.size 0 && (decide (s.size ≠ 0) && decide (s.size ≤ 16))
def names_Right.f (a0 : ByteArray) : Option Bool := some (names_right a0)
structure RightAt (s : ByteArray) (pos : Nat) (b : Bool) : Prop where
  h : runes_may s (s.size - pos) pos = b
theorem RightAt.next {s : ByteArray} {pos : Nat} {b : Bool} (h : RightAt s pos b) (hp : pos < s.size) (hm : mayB (Utf8.decode s pos).1 = true) : RightAt s (pos + (Utf8.decode s pos).2) b := by
  have h0 := h.h
  have hw := Lib.decode_width_pos s pos hp
  rw [show s.size - pos = (s.size - pos - 1) + 1 by omega] at h0
  simp only [runes_may] at h0
  rw [if_pos hp, hm, Bool.true_and] at h0
  refine ⟨?_⟩
  rw [← h0]
  have := runes_may_more s (s.size - (pos + (Utf8.decode s pos).2)) (pos + (Utf8.decode s pos).2) (by omega) (s.size - pos - 1 - (s.size - (pos + (Utf8.decode s pos).2)))
  rw [← this]
  congr 1
  omega
theorem RightAt.bad {s : ByteArray} {pos : Nat} {b : Bool} (h : RightAt s pos b) (hp : pos < s.size) (hm : mayB (Utf8.decode s pos).1 = false) : b = false := by
  have h0 := h.h
  rw [show s.size - pos = (s.size - pos - 1) + 1 by omega] at h0
  simp only [runes_may] at h0
  rw [if_pos hp, hm, Bool.false_and] at h0
  exact h0.symm
theorem RightAt.done {s : ByteArray} {pos : Nat} {b : Bool} (h : RightAt s pos b) (hp : ¬ pos < s.size) : b = true := by
  have h0 := h.h
  rw [show s.size - pos = 0 by omega] at h0
  exact h0.symm
set_option maxRecDepth 100000 in
theorem names_Right.calls (a0 : ByteArray) (r : Bool) (w : World) (h : names_Right.f a0 = some r) :
    Calls Tryd.prog 11 #[.string a0] w fun e w' => e = .returned (.bool r) ∧ Below w.heap.size w w' := by
  unfold names_Right.f names_right at h
  obtain rfl := Option.some.inj h
  clear h
  generalize hb : runes_may a0 a0.size 0 = b
  have HR := Aside0.mk (RightAt.mk (s := a0) (pos := 0) (b := b) (by rw [Nat.sub_zero]; exact hb))
  clear hb
  go_enter Tryd.func11, Tryd.ntmps11
  go_wp2
  go_loopw [] (fun wr => ∃ pos : Nat, pos ≤ a0.size ∧ Aside0 (wr.heap[w.heap.size]? = some (.stringIter a0 pos)) ∧ Aside0 (Below w.heap.size w wr) ∧ Aside0 (RightAt a0 pos b)) (fun wr => a0.size - wr.iterPos w.heap.size)
  case atStart => exact ⟨0, Nat.zero_le _, ⟨World.iter_heap _ _ _⟩, ⟨below_alloc (Below.refl _ _) _⟩, HR⟩
  case round =>
    obtain ⟨pos, hpos, HI, HB, HA⟩ := hrel
    by_cases hp : pos < a0.size
    · have hnx := fun ty => Lib.run_next_any_at (P := Tryd.prog) wr w.heap.size a0 pos ty HI.out hp
      have hw1 := Lib.decode_width_pos a0 pos hp
      have hw2 := decode_within a0 pos hp
      have hit : (wr.iterAt w.heap.size a0 (pos + (Utf8.decode a0 pos).2)).heap[w.heap.size]? = some (.stringIter a0 (pos + (Utf8.decode a0 pos).2)) := Lib.iterAt_heap wr _ a0 pos _ HI.out
      have hbit := Lib.below_iterAt HB.out (Nat.le_refl _) a0 (pos + (Utf8.decode a0 pos).2)
      have hpos0 : wr.iterPos w.heap.size = pos := iterPos_of HI.out
      have HIT := Aside0.mk hit
      have HBIT := Aside0.mk hbit
      have HP0 := Aside0.mk hpos0
      clear hit hbit hpos0
      cases hm : mayB (Utf8.decode a0 pos).1 with
      | true =>
        have HN := Aside0.mk (HA.out.next hp hm)
        have HM := Aside0.mk hm
        clear hm HA
        go_wp2_with (go_at_call 30; refine (names_may.calls _ _ HM.out _).mono ?_; rintro e w' ⟨rfl, rfl⟩)
        go_roundw
        case rel => exact ⟨pos + (Utf8.decode a0 pos).2, hw2, HIT, HBIT, HN⟩
        case measure =>
          have hq : (wr.iterAt w.heap.size a0 (pos + (Utf8.decode a0 pos).2)).iterPos w.heap.size = pos + (Utf8.decode a0 pos).2 := iterPos_of HIT.out
          rw [hq, HP0.out]
          omega
      | false =>
        obtain rfl := HA.out.bad hp hm
        have HM := Aside0.mk hm
        clear hm HA
        go_wp2_with (go_at_call 30; refine (names_may.calls _ _ HM.out _).mono ?_; rintro e w' ⟨rfl, rfl⟩)
        go_ret
        exact ⟨rfl, HBIT.out⟩
    · have hnx : ∀ ty, (Instr.next (.pointer (some ⟨w.heap.size, 0, none⟩)) true ty).run Tryd.prog wr = _ := fun ty => Lib.run_next_end_at wr w.heap.size a0 pos ty HI.out hp
      obtain rfl := HA.out.done hp
      clear HA
      have hlen : a0.toList.length = a0.size := by rw [ByteArray.toList_eq, Array.length_toList]; rfl
      by_cases hz : a0.size = 0
      · have hl : a0.toList = [] := List.eq_nil_of_length_eq_zero (by omega)
        have hl2 : a0.toList.isEmpty = true := by rw [hl]; rfl
        clear hlen
        go_wp2
        go_ret
        exact ⟨by simp [hz], HB.out⟩
      · have hl2 : a0.toList.isEmpty = false := by
          cases hc : a0.toList with
          | nil => rw [hc] at hlen; exact absurd hlen.symm hz
          | cons _ _ => rfl
        have HZ := Aside0.mk hz
        clear hlen hz
        by_cases h16 : a0.size ≤ 16
        · go_wp2
          go_ret
          exact ⟨by have := HZ.out; simp [this]; omega, HB.out⟩
        · go_wp2
          go_ret
          exact ⟨by have := HZ.out; simp [this]; omega, HB.out⟩
end Go.Proofs.YtlhemachmidoaaaDoor.P
