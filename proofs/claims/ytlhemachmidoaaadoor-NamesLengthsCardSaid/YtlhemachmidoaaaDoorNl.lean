/- The law NamesLengths, walked: a range over a string. -/
import Derived.Test.YtlhemachmidoaaaDoorU1
import Derived.Test.YtlhemachmidoaaaDoorP6
namespace Go.Proofs.YtlhemachmidoaaaDoor.Pure
open Go.RowKit Go.Proofs.YtlhemachmidoaaaDoor.P Go.Proofs.YtlhemachmidoaaaDoorW.PrintWords Go.Proofs.YtlhemachmidoaaaDoorW.PrintLast Go.Proofs.YtlhemachmidoaaaDoorW.PrintMore
set_option linter.unusedVariables false
set_option linter.unusedSimpArgs false

/-! ### heads of names are names -/
def rmA (l : List UInt8) : Bool := rmL l.length l
theorem rmL_more : ∀ (n m : Nat) (l : List UInt8), l.length ≤ n → l.length ≤ m → rmL n l = rmL m l := by
  intro n
  induction n with
  | zero =>
    intro m l hl _
    obtain rfl := List.eq_nil_of_length_eq_zero (by omega : l.length = 0)
    rw [rmL_nil, rmL_nil]
  | succ n ih =>
    intro m l hl hm
    by_cases hne : l = []
    · subst hne
      rw [rmL_nil, rmL_nil]
    · have hw := Lib.decodeL_width l
      have hlen : 0 < l.length := List.length_pos_iff.2 hne
      obtain ⟨m, rfl⟩ : ∃ k, m = k + 1 := ⟨m - 1, by omega⟩
      simp only [rmL]
      rw [if_neg hne, if_neg hne, ih m _ (by rw [List.length_drop]; omega) (by rw [List.length_drop]; omega)]
theorem rmA_cons {c : Int} (hv : validR c) (t : List UInt8) : rmA (Lib.encodeRune c ++ t) = (mayB c && rmA t) := by
  have hp := encode_pos c
  have hne : Lib.encodeRune c ++ t ≠ [] := by
    intro h
    have := congrArg List.length h
    rw [List.length_append, List.length_nil] at this
    omega
  unfold rmA
  obtain ⟨n, hn⟩ : ∃ n, (Lib.encodeRune c ++ t).length = n + 1 := ⟨(Lib.encodeRune c ++ t).length - 1, by rw [List.length_append]; omega⟩
  rw [hn]
  simp only [rmL]
  rw [if_neg hne, decode_encode hv]
  dsimp only
  rw [List.drop_left, Int.toNat_of_nonneg (valid_pos hv), rmL_more n t.length t (by rw [List.length_append] at hn; omega) (Nat.le_refl _)]
theorem rmA_split {l : List UInt8} (hne : l ≠ []) (h : rmA l = true) : mayB (Lib.decodeL l).1 = true ∧ l = Lib.encodeRune (Lib.decodeL l).1 ++ l.drop (Lib.decodeL l).2 ∧ rmA (l.drop (Lib.decodeL l).2) = true := by
  have hlen : 0 < l.length := List.length_pos_iff.2 hne
  have hw := Lib.decodeL_width l
  unfold rmA at h
  obtain ⟨n, hn⟩ : ∃ n, l.length = n + 1 := ⟨l.length - 1, by omega⟩
  rw [hn] at h
  simp only [rmL] at h
  rw [if_neg hne, Bool.and_eq_true] at h
  have hg := may_good h.1
  refine ⟨h.1, ?_, ?_⟩
  · rw [Lib.encode_decode l hne (fun h => hg.2 (by rw [h.1]; rfl)), List.take_append_drop]
  · unfold rmA
    rw [rmL_more _ n _ (Nat.le_refl _) (by rw [List.length_drop]; omega)]
    exact h.2
theorem rmA_append : ∀ (n : Nat) (a b : List UInt8), a.length ≤ n → rmA a = true → rmA b = true → rmA (a ++ b) = true := by
  intro n
  induction n with
  | zero =>
    intro a b ha _ hb
    obtain rfl := List.eq_nil_of_length_eq_zero (by omega : a.length = 0)
    exact hb
  | succ n ih =>
    intro a b ha h hb
    by_cases hne : a = []
    · subst hne; exact hb
    · have hw := Lib.decodeL_width a
      have hlen : 0 < a.length := List.length_pos_iff.2 hne
      obtain ⟨h1, h2, h3⟩ := rmA_split hne h
      rw [h2, List.append_assoc, rmA_cons (decode_valid a), h1, ih _ b (by rw [List.length_drop]; omega) h3 hb]
      rfl
theorem right_rm (s : ByteArray) : names_right s = (rmA s.data.toList && (decide (s.size ≠ 0) && decide (s.size ≤ 16))) := by
  unfold names_right rmA
  rw [runes_of, ← Lib.size_eq]
structure Head (s : ByteArray) (pos : Nat) : Prop where
  rest : rmA (s.data.toList.drop pos) = true
  head : rmA (s.data.toList.take pos) = true
theorem Head.first {s : ByteArray} (h : names_right s = true) : Head s 0 := by
  rw [right_rm, Bool.and_eq_true] at h
  exact ⟨by rw [List.drop_zero]; exact h.1, rfl⟩
theorem drop_ne {s : ByteArray} {pos : Nat} (hp : pos < s.size) : s.data.toList.drop pos ≠ [] := by
  intro h
  have := congrArg List.length h
  rw [List.length_drop, List.length_nil, ← Lib.size_eq] at this
  omega
theorem Head.may {s : ByteArray} {pos : Nat} (h : Head s pos) (hp : pos < s.size) : mayB (Utf8.decode s pos).1 = true := by
  rw [← Lib.decodeL_drop]
  exact (rmA_split (drop_ne hp) h.rest).1
theorem Head.next {s : ByteArray} {pos : Nat} (h : Head s pos) (hp : pos < s.size) : Head s (pos + (Utf8.decode s pos).2) := by
  obtain ⟨h1, h2, h3⟩ := rmA_split (drop_ne hp) h.rest
  rw [← Lib.decodeL_drop]
  refine ⟨by rw [← List.drop_drop]; exact h3, ?_⟩
  have hg := may_good h1
  have he := Lib.encode_decode _ (drop_ne hp) (fun h => hg.2 (by rw [h.1]; rfl))
  rw [List.take_add, ← he]
  refine rmA_append _ _ _ (Nat.le_refl _) h.head ?_
  have := rmA_cons (decode_valid (s.data.toList.drop pos)) []
  rw [List.append_nil] at this
  rw [this, h1]
  rfl
theorem Head.right {s : ByteArray} {pos : Nat} (h : Head s pos) (hp : pos ≤ s.size) (h0 : 0 < pos) (hs : s.size ≤ 16) : names_right (s.extract 0 pos) = true := by
  have e : (s.extract 0 pos).data.toList = s.data.toList.take pos := by rw [Lib.extract_data, List.drop_zero, Nat.sub_zero]
  have hsz : (s.extract 0 pos).size = pos := by rw [ByteArray.size_extract]; omega
  rw [right_rm, e, h.head, hsz]
  simp
  omega
theorem zero_wrong (s : ByteArray) : names_right (s ++ ⟨#[0]⟩) = false := by
  cases h : names_right (s ++ ⟨#[0]⟩) with
  | false => rfl
  | true =>
    exfalso
    refine name_full h 0 ?_ rfl
    rw [ByteArray.data_append, Array.toList_append]
    exact List.mem_append_right _ (by decide)
theorem blank_wrong (s : ByteArray) : names_right ((⟨#[32]⟩ : ByteArray) ++ s) = false := by
  rw [right_rm, ByteArray.data_append, Array.toList_append]
  have e : (⟨#[32]⟩ : ByteArray).data.toList = Lib.encodeRune 32 := by decide +kernel
  rw [e, rmA_cons (c := 32) (Or.inl ⟨by decide, by decide⟩)]
  rfl
theorem long_wrong {s t : ByteArray} (h : 16 < t.size) : names_right t = false := by
  unfold names_right
  rw [decide_eq_false (by omega : ¬ t.size ≤ 16)]
  simp
def times17 (a0 : ByteArray) : ByteArray := ((((((((((((((((a0 ++ a0) ++ a0) ++ a0) ++ a0) ++ a0) ++ a0) ++ a0) ++ a0) ++ a0) ++ a0) ++ a0) ++ a0) ++ a0) ++ a0) ++ a0) ++ a0)
theorem times17_wrong {s : ByteArray} (h : s.size ≠ 0) : names_right (((((((((((((((((s ++ s) ++ s) ++ s) ++ s) ++ s) ++ s) ++ s) ++ s) ++ s) ++ s) ++ s) ++ s) ++ s) ++ s) ++ s) ++ s)) = false := by
  refine long_wrong (s := s) ?_
  simp only [ByteArray.size_append]
  omega
/-! ### the law: function 7 -/
set_option maxRecDepth 100000 in
set_option maxHeartbeats 2000000 in
theorem lengths_walk (a0 : ByteArray) (w : World) (w0 : a0.size ≤ 140737488351232) :
    Calls Tryd.prog 7 #[.string a0] w fun e w' => e = .returned (.bool true) ∧ Below w.heap.size w w' := by
  have HSM := Aside0.mk small_true
  cases hn : names_right a0 with
  | false =>
    have HN := Aside0.mk (show names_Right.f a0 = some false by unfold names_Right.f; rw [hn])
    clear hn
    go_enter Tryd.func7, Tryd.ntmps7
    go_wp2_with (first | (go_at_call 10; refine (joistlaw06_small.calls true _ HSM.out).mono ?_; rintro e w' ⟨rfl, hb1⟩; have HB1 := Aside0.mk hb1; clear hb1) | (go_at_call 11; refine (names_Right.calls a0 false _ HN.out).mono ?_; rintro e w' ⟨rfl, hb1⟩; have HB2 := Aside0.mk hb1; clear hb1))
    go_ret
    exact ⟨rfl, below_step HB1.out HB2.out⟩
  | true =>
    have hsz := right_size hn
    have HN := Aside0.mk (show names_Right.f a0 = some true by unfold names_Right.f; rw [hn])
    have HH := Aside0.mk (Head.first hn)
    have HS := Aside0.mk hsz
    have HZ1 := Aside0.mk (show names_Right.f (a0 ++ ⟨#[0]⟩) = some false by unfold names_Right.f; rw [zero_wrong])
    have HZ2 := Aside0.mk (show names_Right.f ((⟨#[32]⟩ : ByteArray) ++ a0) = some false by unfold names_Right.f; rw [blank_wrong])
    have HZ3 := Aside0.mk (show names_Right.f (((((((((((((((((a0 ++ a0) ++ a0) ++ a0) ++ a0) ++ a0) ++ a0) ++ a0) ++ a0) ++ a0) ++ a0) ++ a0) ++ a0) ++ a0) ++ a0) ++ a0) ++ a0)) = some false by unfold names_Right.f; rw [times17_wrong hsz.1])
    have l1 : decide ((a0.size : Int) < 1) = false := decide_eq_false (by omega)
    have l2 : decide ((a0.size : Int) > 16) = false := decide_eq_false (by omega)
    have l3 : decide (16 < (a0.size : Int)) = false := decide_eq_false (by omega)
    clear hn hsz
    go_enter Tryd.func7, Tryd.ntmps7
    go_wp2_with (first | (go_at_call 10; refine (joistlaw06_small.calls true _ HSM.out).mono ?_; rintro e w' ⟨rfl, hb1⟩; have HB1 := Aside0.mk hb1; clear hb1) | (go_at_call 11; refine (names_Right.calls a0 true _ HN.out).mono ?_; rintro e w2 ⟨rfl, hb1⟩; have HB2 := Aside0.mk hb1; clear hb1))
    go_loopw [] (fun wr => ∃ pos : Nat, pos ≤ a0.size ∧ Aside0 (wr.heap[w2.heap.size]? = some (.stringIter a0 pos)) ∧ Aside0 (Below w2.heap.size w2 wr) ∧ Aside0 (Head a0 pos)) (fun wr => a0.size - wr.iterPos w2.heap.size)
    case atStart => exact ⟨0, Nat.zero_le _, ⟨World.iter_heap _ _ _⟩, ⟨below_alloc (Below.refl _ _) _⟩, HH⟩
    case round =>
      obtain ⟨pos, hpos, HI, HB, HA⟩ := hrel
      by_cases hp : pos < a0.size
      · have hnx := fun ty => Lib.run_next_any_at (P := Tryd.prog) wr w2.heap.size a0 pos ty HI.out hp
        have hw1 := Lib.decode_width_pos a0 pos hp
        have hw2 := decode_within a0 pos hp
        have hm := HA.out.may hp
        have hgood := may_good hm
        have hit : (wr.iterAt w2.heap.size a0 (pos + (Utf8.decode a0 pos).2)).heap[w2.heap.size]? = some (.stringIter a0 (pos + (Utf8.decode a0 pos).2)) := Lib.iterAt_heap wr _ a0 pos _ HI.out
        have hbit := Lib.below_iterAt HB.out (Nat.le_refl _) a0 (pos + (Utf8.decode a0 pos).2)
        have hpos0 : wr.iterPos w2.heap.size = pos := iterPos_of HI.out
        have hlt := blk_lt HI.out
        have hsz := Lib.iterAt_size wr w2.heap.size a0 (pos + (Utf8.decode a0 pos).2)
        have HIT := Aside0.mk hit
        have HBIT := Aside0.mk hbit
        have HP0 := Aside0.mk hpos0
        have HNX := Aside0.mk (HA.out.next hp)
        have HSZ := Aside0.mk (show w2.heap.size < (wr.iterAt w2.heap.size a0 (pos + (Utf8.decode a0 pos).2)).heap.size by rw [hsz]; exact hlt)
        have g1 : ((((Utf8.decode a0 pos).1 : Nat) : Int) == 0) = false := beq_eq_false_iff_ne.2 (by omega)
        have g2 : ((Utf8.decode a0 pos).1 == 0) = false := beq_eq_false_iff_ne.2 (by omega)
        clear hit hbit hpos0 hsz hlt hm
        by_cases h0 : 0 < pos
        · have HR := Aside0.mk (show names_Right.f (a0.extract 0 pos) = some true by unfold names_Right.f; rw [HA.out.right hpos h0 HS.out.2])
          have d1 : decide ((pos : Int) > 0) = true := decide_eq_true (by omega)
          have d2 : decide (0 < (pos : Int)) = true := decide_eq_true (by omega)
          have d3 : decide (0 < pos) = true := decide_eq_true h0
          have d4 : decide ((pos : Int) ≤ (a0.size : Int)) = true := decide_eq_true (by omega)
          have d5 : decide (pos ≤ a0.size) = true := decide_eq_true hpos
          have d6 := eq_true hpos
          clear HA
          go_wp2_with (go_at_call 11; refine (names_Right.calls (a0.extract 0 pos) true _ HR.out).mono ?_; rintro e w3 ⟨rfl, hb1⟩; have HI1 := Aside0.mk ((hb1.block _ HSZ.out).trans HIT.out); have HB3 := Aside0.mk (HBIT.out.trans (hb1.mono (Nat.le_of_lt HSZ.out))); clear hb1)
          go_roundw
          case rel => exact ⟨pos + (Utf8.decode a0 pos).2, hw2, HI1, HB3, HNX⟩
          case measure =>
            have hq : w3.iterPos w2.heap.size = pos + (Utf8.decode a0 pos).2 := iterPos_of HI1.out
            rw [hq, HP0.out]
            omega
        · obtain rfl : pos = 0 := by omega
          clear HA
          simp only [Nat.zero_add] at HIT HBIT HNX hw2
          go_wp2
          go_roundw
          case rel => exact ⟨(Utf8.decode a0 0).2, hw2, HIT, HBIT, HNX⟩
          case measure =>
            have hq : (wr.iterAt w2.heap.size a0 (Utf8.decode a0 0).2).iterPos w2.heap.size = (Utf8.decode a0 0).2 := iterPos_of HIT.out
            rw [hq, HP0.out]
            omega
      · have hnx : ∀ ty, (Instr.next (.pointer (some ⟨w2.heap.size, 0, none⟩)) true ty).run Tryd.prog wr = _ := fun ty => Lib.run_next_end_at wr w2.heap.size a0 pos ty HI.out hp
        clear HA
        have q0 := (show (a0).size + a0.size ≤ 9223372036854775807 by have := HS.out; (try simp only [ByteArray.size_append]); omega)
        have q0a := eq_true q0
        have q0b : decide ((a0).size + a0.size ≤ 9223372036854775807) = true := decide_eq_true q0
        have q0c : (9223372036854775807 < (a0).size + a0.size) = False := eq_false (Nat.not_lt.2 q0)
        clear q0
        have q1 := (show ((a0 ++ a0)).size + a0.size ≤ 9223372036854775807 by have := HS.out; (try simp only [ByteArray.size_append]); omega)
        have q1a := eq_true q1
        have q1b : decide (((a0 ++ a0)).size + a0.size ≤ 9223372036854775807) = true := decide_eq_true q1
        have q1c : (9223372036854775807 < ((a0 ++ a0)).size + a0.size) = False := eq_false (Nat.not_lt.2 q1)
        clear q1
        have q2 := (show (((a0 ++ a0) ++ a0)).size + a0.size ≤ 9223372036854775807 by have := HS.out; (try simp only [ByteArray.size_append]); omega)
        have q2a := eq_true q2
        have q2b : decide ((((a0 ++ a0) ++ a0)).size + a0.size ≤ 9223372036854775807) = true := decide_eq_true q2
        have q2c : (9223372036854775807 < (((a0 ++ a0) ++ a0)).size + a0.size) = False := eq_false (Nat.not_lt.2 q2)
        clear q2
        have q3 := (show ((((a0 ++ a0) ++ a0) ++ a0)).size + a0.size ≤ 9223372036854775807 by have := HS.out; (try simp only [ByteArray.size_append]); omega)
        have q3a := eq_true q3
        have q3b : decide (((((a0 ++ a0) ++ a0) ++ a0)).size + a0.size ≤ 9223372036854775807) = true := decide_eq_true q3
        have q3c : (9223372036854775807 < ((((a0 ++ a0) ++ a0) ++ a0)).size + a0.size) = False := eq_false (Nat.not_lt.2 q3)
        clear q3
        have q4 := (show (((((a0 ++ a0) ++ a0) ++ a0) ++ a0)).size + a0.size ≤ 9223372036854775807 by have := HS.out; (try simp only [ByteArray.size_append]); omega)
        have q4a := eq_true q4
        have q4b : decide ((((((a0 ++ a0) ++ a0) ++ a0) ++ a0)).size + a0.size ≤ 9223372036854775807) = true := decide_eq_true q4
        have q4c : (9223372036854775807 < (((((a0 ++ a0) ++ a0) ++ a0) ++ a0)).size + a0.size) = False := eq_false (Nat.not_lt.2 q4)
        clear q4
        have q5 := (show ((((((a0 ++ a0) ++ a0) ++ a0) ++ a0) ++ a0)).size + a0.size ≤ 9223372036854775807 by have := HS.out; (try simp only [ByteArray.size_append]); omega)
        have q5a := eq_true q5
        have q5b : decide (((((((a0 ++ a0) ++ a0) ++ a0) ++ a0) ++ a0)).size + a0.size ≤ 9223372036854775807) = true := decide_eq_true q5
        have q5c : (9223372036854775807 < ((((((a0 ++ a0) ++ a0) ++ a0) ++ a0) ++ a0)).size + a0.size) = False := eq_false (Nat.not_lt.2 q5)
        clear q5
        have q6 := (show (((((((a0 ++ a0) ++ a0) ++ a0) ++ a0) ++ a0) ++ a0)).size + a0.size ≤ 9223372036854775807 by have := HS.out; (try simp only [ByteArray.size_append]); omega)
        have q6a := eq_true q6
        have q6b : decide ((((((((a0 ++ a0) ++ a0) ++ a0) ++ a0) ++ a0) ++ a0)).size + a0.size ≤ 9223372036854775807) = true := decide_eq_true q6
        have q6c : (9223372036854775807 < (((((((a0 ++ a0) ++ a0) ++ a0) ++ a0) ++ a0) ++ a0)).size + a0.size) = False := eq_false (Nat.not_lt.2 q6)
        clear q6
        have q7 := (show ((((((((a0 ++ a0) ++ a0) ++ a0) ++ a0) ++ a0) ++ a0) ++ a0)).size + a0.size ≤ 9223372036854775807 by have := HS.out; (try simp only [ByteArray.size_append]); omega)
        have q7a := eq_true q7
        have q7b : decide (((((((((a0 ++ a0) ++ a0) ++ a0) ++ a0) ++ a0) ++ a0) ++ a0)).size + a0.size ≤ 9223372036854775807) = true := decide_eq_true q7
        have q7c : (9223372036854775807 < ((((((((a0 ++ a0) ++ a0) ++ a0) ++ a0) ++ a0) ++ a0) ++ a0)).size + a0.size) = False := eq_false (Nat.not_lt.2 q7)
        clear q7
        have q8 := (show (((((((((a0 ++ a0) ++ a0) ++ a0) ++ a0) ++ a0) ++ a0) ++ a0) ++ a0)).size + a0.size ≤ 9223372036854775807 by have := HS.out; (try simp only [ByteArray.size_append]); omega)
        have q8a := eq_true q8
        have q8b : decide ((((((((((a0 ++ a0) ++ a0) ++ a0) ++ a0) ++ a0) ++ a0) ++ a0) ++ a0)).size + a0.size ≤ 9223372036854775807) = true := decide_eq_true q8
        have q8c : (9223372036854775807 < (((((((((a0 ++ a0) ++ a0) ++ a0) ++ a0) ++ a0) ++ a0) ++ a0) ++ a0)).size + a0.size) = False := eq_false (Nat.not_lt.2 q8)
        clear q8
        have q9 := (show ((((((((((a0 ++ a0) ++ a0) ++ a0) ++ a0) ++ a0) ++ a0) ++ a0) ++ a0) ++ a0)).size + a0.size ≤ 9223372036854775807 by have := HS.out; (try simp only [ByteArray.size_append]); omega)
        have q9a := eq_true q9
        have q9b : decide (((((((((((a0 ++ a0) ++ a0) ++ a0) ++ a0) ++ a0) ++ a0) ++ a0) ++ a0) ++ a0)).size + a0.size ≤ 9223372036854775807) = true := decide_eq_true q9
        have q9c : (9223372036854775807 < ((((((((((a0 ++ a0) ++ a0) ++ a0) ++ a0) ++ a0) ++ a0) ++ a0) ++ a0) ++ a0)).size + a0.size) = False := eq_false (Nat.not_lt.2 q9)
        clear q9
        have q10 := (show (((((((((((a0 ++ a0) ++ a0) ++ a0) ++ a0) ++ a0) ++ a0) ++ a0) ++ a0) ++ a0) ++ a0)).size + a0.size ≤ 9223372036854775807 by have := HS.out; (try simp only [ByteArray.size_append]); omega)
        have q10a := eq_true q10
        have q10b : decide ((((((((((((a0 ++ a0) ++ a0) ++ a0) ++ a0) ++ a0) ++ a0) ++ a0) ++ a0) ++ a0) ++ a0)).size + a0.size ≤ 9223372036854775807) = true := decide_eq_true q10
        have q10c : (9223372036854775807 < (((((((((((a0 ++ a0) ++ a0) ++ a0) ++ a0) ++ a0) ++ a0) ++ a0) ++ a0) ++ a0) ++ a0)).size + a0.size) = False := eq_false (Nat.not_lt.2 q10)
        clear q10
        have q11 := (show ((((((((((((a0 ++ a0) ++ a0) ++ a0) ++ a0) ++ a0) ++ a0) ++ a0) ++ a0) ++ a0) ++ a0) ++ a0)).size + a0.size ≤ 9223372036854775807 by have := HS.out; (try simp only [ByteArray.size_append]); omega)
        have q11a := eq_true q11
        have q11b : decide (((((((((((((a0 ++ a0) ++ a0) ++ a0) ++ a0) ++ a0) ++ a0) ++ a0) ++ a0) ++ a0) ++ a0) ++ a0)).size + a0.size ≤ 9223372036854775807) = true := decide_eq_true q11
        have q11c : (9223372036854775807 < ((((((((((((a0 ++ a0) ++ a0) ++ a0) ++ a0) ++ a0) ++ a0) ++ a0) ++ a0) ++ a0) ++ a0) ++ a0)).size + a0.size) = False := eq_false (Nat.not_lt.2 q11)
        clear q11
        have q12 := (show (((((((((((((a0 ++ a0) ++ a0) ++ a0) ++ a0) ++ a0) ++ a0) ++ a0) ++ a0) ++ a0) ++ a0) ++ a0) ++ a0)).size + a0.size ≤ 9223372036854775807 by have := HS.out; (try simp only [ByteArray.size_append]); omega)
        have q12a := eq_true q12
        have q12b : decide ((((((((((((((a0 ++ a0) ++ a0) ++ a0) ++ a0) ++ a0) ++ a0) ++ a0) ++ a0) ++ a0) ++ a0) ++ a0) ++ a0)).size + a0.size ≤ 9223372036854775807) = true := decide_eq_true q12
        have q12c : (9223372036854775807 < (((((((((((((a0 ++ a0) ++ a0) ++ a0) ++ a0) ++ a0) ++ a0) ++ a0) ++ a0) ++ a0) ++ a0) ++ a0) ++ a0)).size + a0.size) = False := eq_false (Nat.not_lt.2 q12)
        clear q12
        have q13 := (show ((((((((((((((a0 ++ a0) ++ a0) ++ a0) ++ a0) ++ a0) ++ a0) ++ a0) ++ a0) ++ a0) ++ a0) ++ a0) ++ a0) ++ a0)).size + a0.size ≤ 9223372036854775807 by have := HS.out; (try simp only [ByteArray.size_append]); omega)
        have q13a := eq_true q13
        have q13b : decide (((((((((((((((a0 ++ a0) ++ a0) ++ a0) ++ a0) ++ a0) ++ a0) ++ a0) ++ a0) ++ a0) ++ a0) ++ a0) ++ a0) ++ a0)).size + a0.size ≤ 9223372036854775807) = true := decide_eq_true q13
        have q13c : (9223372036854775807 < ((((((((((((((a0 ++ a0) ++ a0) ++ a0) ++ a0) ++ a0) ++ a0) ++ a0) ++ a0) ++ a0) ++ a0) ++ a0) ++ a0) ++ a0)).size + a0.size) = False := eq_false (Nat.not_lt.2 q13)
        clear q13
        have q14 := (show (((((((((((((((a0 ++ a0) ++ a0) ++ a0) ++ a0) ++ a0) ++ a0) ++ a0) ++ a0) ++ a0) ++ a0) ++ a0) ++ a0) ++ a0) ++ a0)).size + a0.size ≤ 9223372036854775807 by have := HS.out; (try simp only [ByteArray.size_append]); omega)
        have q14a := eq_true q14
        have q14b : decide ((((((((((((((((a0 ++ a0) ++ a0) ++ a0) ++ a0) ++ a0) ++ a0) ++ a0) ++ a0) ++ a0) ++ a0) ++ a0) ++ a0) ++ a0) ++ a0)).size + a0.size ≤ 9223372036854775807) = true := decide_eq_true q14
        have q14c : (9223372036854775807 < (((((((((((((((a0 ++ a0) ++ a0) ++ a0) ++ a0) ++ a0) ++ a0) ++ a0) ++ a0) ++ a0) ++ a0) ++ a0) ++ a0) ++ a0) ++ a0)).size + a0.size) = False := eq_false (Nat.not_lt.2 q14)
        clear q14
        have q15 := (show ((((((((((((((((a0 ++ a0) ++ a0) ++ a0) ++ a0) ++ a0) ++ a0) ++ a0) ++ a0) ++ a0) ++ a0) ++ a0) ++ a0) ++ a0) ++ a0) ++ a0)).size + a0.size ≤ 9223372036854775807 by have := HS.out; (try simp only [ByteArray.size_append]); omega)
        have q15a := eq_true q15
        have q15b : decide (((((((((((((((((a0 ++ a0) ++ a0) ++ a0) ++ a0) ++ a0) ++ a0) ++ a0) ++ a0) ++ a0) ++ a0) ++ a0) ++ a0) ++ a0) ++ a0) ++ a0)).size + a0.size ≤ 9223372036854775807) = true := decide_eq_true q15
        have q15c : (9223372036854775807 < ((((((((((((((((a0 ++ a0) ++ a0) ++ a0) ++ a0) ++ a0) ++ a0) ++ a0) ++ a0) ++ a0) ++ a0) ++ a0) ++ a0) ++ a0) ++ a0) ++ a0)).size + a0.size) = False := eq_false (Nat.not_lt.2 q15)
        clear q15
        have qz := (show a0.size + 1 ≤ 9223372036854775807 by have := HS.out; (try simp only [ByteArray.size_append]); omega)
        have qza := eq_true qz
        have qzb : decide (a0.size + 1 ≤ 9223372036854775807) = true := decide_eq_true qz
        have qzc : (9223372036854775807 < a0.size + 1) = False := eq_false (Nat.not_lt.2 qz)
        clear qz
        have qb := (show ((⟨#[32]⟩ : ByteArray)).size + a0.size ≤ 9223372036854775807 by have := HS.out; (show 1 + a0.size ≤ 9223372036854775807); omega)
        have qba := eq_true qb
        have qbb : decide (((⟨#[32]⟩ : ByteArray)).size + a0.size ≤ 9223372036854775807) = true := decide_eq_true qb
        have qbc : (9223372036854775807 < ((⟨#[32]⟩ : ByteArray)).size + a0.size) = False := eq_false (Nat.not_lt.2 qb)
        clear qb
        go_wp2_with (go_at_call 11; refine (names_Right.calls _ false _ ?hz).mono ?_; (case hz => first | with_reducible exact HZ1.out | with_reducible exact HZ2.out | with_reducible exact HZ3.out); rintro e w3 ⟨rfl, hb1⟩; have n0 := Aside0.mk (below_step HB.out hb1); clear HB hb1; have HB := n0; clear n0)
        go_ret
        exact ⟨rfl, below_step (below_step HB1.out HB2.out) HB.out⟩
end Go.Proofs.YtlhemachmidoaaaDoor.Pure
