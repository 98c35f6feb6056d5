/- words.place, words.Get of a pair's first, words.write, words.Of of two. -/
import Derived.Test.YtlhemachmidoaaaDoorEf
import Derived.Lib.LazyBuf
import Derived.Test.YtlhemachmidoaaaDoorP16
import Derived.Test.YtlhemachmidoaaaDoorP8
namespace Go.Proofs.YtlhemachmidoaaaDoor.P
open Go.RowKit Go.Proofs.YtlhemachmidoaaaDoorW.PrintWords Go.Proofs.YtlhemachmidoaaaDoorW.PrintLast Go.Proofs.YtlhemachmidoaaaDoorW.PrintMore
set_option linter.unusedVariables false
set_option linter.unusedSimpArgs false

set_option maxRecDepth 100000 in
theorem words_place.calls (g o c k : Nat) (n : Nat) (w : World) (hn : n ≤ 1000) (hc : n ≤ c) (hk : 8 * k + 8 ≤ n) :
    Calls Tryd.prog 56 #[.slice (some ⟨g, o, none⟩) n c, .int .i64 k] w fun e w' => e = .returned (.slice (some ⟨g, o + 8 * k, none⟩) 8 (c - 8 * k)) ∧ w' = w := by
  have d1 : decide ((k : Int) < 0) = false := decide_eq_false (by omega)
  have d2 : decide ((k : Int) ≥ (n : Int) / 8) = false := decide_eq_false (by omega)
  have d3 : decide ((n : Int) / 8 ≤ (k : Int)) = false := decide_eq_false (by omega)
  go_enter Tryd.func56, Tryd.ntmps56
  go_wp2
  go_ret
  exact ⟨by
    show Ending.returned (.slice (some ⟨g, o + k * 8, none⟩) (k * 8 + 8 - k * 8) (c - k * 8)) = _
    rw [Nat.mul_comm k 8, show 8 * k + 8 - 8 * k = 8 by omega], rfl⟩
set_option maxRecDepth 100000 in
theorem words_place0.calls (ad : Addr) (c : Nat) (w : World) (hc : 16 ≤ c) :
    Calls Tryd.prog 56 #[.slice (some ad) 16 c, .int .i64 0] w fun e w' => e = .returned (.slice (some ad) 8 c) ∧ w' = w := by
  go_enter Tryd.func56, Tryd.ntmps56
  go_wp2
  go_ret
  exact ⟨rfl, rfl⟩
theorem drawn_le {w w' : World} (h : Drawn0 w w') : Below w.heap.size w w' := by
  obtain ⟨nd, rfl⟩ := h
  exact pw_below_drewN (Below.refl _ _) nd
def words_Get.f (k : Nat) (l0 : List Int) (a1 : Int) : Option (Int × Bool) := if a1 = 0 ∧ l0.length = 16 then words_read.f k (l0.take 8) else none
theorem words_Get.mono (l0 : List Int) (a1 : Int) (k : Nat) : LeO (words_Get.f k l0 a1) (words_Get.f (k + 1) l0 a1) := by
  unfold words_Get.f
  split
  · exact words_read.mono _ k
  · intro r h; cases h
set_option maxRecDepth 100000 in
theorem words_Get.calls (k : Nat) (A0 : Option Addr) (c0 : Nat) (l0 : List Int) (a1 : Int) (r1 : Int) (r2 : Bool) (w : World) (hr0 : Kd.C (Kd.int .u8) w A0 l0.length l0) (hc0 : l0.length ≤ c0) (h : words_Get.f k l0 a1 = some (r1, r2)) :
    Calls Tryd.prog 38 #[.slice A0 l0.length c0, .int .i64 a1] w fun e w' => e = .returned (.tuple #[.int .i64 r1, .bool r2]) ∧ Below w.heap.size w w' := by
  unfold words_Get.f at h
  by_cases hh : a1 = 0 ∧ l0.length = 16
  · rw [if_pos hh] at h
    obtain ⟨rfl, h16⟩ := hh
    have hC := Kd.C_take (k := Kd.int .u8) (m := 8) hr0 (by omega)
    obtain ⟨ad, rfl, _⟩ := hr0.2.2 (by omega)
    have hl : (l0.take 8).length = 8 := by rw [List.length_take]; omega
    have HH := Aside0.mk h
    have HC := Aside0.mk hC
    have HL := Aside0.mk hl
    rw [h16] at hc0 ⊢
    have hnil := fun w => run_eql_slice_nil (P := Tryd.prog) w 25 5 (some ad) 8 c0 Tryd.underlying25
    clear h hC hr0 hl
    go_enter Tryd.func38, Tryd.ntmps38
    go_wp2_with (first | (go_at_call 56; refine (words_place0.calls ad c0 _ hc0).mono ?_; rintro e w1 ⟨rfl, rfl⟩) | (go_at_call 57; go_loud (refine (calls_of_args (args' := #[.slice (some ad) (l0.take 8).length c0]) ?ha (words_read.calls k (some ad) c0 (l0.take 8) r1 r2 _ HC.out (by rw [HL.out]; omega) HH.out)).mono ?_; (case ha => rw [HL.out]); rintro e w1 ⟨rfl, hd⟩; have HD := Aside0.mk hd; clear hd)))
    go_ret2
    exact ⟨rfl, drawn_le HD.out⟩
  · rw [if_neg hh] at h
    cases h
/-! ### words.write: function 55 -/
def byteAt (n : Int) (j : Nat) : Int := (n / 2 ^ (8 * j)) % 256
def w8 (n : Int) : List Int := (List.range 8).map (byteAt n)
theorem w8_length (n : Int) : (w8 n).length = 8 := by simp [w8]
def wrote (cur : List Value) (o : Nat) (n : Int) : Nat → List Value
  | 0 => cur
  | i + 1 => (wrote cur o n i).set (o + i) (.int .u8 (byteAt n i))
theorem wrote_length (cur : List Value) (o : Nat) (n : Int) : ∀ i, (wrote cur o n i).length = cur.length := by
  intro i
  induction i with
  | zero => rfl
  | succ i ih => rw [wrote, List.length_set, ih]
set_option maxRecDepth 100000 in
theorem words_write8.calls (g o c : Nat) (n : Int) (cur : List Value) (base : Nat) (w0 w : World) (hg : w.heap[g]? = some (.cells cur.toArray 5 (0, 0))) (ho : o + 8 ≤ cur.length) (hb : Below base w0 w) (hge : base ≤ g) (h0 : 0 ≤ n) (hn : n ≤ 4611686018427387903) :
    Calls Tryd.prog 55 #[.slice (some ⟨g, o, none⟩) 8 c, .int .i64 n] w fun e w' => e = .returned (.tuple #[]) ∧ w'.heap[g]? = some (.cells (wrote cur o n 8).toArray 5 (0, 0)) ∧ (∀ b, b ≠ g → w'.heap[b]? = w.heap[b]?) ∧ Below base w0 w' := by
  have HG := Aside0.mk hg
  have HB := Aside0.mk hb
  clear hg hb
  go_enter Tryd.func55, Tryd.ntmps55
  go_wp2
  go_loopw [5] (fun v5 w' => ∃ i : Nat, v5 = .int .i64 i ∧ i ≤ 8 ∧ Aside0 (w'.heap[g]? = some (.cells (wrote cur o n i).toArray 5 (0, 0))) ∧ Aside0 (∀ b, b ≠ g → w'.heap[b]? = w.heap[b]?) ∧ Aside0 (Below base w0 w')) (fun v5 w' => match v5 with | .int _ m => 8 - m.toNat | _ => 0)
  case atStart => exact ⟨0, rfl, by omega, HG, ⟨fun _ _ => rfl⟩, HB⟩
  case round =>
    obtain ⟨i, rfl, hi, HG1, HO1, HB1⟩ := hrel
    by_cases h8 : i < 8
    · have d1 : decide ((i : Int) < 8) = true := decide_eq_true (by omega)
      have hlen := wrote_length cur o n i
      have hcell := blk_cell HG1.out (o + i)
      obtain ⟨x7, hx7⟩ : ∃ x, (wrote cur o n i)[o + i]? = some x := ⟨_, List.getElem?_eq_getElem (by omega)⟩
      rw [List.getElem?_toArray, hx7] at hcell
      have hfr := blk_frozen HG1.out (o + i)
      clear hx7 hlen
      go_wp2
      go_roundw
      case rel =>
        refine ⟨i + 1, congrArg _ (by omega), h8, ⟨?_⟩, ⟨?_⟩, ⟨HB1.out.setCell hge _⟩⟩
        · have := blk_set HG1.out (o + i) (.int .u8 (byteAt n i))
          rw [List.setIfInBounds_toArray] at this
          exact this
        · intro b hb
          exact (Below.heap_setCell _ _ _ _ hb).trans (HO1.out b hb)
      case measure =>
        show 8 - ((i : Int) + 1).toNat < 8 - (i : Int).toNat
        omega
    · obtain rfl : i = 8 := by omega
      go_wp2
      go_end0
      exact ⟨rfl, HG1.out, HO1.out, HB1.out⟩
/-! ### words.Of of two words: function 37 -/
def words_Of.f (l : List Int) : Option (List Int × Int) :=
  match l with
  | [a, b] => if 0 ≤ a ∧ a ≤ 4611686018427387903 ∧ 0 ≤ b ∧ b ≤ 4611686018427387903 then some (w8 a ++ w8 b, 0) else none
  | _ => none
theorem may_is {n : Int} (h0 : 0 ≤ n) (h1 : n ≤ 4611686018427387903) : words_may.f n = some true := by
  unfold words_may.f
  rw [if_pos h0, decide_eq_true h1]
theorem wrote_is (n : Int) (a b c : List Value) (hb : b.length = 8) : wrote (a ++ (b ++ c)) a.length n 8 = a ++ (encs (Value.int .u8) (w8 n) ++ c) := by
  match b, hb with
  | [b0, b1, b2, b3, b4, b5, b6, b7], _ =>
    simp only [wrote]
    simp [List.set_append_right, encs, w8, List.range_succ]
set_option maxRecDepth 100000 in
theorem words_Of.calls (A0 : Option Addr) (c0 : Nat) (l0 : List Int) (r1 : List Int) (r2 : Int) (w : World) (hr0 : Kd.C (Kd.int .i64) w A0 l0.length l0) (hc0 : l0.length ≤ c0) (h : words_Of.f l0 = some (r1, r2)) :
    Calls Tryd.prog 37 #[.slice A0 l0.length c0] w fun e w' => ∃ v0_ : Value, e = .returned (.tuple #[v0_, .int .i64 r2]) ∧ Kd.R (Kd.int .u8) 5 w' w.heap.size (fun _ => True) v0_ r1 ∧ Below w.heap.size w w' := by
  match l0, h with
  | [a, b], h =>
    unfold words_Of.f at h
    simp only at h
    by_cases hh : 0 ≤ a ∧ a ≤ 4611686018427387903 ∧ 0 ≤ b ∧ b ≤ 4611686018427387903
    · rw [if_pos hh] at h
      obtain ⟨rfl, rfl⟩ := Prod.mk.inj (Option.some.inj h)
      clear h
      have HR := Aside0.mk hr0
      obtain ⟨ad, rfl, _⟩ := hr0.2.2 (show (0 : Nat) < 2 by omega)
      clear hr0
      have HA := Aside0.mk (may_is hh.1 hh.2.1)
      have HBm := Aside0.mk (may_is hh.2.2.1 hh.2.2.2)
      have HHH := Aside0.mk hh
      clear hh
      go_enter Tryd.func37, Tryd.ntmps37
      go_wp2_with (first | ((with_reducible refine gate_dst (N := 10) rfl ?_); refine Kd.R_make (Kd.int .u8) w.heap.size 5 rfl (N := 10) rfl 25 _ _ rfl 16 rfl rfl Tryd.underlying25 (.int .u8 0) 1 info5 rfl (by decide) (by omega) 0 (ok := fun _ => True) (okp := fun _ => True) rfl (fun _ hk => hk) trivial (by omega) (by omega) (Below.refl _ _) (Nat.le_refl _) ?_; intro v131 w7 ho8 hb hg_ hnew_; clear hg_ hnew_; rcases (Kd.own_of_R ho8).2 with ⟨_, hno⟩ | ⟨g7, cap7, cur7, rfl, hg7, hh7, hc7, hm7, hs7, ht7⟩; exact absurd hno (by decide); have A7 := Aside0.mk hg7; have B7 := Aside0.mk hh7; have C7 := Aside0.mk (show 16 ≤ cap7 by rw [List.length_replicate] at hc7; exact hc7); have D7 := Aside0.mk hm7; have E7 := Aside0.mk (show cur7.toList.length = cap7 by rw [Array.length_toList]; omega); have G7 := Aside0.mk hb; clear ho8 hb hg7 hh7 hc7 hm7 hs7 ht7))
      have hsp : ∃ z1 z2 rest : List Value, cur7.toList = z1 ++ (z2 ++ rest) ∧ z1.length = 8 ∧ z2.length = 8 := by
        refine ⟨cur7.toList.take 8, (cur7.toList.drop 8).take 8, (cur7.toList.drop 8).drop 8, ?_, ?_, ?_⟩
        · rw [List.take_append_drop, List.take_append_drop]
        · rw [List.length_take, E7.out]; have := C7.out; omega
        · rw [List.length_take, List.length_drop, E7.out]; have := C7.out; omega
      obtain ⟨z1, z2, rest, hz, hz1, hz2⟩ := hsp
      have HZ := Aside0.mk hz
      have HZ1 := Aside0.mk hz1
      have HZ2 := Aside0.mk hz2
      clear hz hz1 hz2
      go_loopw [13] (fun v13 w' => ∃ (i : Nat) (L : List Value), v13 = .int .i64 i ∧ i ≤ 2 ∧ Aside0 (w'.heap[g7]? = some (.cells L.toArray 5 (0, 0))) ∧ Aside0 (L = if i = 0 then z1 ++ (z2 ++ rest) else if i = 1 then encs (Value.int .u8) (w8 a) ++ (z2 ++ rest) else encs (Value.int .u8) (w8 a) ++ (encs (Value.int .u8) (w8 b) ++ rest)) ∧ Aside0 (Below w.heap.size w w')) (fun v13 w' => match v13 with | .int _ m => 2 - m.toNat | _ => 0)
      case atStart => exact ⟨0, z1 ++ (z2 ++ rest), rfl, by omega, ⟨by rw [← HZ.out]; simpa using B7.out⟩, ⟨rfl⟩, G7⟩
      case round =>
        obtain ⟨i, L, rfl, hi, HG1, HL1, HB1⟩ := hrel
        have hrd := Kd.reads_of_C (enc := Value.int .i64) (d := (0 : Int)) (h1 := fun _ => rfl) (Kd.C_below HR.out HB1.out)
        obtain ⟨ad', e, hc⟩ := hrd.2.2 (show (0 : Nat) < 2 by omega)
        cases e
        clear hrd
        match i, hi with
        | 0, _ =>
          have hx : wr.cell? ad = some (.int .i64 a) := by
            have h := hc 0 (show (0 : Nat) < 2 by omega)
            have e : ad.add 0 = ad := by unfold Addr.add; split <;> simp_all
            rw [e] at h
            exact h
          clear hc
          have hLl : 0 + 8 ≤ L.length := by
            rw [HL1.out]
            simp only [List.length_append, encs_length, w8_length, HZ1.out, HZ2.out, if_true, if_false, reduceIte, Nat.one_ne_zero]
            omega
          go_wp2_with (first | (go_at_call 54; refine (words_may.calls a true _ HA.out).mono ?_; rintro e w1 ⟨rfl, hd⟩; have hb := drawn_le hd; have HG2 := Aside0.mk ((hb.block _ (blk_lt HG1.out)).trans HG1.out); have HB2 := Aside0.mk (below_step HB1.out hb); clear hd hb) | (go_at_call 56; refine (words_place.calls g7 0 cap7 0 16 _ (by omega) C7.out (by omega)).mono ?_; rintro e w2 ⟨rfl, rfl⟩) | (go_at_call 55; go_loud (refine (words_write8.calls g7 (0 + 8 * 0) (cap7 - 8 * 0) a L w.heap.size w _ HG2.out (by omega) HB2.out A7.out HHH.out.1 HHH.out.2.1).mono ?_; rintro e w3 ⟨rfl, hg3, ho3, hb3⟩; have HG3 := Aside0.mk hg3; have HB3 := Aside0.mk hb3; clear hg3 ho3 hb3)))
          go_roundw
          case rel =>
            refine ⟨1, _, rfl, by omega, HG3, ⟨?_⟩, HB3⟩
            show wrote L (0 + 8 * 0) a 8 = encs (Value.int .u8) (w8 a) ++ (z2 ++ rest)
            have hL := HL1.out
            rw [if_pos trivial] at hL
            rw [hL]
            exact wrote_is a [] z1 (z2 ++ rest) HZ1.out
          case measure =>
            show 2 - (1 : Int).toNat < 2 - (0 : Int).toNat
            decide
        | 1, _ =>
          have hx : wr.cell? (ad.add 1) = some (.int .i64 b) := hc 1 (show (1 : Nat) < 2 by omega)
          have hx1 := hx
          simp only [Addr.add] at hx1
          rw [if_neg (by decide)] at hx1
          clear hc hx
          have hLl : 8 + 8 ≤ L.length := by
            rw [HL1.out]
            simp only [List.length_append, encs_length, w8_length, HZ1.out, HZ2.out, if_true, if_false, reduceIte, Nat.one_ne_zero]
            omega
          go_wp2_with (first | (go_at_call 54; refine (words_may.calls b true _ HBm.out).mono ?_; rintro e w1 ⟨rfl, hd⟩; have hb := drawn_le hd; have HG2 := Aside0.mk ((hb.block _ (blk_lt HG1.out)).trans HG1.out); have HB2 := Aside0.mk (below_step HB1.out hb); clear hd hb) | (go_at_call 56; refine (words_place.calls g7 0 cap7 1 16 _ (by omega) C7.out (by omega)).mono ?_; rintro e w2 ⟨rfl, rfl⟩) | (go_at_call 55; go_loud (refine (words_write8.calls g7 (0 + 8 * 1) (cap7 - 8 * 1) b L w.heap.size w _ HG2.out (by omega) HB2.out A7.out HHH.out.2.2.1 HHH.out.2.2.2).mono ?_; rintro e w3 ⟨rfl, hg3, ho3, hb3⟩; have HG3 := Aside0.mk hg3; have HB3 := Aside0.mk hb3; clear hg3 ho3 hb3)))
          go_roundw
          case rel =>
            refine ⟨2, _, rfl, by omega, HG3, ⟨?_⟩, HB3⟩
            show wrote L (0 + 8 * 1) b 8 = encs (Value.int .u8) (w8 a) ++ (encs (Value.int .u8) (w8 b) ++ rest)
            have hL := HL1.out
            rw [if_neg (by decide), if_pos trivial] at hL
            rw [hL]
            have := wrote_is b (encs (Value.int .u8) (w8 a)) z2 rest HZ2.out
            rw [encs_length, w8_length] at this
            exact this
          case measure =>
            show 2 - (2 : Int).toNat < 2 - (1 : Int).toNat
            decide
        | 2, _ =>
          clear hc
          go_wp2
          go_ret2
          have hLe := HL1.out
          rw [if_neg (by decide), if_neg (by decide)] at hLe
          have hlen16 : (w8 a ++ w8 b).length = 16 := by rw [List.length_append, w8_length, w8_length]
          have hrest : rest.length + 16 = cap7 := by
            have h1 := congrArg List.length HZ.out
            rw [E7.out, List.length_append, List.length_append, HZ1.out, HZ2.out] at h1
            omega
          refine ⟨_, rfl, Kd.R_of_own ⟨by rw [encs_length, hlen16], .inr ⟨g7, cap7, L.toArray, by rw [hlen16]; rfl, A7.out, HG1.out, by rw [hlen16]; exact C7.out, D7.out, ?_, ?_⟩⟩ (fun _ _ => trivial), HB1.out⟩
          · rw [List.size_toArray, hLe, List.length_append, List.length_append, encs_length, encs_length, w8_length, w8_length]
            omega
          · rw [hlen16, hLe, encs_append, ← List.append_assoc]
            exact List.take_left' (by rw [List.length_append, encs_length, encs_length, w8_length, w8_length])
    · rw [if_neg hh] at h
      cases h
end Go.Proofs.YtlhemachmidoaaaDoor.P
