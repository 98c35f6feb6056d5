-- Printed by wip/tools/pp.py.
import Derived.Test.YtlhemachmidoaaaDoorP0
import Derived.Test.YtlhemachmidoaaaDoorP11
namespace Go.Proofs.YtlhemachmidoaaaDoor.P
open Go.RowKit Go.Proofs.YtlhemachmidoaaaDoorW.PrintWords Go.Proofs.YtlhemachmidoaaaDoorW.PrintLast Go.Proofs.YtlhemachmidoaaaDoorW.PrintMore
attribute [local go_sem] max2_int min2_int max_two min_two max_three min_three max_four min_four   -- for this text's walks alone
set_option linter.unusedVariables false
set_option linter.unusedSimpArgs false

/-! ### joistref06_Read: function 20 -/
def joistref06_Read.l0 : Nat → List Int → Int → Option (ByteArray × Bool)
  | 0, _, _ => none
  | k + 1, x0, x4 => if x4 > 0 then (if 0 ≤ (wrap64 (x4 - 1)) then (if (wrap64 (x4 - 1)) < (x0.length : Int) then (if (rd x0 (wrap64 (x4 - 1))) = 0 then (joistref06_Read.l0 k x0 (wrap64 (x4 - 1))) else (if 0 ≤ x4 then (if x4 ≤ (x0.length : Int) then ((joistref06_Right.f k (strOfNums (x0.take (x4 : Int).toNat))).bind fun t217 => (if (strOfNums (x0.take (x4 : Int).toNat)).toList = ([] : List UInt8) then (some (strOfNums (x0.take (x4 : Int).toNat), true)) else (if t217 = true then (some (strOfNums (x0.take (x4 : Int).toNat), true)) else (some ((⟨#[]⟩ : ByteArray), false))))) else (none)) else (none))) else (none)) else (none)) else (if 0 ≤ x4 then (if x4 ≤ (x0.length : Int) then ((joistref06_Right.f k (strOfNums (x0.take (x4 : Int).toNat))).bind fun t219 => (if (strOfNums (x0.take (x4 : Int).toNat)).toList = ([] : List UInt8) then (some (strOfNums (x0.take (x4 : Int).toNat), true)) else (if t219 = true then (some (strOfNums (x0.take (x4 : Int).toNat), true)) else (some ((⟨#[]⟩ : ByteArray), false))))) else (none)) else (none))
def joistref06_Read.f (k : Nat) (l0 : List Int) : Option (ByteArray × Bool) := if (l0.length : Int) = 16 then (joistref06_Read.l0 k l0 16) else (some ((⟨#[]⟩ : ByteArray), false))
theorem joistref06_Read.mono_l : ∀ k, (∀ y0 y1, LeO (joistref06_Read.l0 k y0 y1) (joistref06_Read.l0 (k + 1) y0 y1))
  | 0 => fun _ _ r h => by simp [joistref06_Read.l0] at h
  | k + 1 => by
    have ih0 := joistref06_Read.mono_l k
    · intro y0 y1
      unfold joistref06_Read.l0
      repeat' first
      | (with_reducible exact ih0 _ _)
      | (with_reducible exact joistref06_Right.mono _ _)
      | (with_reducible exact LeO.refl _)
      | (with_reducible exact LeO.none _)
      | (with_reducible refine LeO.ite ?_ ?_)
      | (with_reducible refine LeO.bind ?_ (fun _ => ?_))
      | exact LeO.none _
      | refine LeO.ite ?_ ?_
      | refine LeO.bind ?_ (fun _ => ?_)
theorem joistref06_Read.mono : ∀ a0 k, LeO (joistref06_Read.f k a0) (joistref06_Read.f (k + 1) a0) := by
  intro a0 k
  have ih0 := joistref06_Read.mono_l k
  unfold joistref06_Read.f
  repeat' first
      | (with_reducible exact ih0 _ _)
      | (with_reducible exact joistref06_Right.mono _ _)
      | (with_reducible exact LeO.refl _)
      | (with_reducible exact LeO.none _)
      | (with_reducible refine LeO.ite ?_ ?_)
      | (with_reducible refine LeO.bind ?_ (fun _ => ?_))
      | exact LeO.none _
      | refine LeO.ite ?_ ?_
      | refine LeO.bind ?_ (fun _ => ?_)
set_option maxHeartbeats 8000000 in
set_option maxRecDepth 100000 in
theorem joistref06_Read.calls (k : Nat) (A0 : Option Addr) (c0 : Nat) (l0 : List Int) (r1 : ByteArray) (r2 : Bool) (w : World) (hr0 : Kd.C (Kd.int .u8) w A0 l0.length l0) (hc0 : l0.length ≤ c0) (h : joistref06_Read.f k l0 = some (r1, r2)) :
    Calls Tryd.prog 20 #[.slice A0 l0.length c0] w fun e w' => e = .returned (.tuple #[.string r1, .bool r2]) ∧ Drawn0 w w' := by
  have HR0 := Aside0.mk hr0
  have HC0 := Aside0.mk hc0
  clear hr0 hc0
  have H : (if (l0.length : Int) = 16 then (joistref06_Read.l0 k l0 16) else (some ((⟨#[]⟩ : ByteArray), false))) = some (r1, r2) := h
  clear h
  by_cases c2 : (l0.length : Int) = 16
  · rw [if_pos c2] at H
    have c2b0 : ((l0.length : Int) == 16) = true := beq_iff_eq.mpr c2
    have c2b1 : ((l0.length : Int) != 16) = false := bne_eq_false_iff_eq.mpr c2
    clear c2
    have H' := Aside0.mk H
    clear H
    go_enter Tryd.func20, Tryd.ntmps20
    go_wp2
    go_loopg [4] k (fun kq v4 w' => ∃ (x4_1 : Int), v4 = .int .i64 x4_1 ∧ Aside0 (joistref06_Read.l0 kq l0 x4_1 = some (r1, r2)) ∧ Aside0 (kq ≤ k) ∧ Drawn0 w w')
    case atStart => exact ⟨(16), (by first | rfl | (simp; done) | (simp [*]; done)), H', ⟨Nat.le_refl _⟩, by repeat (first | exact Drawn0.refl _ | apply Drawn0.step)⟩
    case round =>
      clear H'
      try clear c2
      try clear c2b0
      try clear c2b1
      try clear p2
      obtain ⟨x4_1, rfl, HA, HK1, ⟨m1, rfl⟩⟩ := hrel
      cases gk with
      | zero => exact absurd HA.out (by simp [joistref06_Read.l0])
      | succ k1 =>
        have H := HA.out
        clear HA
        simp only [joistref06_Read.l0] at H
        by_cases c3 : x4_1 > 0
        · rw [if_pos c3] at H
          have c3b0 : decide (0 < x4_1) = true := decide_eq_true c3
          clear c3
          obtain ⟨ji4, hji4⟩ : ∃ j_ : Int, (wrap64 (x4_1 - 1)) = j_ := ⟨_, rfl⟩
          replace H : (if 0 ≤ (ji4) then (if (ji4) < (l0.length : Int) then (if (rd l0 (ji4)) = 0 then (joistref06_Read.l0 k1 l0 ji4) else (if 0 ≤ x4_1 then (if x4_1 ≤ (l0.length : Int) then ((joistref06_Right.f k1 (strOfNums (l0.take (x4_1 : Int).toNat))).bind fun t217 => (if (strOfNums (l0.take (x4_1 : Int).toNat)).toList = ([] : List UInt8) then (some (strOfNums (l0.take (x4_1 : Int).toNat), true)) else (if t217 = true then (some (strOfNums (l0.take (x4_1 : Int).toNat), true)) else (some ((⟨#[]⟩ : ByteArray), false))))) else (none)) else (none))) else (none)) else (none)) = some (r1, r2) := by first | (rw [hji4] at H; exact H) | (simp only [hji4] at H ⊢; exact H)
          have hji4w : (IntKind.i64.wrap (x4_1 - 1)) = ji4 := (i64_w _).trans hji4
          by_cases c5 : 0 ≤ (ji4)
          · rw [if_pos c5] at H
            have c5b0 : decide (0 ≤ (ji4)) = true := decide_eq_true c5
            clear c5
            by_cases c6 : (ji4) < (l0.length : Int)
            · rw [if_pos c6] at H
              have c6b0 : decide ((ji4) < (l0.length : Int)) = true := decide_eq_true c6
              clear c6
              by_cases c7 : (rd l0 (ji4)) = 0
              · rw [if_pos c7] at H
                have c7b0 : ((rd l0 (ji4)) == 0) = true := beq_iff_eq.mpr c7
                have c7b1 : ((rd l0 (ji4)) != 0) = false := bne_eq_false_iff_eq.mpr c7
                clear c7
                have H' := Aside0.mk H
                clear H
                have p215 : 0 ≤ ((ji4) : Int) := of_decide_eq_true (by first | (with_reducible assumption) | assumption)
                have q215 : (ji4) < (l0.length : Int) := of_decide_eq_true (by first | (with_reducible assumption) | assumption)
                obtain ⟨ad215, e215, hx215_0⟩ := Kd.at_int HR0.out (ji4) p215 q215
                cases e215
                replace p215 := eq_true p215
                replace q215 := eq_true q215
                go_wp2
                go_roundg k1
                case measure => have := HK1.out; omega
                case rel => exact ⟨(ji4), (by first | rfl | (simp; done) | (simp only [← hji4] <;> (first | rfl | simp)) | (simp [*]; done)), H', ⟨by have := HK1.out; omega⟩, by repeat (first | exact Drawn0.refl _ | apply Drawn0.step)⟩
              · rw [if_neg c7] at H
                have c7b0 : ((rd l0 (ji4)) == 0) = false := beq_eq_false_iff_ne.mpr c7
                have c7b1 : ((rd l0 (ji4)) != 0) = true := bne_iff_ne.mpr c7
                by_cases c8 : 0 ≤ x4_1
                · rw [if_pos c8] at H
                  have c8b0 := eq_true c8
                  have c8b1 : decide (0 ≤ x4_1) = true := decide_eq_true c8
                  clear c8
                  by_cases c9 : x4_1 ≤ (l0.length : Int)
                  · rw [if_pos c9] at H
                    have c9b0 := eq_true c9
                    have c9b1 : decide (x4_1 ≤ (l0.length : Int)) = true := decide_eq_true c9
                    clear c9
                    replace H := Option.bind_eq_some_iff.mp H
                    obtain ⟨t217, A100, H⟩ := H
                    replace H : (if (strOfNums (l0.take (x4_1 : Int).toNat)).toList = ([] : List UInt8) then (some (strOfNums (l0.take (x4_1 : Int).toNat), true)) else (if t217 = true then (some (strOfNums (l0.take (x4_1 : Int).toNat), true)) else (some ((⟨#[]⟩ : ByteArray), false)))) = some (r1, r2) := H
                    have A10 := Aside0.mk A100
                    clear A100
                    by_cases c11 : (strOfNums (l0.take (x4_1 : Int).toNat)).toList = ([] : List UInt8)
                    · rw [if_pos c11] at H
                      have c11b0 : ((strOfNums (l0.take (x4_1 : Int).toNat)).toList == ([] : List UInt8)) = true := beq_iff_eq.mpr c11
                      have c11b1 : ((strOfNums (l0.take (x4_1 : Int).toNat)).toList != ([] : List UInt8)) = false := bne_eq_false_iff_eq.mpr c11
                      clear c11
                      simp only [Option.some.injEq, Prod.mk.injEq] at H
                      obtain ⟨rfl, rfl⟩ := H
                      have p215 : 0 ≤ ((ji4) : Int) := of_decide_eq_true (by first | (with_reducible assumption) | assumption)
                      have q215 : (ji4) < (l0.length : Int) := of_decide_eq_true (by first | (with_reducible assumption) | assumption)
                      obtain ⟨ad215, e215, hx215_0⟩ := Kd.at_int HR0.out (ji4) p215 q215
                      cases e215
                      replace p215 := eq_true p215
                      replace q215 := eq_true q215
                      obtain ⟨i012, hi012, _, hsz12, _⟩ := info_parts info5
                      obtain ⟨hcut12, hA12, hC12⟩ := print_take_of (P := Tryd.prog) (Value.int .u8) 0 25 5 .i64 Tryd.underlying25 hi012 hsz12 (some ad215) c0 l0 x4_1 (of_decide_eq_true (by first | (with_reducible assumption) | assumption)) (of_decide_eq_true (by first | (with_reducible assumption) | assumption)) HC0.out
                      have HR216 := Aside0.mk (Kd.C_of_reads (h1 := fun _ => rfl) (hA12 _ (Kd.reads_of_C HR0.out)))
                      have HC216 := Aside0.mk hC12
                      clear hA12 hC12 hi012 hsz12
                      have hcv13 := Kd.C_string (P := Tryd.prog) (A := (some ad215)) (c := c0) Tryd.underlying25 Tryd.underlying5 Tryd.underlying9 HR216.out
                      have hcv13d := fun m_ => Kd.C_string (P := Tryd.prog) (A := (some ad215)) (c := c0) Tryd.underlying25 Tryd.underlying5 Tryd.underlying9 (Kd.C_drewN HR216.out m_)
                      (try rw [show (List.take (x4_1 : Int).toNat l0).length = (x4_1 : Int).toNat from by rw [List.length_take]; have a_ : x4_1 ≤ (l0.length : Int) := of_decide_eq_true (by first | (with_reducible assumption) | assumption); omega] at hcv13d)
                      go_wp2_with (first | ((with_reducible refine gate_callee (f := 12) rfl ?_); refine goesL_ (some 27) rfl rfl Tryd.func12 (by kernel_rfl) rfl #[.string (strOfNums (l0.take (x4_1 : Int).toNat))] rfl (by (try simp only [List.map_toArray, List.map_cons, List.map_nil]); first | done | rfl | (simp only [List.length_drop, List.length_take]; rfl)) ?_; (with_reducible refine (joistref06_Right.calls k1 (strOfNums (l0.take (x4_1 : Int).toNat)) t217 _ A10.out).mono ?_); rintro e w' ⟨rfl, ⟨nd, rfl⟩⟩; refine ⟨_, rfl, ?_⟩))
                      go_ret2
                      exact ⟨by first | rfl | (simp; done) | (simp only [← hji4] <;> (first | rfl | simp)) | (simp [*]; done), by repeat (first | exact Drawn0.refl _ | apply Drawn0.step)⟩
                    · rw [if_neg c11] at H
                      have c11b0 : ((strOfNums (l0.take (x4_1 : Int).toNat)).toList == ([] : List UInt8)) = false := beq_eq_false_iff_ne.mpr c11
                      have c11b1 : ((strOfNums (l0.take (x4_1 : Int).toNat)).toList != ([] : List UInt8)) = true := bne_iff_ne.mpr c11
                      by_cases c14 : t217 = true
                      · subst c14
                        have H1 : (some (strOfNums (l0.take (x4_1 : Int).toNat), true)) = some (r1, r2) := by rw [if_pos rfl] at H; exact H
                        clear H
                        have H := H1
                        clear H1
                        simp only [Option.some.injEq, Prod.mk.injEq] at H
                        obtain ⟨rfl, rfl⟩ := H
                        have p215 : 0 ≤ ((ji4) : Int) := of_decide_eq_true (by first | (with_reducible assumption) | assumption)
                        have q215 : (ji4) < (l0.length : Int) := of_decide_eq_true (by first | (with_reducible assumption) | assumption)
                        obtain ⟨ad215, e215, hx215_0⟩ := Kd.at_int HR0.out (ji4) p215 q215
                        cases e215
                        replace p215 := eq_true p215
                        replace q215 := eq_true q215
                        obtain ⟨i015, hi015, _, hsz15, _⟩ := info_parts info5
                        obtain ⟨hcut15, hA15, hC15⟩ := print_take_of (P := Tryd.prog) (Value.int .u8) 0 25 5 .i64 Tryd.underlying25 hi015 hsz15 (some ad215) c0 l0 x4_1 (of_decide_eq_true (by first | (with_reducible assumption) | assumption)) (of_decide_eq_true (by first | (with_reducible assumption) | assumption)) HC0.out
                        have HR216 := Aside0.mk (Kd.C_of_reads (h1 := fun _ => rfl) (hA15 _ (Kd.reads_of_C HR0.out)))
                        have HC216 := Aside0.mk hC15
                        clear hA15 hC15 hi015 hsz15
                        have hcv16 := Kd.C_string (P := Tryd.prog) (A := (some ad215)) (c := c0) Tryd.underlying25 Tryd.underlying5 Tryd.underlying9 HR216.out
                        have hcv16d := fun m_ => Kd.C_string (P := Tryd.prog) (A := (some ad215)) (c := c0) Tryd.underlying25 Tryd.underlying5 Tryd.underlying9 (Kd.C_drewN HR216.out m_)
                        (try rw [show (List.take (x4_1 : Int).toNat l0).length = (x4_1 : Int).toNat from by rw [List.length_take]; have a_ : x4_1 ≤ (l0.length : Int) := of_decide_eq_true (by first | (with_reducible assumption) | assumption); omega] at hcv16d)
                        go_wp2_with (first | ((with_reducible refine gate_callee (f := 12) rfl ?_); refine goesL_ (some 27) rfl rfl Tryd.func12 (by kernel_rfl) rfl #[.string (strOfNums (l0.take (x4_1 : Int).toNat))] rfl (by (try simp only [List.map_toArray, List.map_cons, List.map_nil]); first | done | rfl | (simp only [List.length_drop, List.length_take]; rfl)) ?_; (with_reducible refine (joistref06_Right.calls k1 (strOfNums (l0.take (x4_1 : Int).toNat)) true _ A10.out).mono ?_); rintro e w' ⟨rfl, ⟨nd, rfl⟩⟩; refine ⟨_, rfl, ?_⟩))
                        go_ret2
                        exact ⟨by first | rfl | (simp; done) | (simp only [← hji4] <;> (first | rfl | simp)) | (simp [*]; done), by repeat (first | exact Drawn0.refl _ | apply Drawn0.step)⟩
                      · replace c14 := Bool.eq_false_iff.mpr c14
                        subst c14
                        have H1 : (some ((⟨#[]⟩ : ByteArray), false)) = some (r1, r2) := by rw [if_neg (show ¬ (false = true) by decide)] at H; exact H
                        clear H
                        have H := H1
                        clear H1
                        simp only [Option.some.injEq, Prod.mk.injEq] at H
                        obtain ⟨rfl, rfl⟩ := H
                        have p215 : 0 ≤ ((ji4) : Int) := of_decide_eq_true (by first | (with_reducible assumption) | assumption)
                        have q215 : (ji4) < (l0.length : Int) := of_decide_eq_true (by first | (with_reducible assumption) | assumption)
                        obtain ⟨ad215, e215, hx215_0⟩ := Kd.at_int HR0.out (ji4) p215 q215
                        cases e215
                        replace p215 := eq_true p215
                        replace q215 := eq_true q215
                        obtain ⟨i017, hi017, _, hsz17, _⟩ := info_parts info5
                        obtain ⟨hcut17, hA17, hC17⟩ := print_take_of (P := Tryd.prog) (Value.int .u8) 0 25 5 .i64 Tryd.underlying25 hi017 hsz17 (some ad215) c0 l0 x4_1 (of_decide_eq_true (by first | (with_reducible assumption) | assumption)) (of_decide_eq_true (by first | (with_reducible assumption) | assumption)) HC0.out
                        have HR216 := Aside0.mk (Kd.C_of_reads (h1 := fun _ => rfl) (hA17 _ (Kd.reads_of_C HR0.out)))
                        have HC216 := Aside0.mk hC17
                        clear hA17 hC17 hi017 hsz17
                        have hcv18 := Kd.C_string (P := Tryd.prog) (A := (some ad215)) (c := c0) Tryd.underlying25 Tryd.underlying5 Tryd.underlying9 HR216.out
                        have hcv18d := fun m_ => Kd.C_string (P := Tryd.prog) (A := (some ad215)) (c := c0) Tryd.underlying25 Tryd.underlying5 Tryd.underlying9 (Kd.C_drewN HR216.out m_)
                        (try rw [show (List.take (x4_1 : Int).toNat l0).length = (x4_1 : Int).toNat from by rw [List.length_take]; have a_ : x4_1 ≤ (l0.length : Int) := of_decide_eq_true (by first | (with_reducible assumption) | assumption); omega] at hcv18d)
                        go_wp2_with (first | ((with_reducible refine gate_callee (f := 12) rfl ?_); refine goesL_ (some 27) rfl rfl Tryd.func12 (by kernel_rfl) rfl #[.string (strOfNums (l0.take (x4_1 : Int).toNat))] rfl (by (try simp only [List.map_toArray, List.map_cons, List.map_nil]); first | done | rfl | (simp only [List.length_drop, List.length_take]; rfl)) ?_; (with_reducible refine (joistref06_Right.calls k1 (strOfNums (l0.take (x4_1 : Int).toNat)) false _ A10.out).mono ?_); rintro e w' ⟨rfl, ⟨nd, rfl⟩⟩; refine ⟨_, rfl, ?_⟩))
                        go_ret2
                        exact ⟨by first | rfl | (simp; done) | (simp only [← hji4] <;> (first | rfl | simp)) | (simp [*]; done), by repeat (first | exact Drawn0.refl _ | apply Drawn0.step)⟩
                  · rw [if_neg c9] at H
                    exact absurd H (by simp)
                · rw [if_neg c8] at H
                  exact absurd H (by simp)
            · rw [if_neg c6] at H
              exact absurd H (by simp)
          · rw [if_neg c5] at H
            exact absurd H (by simp)
        · rw [if_neg c3] at H
          have c3b0 : decide (0 < x4_1) = false := decide_eq_false c3
          clear c3
          by_cases c19 : 0 ≤ x4_1
          · rw [if_pos c19] at H
            have c19b0 := eq_true c19
            have c19b1 : decide (0 ≤ x4_1) = true := decide_eq_true c19
            clear c19
            by_cases c20 : x4_1 ≤ (l0.length : Int)
            · rw [if_pos c20] at H
              have c20b0 := eq_true c20
              have c20b1 : decide (x4_1 ≤ (l0.length : Int)) = true := decide_eq_true c20
              clear c20
              replace H := Option.bind_eq_some_iff.mp H
              obtain ⟨t219, A210, H⟩ := H
              replace H : (if (strOfNums (l0.take (x4_1 : Int).toNat)).toList = ([] : List UInt8) then (some (strOfNums (l0.take (x4_1 : Int).toNat), true)) else (if t219 = true then (some (strOfNums (l0.take (x4_1 : Int).toNat), true)) else (some ((⟨#[]⟩ : ByteArray), false)))) = some (r1, r2) := H
              have A21 := Aside0.mk A210
              clear A210
              by_cases c22 : (strOfNums (l0.take (x4_1 : Int).toNat)).toList = ([] : List UInt8)
              · rw [if_pos c22] at H
                have c22b0 : ((strOfNums (l0.take (x4_1 : Int).toNat)).toList == ([] : List UInt8)) = true := beq_iff_eq.mpr c22
                have c22b1 : ((strOfNums (l0.take (x4_1 : Int).toNat)).toList != ([] : List UInt8)) = false := bne_eq_false_iff_eq.mpr c22
                clear c22
                simp only [Option.some.injEq, Prod.mk.injEq] at H
                obtain ⟨rfl, rfl⟩ := H
                obtain ⟨i023, hi023, _, hsz23, _⟩ := info_parts info5
                obtain ⟨hcut23, hA23, hC23⟩ := print_take_of (P := Tryd.prog) (Value.int .u8) 0 25 5 .i64 Tryd.underlying25 hi023 hsz23 A0 c0 l0 x4_1 (of_decide_eq_true (by first | (with_reducible assumption) | assumption)) (of_decide_eq_true (by first | (with_reducible assumption) | assumption)) HC0.out
                have HR218 := Aside0.mk (Kd.C_of_reads (h1 := fun _ => rfl) (hA23 _ (Kd.reads_of_C HR0.out)))
                have HC218 := Aside0.mk hC23
                clear hA23 hC23 hi023 hsz23
                have hcv24 := Kd.C_string (P := Tryd.prog) (A := A0) (c := c0) Tryd.underlying25 Tryd.underlying5 Tryd.underlying9 HR218.out
                have hcv24d := fun m_ => Kd.C_string (P := Tryd.prog) (A := A0) (c := c0) Tryd.underlying25 Tryd.underlying5 Tryd.underlying9 (Kd.C_drewN HR218.out m_)
                (try rw [show (List.take (x4_1 : Int).toNat l0).length = (x4_1 : Int).toNat from by rw [List.length_take]; have a_ : x4_1 ≤ (l0.length : Int) := of_decide_eq_true (by first | (with_reducible assumption) | assumption); omega] at hcv24d)
                go_wp2_with (first | ((with_reducible refine gate_callee (f := 12) rfl ?_); refine goesL_ (some 27) rfl rfl Tryd.func12 (by kernel_rfl) rfl #[.string (strOfNums (l0.take (x4_1 : Int).toNat))] rfl (by (try simp only [List.map_toArray, List.map_cons, List.map_nil]); first | done | rfl | (simp only [List.length_drop, List.length_take]; rfl)) ?_; (with_reducible refine (joistref06_Right.calls k1 (strOfNums (l0.take (x4_1 : Int).toNat)) t219 _ A21.out).mono ?_); rintro e w' ⟨rfl, ⟨nd, rfl⟩⟩; refine ⟨_, rfl, ?_⟩))
                go_ret2
                exact ⟨by first | rfl | (simp; done) | (simp [*]; done), by repeat (first | exact Drawn0.refl _ | apply Drawn0.step)⟩
              · rw [if_neg c22] at H
                have c22b0 : ((strOfNums (l0.take (x4_1 : Int).toNat)).toList == ([] : List UInt8)) = false := beq_eq_false_iff_ne.mpr c22
                have c22b1 : ((strOfNums (l0.take (x4_1 : Int).toNat)).toList != ([] : List UInt8)) = true := bne_iff_ne.mpr c22
                by_cases c25 : t219 = true
                · subst c25
                  have H1 : (some (strOfNums (l0.take (x4_1 : Int).toNat), true)) = some (r1, r2) := by rw [if_pos rfl] at H; exact H
                  clear H
                  have H := H1
                  clear H1
                  simp only [Option.some.injEq, Prod.mk.injEq] at H
                  obtain ⟨rfl, rfl⟩ := H
                  obtain ⟨i026, hi026, _, hsz26, _⟩ := info_parts info5
                  obtain ⟨hcut26, hA26, hC26⟩ := print_take_of (P := Tryd.prog) (Value.int .u8) 0 25 5 .i64 Tryd.underlying25 hi026 hsz26 A0 c0 l0 x4_1 (of_decide_eq_true (by first | (with_reducible assumption) | assumption)) (of_decide_eq_true (by first | (with_reducible assumption) | assumption)) HC0.out
                  have HR218 := Aside0.mk (Kd.C_of_reads (h1 := fun _ => rfl) (hA26 _ (Kd.reads_of_C HR0.out)))
                  have HC218 := Aside0.mk hC26
                  clear hA26 hC26 hi026 hsz26
                  have hcv27 := Kd.C_string (P := Tryd.prog) (A := A0) (c := c0) Tryd.underlying25 Tryd.underlying5 Tryd.underlying9 HR218.out
                  have hcv27d := fun m_ => Kd.C_string (P := Tryd.prog) (A := A0) (c := c0) Tryd.underlying25 Tryd.underlying5 Tryd.underlying9 (Kd.C_drewN HR218.out m_)
                  (try rw [show (List.take (x4_1 : Int).toNat l0).length = (x4_1 : Int).toNat from by rw [List.length_take]; have a_ : x4_1 ≤ (l0.length : Int) := of_decide_eq_true (by first | (with_reducible assumption) | assumption); omega] at hcv27d)
                  go_wp2_with (first | ((with_reducible refine gate_callee (f := 12) rfl ?_); refine goesL_ (some 27) rfl rfl Tryd.func12 (by kernel_rfl) rfl #[.string (strOfNums (l0.take (x4_1 : Int).toNat))] rfl (by (try simp only [List.map_toArray, List.map_cons, List.map_nil]); first | done | rfl | (simp only [List.length_drop, List.length_take]; rfl)) ?_; (with_reducible refine (joistref06_Right.calls k1 (strOfNums (l0.take (x4_1 : Int).toNat)) true _ A21.out).mono ?_); rintro e w' ⟨rfl, ⟨nd, rfl⟩⟩; refine ⟨_, rfl, ?_⟩))
                  go_ret2
                  exact ⟨by first | rfl | (simp; done) | (simp [*]; done), by repeat (first | exact Drawn0.refl _ | apply Drawn0.step)⟩
                · replace c25 := Bool.eq_false_iff.mpr c25
                  subst c25
                  have H1 : (some ((⟨#[]⟩ : ByteArray), false)) = some (r1, r2) := by rw [if_neg (show ¬ (false = true) by decide)] at H; exact H
                  clear H
                  have H := H1
                  clear H1
                  simp only [Option.some.injEq, Prod.mk.injEq] at H
                  obtain ⟨rfl, rfl⟩ := H
                  obtain ⟨i028, hi028, _, hsz28, _⟩ := info_parts info5
                  obtain ⟨hcut28, hA28, hC28⟩ := print_take_of (P := Tryd.prog) (Value.int .u8) 0 25 5 .i64 Tryd.underlying25 hi028 hsz28 A0 c0 l0 x4_1 (of_decide_eq_true (by first | (with_reducible assumption) | assumption)) (of_decide_eq_true (by first | (with_reducible assumption) | assumption)) HC0.out
                  have HR218 := Aside0.mk (Kd.C_of_reads (h1 := fun _ => rfl) (hA28 _ (Kd.reads_of_C HR0.out)))
                  have HC218 := Aside0.mk hC28
                  clear hA28 hC28 hi028 hsz28
                  have hcv29 := Kd.C_string (P := Tryd.prog) (A := A0) (c := c0) Tryd.underlying25 Tryd.underlying5 Tryd.underlying9 HR218.out
                  have hcv29d := fun m_ => Kd.C_string (P := Tryd.prog) (A := A0) (c := c0) Tryd.underlying25 Tryd.underlying5 Tryd.underlying9 (Kd.C_drewN HR218.out m_)
                  (try rw [show (List.take (x4_1 : Int).toNat l0).length = (x4_1 : Int).toNat from by rw [List.length_take]; have a_ : x4_1 ≤ (l0.length : Int) := of_decide_eq_true (by first | (with_reducible assumption) | assumption); omega] at hcv29d)
                  go_wp2_with (first | ((with_reducible refine gate_callee (f := 12) rfl ?_); refine goesL_ (some 27) rfl rfl Tryd.func12 (by kernel_rfl) rfl #[.string (strOfNums (l0.take (x4_1 : Int).toNat))] rfl (by (try simp only [List.map_toArray, List.map_cons, List.map_nil]); first | done | rfl | (simp only [List.length_drop, List.length_take]; rfl)) ?_; (with_reducible refine (joistref06_Right.calls k1 (strOfNums (l0.take (x4_1 : Int).toNat)) false _ A21.out).mono ?_); rintro e w' ⟨rfl, ⟨nd, rfl⟩⟩; refine ⟨_, rfl, ?_⟩))
                  go_ret2
                  exact ⟨by first | rfl | (simp; done) | (simp [*]; done), by repeat (first | exact Drawn0.refl _ | apply Drawn0.step)⟩
            · rw [if_neg c20] at H
              exact absurd H (by simp)
          · rw [if_neg c19] at H
            exact absurd H (by simp)
  · rw [if_neg c2] at H
    have c2b0 : ((l0.length : Int) == 16) = false := beq_eq_false_iff_ne.mpr c2
    have c2b1 : ((l0.length : Int) != 16) = true := bne_iff_ne.mpr c2
    simp only [Option.some.injEq, Prod.mk.injEq] at H
    obtain ⟨rfl, rfl⟩ := H
    go_enter Tryd.func20, Tryd.ntmps20
    go_wp2
    go_ret2
    exact ⟨by first | rfl | (simp; done) | (simp [*]; done), by repeat (first | exact Drawn0.refl _ | apply Drawn0.step)⟩

/-! ### bytes_trimRightByte: function 48 -/
def bytes_trimRightByte.l0 : Nat → List Int → Int → Option (List Int)
  | 0, _, _ => none
  | k + 1, x0, x1 => if (x0.length : Int) > 0 then (if 0 ≤ (wrap64 ((x0.length : Int) - 1)) then (if (wrap64 ((x0.length : Int) - 1)) < (x0.length : Int) then (if (rd x0 (wrap64 ((x0.length : Int) - 1))) = x1 then (if (wrap64 ((x0.length : Int) - 1)) ≤ (x0.length : Int) then (bytes_trimRightByte.l0 k (x0.take ((wrap64 ((x0.length : Int) - 1)) : Int).toNat) x1) else (none)) else (some x0)) else (none)) else (none)) else (some x0)
def bytes_trimRightByte.f (k : Nat) (l0 : List Int) (a1 : Int) : Option (List Int) := bytes_trimRightByte.l0 k l0 a1
theorem bytes_trimRightByte.mono_l : ∀ k, (∀ y0 y1, LeO (bytes_trimRightByte.l0 k y0 y1) (bytes_trimRightByte.l0 (k + 1) y0 y1))
  | 0 => fun _ _ r h => by simp [bytes_trimRightByte.l0] at h
  | k + 1 => by
    have ih0 := bytes_trimRightByte.mono_l k
    · intro y0 y1
      unfold bytes_trimRightByte.l0
      repeat' first
      | (with_reducible exact ih0 _ _)
      | (with_reducible exact LeO.refl _)
      | (with_reducible exact LeO.none _)
      | (with_reducible refine LeO.ite ?_ ?_)
      | (with_reducible refine LeO.bind ?_ (fun _ => ?_))
      | exact LeO.none _
      | refine LeO.ite ?_ ?_
      | refine LeO.bind ?_ (fun _ => ?_)
theorem bytes_trimRightByte.mono : ∀ a0 a1 k, LeO (bytes_trimRightByte.f k a0 a1) (bytes_trimRightByte.f (k + 1) a0 a1) := by
  intro a0 a1 k
  have ih0 := bytes_trimRightByte.mono_l k
  unfold bytes_trimRightByte.f
  repeat' first
      | (with_reducible exact ih0 _ _)
      | (with_reducible exact LeO.refl _)
      | (with_reducible exact LeO.none _)
      | (with_reducible refine LeO.ite ?_ ?_)
      | (with_reducible refine LeO.bind ?_ (fun _ => ?_))
      | exact LeO.none _
      | refine LeO.ite ?_ ?_
      | refine LeO.bind ?_ (fun _ => ?_)
set_option maxHeartbeats 8000000 in
set_option maxRecDepth 100000 in
theorem bytes_trimRightByte.calls (k : Nat) (P0_ : Nat → Prop) (A0 : Option Addr) (c0 : Nat) (l0 : List Int) (a1 : Int) (r : List Int) (w : World) (hs0 : Kd.V (Kd.int .u8) 5 w w.heap.size (fun k_ => P0_ k_) (.slice A0 l0.length c0) l0) (h : bytes_trimRightByte.f k l0 a1 = some r) :
    Calls Tryd.prog 48 #[.slice A0 l0.length c0, .int .u8 a1] w fun e w' => ∃ v0_ : Value, e = .returned (v0_) ∧ Kd.V (Kd.int .u8) 5 w' w.heap.size (fun k_ => (P0_ k_ ∨ w.heap.size ≤ k_)) v0_ r ∧ Below w.heap.size w w' := by
  have HO0 := Aside0.mk (show Kd.V (Kd.int .u8) 5 w w.heap.size (fun k_ => (P0_ k_ ∨ w.heap.size ≤ k_)) (.slice A0 l0.length c0) l0 from Kd.V_mono hs0 (fun k_ hk => .inl hk))
  have HB := Aside0.mk (Below.refl w.heap.size w)
  have H : (bytes_trimRightByte.l0 k l0 a1) = some r := h
  clear h
  have H' := Aside0.mk H
  clear H
  go_enter Tryd.func48, Tryd.ntmps48
  go_wp2
  go_loopg [0] k (fun kq v0 w' => ∃ (x0_1 : List Int), Aside0 (bytes_trimRightByte.l0 kq x0_1 a1 = some r) ∧ Aside0 (kq ≤ k) ∧ Aside0 (Kd.V (Kd.int .u8) 5 w' w.heap.size (fun k_ => (P0_ k_ ∨ w.heap.size ≤ k_)) v0 x0_1) ∧ Aside0 (Below w.heap.size w w'))
  case atStart => exact ⟨(l0), H', ⟨Nat.le_refl _⟩, ⟨by (with_reducible repeat (first | apply Kd.V_alloc | apply Kd.V_drewN | apply Kd.V_drew)); exact HO0.out⟩, ⟨by repeat (first | (with_reducible first | exact HB.out | apply below_alloc | apply pw_below_drewN | apply below_drew1) | exact HB.out)⟩⟩
  case round =>
    clear H'
    try clear p2
    obtain ⟨x0_1, HA, HK1, HO_0, HB⟩ := hrel
    cases gk with
    | zero => exact absurd HA.out (by simp [bytes_trimRightByte.l0])
    | succ k1 =>
      have H := HA.out
      clear HA
      simp only [bytes_trimRightByte.l0] at H
      by_cases c3 : (x0_1.length : Int) > 0
      · rw [if_pos c3] at H
        have c3b0 : decide (0 < (x0_1.length : Int)) = true := decide_eq_true c3
        have c3b1 : decide (0 < x0_1.length) = true := decide_eq_true (by omega)
        clear c3
        obtain ⟨ji4, hji4⟩ : ∃ j_ : Int, (wrap64 ((x0_1.length : Int) - 1)) = j_ := ⟨_, rfl⟩
        replace H : (if 0 ≤ (ji4) then (if (ji4) < (x0_1.length : Int) then (if (rd x0_1 (ji4)) = a1 then (if (ji4) ≤ (x0_1.length : Int) then (bytes_trimRightByte.l0 k1 (x0_1.take ((ji4) : Int).toNat) a1) else (none)) else (some x0_1)) else (none)) else (none)) = some r := by first | (rw [hji4] at H; exact H) | (simp only [hji4] at H ⊢; exact H)
        have hji4w : (IntKind.i64.wrap ((x0_1.length : Int) - 1)) = ji4 := (i64_w _).trans hji4
        by_cases c5 : 0 ≤ (ji4)
        · rw [if_pos c5] at H
          have c5b0 : decide (0 ≤ (ji4)) = true := decide_eq_true c5
          clear c5
          by_cases c6 : (ji4) < (x0_1.length : Int)
          · rw [if_pos c6] at H
            have c6b0 : decide ((ji4) < (x0_1.length : Int)) = true := decide_eq_true c6
            clear c6
            by_cases c7 : (rd x0_1 (ji4)) = a1
            · rw [if_pos c7] at H
              have c7b0 : ((rd x0_1 (ji4)) == a1) = true := beq_iff_eq.mpr c7
              have c7b1 : ((rd x0_1 (ji4)) != a1) = false := bne_eq_false_iff_eq.mpr c7
              clear c7
              have c8b0 := eq_true (of_decide_eq_true (by first | (with_reducible assumption) | assumption) : 0 ≤ (ji4))
              by_cases c9 : (ji4) ≤ (x0_1.length : Int)
              · rw [if_pos c9] at H
                have c9b0 := eq_true c9
                have c9b1 : decide ((ji4) ≤ (x0_1.length : Int)) = true := decide_eq_true c9
                clear c9
                obtain ⟨y221, hy221⟩ : ∃ y_ : List Int, y_ = (x0_1.take ((ji4) : Int).toNat) := ⟨_, rfl⟩
                replace H : (bytes_trimRightByte.l0 k1 y221 a1) = some r := by first | (rw [hy221]; with_reducible exact H) | (have H2_ := (Option.bind_some _ _).symm.trans H; rw [hy221]; with_reducible exact H2_) | (have H2_ := (Option.bind_some _ _).symm.trans H; with_reducible exact H2_) | with_reducible exact H | (rw [hy221]; exact H) | exact H
                have Ny221 := Aside0.mk hy221
                clear hy221
                have H' := Aside0.mk H
                clear H
                obtain ⟨Ao10, co10, eo10⟩ := Kd.V_slice HO_0.out
                subst eo10
                have p220 : 0 ≤ ((ji4) : Int) := of_decide_eq_true (by first | (with_reducible assumption) | assumption)
                have q220 : (ji4) < (x0_1.length : Int) := of_decide_eq_true (by first | (with_reducible assumption) | assumption)
                obtain ⟨ad220, e220, hx220_0⟩ := Kd.at_int (Kd.V_reads' HO_0.out).2.2 (ji4) p220 q220
                cases e220
                replace p220 := eq_true p220
                replace q220 := eq_true q220
                have q11 : ((ji4) : Int) ≤ ((x0_1.length : Int) : Int) := of_decide_eq_true (by first | (with_reducible assumption) | assumption)
                obtain ⟨i011, hi011, _, hsz11, _⟩ := info_parts info5
                have hroom11 : x0_1.length ≤ co10 := (Kd.V_reads' HO_0.out).2.1
                have hC11 : Kd.F (Kd.int .u8) _ _ (some ad220) x0_1.length x0_1 := (Kd.V_at (base := w.heap.size) HO_0.out).2.2
                have hcut11 := cut_to (P := Tryd.prog) 25 5 .i64 Tryd.underlying25 hi011 (some ad220) x0_1.length co10 (ji4) (of_decide_eq_true (by first | (with_reducible assumption) | assumption)) q11 hroom11
                have hr11 := Kd.F_take (m := ((ji4) : Int).toNat) hC11 (by omega)
                have hy11 : y221.length = ((ji4) : Int).toNat := (by rw [Ny221.out, List.length_take]; omega)
                rw [← Ny221.out] at hr11
                rw [← hy11] at hcut11
                have HO225 := Aside0.mk (show Kd.V (Kd.int .u8) 5 _ w.heap.size _ (.slice (some ad220) y221.length co10) y221 from Kd.V_mk (by omega) hr11)
                have HC225 := Aside0.mk (show y221.length ≤ co10 from by omega)
                clear hr11 hC11 hroom11 hi011 hsz11
                have KY11 := Aside0.mk hy11
                clear hy11
                replace q11 := eq_true q11
                go_wp2
                go_roundg k1
                case measure => have := HK1.out; omega
                case rel => exact ⟨(y221), H', ⟨by have := HK1.out; omega⟩, ⟨by (with_reducible repeat (first | apply Kd.V_alloc | apply Kd.V_drewN | apply Kd.V_drew)); exact HO225.out⟩, ⟨by repeat (first | (with_reducible first | exact HB.out | apply below_alloc | apply pw_below_drewN | apply below_drew1) | exact HB.out)⟩⟩
              · rw [if_neg c9] at H
                exact absurd H (by simp)
            · rw [if_neg c7] at H
              have c7b0 : ((rd x0_1 (ji4)) == a1) = false := beq_eq_false_iff_ne.mpr c7
              have c7b1 : ((rd x0_1 (ji4)) != a1) = true := bne_iff_ne.mpr c7
              obtain rfl := Option.some.inj H
              obtain ⟨Ao12, co12, eo12⟩ := Kd.V_slice HO_0.out
              subst eo12
              have p220 : 0 ≤ ((ji4) : Int) := of_decide_eq_true (by first | (with_reducible assumption) | assumption)
              have q220 : (ji4) < (x0_1.length : Int) := of_decide_eq_true (by first | (with_reducible assumption) | assumption)
              obtain ⟨ad220, e220, hx220_0⟩ := Kd.at_int (Kd.V_reads' HO_0.out).2.2 (ji4) p220 q220
              cases e220
              replace p220 := eq_true p220
              replace q220 := eq_true q220
              go_wp2
              go_ret
              exact ⟨_, by first | rfl | (simp [errW_none, errW_some] <;> rfl) | (simp only [← hji4]; first | rfl | (simp [errW_none, errW_some] <;> rfl)) | (simp [*, errW_none, errW_some] <;> rfl), by (with_reducible repeat (first | apply Kd.V_alloc | apply Kd.V_drewN | apply Kd.V_drew)); exact HO_0.out, by repeat (first | (with_reducible first | exact HB.out | apply below_alloc | apply pw_below_drewN | apply below_drew1) | exact HB.out)⟩
          · rw [if_neg c6] at H
            exact absurd H (by simp)
        · rw [if_neg c5] at H
          exact absurd H (by simp)
      · rw [if_neg c3] at H
        have c3b0 : decide (0 < (x0_1.length : Int)) = false := decide_eq_false c3
        have c3b1 : decide (0 < x0_1.length) = false := decide_eq_false (by omega)
        clear c3
        obtain rfl := Option.some.inj H
        obtain ⟨Ao13, co13, eo13⟩ := Kd.V_slice HO_0.out
        subst eo13
        go_wp2
        go_ret
        exact ⟨_, by first | rfl | (simp [errW_none, errW_some] <;> rfl) | (simp [*, errW_none, errW_some] <;> rfl), by (with_reducible repeat (first | apply Kd.V_alloc | apply Kd.V_drewN | apply Kd.V_drew)); exact HO_0.out, by repeat (first | (with_reducible first | exact HB.out | apply below_alloc | apply pw_below_drewN | apply below_drew1) | exact HB.out)⟩

end Go.Proofs.YtlhemachmidoaaaDoor.P
