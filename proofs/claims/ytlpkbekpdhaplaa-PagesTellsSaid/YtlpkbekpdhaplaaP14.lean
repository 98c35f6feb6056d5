-- Printed by wip/tools/pp.py.
import Derived.Test.YtlpkbekpdhaplaaP0
import Derived.Test.YtlpkbekpdhaplaaP10
import Derived.Test.YtlpkbekpdhaplaaP11
import Derived.Test.YtlpkbekpdhaplaaP13
import Derived.Test.YtlpkbekpdhaplaaP8
namespace Go.Proofs.Ytlpkbekpdhaplaa.P
open Go.RowKit Go.Proofs.YtlpkbekpdhaplaaW.PrintWords Go.Proofs.YtlpkbekpdhaplaaW.PrintLast Go.Proofs.YtlpkbekpdhaplaaW.PrintMore
attribute [local go_sem] max2_int min2_int max_two min_two max_three min_three max_four min_four   -- for this text's walks alone
set_option linter.unusedVariables false
set_option linter.unusedSimpArgs false

/-! ### joistref13_taken: function 48 -/
def joistref13_taken.l0 : Nat → List (S44) → Int → Int → Option (Bool)
  | 0, _, _, _ => none
  | k + 1, x0, x1, x5 => if x5 < (x0.length : Int) then (if 0 ≤ x5 then (if ((rd_T44 x0 x5).f0) = x1 then (some true) else (joistref13_taken.l0 k x0 x1 (wrap64 (x5 + 1)))) else (none)) else (some false)
def joistref13_taken.f (k : Nat) (l0 : List (S44)) (a1 : Int) : Option (Bool) := joistref13_taken.l0 k l0 a1 0
theorem joistref13_taken.mono_l : ∀ k, (∀ y0 y1 y2, LeO (joistref13_taken.l0 k y0 y1 y2) (joistref13_taken.l0 (k + 1) y0 y1 y2))
  | 0 => fun _ _ _ r h => by simp [joistref13_taken.l0] at h
  | k + 1 => by
    have ih0 := joistref13_taken.mono_l k
    · intro y0 y1 y2
      unfold joistref13_taken.l0
      repeat' first
      | (with_reducible exact ih0 _ _ _)
      | (with_reducible exact LeO.refl _)
      | (with_reducible exact LeO.none _)
      | (with_reducible refine LeO.ite ?_ ?_)
      | (with_reducible refine LeO.bind ?_ (fun _ => ?_))
      | exact ih0 _ _ _
      | exact LeO.none _
      | refine LeO.ite ?_ ?_
      | refine LeO.bind ?_ (fun _ => ?_)
theorem joistref13_taken.mono : ∀ a0 a1 k, LeO (joistref13_taken.f k a0 a1) (joistref13_taken.f (k + 1) a0 a1) := by
  intro a0 a1 k
  have ih0 := joistref13_taken.mono_l k
  unfold joistref13_taken.f
  repeat' first
      | (with_reducible exact ih0 _ _ _)
      | (with_reducible exact LeO.refl _)
      | (with_reducible exact LeO.none _)
      | (with_reducible refine LeO.ite ?_ ?_)
      | (with_reducible refine LeO.bind ?_ (fun _ => ?_))
      | exact ih0 _ _ _
      | exact LeO.none _
      | refine LeO.ite ?_ ?_
      | refine LeO.bind ?_ (fun _ => ?_)
set_option maxHeartbeats 8000000 in
set_option maxRecDepth 100000 in
theorem joistref13_taken.calls (k : Nat) (A0 : Option Addr) (c0 : Nat) (l0 : List (S44)) (a1 : Int) (r : Bool) (w : World) (hr0 : Kd.C k44 w A0 l0.length l0) (hc0 : l0.length ≤ c0) (h : joistref13_taken.f k l0 a1 = some r) :
    Calls Try.prog 48 #[.slice A0 l0.length c0, .int .i64 a1] w fun e w' => e = .returned (.bool r) ∧ Drawn0 w w' := by
  have HR0 := Aside0.mk hr0
  have HC0 := Aside0.mk hc0
  clear hr0 hc0
  have H : (joistref13_taken.l0 k l0 a1 0) = some r := h
  clear h
  have H' := Aside0.mk H
  clear H
  go_enter Try.func48, Try.ntmps48
  go_wp2
  go_loopg [5] k (fun kq v5 w' => ∃ (x5_1 : Int), v5 = .int .i64 x5_1 ∧ Aside0 (joistref13_taken.l0 kq l0 a1 x5_1 = some r) ∧ Aside0 (kq ≤ k) ∧ Drawn0 w w')
  case atStart => exact ⟨(0), (by first | rfl | (simp; done) | (simp [*]; done)), H', ⟨Nat.le_refl _⟩, by repeat (first | exact Drawn0.refl _ | apply Drawn0.step)⟩
  case round =>
    clear H'
    try clear p2
    obtain ⟨x5_1, rfl, HA, HK1, ⟨m1, rfl⟩⟩ := hrel
    cases gk with
    | zero => exact absurd HA.out (by simp [joistref13_taken.l0])
    | succ k1 =>
      have H := HA.out
      clear HA
      simp only [joistref13_taken.l0] at H
      by_cases c3 : x5_1 < (l0.length : Int)
      · rw [if_pos c3] at H
        have c3b0 : decide (x5_1 < (l0.length : Int)) = true := decide_eq_true c3
        clear c3
        by_cases c4 : 0 ≤ x5_1
        · rw [if_pos c4] at H
          have c4b0 : decide (0 ≤ x5_1) = true := decide_eq_true c4
          clear c4
          by_cases c5 : ((rd_T44 l0 x5_1).f0) = a1
          · rw [if_pos c5] at H
            have c5b0 : (((rd_T44 l0 x5_1).f0) == a1) = true := beq_iff_eq.mpr c5
            have c5b1 : (((rd_T44 l0 x5_1).f0) != a1) = false := bne_eq_false_iff_eq.mpr c5
            clear c5
            obtain rfl := Option.some.inj H
            have p265 : 0 ≤ (x5_1 : Int) := of_decide_eq_true (by first | (with_reducible assumption) | assumption)
            have q265 : x5_1 < (l0.length : Int) := of_decide_eq_true (by first | (with_reducible assumption) | assumption)
            obtain ⟨ad265, e265, hx265_0, hx265_1⟩ := at_T44 HR0.out x5_1 p265 q265
            cases e265
            replace p265 := eq_true p265
            replace q265 := eq_true q265
            go_wp2
            go_ret
            exact ⟨by first | rfl | (simp; done) | (simp [*]; done), by repeat (first | exact Drawn0.refl _ | apply Drawn0.step)⟩
          · rw [if_neg c5] at H
            have c5b0 : (((rd_T44 l0 x5_1).f0) == a1) = false := beq_eq_false_iff_ne.mpr c5
            have c5b1 : (((rd_T44 l0 x5_1).f0) != a1) = true := bne_iff_ne.mpr c5
            have H' := Aside0.mk H
            clear H
            have p265 : 0 ≤ (x5_1 : Int) := of_decide_eq_true (by first | (with_reducible assumption) | assumption)
            have q265 : x5_1 < (l0.length : Int) := of_decide_eq_true (by first | (with_reducible assumption) | assumption)
            obtain ⟨ad265, e265, hx265_0, hx265_1⟩ := at_T44 HR0.out x5_1 p265 q265
            cases e265
            replace p265 := eq_true p265
            replace q265 := eq_true q265
            go_wp2
            go_roundg k1
            case measure => have := HK1.out; omega
            case rel => exact ⟨(wrap64 (x5_1 + 1)), (by first | rfl | (simp; done) | (simp [*]; done)), H', ⟨by have := HK1.out; omega⟩, by repeat (first | exact Drawn0.refl _ | apply Drawn0.step)⟩
        · rw [if_neg c4] at H
          exact absurd H (by simp)
      · rw [if_neg c3] at H
        have c3b0 : decide (x5_1 < (l0.length : Int)) = false := decide_eq_false c3
        clear c3
        obtain rfl := Option.some.inj H
        go_wp2
        go_ret
        exact ⟨by first | rfl | (simp; done) | (simp [*]; done), by repeat (first | exact Drawn0.refl _ | apply Drawn0.step)⟩

/-! ### joistref13_Place: function 36 -/
mutual
def joistref13_Place.l0 : Nat → Int → List (S44) → List Int → Int → Int → Int → Option (Int × Bool)
  | 0, _, _, _, _, _, _ => none
  | k + 1, x0, x1, x8, x10, x16, x18 => if x18 < x0 then (joistref13_Place.l1 k x0 x1 x8 x10 x16 x18 0) else (joistref13_Place.l2 k x0 x8 x10 0)
def joistref13_Place.l1 : Nat → Int → List (S44) → List Int → Int → Int → Int → Int → Option (Int × Bool)
  | 0, _, _, _, _, _, _, _ => none
  | k + 1, x0, x1, x8, x10, x16, x18, x19 => if x19 < x16 then (if 0 ≤ x18 then (if x18 < (x8.length : Int) then (joistref13_Place.j2 k x0 x1 x8 x10 x16 x18 x19 ((rd x8 x18) == x10)) else (none)) else (none)) else (joistref13_Place.j2 k x0 x1 x8 x10 x16 x18 x19 false)
def joistref13_Place.j2 : Nat → Int → List (S44) → List Int → Int → Int → Int → Int → Bool → Option (Int × Bool)
  | 0, _, _, _, _, _, _, _, _ => none
  | k + 1, x0, x1, x8, x10, x16, x18, x19, x79 => if x79 = true then ((joistref12_Cell.f x10 x19).bind fun bt279 => ((joistref13_taken.f k x1 (wrap64 ((wrap64 (32 * x18)) + bt279.1))).bind fun t281 => (if t281 = true then (joistref13_Place.l1 k x0 x1 x8 x10 x16 x18 (wrap64 (x19 + 1))) else (some (wrap64 ((wrap64 (32 * x18)) + bt279.1), true))))) else (joistref13_Place.l0 k x0 x1 x8 x10 x16 (wrap64 (x18 + 1)))
def joistref13_Place.l2 : Nat → Int → List Int → Int → Int → Option (Int × Bool)
  | 0, _, _, _, _ => none
  | k + 1, x0, x8, x10, x23 => if x23 < x0 then (if 0 ≤ x23 then (if x23 < (x8.length : Int) then (if (rd x8 x23) = (-1) then ((joistref12_Cell.f x10 0).bind fun bt283 => (some (wrap64 ((wrap64 (32 * x23)) + bt283.1), true))) else (joistref13_Place.l2 k x0 x8 x10 (wrap64 (x23 + 1)))) else (none)) else (none)) else (some (0, false))
end
def joistref13_Place.f (k : Nat) (a0 : Int) (l1 : List (S44)) (a2 : Int) : Option (Int × Bool) := (joistref13_Kinds.f k a0 l1).bind fun bt266 => (if bt266.2 = true then ((joistref12_Of.f k a2).bind fun bt270 => (if bt270.2 = true then ((joistref12_Cells.f bt270.1).bind fun bt276 => (joistref13_Place.l0 k a0 l1 bt266.1 bt270.1 bt276.1 0)) else ((joistref12_Pages.f a2).bind fun bt272 => ((joistref13_Best.f k bt266.1 bt272.1).bind fun bt274 => (if bt274.2 = true then (some (wrap64 (32 * bt274.1), (bt272.2 == 0))) else (some (wrap64 (32 * bt274.1), false))))))) else (some (0, false)))
theorem joistref13_Place.mono_l : ∀ k, (∀ y0 y1 y2 y3 y4 y5, LeO (joistref13_Place.l0 k y0 y1 y2 y3 y4 y5) (joistref13_Place.l0 (k + 1) y0 y1 y2 y3 y4 y5)) ∧ (∀ y0 y1 y2 y3 y4 y5 y6, LeO (joistref13_Place.l1 k y0 y1 y2 y3 y4 y5 y6) (joistref13_Place.l1 (k + 1) y0 y1 y2 y3 y4 y5 y6)) ∧ (∀ y0 y1 y2 y3 y4 y5 y6 y7, LeO (joistref13_Place.j2 k y0 y1 y2 y3 y4 y5 y6 y7) (joistref13_Place.j2 (k + 1) y0 y1 y2 y3 y4 y5 y6 y7)) ∧ (∀ y0 y1 y2 y3, LeO (joistref13_Place.l2 k y0 y1 y2 y3) (joistref13_Place.l2 (k + 1) y0 y1 y2 y3))
  | 0 => ⟨fun _ _ _ _ _ _ r h => by simp [joistref13_Place.l0] at h, fun _ _ _ _ _ _ _ r h => by simp [joistref13_Place.l1] at h, fun _ _ _ _ _ _ _ _ r h => by simp [joistref13_Place.j2] at h, fun _ _ _ _ r h => by simp [joistref13_Place.l2] at h⟩
  | k + 1 => by
    obtain ⟨ih0, ih1, ih2, ih3⟩ := joistref13_Place.mono_l k
    refine ⟨?_, ?_, ?_, ?_⟩
    · intro y0 y1 y2 y3 y4 y5
      unfold joistref13_Place.l0
      repeat' first
      | (with_reducible exact ih0 _ _ _ _ _ _)
      | (with_reducible exact ih1 _ _ _ _ _ _ _)
      | (with_reducible exact ih2 _ _ _ _ _ _ _ _)
      | (with_reducible exact ih3 _ _ _ _)
      | (with_reducible exact joistref12_Of.mono _ _)
      | (with_reducible exact joistref13_Best.mono _ _ _)
      | (with_reducible exact joistref13_Kinds.mono _ _ _)
      | (with_reducible exact joistref13_taken.mono _ _ _)
      | (with_reducible exact LeO.refl _)
      | (with_reducible exact LeO.none _)
      | (with_reducible refine LeO.ite ?_ ?_)
      | (with_reducible refine LeO.bind ?_ (fun _ => ?_))
      | exact ih0 _ _ _ _ _ _
      | exact ih1 _ _ _ _ _ _ _
      | exact ih2 _ _ _ _ _ _ _ _
      | exact ih3 _ _ _ _
      | exact joistref12_Of.mono _ _
      | exact joistref13_Best.mono _ _ _
      | exact joistref13_Kinds.mono _ _ _
      | exact joistref13_taken.mono _ _ _
      | exact LeO.none _
      | refine LeO.ite ?_ ?_
      | refine LeO.bind ?_ (fun _ => ?_)
    · intro y0 y1 y2 y3 y4 y5 y6
      unfold joistref13_Place.l1
      repeat' first
      | (with_reducible exact ih0 _ _ _ _ _ _)
      | (with_reducible exact ih1 _ _ _ _ _ _ _)
      | (with_reducible exact ih2 _ _ _ _ _ _ _ _)
      | (with_reducible exact ih3 _ _ _ _)
      | (with_reducible exact joistref12_Of.mono _ _)
      | (with_reducible exact joistref13_Best.mono _ _ _)
      | (with_reducible exact joistref13_Kinds.mono _ _ _)
      | (with_reducible exact joistref13_taken.mono _ _ _)
      | (with_reducible exact LeO.refl _)
      | (with_reducible exact LeO.none _)
      | (with_reducible refine LeO.ite ?_ ?_)
      | (with_reducible refine LeO.bind ?_ (fun _ => ?_))
      | exact ih0 _ _ _ _ _ _
      | exact ih1 _ _ _ _ _ _ _
      | exact ih2 _ _ _ _ _ _ _ _
      | exact ih3 _ _ _ _
      | exact joistref12_Of.mono _ _
      | exact joistref13_Best.mono _ _ _
      | exact joistref13_Kinds.mono _ _ _
      | exact joistref13_taken.mono _ _ _
      | exact LeO.none _
      | refine LeO.ite ?_ ?_
      | refine LeO.bind ?_ (fun _ => ?_)
    · intro y0 y1 y2 y3 y4 y5 y6 y7
      unfold joistref13_Place.j2
      repeat' first
      | (with_reducible exact ih0 _ _ _ _ _ _)
      | (with_reducible exact ih1 _ _ _ _ _ _ _)
      | (with_reducible exact ih2 _ _ _ _ _ _ _ _)
      | (with_reducible exact ih3 _ _ _ _)
      | (with_reducible exact joistref12_Of.mono _ _)
      | (with_reducible exact joistref13_Best.mono _ _ _)
      | (with_reducible exact joistref13_Kinds.mono _ _ _)
      | (with_reducible exact joistref13_taken.mono _ _ _)
      | (with_reducible exact LeO.refl _)
      | (with_reducible exact LeO.none _)
      | (with_reducible refine LeO.ite ?_ ?_)
      | (with_reducible refine LeO.bind ?_ (fun _ => ?_))
      | exact ih0 _ _ _ _ _ _
      | exact ih1 _ _ _ _ _ _ _
      | exact ih2 _ _ _ _ _ _ _ _
      | exact ih3 _ _ _ _
      | exact joistref12_Of.mono _ _
      | exact joistref13_Best.mono _ _ _
      | exact joistref13_Kinds.mono _ _ _
      | exact joistref13_taken.mono _ _ _
      | exact LeO.none _
      | refine LeO.ite ?_ ?_
      | refine LeO.bind ?_ (fun _ => ?_)
    · intro y0 y1 y2 y3
      unfold joistref13_Place.l2
      repeat' first
      | (with_reducible exact ih0 _ _ _ _ _ _)
      | (with_reducible exact ih1 _ _ _ _ _ _ _)
      | (with_reducible exact ih2 _ _ _ _ _ _ _ _)
      | (with_reducible exact ih3 _ _ _ _)
      | (with_reducible exact joistref12_Of.mono _ _)
      | (with_reducible exact joistref13_Best.mono _ _ _)
      | (with_reducible exact joistref13_Kinds.mono _ _ _)
      | (with_reducible exact joistref13_taken.mono _ _ _)
      | (with_reducible exact LeO.refl _)
      | (with_reducible exact LeO.none _)
      | (with_reducible refine LeO.ite ?_ ?_)
      | (with_reducible refine LeO.bind ?_ (fun _ => ?_))
      | exact ih0 _ _ _ _ _ _
      | exact ih1 _ _ _ _ _ _ _
      | exact ih2 _ _ _ _ _ _ _ _
      | exact ih3 _ _ _ _
      | exact joistref12_Of.mono _ _
      | exact joistref13_Best.mono _ _ _
      | exact joistref13_Kinds.mono _ _ _
      | exact joistref13_taken.mono _ _ _
      | exact LeO.none _
      | refine LeO.ite ?_ ?_
      | refine LeO.bind ?_ (fun _ => ?_)
theorem joistref13_Place.mono : ∀ a0 a1 a2 k, LeO (joistref13_Place.f k a0 a1 a2) (joistref13_Place.f (k + 1) a0 a1 a2) := by
  intro a0 a1 a2 k
  obtain ⟨ih0, ih1, ih2, ih3⟩ := joistref13_Place.mono_l k
  unfold joistref13_Place.f
  repeat' first
      | (with_reducible exact ih0 _ _ _ _ _ _)
      | (with_reducible exact ih1 _ _ _ _ _ _ _)
      | (with_reducible exact ih2 _ _ _ _ _ _ _ _)
      | (with_reducible exact ih3 _ _ _ _)
      | (with_reducible exact joistref12_Of.mono _ _)
      | (with_reducible exact joistref13_Best.mono _ _ _)
      | (with_reducible exact joistref13_Kinds.mono _ _ _)
      | (with_reducible exact joistref13_taken.mono _ _ _)
      | (with_reducible exact LeO.refl _)
      | (with_reducible exact LeO.none _)
      | (with_reducible refine LeO.ite ?_ ?_)
      | (with_reducible refine LeO.bind ?_ (fun _ => ?_))
      | exact ih0 _ _ _ _ _ _
      | exact ih1 _ _ _ _ _ _ _
      | exact ih2 _ _ _ _ _ _ _ _
      | exact ih3 _ _ _ _
      | exact joistref12_Of.mono _ _
      | exact joistref13_Best.mono _ _ _
      | exact joistref13_Kinds.mono _ _ _
      | exact joistref13_taken.mono _ _ _
      | exact LeO.none _
      | refine LeO.ite ?_ ?_
      | refine LeO.bind ?_ (fun _ => ?_)
set_option maxHeartbeats 8000000 in
set_option maxRecDepth 100000 in
theorem joistref13_Place.calls (k : Nat) (a0 : Int) (A1 : Option Addr) (c1 : Nat) (l1 : List (S44)) (a2 : Int) (r1 : Int) (r2 : Bool) (w : World) (hr1 : Kd.C k44 w A1 l1.length l1) (hc1 : l1.length ≤ c1) (h : joistref13_Place.f k a0 l1 a2 = some (r1, r2)) :
    Calls Try.prog 36 #[.int .i64 a0, .slice A1 l1.length c1, .int .i64 a2] w fun e w' => e = .returned (.tuple #[.int .i64 r1, .bool r2]) ∧ Below w.heap.size w w' := by
  have HR1 := Aside0.mk hr1
  have HC1 := Aside0.mk hc1
  clear hr1 hc1
  have HB := Aside0.mk (Below.refl w.heap.size w)
  have H : ((joistref13_Kinds.f k a0 l1).bind fun bt266 => (if bt266.2 = true then ((joistref12_Of.f k a2).bind fun bt270 => (if bt270.2 = true then ((joistref12_Cells.f bt270.1).bind fun bt276 => (joistref13_Place.l0 k a0 l1 bt266.1 bt270.1 bt276.1 0)) else ((joistref12_Pages.f a2).bind fun bt272 => ((joistref13_Best.f k bt266.1 bt272.1).bind fun bt274 => (if bt274.2 = true then (some (wrap64 (32 * bt274.1), (bt272.2 == 0))) else (some (wrap64 (32 * bt274.1), false))))))) else (some (0, false)))) = some (r1, r2) := h
  clear h
  replace H := Option.bind_eq_some_iff.mp H
  obtain ⟨⟨t266, t267⟩, A40, H⟩ := H
  replace H : (if t267 = true then ((joistref12_Of.f k a2).bind fun bt270 => (if bt270.2 = true then ((joistref12_Cells.f bt270.1).bind fun bt276 => (joistref13_Place.l0 k a0 l1 t266 bt270.1 bt276.1 0)) else ((joistref12_Pages.f a2).bind fun bt272 => ((joistref13_Best.f k t266 bt272.1).bind fun bt274 => (if bt274.2 = true then (some (wrap64 (32 * bt274.1), (bt272.2 == 0))) else (some (wrap64 (32 * bt274.1), false))))))) else (some (0, false))) = some (r1, r2) := H
  have A4 := Aside0.mk A40
  clear A40
  by_cases c5 : t267 = true
  · subst c5
    have H1 : ((joistref12_Of.f k a2).bind fun bt270 => (if bt270.2 = true then ((joistref12_Cells.f bt270.1).bind fun bt276 => (joistref13_Place.l0 k a0 l1 t266 bt270.1 bt276.1 0)) else ((joistref12_Pages.f a2).bind fun bt272 => ((joistref13_Best.f k t266 bt272.1).bind fun bt274 => (if bt274.2 = true then (some (wrap64 (32 * bt274.1), (bt272.2 == 0))) else (some (wrap64 (32 * bt274.1), false))))))) = some (r1, r2) := by rw [if_pos rfl] at H; exact H
    clear H
    have H := H1
    clear H1
    replace H := Option.bind_eq_some_iff.mp H
    obtain ⟨⟨t270, t271⟩, A60, H⟩ := H
    replace H : (if t271 = true then ((joistref12_Cells.f t270).bind fun bt276 => (joistref13_Place.l0 k a0 l1 t266 t270 bt276.1 0)) else ((joistref12_Pages.f a2).bind fun bt272 => ((joistref13_Best.f k t266 bt272.1).bind fun bt274 => (if bt274.2 = true then (some (wrap64 (32 * bt274.1), (bt272.2 == 0))) else (some (wrap64 (32 * bt274.1), false)))))) = some (r1, r2) := H
    have A6 := Aside0.mk A60
    clear A60
    by_cases c7 : t271 = true
    · subst c7
      have H1 : ((joistref12_Cells.f t270).bind fun bt276 => (joistref13_Place.l0 k a0 l1 t266 t270 bt276.1 0)) = some (r1, r2) := by rw [if_pos rfl] at H; exact H
      clear H
      have H := H1
      clear H1
      replace H := Option.bind_eq_some_iff.mp H
      obtain ⟨⟨t276, t277⟩, A80, H⟩ := H
      replace H : (joistref13_Place.l0 k a0 l1 t266 t270 t276 0) = some (r1, r2) := H
      have A8 := Aside0.mk A80
      clear A80
      have H' := Aside0.mk H
      clear H
      go_enter Try.func36, Try.ntmps36
      go_wp2_with (first | ((with_reducible refine gate_callee (f := 35) rfl ?_); refine goesL_ (some 29) rfl rfl Try.func35 (by kernel_rfl) rfl #[.int .i64 a0, .slice A1 l1.length c1] rfl (by (try simp only [List.map_toArray, List.map_cons, List.map_nil]); first | done | rfl | (simp only [List.length_drop, List.length_take]; rfl)) ?_; (with_reducible refine (joistref13_Kinds.calls k a0 _ _ l1 t266 true _ ?side1 ?side2 A4.out).mono ?_); (case side1 => repeat (first | exact HR1.out | (with_reducible refine Kd.C_alloc ?_ _) | (with_reducible refine Kd.C_drewN ?_ _) | (with_reducible refine Kd.C_drew ?_))); (case side2 => exact HC1.out); rintro e w9 ⟨v268, rfl, ho0, hb⟩; refine ⟨_, rfl, ?_⟩; have n0_ := Aside0.mk (Kd.R_lower ho0 (below_size (by repeat (first | (with_reducible first | exact HB.out | apply below_alloc | apply pw_below_drewN | apply below_drew1) | exact HB.out)))); have n1_ := Aside0.mk (below_step (by repeat (first | (with_reducible first | exact HB.out | apply below_alloc | apply pw_below_drewN | apply below_drew1) | exact HB.out)) hb); clear HB; have HO269 := n0_; have HB := n1_; clear n0_ n1_; (try clear hb); (try clear hb2); (try clear hk); (try clear hi); (try clear ho0)) | ((with_reducible refine gate_callee (f := 16) rfl ?_); refine goesL_ (some 36) rfl rfl Try.func16 (by kernel_rfl) rfl #[.int .i64 a2] rfl (by (try simp only [List.map_toArray, List.map_cons, List.map_nil]); first | done | rfl | (simp only [List.length_drop, List.length_take]; rfl)) ?_; (with_reducible refine (joistref12_Of.calls k a2 t270 true _ A6.out).mono ?_); rintro e w10 ⟨rfl, hb⟩; refine ⟨_, rfl, ?_⟩; have n0_ := Aside0.mk (Kd.R_below (by (with_reducible repeat (first | apply Kd.R_alloc | apply Kd.R_drewN | apply Kd.R_drew)); exact HO269.out) hb); have n1_ := Aside0.mk (below_step (by repeat (first | (with_reducible first | exact HB.out | apply below_alloc | apply pw_below_drewN | apply below_drew1) | exact HB.out)) hb); clear HO269; clear HB; have HO269 := n0_; have HB := n1_; clear n0_ n1_; (try clear hb); (try clear hb2); (try clear hk); (try clear hi)) | ((with_reducible refine gate_callee (f := 20) rfl ?_); refine goesL_ (some 61) rfl rfl Try.func20 (by kernel_rfl) rfl #[.int .i64 t270] rfl (by (try simp only [List.map_toArray, List.map_cons, List.map_nil]); first | done | rfl | (simp only [List.length_drop, List.length_take]; rfl)) ?_; (with_reducible refine (joistref12_Cells.calls t270 t276 t277 _ A8.out).mono ?_); rintro e w11 ⟨rfl, hb⟩; refine ⟨_, rfl, ?_⟩; have n0_ := Aside0.mk (Kd.R_below (by (with_reducible repeat (first | apply Kd.R_alloc | apply Kd.R_drewN | apply Kd.R_drew)); exact HO269.out) hb); have n1_ := Aside0.mk (below_step (by repeat (first | (with_reducible first | exact HB.out | apply below_alloc | apply pw_below_drewN | apply below_drew1) | exact HB.out)) hb); clear HO269; clear HB; have HO269 := n0_; have HB := n1_; clear n0_ n1_; (try clear hb); (try clear hb2); (try clear hk); (try clear hi)))
      go_loopg [18] k (fun kq v18 w' => ∃ (x18_1 : Int), v18 = .int .i64 x18_1 ∧ Aside0 (joistref13_Place.l0 kq a0 l1 t266 t270 t276 x18_1 = some (r1, r2)) ∧ Aside0 (kq ≤ k) ∧ Aside0 (Kd.R (Kd.int .i64) 3 w' w.heap.size (fun _ => True) v268 t266) ∧ Aside0 (Below w.heap.size w w'))
      case atStart => exact ⟨(0), (by first | rfl | (simp; done) | (simp [*]; done)), H', ⟨Nat.le_refl _⟩, ⟨by (with_reducible repeat (first | apply Kd.R_alloc | apply Kd.R_drewN | apply Kd.R_drew)); exact HO269.out⟩, ⟨by repeat (first | (with_reducible first | exact HB.out | apply below_alloc | apply pw_below_drewN | apply below_drew1) | exact HB.out)⟩⟩
      case round =>
        clear H'
        try clear c1
        try clear c2
        try clear p2
        try clear c3
        try clear c5
        try clear p6
        try clear c7
        obtain ⟨x18_1, rfl, HA, HK1, HO_8, HB⟩ := hrel
        cases gk with
        | zero => exact absurd HA.out (by simp [joistref13_Place.l0])
        | succ k1 =>
          have H := HA.out
          clear HA
          simp only [joistref13_Place.l0] at H
          by_cases c12 : x18_1 < a0
          · rw [if_pos c12] at H
            have c12b0 : decide (x18_1 < a0) = true := decide_eq_true c12
            clear c12
            have H' := Aside0.mk H
            clear H
            go_wp2
            go_loopg [19] k1 (fun kq v19 w' => ∃ (x19_2 : Int), v19 = .int .i64 x19_2 ∧ Aside0 (joistref13_Place.l1 kq a0 l1 t266 t270 t276 x18_1 x19_2 = some (r1, r2)) ∧ Aside0 (kq ≤ k1) ∧ Aside0 (Kd.R (Kd.int .i64) 3 w' w.heap.size (fun _ => True) v268 t266) ∧ Aside0 (Below w.heap.size w w'))
            case atStart => exact ⟨(0), (by first | rfl | (simp; done) | (simp [*]; done)), H', ⟨Nat.le_refl _⟩, ⟨by (with_reducible repeat (first | apply Kd.R_alloc | apply Kd.R_drewN | apply Kd.R_drew)); exact HO_8.out⟩, ⟨by repeat (first | (with_reducible first | exact HB.out | apply below_alloc | apply pw_below_drewN | apply below_drew1) | exact HB.out)⟩⟩
            case round =>
              clear H'
              try clear c1
              try clear c2
              try clear p2
              try clear c3
              try clear c5
              try clear p6
              try clear c7
              try clear c12
              try clear c12b0
              try clear p2
              try clear p6
              obtain ⟨x19_2, rfl, HA, HK2, HO_8, HB⟩ := hrel
              cases gk with
              | zero => exact absurd HA.out (by simp [joistref13_Place.l1])
              | succ k2 =>
                have H := HA.out
                clear HA
                simp only [joistref13_Place.l1] at H
                have HC13 := Aside0.mk H
                clear H
                go_upto_region 14 with (fail)
                go_cut [79] (fun v79 wc => ∃ (kq : Nat) (x79_12 : Bool), v79 = .bool x79_12 ∧ Aside0 (joistref13_Place.j2 kq a0 l1 t266 t270 t276 x18_1 x19_2 x79_12 = some (r1, r2)) ∧ Aside0 (kq ≤ k2) ∧ Aside0 (Kd.R (Kd.int .i64) 3 wc w.heap.size (fun _ => True) v268 t266) ∧ Aside0 (Below w.heap.size w wc))
                case first =>
                  have H := HC13.out
                  clear HC13
                  by_cases c14 : x19_2 < t276
                  · rw [if_pos c14] at H
                    have c14b0 : decide (x19_2 < t276) = true := decide_eq_true c14
                    clear c14
                    (first | rw [c14b0] | (simp only [i64_w, i32_w]; rw [c14b0]) | skip)
                    by_cases c15 : 0 ≤ x18_1
                    · rw [if_pos c15] at H
                      have c15b0 : decide (0 ≤ x18_1) = true := decide_eq_true c15
                      clear c15
                      by_cases c16 : x18_1 < (t266.length : Int)
                      · rw [if_pos c16] at H
                        have c16b0 : decide (x18_1 < (t266.length : Int)) = true := decide_eq_true c16
                        clear c16
                        have H' := Aside0.mk H
                        clear H
                        obtain ⟨Ao17, co17, eo17⟩ := Kd.R_slice HO_8.out
                        subst eo17
                        have p278 : 0 ≤ (x18_1 : Int) := of_decide_eq_true (by first | (with_reducible assumption) | assumption)
                        have q278 : x18_1 < (t266.length : Int) := of_decide_eq_true (by first | (with_reducible assumption) | assumption)
                        obtain ⟨ad278, e278, hx278_0⟩ := Kd.at_int (Kd.R_reads' HO_8.out).2.2 x18_1 p278 q278
                        cases e278
                        replace p278 := eq_true p278
                        replace q278 := eq_true q278
                        go_wp2
                        go_meet
                        case rel => exact ⟨_, (((rd t266 x18_1) == t270)), (by first | rfl | (simp; done) | (simp [*]; done)), H', ⟨by have := HK1.out; have := HK2.out; first | omega | exact Nat.le_refl _⟩, ⟨by (with_reducible repeat (first | apply Kd.R_alloc | apply Kd.R_drewN | apply Kd.R_drew)); exact HO_8.out⟩, ⟨by repeat (first | (with_reducible first | exact HB.out | apply below_alloc | apply pw_below_drewN | apply below_drew1) | exact HB.out)⟩⟩
                      · rw [if_neg c16] at H
                        exact absurd H (by simp)
                    · rw [if_neg c15] at H
                      exact absurd H (by simp)
                  · rw [if_neg c14] at H
                    have c14b0 : decide (x19_2 < t276) = false := decide_eq_false c14
                    clear c14
                    (first | rw [c14b0] | (simp only [i64_w, i32_w]; rw [c14b0]) | skip)
                    have H' := Aside0.mk H
                    clear H
                    go_wp2
                    go_meet
                    case rel => exact ⟨_, (false), (by first | rfl | (simp; done) | (simp [*]; done)), H', ⟨by have := HK1.out; have := HK2.out; first | omega | exact Nat.le_refl _⟩, ⟨by (with_reducible repeat (first | apply Kd.R_alloc | apply Kd.R_drewN | apply Kd.R_drew)); exact HO_8.out⟩, ⟨by repeat (first | (with_reducible first | exact HB.out | apply below_alloc | apply pw_below_drewN | apply below_drew1) | exact HB.out)⟩⟩
                case rest =>
                  clear HC13
                  try clear c1
                  try clear c2
                  try clear p2
                  try clear q2
                  try clear hx2
                  try clear c3
                  try clear c5
                  try clear p6
                  try clear c7
                  try clear c12
                  try clear c12b0
                  try clear c14
                  try clear c14b0
                  try clear c15
                  try clear c15b0
                  try clear c16
                  try clear c16b0
                  try clear hx278_0
                  try clear p2
                  try clear p278
                  try clear p6
                  try clear q278
                  obtain ⟨kq, x79_12, rfl, HA, HJ12, HO_8, HB⟩ := hcut
                  cases kq with
                  | zero => exact absurd HA.out (by simp [joistref13_Place.j2])
                  | succ kj12 =>
                    have H := HA.out
                    clear HA
                    simp only [joistref13_Place.j2] at H
                    by_cases c18 : x79_12 = true
                    · subst c18
                      have H1 : ((joistref12_Cell.f t270 x19_2).bind fun bt279 => ((joistref13_taken.f kj12 l1 (wrap64 ((wrap64 (32 * x18_1)) + bt279.1))).bind fun t281 => (if t281 = true then (joistref13_Place.l1 kj12 a0 l1 t266 t270 t276 x18_1 (wrap64 (x19_2 + 1))) else (some (wrap64 ((wrap64 (32 * x18_1)) + bt279.1), true))))) = some (r1, r2) := by rw [if_pos rfl] at H; exact H
                      clear H
                      have H := H1
                      clear H1
                      replace H := Option.bind_eq_some_iff.mp H
                      obtain ⟨⟨t279, t280⟩, A190, H⟩ := H
                      replace H : ((joistref13_taken.f kj12 l1 (wrap64 ((wrap64 (32 * x18_1)) + t279))).bind fun t281 => (if t281 = true then (joistref13_Place.l1 kj12 a0 l1 t266 t270 t276 x18_1 (wrap64 (x19_2 + 1))) else (some (wrap64 ((wrap64 (32 * x18_1)) + t279), true)))) = some (r1, r2) := H
                      have A19 := Aside0.mk A190
                      clear A190
                      replace H := Option.bind_eq_some_iff.mp H
                      obtain ⟨t281, A200, H⟩ := H
                      replace H : (if t281 = true then (joistref13_Place.l1 kj12 a0 l1 t266 t270 t276 x18_1 (wrap64 (x19_2 + 1))) else (some (wrap64 ((wrap64 (32 * x18_1)) + t279), true))) = some (r1, r2) := H
                      have A20 := Aside0.mk A200
                      clear A200
                      by_cases c21 : t281 = true
                      · subst c21
                        have H1 : (joistref13_Place.l1 kj12 a0 l1 t266 t270 t276 x18_1 (wrap64 (x19_2 + 1))) = some (r1, r2) := by rw [if_pos rfl] at H; exact H
                        clear H
                        have H := H1
                        clear H1
                        have H' := Aside0.mk H
                        clear H
                        go_wp2_with (first | ((with_reducible refine gate_callee (f := 24) rfl ?_); refine goesL_ (some 85) rfl rfl Try.func24 (by kernel_rfl) rfl #[.int .i64 t270, .int .i64 x19_2] rfl (by (try simp only [List.map_toArray, List.map_cons, List.map_nil]); first | done | rfl | (simp only [List.length_drop, List.length_take]; rfl)) ?_; (with_reducible refine (joistref12_Cell.calls t270 x19_2 t279 t280 _ A19.out).mono ?_); rintro e w22 ⟨rfl, hb⟩; refine ⟨_, rfl, ?_⟩; have n0_ := Aside0.mk (Kd.R_below (by (with_reducible repeat (first | apply Kd.R_alloc | apply Kd.R_drewN | apply Kd.R_drew)); exact HO_8.out) hb); have n1_ := Aside0.mk (below_step (by repeat (first | (with_reducible first | exact HB.out | apply below_alloc | apply pw_below_drewN | apply below_drew1) | exact HB.out)) hb); clear HO_8; clear HB; have HO_8 := n0_; have HB := n1_; clear n0_ n1_; (try clear hb); (try clear hb2); (try clear hk); (try clear hi)) | ((with_reducible refine gate_callee (f := 48) rfl ?_); refine goesL_ (some 93) rfl rfl Try.func48 (by kernel_rfl) rfl #[.slice A1 l1.length c1, .int .i64 (wrap64 ((wrap64 (32 * x18_1)) + t279))] rfl (by (try simp only [List.map_toArray, List.map_cons, List.map_nil]); first | done | rfl | (simp only [List.length_drop, List.length_take]; rfl)) ?_; (with_reducible refine (joistref13_taken.calls kj12 _ _ l1 (wrap64 ((wrap64 (32 * x18_1)) + t279)) true _ ?side1 ?side2 A20.out).mono ?_); (case side1 => repeat (first | exact (Kd.C_below HR1.out HB.out) | (with_reducible refine Kd.C_alloc ?_ _) | (with_reducible refine Kd.C_drewN ?_ _) | (with_reducible refine Kd.C_drew ?_))); (case side2 => exact HC1.out); rintro e w' ⟨rfl, ⟨nd, rfl⟩⟩; refine ⟨_, rfl, ?_⟩))
                        go_roundg kj12
                        case measure => have := HK1.out; have := HK2.out; have := HJ12.out; omega
                        case rel => exact ⟨(wrap64 (x19_2 + 1)), (by first | rfl | (simp; done) | (simp [*]; done)), H', ⟨by have := HK1.out; have := HK2.out; have := HJ12.out; omega⟩, ⟨by (with_reducible repeat (first | apply Kd.R_alloc | apply Kd.R_drewN | apply Kd.R_drew)); exact HO_8.out⟩, ⟨by repeat (first | (with_reducible first | exact HB.out | apply below_alloc | apply pw_below_drewN | apply below_drew1) | exact HB.out)⟩⟩
                      · replace c21 := Bool.eq_false_iff.mpr c21
                        subst c21
                        have H1 : (some (wrap64 ((wrap64 (32 * x18_1)) + t279), true)) = some (r1, r2) := by rw [if_neg (show ¬ (false = true) by decide)] at H; exact H
                        clear H
                        have H := H1
                        clear H1
                        simp only [Option.some.injEq, Prod.mk.injEq] at H
                        obtain ⟨rfl, rfl⟩ := H
                        go_wp2_with (first | ((with_reducible refine gate_callee (f := 24) rfl ?_); refine goesL_ (some 85) rfl rfl Try.func24 (by kernel_rfl) rfl #[.int .i64 t270, .int .i64 x19_2] rfl (by (try simp only [List.map_toArray, List.map_cons, List.map_nil]); first | done | rfl | (simp only [List.length_drop, List.length_take]; rfl)) ?_; (with_reducible refine (joistref12_Cell.calls t270 x19_2 t279 t280 _ A19.out).mono ?_); rintro e w23 ⟨rfl, hb⟩; refine ⟨_, rfl, ?_⟩; have n0_ := Aside0.mk (Kd.R_below (by (with_reducible repeat (first | apply Kd.R_alloc | apply Kd.R_drewN | apply Kd.R_drew)); exact HO_8.out) hb); have n1_ := Aside0.mk (below_step (by repeat (first | (with_reducible first | exact HB.out | apply below_alloc | apply pw_below_drewN | apply below_drew1) | exact HB.out)) hb); clear HO_8; clear HB; have HO_8 := n0_; have HB := n1_; clear n0_ n1_; (try clear hb); (try clear hb2); (try clear hk); (try clear hi)) | ((with_reducible refine gate_callee (f := 48) rfl ?_); refine goesL_ (some 93) rfl rfl Try.func48 (by kernel_rfl) rfl #[.slice A1 l1.length c1, .int .i64 (wrap64 ((wrap64 (32 * x18_1)) + t279))] rfl (by (try simp only [List.map_toArray, List.map_cons, List.map_nil]); first | done | rfl | (simp only [List.length_drop, List.length_take]; rfl)) ?_; (with_reducible refine (joistref13_taken.calls kj12 _ _ l1 (wrap64 ((wrap64 (32 * x18_1)) + t279)) false _ ?side1 ?side2 A20.out).mono ?_); (case side1 => repeat (first | exact (Kd.C_below HR1.out HB.out) | (with_reducible refine Kd.C_alloc ?_ _) | (with_reducible refine Kd.C_drewN ?_ _) | (with_reducible refine Kd.C_drew ?_))); (case side2 => exact HC1.out); rintro e w' ⟨rfl, ⟨nd, rfl⟩⟩; refine ⟨_, rfl, ?_⟩))
                        go_ret2
                        exact ⟨by first | rfl | (simp [errW_none, errW_some] <;> rfl) | (simp [*, errW_none, errW_some] <;> rfl), by repeat (first | (with_reducible first | exact HB.out | apply below_alloc | apply pw_below_drewN | apply below_drew1) | exact HB.out)⟩
                    · replace c18 := Bool.eq_false_iff.mpr c18
                      subst c18
                      have H1 : (joistref13_Place.l0 kj12 a0 l1 t266 t270 t276 (wrap64 (x18_1 + 1))) = some (r1, r2) := by rw [if_neg (show ¬ (false = true) by decide)] at H; exact H
                      clear H
                      have H := H1
                      clear H1
                      have H' := Aside0.mk H
                      clear H
                      go_wp2
                      go_roundg kj12
                      case measure => have := HK1.out; have := HK2.out; have := HJ12.out; omega
                      case rel => exact ⟨(wrap64 (x18_1 + 1)), (by first | rfl | (simp; done) | (simp [*]; done)), H', ⟨by have := HK1.out; have := HK2.out; have := HJ12.out; omega⟩, ⟨by (with_reducible repeat (first | apply Kd.R_alloc | apply Kd.R_drewN | apply Kd.R_drew)); exact HO_8.out⟩, ⟨by repeat (first | (with_reducible first | exact HB.out | apply below_alloc | apply pw_below_drewN | apply below_drew1) | exact HB.out)⟩⟩
          · rw [if_neg c12] at H
            have c12b0 : decide (x18_1 < a0) = false := decide_eq_false c12
            clear c12
            have H' := Aside0.mk H
            clear H
            go_wp2
            go_loopg [23] k1 (fun kq v23 w' => ∃ (x23_2 : Int), v23 = .int .i64 x23_2 ∧ Aside0 (joistref13_Place.l2 kq a0 t266 t270 x23_2 = some (r1, r2)) ∧ Aside0 (kq ≤ k1) ∧ Aside0 (Kd.R (Kd.int .i64) 3 w' w.heap.size (fun _ => True) v268 t266) ∧ Aside0 (Below w.heap.size w w'))
            case atStart => exact ⟨(0), (by first | rfl | (simp; done) | (simp [*]; done)), H', ⟨Nat.le_refl _⟩, ⟨by (with_reducible repeat (first | apply Kd.R_alloc | apply Kd.R_drewN | apply Kd.R_drew)); exact HO_8.out⟩, ⟨by repeat (first | (with_reducible first | exact HB.out | apply below_alloc | apply pw_below_drewN | apply below_drew1) | exact HB.out)⟩⟩
            case round =>
              clear H'
              try clear c1
              try clear c2
              try clear p2
              try clear q2
              try clear hx2
              try clear c3
              try clear c4
              try clear c5
              try clear p6
              try clear c7
              try clear c12
              try clear c12b0
              try clear c14
              try clear c14b0
              try clear c15
              try clear c15b0
              try clear c16
              try clear c16b0
              try clear c18
              try clear c20
              try clear c21
              try clear hx278_0
              try clear p2
              try clear p278
              try clear p6
              try clear q2
              try clear q278
              obtain ⟨x23_2, rfl, HA, HK2, HO_8, HB⟩ := hrel
              cases gk with
              | zero => exact absurd HA.out (by simp [joistref13_Place.l2])
              | succ k2 =>
                have H := HA.out
                clear HA
                simp only [joistref13_Place.l2] at H
                by_cases c24 : x23_2 < a0
                · rw [if_pos c24] at H
                  have c24b0 : decide (x23_2 < a0) = true := decide_eq_true c24
                  clear c24
                  by_cases c25 : 0 ≤ x23_2
                  · rw [if_pos c25] at H
                    have c25b0 : decide (0 ≤ x23_2) = true := decide_eq_true c25
                    clear c25
                    by_cases c26 : x23_2 < (t266.length : Int)
                    · rw [if_pos c26] at H
                      have c26b0 : decide (x23_2 < (t266.length : Int)) = true := decide_eq_true c26
                      clear c26
                      by_cases c27 : (rd t266 x23_2) = (-1)
                      · rw [if_pos c27] at H
                        have c27b0 : ((rd t266 x23_2) == (-1)) = true := beq_iff_eq.mpr c27
                        have c27b1 : ((rd t266 x23_2) != (-1)) = false := bne_eq_false_iff_eq.mpr c27
                        clear c27
                        replace H := Option.bind_eq_some_iff.mp H
                        obtain ⟨⟨t283, t284⟩, A280, H⟩ := H
                        replace H : (some (wrap64 ((wrap64 (32 * x23_2)) + t283), true)) = some (r1, r2) := H
                        have A28 := Aside0.mk A280
                        clear A280
                        simp only [Option.some.injEq, Prod.mk.injEq] at H
                        obtain ⟨rfl, rfl⟩ := H
                        obtain ⟨Ao29, co29, eo29⟩ := Kd.R_slice HO_8.out
                        subst eo29
                        have p282 : 0 ≤ (x23_2 : Int) := of_decide_eq_true (by first | (with_reducible assumption) | assumption)
                        have q282 : x23_2 < (t266.length : Int) := of_decide_eq_true (by first | (with_reducible assumption) | assumption)
                        obtain ⟨ad282, e282, hx282_0⟩ := Kd.at_int (Kd.R_reads' HO_8.out).2.2 x23_2 p282 q282
                        cases e282
                        replace p282 := eq_true p282
                        replace q282 := eq_true q282
                        go_wp2_with (first | ((with_reducible refine gate_callee (f := 24) rfl ?_); refine goesL_ (some 112) rfl rfl Try.func24 (by kernel_rfl) rfl #[.int .i64 t270, .int .i64 0] rfl (by (try simp only [List.map_toArray, List.map_cons, List.map_nil]); first | done | rfl | (simp only [List.length_drop, List.length_take]; rfl)) ?_; (with_reducible refine (joistref12_Cell.calls t270 0 t283 t284 _ A28.out).mono ?_); rintro e w30 ⟨rfl, hb⟩; refine ⟨_, rfl, ?_⟩; have n0_ := Aside0.mk (Kd.R_below (by (with_reducible repeat (first | apply Kd.R_alloc | apply Kd.R_drewN | apply Kd.R_drew)); exact HO_8.out) hb); have n1_ := Aside0.mk (below_step (by repeat (first | (with_reducible first | exact HB.out | apply below_alloc | apply pw_below_drewN | apply below_drew1) | exact HB.out)) hb); clear HO_8; clear HB; have HO_8 := n0_; have HB := n1_; clear n0_ n1_; (try clear hb); (try clear hb2); (try clear hk); (try clear hi)))
                        go_ret2
                        exact ⟨by first | rfl | (simp [errW_none, errW_some] <;> rfl) | (simp [*, errW_none, errW_some] <;> rfl), by repeat (first | (with_reducible first | exact HB.out | apply below_alloc | apply pw_below_drewN | apply below_drew1) | exact HB.out)⟩
                      · rw [if_neg c27] at H
                        have c27b0 : ((rd t266 x23_2) == (-1)) = false := beq_eq_false_iff_ne.mpr c27
                        have c27b1 : ((rd t266 x23_2) != (-1)) = true := bne_iff_ne.mpr c27
                        have H' := Aside0.mk H
                        clear H
                        obtain ⟨Ao31, co31, eo31⟩ := Kd.R_slice HO_8.out
                        subst eo31
                        have p282 : 0 ≤ (x23_2 : Int) := of_decide_eq_true (by first | (with_reducible assumption) | assumption)
                        have q282 : x23_2 < (t266.length : Int) := of_decide_eq_true (by first | (with_reducible assumption) | assumption)
                        obtain ⟨ad282, e282, hx282_0⟩ := Kd.at_int (Kd.R_reads' HO_8.out).2.2 x23_2 p282 q282
                        cases e282
                        replace p282 := eq_true p282
                        replace q282 := eq_true q282
                        go_wp2
                        go_roundg k2
                        case measure => have := HK1.out; have := HK2.out; omega
                        case rel => exact ⟨(wrap64 (x23_2 + 1)), (by first | rfl | (simp; done) | (simp [*]; done)), H', ⟨by have := HK1.out; have := HK2.out; omega⟩, ⟨by (with_reducible repeat (first | apply Kd.R_alloc | apply Kd.R_drewN | apply Kd.R_drew)); exact HO_8.out⟩, ⟨by repeat (first | (with_reducible first | exact HB.out | apply below_alloc | apply pw_below_drewN | apply below_drew1) | exact HB.out)⟩⟩
                    · rw [if_neg c26] at H
                      exact absurd H (by simp)
                  · rw [if_neg c25] at H
                    exact absurd H (by simp)
                · rw [if_neg c24] at H
                  have c24b0 : decide (x23_2 < a0) = false := decide_eq_false c24
                  clear c24
                  simp only [Option.some.injEq, Prod.mk.injEq] at H
                  obtain ⟨rfl, rfl⟩ := H
                  go_wp2
                  go_ret2
                  exact ⟨by first | rfl | (simp [errW_none, errW_some] <;> rfl) | (simp [*, errW_none, errW_some] <;> rfl), by repeat (first | (with_reducible first | exact HB.out | apply below_alloc | apply pw_below_drewN | apply below_drew1) | exact HB.out)⟩
    · replace c7 := Bool.eq_false_iff.mpr c7
      subst c7
      have H1 : ((joistref12_Pages.f a2).bind fun bt272 => ((joistref13_Best.f k t266 bt272.1).bind fun bt274 => (if bt274.2 = true then (some (wrap64 (32 * bt274.1), (bt272.2 == 0))) else (some (wrap64 (32 * bt274.1), false))))) = some (r1, r2) := by rw [if_neg (show ¬ (false = true) by decide)] at H; exact H
      clear H
      have H := H1
      clear H1
      replace H := Option.bind_eq_some_iff.mp H
      obtain ⟨⟨t272, t273⟩, A320, H⟩ := H
      replace H : ((joistref13_Best.f k t266 t272).bind fun bt274 => (if bt274.2 = true then (some (wrap64 (32 * bt274.1), (t273 == 0))) else (some (wrap64 (32 * bt274.1), false)))) = some (r1, r2) := H
      have A32 := Aside0.mk A320
      clear A320
      replace H := Option.bind_eq_some_iff.mp H
      obtain ⟨⟨t274, t275⟩, A330, H⟩ := H
      replace H : (if t275 = true then (some (wrap64 (32 * t274), (t273 == 0))) else (some (wrap64 (32 * t274), false))) = some (r1, r2) := H
      have A33 := Aside0.mk A330
      clear A330
      by_cases c34 : t275 = true
      · subst c34
        have H1 : (some (wrap64 (32 * t274), (t273 == 0))) = some (r1, r2) := by rw [if_pos rfl] at H; exact H
        clear H
        have H := H1
        clear H1
        simp only [Option.some.injEq, Prod.mk.injEq] at H
        obtain ⟨rfl, rfl⟩ := H
        go_enter Try.func36, Try.ntmps36
        go_wp2_with (first | ((with_reducible refine gate_callee (f := 35) rfl ?_); refine goesL_ (some 29) rfl rfl Try.func35 (by kernel_rfl) rfl #[.int .i64 a0, .slice A1 l1.length c1] rfl (by (try simp only [List.map_toArray, List.map_cons, List.map_nil]); first | done | rfl | (simp only [List.length_drop, List.length_take]; rfl)) ?_; (with_reducible refine (joistref13_Kinds.calls k a0 _ _ l1 t266 true _ ?side1 ?side2 A4.out).mono ?_); (case side1 => repeat (first | exact HR1.out | (with_reducible refine Kd.C_alloc ?_ _) | (with_reducible refine Kd.C_drewN ?_ _) | (with_reducible refine Kd.C_drew ?_))); (case side2 => exact HC1.out); rintro e w35 ⟨v268, rfl, ho0, hb⟩; refine ⟨_, rfl, ?_⟩; have n0_ := Aside0.mk (Kd.R_lower ho0 (below_size (by repeat (first | (with_reducible first | exact HB.out | apply below_alloc | apply pw_below_drewN | apply below_drew1) | exact HB.out)))); have n1_ := Aside0.mk (below_step (by repeat (first | (with_reducible first | exact HB.out | apply below_alloc | apply pw_below_drewN | apply below_drew1) | exact HB.out)) hb); clear HB; have HO269 := n0_; have HB := n1_; clear n0_ n1_; (try clear hb); (try clear hb2); (try clear hk); (try clear hi); (try clear ho0)) | ((with_reducible refine gate_callee (f := 16) rfl ?_); refine goesL_ (some 36) rfl rfl Try.func16 (by kernel_rfl) rfl #[.int .i64 a2] rfl (by (try simp only [List.map_toArray, List.map_cons, List.map_nil]); first | done | rfl | (simp only [List.length_drop, List.length_take]; rfl)) ?_; (with_reducible refine (joistref12_Of.calls k a2 t270 false _ A6.out).mono ?_); rintro e w36 ⟨rfl, hb⟩; refine ⟨_, rfl, ?_⟩; have n0_ := Aside0.mk (Kd.R_below (by (with_reducible repeat (first | apply Kd.R_alloc | apply Kd.R_drewN | apply Kd.R_drew)); exact HO269.out) hb); have n1_ := Aside0.mk (below_step (by repeat (first | (with_reducible first | exact HB.out | apply below_alloc | apply pw_below_drewN | apply below_drew1) | exact HB.out)) hb); clear HO269; clear HB; have HO269 := n0_; have HB := n1_; clear n0_ n1_; (try clear hb); (try clear hb2); (try clear hk); (try clear hi)) | ((with_reducible refine gate_callee (f := 22) rfl ?_); refine goesL_ (some 43) rfl rfl Try.func22 (by kernel_rfl) rfl #[.int .i64 a2] rfl (by (try simp only [List.map_toArray, List.map_cons, List.map_nil]); first | done | rfl | (simp only [List.length_drop, List.length_take]; rfl)) ?_; (with_reducible refine (joistref12_Pages.calls a2 t272 t273 _ A32.out).mono ?_); rintro e w' ⟨rfl, ⟨nd, rfl⟩⟩; refine ⟨_, rfl, ?_⟩; obtain ⟨Ao37, co37, eo37⟩ := Kd.R_slice HO269.out; subst eo37) | ((with_reducible refine gate_callee (f := 29) rfl ?_); refine goesL_ (some 49) rfl rfl Try.func29 (by kernel_rfl) rfl #[.slice Ao37 t266.length co37, .int .i64 t272] rfl (by (try simp only [List.map_toArray, List.map_cons, List.map_nil]); first | done | rfl | (simp only [List.length_drop, List.length_take]; rfl)) ?_; (with_reducible refine (joistref13_Best.calls k _ _ t266 t272 t274 true _ ?side1 ?side2 A33.out).mono ?_); (case side1 => repeat (first | exact (Kd.R_reads' HO269.out).2.2 | (with_reducible refine Kd.C_alloc ?_ _) | (with_reducible refine Kd.C_drewN ?_ _) | (with_reducible refine Kd.C_drew ?_))); (case side2 => exact (Kd.R_reads' HO269.out).2.1); rintro e w38 ⟨rfl, hb⟩; refine ⟨_, rfl, ?_⟩; have n0_ := Aside0.mk (Kd.R_below (by (with_reducible repeat (first | apply Kd.R_alloc | apply Kd.R_drewN | apply Kd.R_drew)); exact HO269.out) hb); have n1_ := Aside0.mk (below_step (by repeat (first | (with_reducible first | exact HB.out | apply below_alloc | apply pw_below_drewN | apply below_drew1) | exact HB.out)) hb); clear HO269; clear HB; have HO269 := n0_; have HB := n1_; clear n0_ n1_; (try clear hb); (try clear hb2); (try clear hk); (try clear hi)))
        go_ret2
        exact ⟨by first | rfl | (simp [errW_none, errW_some] <;> rfl) | (simp [*, errW_none, errW_some] <;> rfl), by repeat (first | (with_reducible first | exact HB.out | apply below_alloc | apply pw_below_drewN | apply below_drew1) | exact HB.out)⟩
      · replace c34 := Bool.eq_false_iff.mpr c34
        subst c34
        have H1 : (some (wrap64 (32 * t274), false)) = some (r1, r2) := by rw [if_neg (show ¬ (false = true) by decide)] at H; exact H
        clear H
        have H := H1
        clear H1
        simp only [Option.some.injEq, Prod.mk.injEq] at H
        obtain ⟨rfl, rfl⟩ := H
        go_enter Try.func36, Try.ntmps36
        go_wp2_with (first | ((with_reducible refine gate_callee (f := 35) rfl ?_); refine goesL_ (some 29) rfl rfl Try.func35 (by kernel_rfl) rfl #[.int .i64 a0, .slice A1 l1.length c1] rfl (by (try simp only [List.map_toArray, List.map_cons, List.map_nil]); first | done | rfl | (simp only [List.length_drop, List.length_take]; rfl)) ?_; (with_reducible refine (joistref13_Kinds.calls k a0 _ _ l1 t266 true _ ?side1 ?side2 A4.out).mono ?_); (case side1 => repeat (first | exact HR1.out | (with_reducible refine Kd.C_alloc ?_ _) | (with_reducible refine Kd.C_drewN ?_ _) | (with_reducible refine Kd.C_drew ?_))); (case side2 => exact HC1.out); rintro e w39 ⟨v268, rfl, ho0, hb⟩; refine ⟨_, rfl, ?_⟩; have n0_ := Aside0.mk (Kd.R_lower ho0 (below_size (by repeat (first | (with_reducible first | exact HB.out | apply below_alloc | apply pw_below_drewN | apply below_drew1) | exact HB.out)))); have n1_ := Aside0.mk (below_step (by repeat (first | (with_reducible first | exact HB.out | apply below_alloc | apply pw_below_drewN | apply below_drew1) | exact HB.out)) hb); clear HB; have HO269 := n0_; have HB := n1_; clear n0_ n1_; (try clear hb); (try clear hb2); (try clear hk); (try clear hi); (try clear ho0)) | ((with_reducible refine gate_callee (f := 16) rfl ?_); refine goesL_ (some 36) rfl rfl Try.func16 (by kernel_rfl) rfl #[.int .i64 a2] rfl (by (try simp only [List.map_toArray, List.map_cons, List.map_nil]); first | done | rfl | (simp only [List.length_drop, List.length_take]; rfl)) ?_; (with_reducible refine (joistref12_Of.calls k a2 t270 false _ A6.out).mono ?_); rintro e w40 ⟨rfl, hb⟩; refine ⟨_, rfl, ?_⟩; have n0_ := Aside0.mk (Kd.R_below (by (with_reducible repeat (first | apply Kd.R_alloc | apply Kd.R_drewN | apply Kd.R_drew)); exact HO269.out) hb); have n1_ := Aside0.mk (below_step (by repeat (first | (with_reducible first | exact HB.out | apply below_alloc | apply pw_below_drewN | apply below_drew1) | exact HB.out)) hb); clear HO269; clear HB; have HO269 := n0_; have HB := n1_; clear n0_ n1_; (try clear hb); (try clear hb2); (try clear hk); (try clear hi)) | ((with_reducible refine gate_callee (f := 22) rfl ?_); refine goesL_ (some 43) rfl rfl Try.func22 (by kernel_rfl) rfl #[.int .i64 a2] rfl (by (try simp only [List.map_toArray, List.map_cons, List.map_nil]); first | done | rfl | (simp only [List.length_drop, List.length_take]; rfl)) ?_; (with_reducible refine (joistref12_Pages.calls a2 t272 t273 _ A32.out).mono ?_); rintro e w' ⟨rfl, ⟨nd, rfl⟩⟩; refine ⟨_, rfl, ?_⟩; obtain ⟨Ao41, co41, eo41⟩ := Kd.R_slice HO269.out; subst eo41) | ((with_reducible refine gate_callee (f := 29) rfl ?_); refine goesL_ (some 49) rfl rfl Try.func29 (by kernel_rfl) rfl #[.slice Ao41 t266.length co41, .int .i64 t272] rfl (by (try simp only [List.map_toArray, List.map_cons, List.map_nil]); first | done | rfl | (simp only [List.length_drop, List.length_take]; rfl)) ?_; (with_reducible refine (joistref13_Best.calls k _ _ t266 t272 t274 false _ ?side1 ?side2 A33.out).mono ?_); (case side1 => repeat (first | exact (Kd.R_reads' HO269.out).2.2 | (with_reducible refine Kd.C_alloc ?_ _) | (with_reducible refine Kd.C_drewN ?_ _) | (with_reducible refine Kd.C_drew ?_))); (case side2 => exact (Kd.R_reads' HO269.out).2.1); rintro e w42 ⟨rfl, hb⟩; refine ⟨_, rfl, ?_⟩; have n0_ := Aside0.mk (Kd.R_below (by (with_reducible repeat (first | apply Kd.R_alloc | apply Kd.R_drewN | apply Kd.R_drew)); exact HO269.out) hb); have n1_ := Aside0.mk (below_step (by repeat (first | (with_reducible first | exact HB.out | apply below_alloc | apply pw_below_drewN | apply below_drew1) | exact HB.out)) hb); clear HO269; clear HB; have HO269 := n0_; have HB := n1_; clear n0_ n1_; (try clear hb); (try clear hb2); (try clear hk); (try clear hi)))
        go_ret2
        exact ⟨by first | rfl | (simp [errW_none, errW_some] <;> rfl) | (simp [*, errW_none, errW_some] <;> rfl), by repeat (first | (with_reducible first | exact HB.out | apply below_alloc | apply pw_below_drewN | apply below_drew1) | exact HB.out)⟩
  · replace c5 := Bool.eq_false_iff.mpr c5
    subst c5
    have H1 : (some (0, false)) = some (r1, r2) := by rw [if_neg (show ¬ (false = true) by decide)] at H; exact H
    clear H
    have H := H1
    clear H1
    simp only [Option.some.injEq, Prod.mk.injEq] at H
    obtain ⟨rfl, rfl⟩ := H
    go_enter Try.func36, Try.ntmps36
    go_wp2_with (first | ((with_reducible refine gate_callee (f := 35) rfl ?_); refine goesL_ (some 29) rfl rfl Try.func35 (by kernel_rfl) rfl #[.int .i64 a0, .slice A1 l1.length c1] rfl (by (try simp only [List.map_toArray, List.map_cons, List.map_nil]); first | done | rfl | (simp only [List.length_drop, List.length_take]; rfl)) ?_; (with_reducible refine (joistref13_Kinds.calls k a0 _ _ l1 t266 false _ ?side1 ?side2 A4.out).mono ?_); (case side1 => repeat (first | exact HR1.out | (with_reducible refine Kd.C_alloc ?_ _) | (with_reducible refine Kd.C_drewN ?_ _) | (with_reducible refine Kd.C_drew ?_))); (case side2 => exact HC1.out); rintro e w43 ⟨v268, rfl, ho0, hb⟩; refine ⟨_, rfl, ?_⟩; have n0_ := Aside0.mk (Kd.R_lower ho0 (below_size (by repeat (first | (with_reducible first | exact HB.out | apply below_alloc | apply pw_below_drewN | apply below_drew1) | exact HB.out)))); have n1_ := Aside0.mk (below_step (by repeat (first | (with_reducible first | exact HB.out | apply below_alloc | apply pw_below_drewN | apply below_drew1) | exact HB.out)) hb); clear HB; have HO269 := n0_; have HB := n1_; clear n0_ n1_; (try clear hb); (try clear hb2); (try clear hk); (try clear hi); (try clear ho0)))
    go_ret2
    exact ⟨by first | rfl | (simp [errW_none, errW_some] <;> rfl) | (simp [*, errW_none, errW_some] <;> rfl), by repeat (first | (with_reducible first | exact HB.out | apply below_alloc | apply pw_below_drewN | apply below_drew1) | exact HB.out)⟩

end Go.Proofs.Ytlpkbekpdhaplaa.P
